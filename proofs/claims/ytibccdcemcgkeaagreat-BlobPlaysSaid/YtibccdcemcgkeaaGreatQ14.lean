/- Texts of this proof, put together: PRuns8, Goto, SBlob, SBlob2, RangeB, SFromB. -/
import Derived.Test.YtibccdcemcgkeaaGreatQ13
set_option linter.unusedVariables false
set_option linter.unusedSimpArgs false
namespace Go.Proofs.YtibccdcemcgkeaaGreat
section
theorem decN_3 {n : Nat} (h : n < 1000) : (decN n).length ≤ 3 := by
 rw [decN]
 split
 · simp
 · rw [decN]
   split
   · simp
   · rw [decN, if_pos (by omega)]; simp
theorem rowText_le {r : Rw} (hk : r.key.length < 1000) (hv : r.val.length < 1000) : (rowText r).length ≤ 8 + r.key.length + r.val.length := by
 have h1 := decN_3 hk
 have h2 := decN_3 hv
 unfold rowText
 split <;> simp <;> omega
theorem textOf_one {r : Rw} (hk : r.key.length < 1000) (hv : r.val.length < 1000) : (textOf [r]).length ≤ 8 + r.key.length + r.val.length := by
 have := rowText_le hk hv
 simpa [textOf] using this
theorem textOf_two {r q : Rw} (hk : r.key.length < 1000) (hv : r.val.length < 1000) (hk2 : q.key.length < 1000) (hv2 : q.val.length < 1000) : (textOf [r, q]).length ≤ 16 + r.key.length + r.val.length + (q.key.length + q.val.length) := by
 have h1 := rowText_le hk hv
 have h2 := rowText_le hk2 hv2
 simp [textOf]
 omega
theorem getB_nil (k : Bs) : getB [] k = [] := by simp [getB, mlook, bytesV, vS]
section
variable (a b x y m : Bs)
def k81 : Ks := doR [] [⟨98 :: a, 102 :: x, false⟩]
def k82 : Ks := doR (k81 a x) [⟨98 :: b, 100 :: (a ++ m), false⟩]
def k83 : Ks := doR (k82 a b x m) [⟨98 :: b, 102 :: y, false⟩, ⟨98 :: a, [], true⟩]
theorem k81_nd : ((k81 a x).map (·.1)).Nodup := doR_nd _ List.nodup_nil
theorem k82_nd : ((k82 a b x m).map (·.1)).Nodup := doR_nd _ (k81_nd a x)
theorem k81_get (k : Bs) : getB (k81 a x) k = if 98 :: a = k then 102 :: x else [] := by
 rw [show k81 a x = doOne [] ⟨98 :: a, 102 :: x, false⟩ from rfl, getB_doOne (K := []) List.nodup_nil, getB_nil]; rfl
theorem k82_get (k : Bs) : getB (k82 a b x m) k = if 98 :: b = k then 100 :: (a ++ m) else getB (k81 a x) k := by
 rw [show k82 a b x m = doOne (k81 a x) ⟨98 :: b, 100 :: (a ++ m), false⟩ from rfl, getB_doOne (k81_nd a x)]; rfl
theorem k83_get (k : Bs) : getB (k83 a b x y m) k = if 98 :: a = k then [] else if 98 :: b = k then 102 :: y else getB (k82 a b x m) k := by
 rw [show k83 a b x y m = doOne (doOne (k82 a b x m) ⟨98 :: b, 102 :: y, false⟩) ⟨98 :: a, [], true⟩ from rfl, getB_doOne (doOne_nd (k82_nd a b x m) _), getB_doOne (k82_nd a b x m)]; rfl
theorem k82_nms {n : Bs} : n ∈ nmsB (k82 a b x m) ↔ n = a ∨ n = b := by
 rw [nms_mem, show k82 a b x m = doOne (doOne [] ⟨98 :: a, 102 :: x, false⟩) ⟨98 :: b, 100 :: (a ++ m), false⟩ from rfl, key_doOne (K := doOne [] _) (doOne_nd (K := []) List.nodup_nil _), key_doOne (K := []) List.nodup_nil]
 by_cases e : b = n
 · simp [e]
 · by_cases e2 : a = n
   · simp [e, e2]
   · simp [e, e2, Ne.symm e, Ne.symm e2]
theorem k83_nms (hab : a ≠ b) {n : Bs} : n ∈ nmsB (k83 a b x y m) ↔ n = b := by
 rw [nms_mem, show k83 a b x y m = doOne (doOne (k82 a b x m) ⟨98 :: b, 102 :: y, false⟩) ⟨98 :: a, [], true⟩ from rfl, key_doOne (doOne_nd (k82_nd a b x m) _), key_doOne (k82_nd a b x m), ← nms_mem, k82_nms]
 by_cases e : a = n
 · subst e; simp [hab]
 · by_cases e2 : b = n
   · subst e2; simp [hab]
   · simp [e, e2, Ne.symm e, Ne.symm e2]
end
structure R8 (a b x t : Bs) : Prop where
 ab : a ≠ b
 al : a.length = 40
 bl : b.length = 40
 x1 : 60 ≤ x.length
 t1 : t.length < 16
 xt : x.length + t.length ≤ 300
variable {a b x t : Bs} (r : R8 a b x t)
theorem r8_row1 : rowB [] a x [] = ⟨98 :: a, 102 :: x, false⟩ := rowB_none (no_ctn (getB_nil _) 3)
include r
theorem R8.row2 : rowB (k81 a x) b (x ++ t) a = ⟨98 :: b, 100 :: (a ++ makeB x (x ++ t)), false⟩ := by
 have h : getB (k81 a x) (98 :: a) = 102 :: x := by rw [k81_get, if_pos rfl]
 exact rowB_pre (full_ctn h 3) r.al (by rw [full_dep h]; decide) (by rw [full_sta h]; exact decide_eq_false r.ab) r.x1 r.t1 r.xt
theorem R8.get2a : getB (k82 a b x (makeB x (x ++ t))) (98 :: a) = 102 :: x := by
 rw [k82_get, if_neg (by simpa using fun e => r.ab e.symm), k81_get, if_pos rfl]
omit r in
theorem r8_get2b : getB (k82 a b x (makeB x (x ++ t))) (98 :: b) = 100 :: (a ++ makeB x (x ++ t)) := by rw [k82_get, if_pos rfl]
theorem R8.ctn2 : ctnB (k82 a b x (makeB x (x ++ t))) b = some (x ++ t) := by
 have hx := r.xt
 rw [ctnB, del_ctn r.al r8_get2b, full_ctn r.get2a]
 exact apply_make (by simp; omega) (by omega)
theorem R8.drop : dropB (k82 a b x (makeB x (x ++ t))) a = [⟨98 :: b, 102 :: (x ++ t), false⟩, ⟨98 :: a, [], true⟩] := by
 have hk : (mlook (k82 a b x (makeB x (x ++ t))) (98 :: a)).isSome = true := mlook_isSome.2 (nms_mem.1 ((k82_nms a b x _).2 (.inl rfl)))
 rw [dropB, if_pos hk, dropF, flat_only (b := b) (nms_nodup (k82_nd a b x _)) ((k82_nms a b x _).2 (.inr rfl))]
 · rw [dropO, del_based r.al r8_get2b, r.ctn2]
   simp [dropG, r.ab.symm]
 · intro n hn hb
   rcases (k82_nms a b x _).1 hn with rfl | rfl
   · rw [dropO, full_based r.get2a]; rfl
   · exact absurd rfl hb
theorem R8.get3 : getB (k83 a b x (x ++ t) (makeB x (x ++ t))) (98 :: b) = 102 :: (x ++ t) := by
 rw [k83_get, if_neg (by simpa using r.ab), if_pos rfl]
theorem R8.check (hb : shaB (x ++ t) = b) : checkB (k83 a b x (x ++ t) (makeB x (x ++ t))) = true := by
 unfold checkB
 rw [List.all_eq_true]
 intro n hn
 have := (k83_nms a b x _ _ r.ab).1 hn
 subst this
 rw [show ctnB _ n = _ from full_ctn r.get3 3]
 exact decide_eq_true (congrArg some hb)
omit r
def x81 : Bs := ([97, 32, 116, 101, 120, 116, 32, 116, 104, 97, 116, 32, 105, 115, 32, 108, 111, 110, 103, 32, 101, 110, 111, 117, 103, 104, 32, 116, 111, 32, 98, 101, 32, 119, 111, 114, 116, 104, 32, 97, 32, 100, 101, 108, 116, 97, 44, 32, 105, 102, 32, 97]).append [110, 111, 116, 104, 101, 114, 32, 111, 110, 101, 32, 105, 115, 32, 108, 105, 107, 101, 32, 105, 116, 44, 32, 97, 115, 32, 116, 104, 101, 32, 110, 101, 120, 116, 32, 111, 110, 101, 32, 105, 115, 59, 32, 105, 116, 32, 103, 111, 101, 115, 32, 111, 110]
theorem x81_len : x81.length = 105 := by decide +kernel
theorem r8_one : R8 (shaB x81) (shaB (x81 ++ [33])) x81 [33] :=
 ⟨first_ne (by decide +kernel), shaB_len _, shaB_len _, by rw [x81_len]; decide, by decide, by rw [x81_len]; decide⟩
end
section
section
variable {r : Option Nat} {P : Program} {n : Nat} {L : Loc} {Hs : List HP} {Q : Out} {c : Code}
def gotoO {ι : Type} (n : Nat) (Li : ι → Loc) (Hi : ι → List HP) (lt : ι → Prop) (l : Nat) (Q : Out) : Out
 | .goto l' => if Nat.beq l' l then fun a M h => ∃ j, lt j ∧ St n (Li j) (Hi j) a M h else fun _ _ _ => False
 | e => Q e
theorem wc_mono {c : Code} {Q1 Q2 : Out} (hq : ∀ e a M h, Q1 e a M h → Q2 e a M h) (h : wc r P n c L Hs Q1) : wc r P n c L Hs Q2 := fun a M m s w hf d t =>
 wpIn_mono (h a M m s w hf d t) fun e a' w' ⟨M', h', l, d', t', q⟩ => ⟨M', h', l, d', t', hq _ _ _ _ q⟩
theorem wc_gscope {ι : Type} {body Y : Code} {l : Nat} (Li : ι → Loc) (Hi : ι → List HP) (μ : ι → Nat) (hfl : findLabel body l = some Y)
    (round : ∀ i, wc r P n Y (Li i) (Hi i) (gotoO n Li Hi (fun j => μ j < μ i) l Q))
    (start : wc r P n body L Hs (gotoO n Li Hi (fun _ => True) l Q)) : wc r P n (.scope body) L Hs Q := by
 intro a M m s w hf d t b k cs hro hb hr
 have h0 : (lone (b.atR a (.code (.scope body) :: k)) cs w).fenced P (WF r) := fenced_calm hb hr rfl
 have hgo : gotoIn l (.inScope body :: k) = some (.code Y :: .inScope body :: k) := by simp [gotoIn, hfl]
 -- what comes of the ends of a piece of code within the scope
 have key : ∀ (u : Nat) (i : ι), μ i = u → ∀ (a : Act) (M : Kn) (m : Res) (w : World), St n (Li i) (Hi i) a M m → m.dj hf → Sat w M (m.add hf) →
     ∃ e a' w', lift M hf Q e a' w' ∧ ArrivesIn (Machine.fenced P (WF r)) P (lone (b.atR a (.code Y :: .inScope body :: k)) cs w) b k cs e a' w' := by
  intro u
  induction u using Nat.strongRecOn with
  | _ u ih =>
    intro i hi a M m w s d t
    obtain ⟨e, a₁, w₁, ⟨M', h', le, d', t', q⟩, harr⟩ := round i a M m s w hf d t b (.inScope body :: k) cs hro hb hr
    cases e with
    | normal => exact ⟨.normal, a₁, w₁, ⟨M', h', le, d', t', q⟩, StepsIn.trans harr (.one (fenced_calm hb hr rfl) stepR_inScope)⟩
    | exit id =>
      have hx : exitTo id (.inScope body :: k) = exitTo id k := by simp [exitTo]
      exact ⟨.exit id, a₁, w₁, ⟨M', h', le, d', t', q⟩, fun k' hk => harr.1 k' (by rw [hx]; exact hk), fun hr' hk => harr.2 hr' (by rw [hx]; exact hk)⟩
    | goto l' =>
      by_cases hl : l' = l
      · subst hl
        have hbq : Nat.beq l' l' = true := by simp
        simp only [gotoO, hbq, if_true] at q
        obtain ⟨j, hj, sj⟩ := q
        obtain ⟨e₂, a₂, w₂, hq₂, harr₂⟩ := ih (μ j) (hi ▸ hj) j rfl a₁ M' h' w₁ sj d' t'
        exact ⟨e₂, a₂, w₂, lift_le le hq₂, .of_steps (harr.1 _ hgo) harr₂⟩
      · have := nbeq hl
        simp only [gotoO, this, Bool.false_eq_true, if_false] at q
    | ret => exact ⟨_, a₁, w₁, ⟨M', h', le, d', t', q⟩, harr⟩
    | panic ch => exact ⟨_, a₁, w₁, ⟨M', h', le, d', t', q⟩, harr⟩
    | outgrown => exact ⟨_, a₁, w₁, ⟨M', h', le, d', t', q⟩, harr⟩
 obtain ⟨e, a₁, w₁, ⟨M', h', le, d', t', q⟩, harr⟩ := start a M m s w hf d t b (.inScope body :: k) cs hro hb hr
 cases e with
 | normal => exact ⟨.normal, a₁, w₁, ⟨M', h', le, d', t', q⟩, .head h0 stepR_scope (StepsIn.trans harr (.one (fenced_calm hb hr rfl) stepR_inScope))⟩
 | exit id =>
   have hx : exitTo id (.inScope body :: k) = exitTo id k := by simp [exitTo]
   exact ⟨.exit id, a₁, w₁, ⟨M', h', le, d', t', q⟩, fun k' hk => .head h0 stepR_scope (harr.1 k' (by rw [hx]; exact hk)),
    fun hr' hk => let ⟨k₁, h1, h2⟩ := harr.2 hr' (by rw [hx]; exact hk); ⟨k₁, h1, .head h0 stepR_scope h2⟩⟩
 | goto l' =>
   by_cases hl : l' = l
   · subst hl
     have hbq : Nat.beq l' l' = true := by simp
     simp only [gotoO, hbq, if_true] at q
     obtain ⟨j, _, sj⟩ := q
     obtain ⟨e₂, a₂, w₂, hq₂, harr₂⟩ := key (μ j) j rfl a₁ M' h' w₁ sj d' t'
     exact ⟨e₂, a₂, w₂, lift_le le hq₂, .of_steps (.head h0 stepR_scope (harr.1 _ hgo)) harr₂⟩
   · have := nbeq hl
     simp only [gotoO, this, Bool.false_eq_true, if_false] at q
 | ret => exact ⟨_, a₁, w₁, ⟨M', h', le, d', t', q⟩, .of_steps (.one h0 stepR_scope) harr⟩
 | panic ch => exact ⟨_, a₁, w₁, ⟨M', h', le, d', t', q⟩, .of_steps (.one h0 stepR_scope) harr⟩
 | outgrown => exact ⟨_, a₁, w₁, ⟨M', h', le, d', t', q⟩, .of_steps (.one h0 stepR_scope) harr⟩
/-- A scope whose label stands behind its first part. -/
theorem p_gscope {ι : Type} (Li : ι → Loc) (Hi : ι → List HP) (μ : ι → Nat) (l : Nat) (h : c = .scope (bB c)) (hb : bB c = .seq (sA (bB c)) (.seq (.label l) (sB (sB (bB c))))) (hfl : findLabel (bB c) l = some (.seq .skip (sB (sB (bB c)))))
    (round : ∀ i, wc r P n (sB (sB (bB c))) (Li i) (Hi i) (gotoO n Li Hi (fun j => μ j < μ i) l Q))
    (start : wc r P n (sA (bB c)) L Hs (invO n Li Hi (fun _ => True) (scopeO Q))) : wc r P n c L Hs Q := by
 rw [h]
 refine wc_gscope Li Hi μ hfl (fun i => wc_seq (wc_skip (to_then (round i)))) ?_
 rw [hb]
 refine wc_seq ?_
 refine wc_mono (fun e a M x q => ?_) start
 cases e with
 | normal =>
   obtain ⟨i, _, s⟩ := q
   have h1 : wc r P n (.seq (.label l) (sB (sB (bB c)))) (Li i) (Hi i) (gotoO n Li Hi (fun _ => True) l Q) := wc_seq (wc_label (to_then (wc_mono (fun e a M x q => by
    cases e with
    | goto l' =>
      simp only [gotoO] at q ⊢
      split at q
      · rename_i e; simp only [e, if_true]; obtain ⟨j, _, s⟩ := q; exact ⟨j, trivial, s⟩
      · exact q.elim
    | _ => exact q) (round i))))
   exact h1 a M x s
 | goto l' => exact q.elim
 | _ => exact q
theorem p_goto (l : Nat) (h : c = .goto l) (k : tw n Q (.goto l) L Hs) : wc r P n c L Hs Q := by rw [h]; exact wc_goto k
theorem to_inv_goto {ι : Type} {Li : ι → Loc} {Hi : ι → List HP} {lt : ι → Prop} {l : Nat} (h : tw n Q (.goto l) L Hs) : tw n (invO n Li Hi lt Q) (.goto l) L Hs := h
theorem to_goto {ι : Type} {Li : ι → Loc} {Hi : ι → List HP} {lt : ι → Prop} {l : Nat} (j : ι) (hj : lt j) (hc : Cov L (Li j)) (e : Ent Hs (Hi j)) : tw n (gotoO n Li Hi lt l Q) (.goto l) L Hs := fun a M h s => by
 have hbq : Nat.beq l l = true := by simp
 simp only [gotoO, hbq, if_true]
 exact ⟨j, hj, s.ent hc e⟩
theorem t_g_ret {ι : Type} {Li : ι → Loc} {Hi : ι → List HP} {lt : ι → Prop} {l : Nat} (h : tw n Q .ret L Hs) : tw n (gotoO n Li Hi lt l Q) .ret L Hs := h
theorem an_yield {α : Type} {y : Value} {enc : α → List Value} {ok : List α → α → Prop} {J Jx : List α → HP} (ys : YSpec P y enc ok J Jx) (pre : List α) (x : α) (hok : ok pre x) {K : Loc → List HP → Prop} {ops : Array Oper} {A : List HP} {ty : TypeId} {d : Nat} {pos : String} {after : Array Edge} {f : Operand} {args : Array Operand} {ts : Array TypeId} (hf : ev L f = some y) (ha : evs L args.toList = some (enc x)) (hd : Nat.blt d n = true)
    {Rs : List HP} [hp : PickC (J pre) Hs Rs] (kt : K ((d, .bool true) :: L) (J (pre ++ [x]) :: Rs)) (kf : K ((d, .bool false) :: L) (Jx (pre ++ [x]) :: Rs)) :
    AnOp r P n ops A ⟨some d, .call ⟨.value f, args, ts⟩, ty, pos, after, none⟩ K L Hs := by
 haveI : PicksC [J pre] Hs Rs := ⟨.cons hp.get .nil⟩
 refine an_opT (opt_yield ys pre x hok hf ha) (by simpa [dstOk] using hd) (fun b _ => ?_)
 cases b
 · exact kf
 · exact kt
end
end
section
set_option maxRecDepth 100000
def basV (x : Option (Bs × Bs)) : Value := .tuple #[vS (x.getD ([], [])).1, vS (x.getD ([], [])).2, vB x.isSome]
theorem zb97ret3 {G : Prop} (h : G := by
    rw [if_pos (by first | (left; omega) | (right; exact fun h => absurd ((e100 _).2 h) (by assumption)))]
    exact fin_ret () (vs := [_, _, _]) (Cs := []) rfl (.tmp rfl (.tmp rfl (.tmp rfl .nil))) rfl trivial ent_pick) : G := h
theorem blob_based_sp (s p : Nat) (J : Jn) (K : Ks) (hK : TxtK K) (n : Bs) (hn : n.length ≤ 1099511627776) : Sp1 Tryz.prog 97 [.pointer (some ⟨s, 0, none⟩), vS n] [IsS s p J K] (basV (basedB K n)) [IsS s p J K] := by
 have e100 : ∀ c : UInt8, ((c.toNat : Int) = 100) ↔ c = 100 := fun c => u8_eq c 100 (by decide)
 obtain ⟨hv, hvl⟩ := hK.get (98 :: n)
 unfold basedB
 obtain ⟨v, hvv⟩ : ∃ v, v = getB K (98 :: n) := ⟨_, rfl⟩
 rw [← hvv] at hv hvl ⊢
 have hG := store_Get_sp s p J K (98 :: n)
 rw [hv] at hG
 refine Sp.body (n := 28) Tryz.call97 Tryz.func97 rfl rfl rfl ?_
 refine Qc (k:=Qv (k:=Vv (k:=Wq (Qc (k:=Qv (k:=?_))))))
 refine wo_pv (pv_cat rfl rfl (by simp only [List.length_singleton]; omega)) rfl ?_
 refine r_call1 hG rfl rfl rfl ?_
 refine Vv (k:=?_)
 refine wo_pv (pv_extract (v := vS v) rfl rfl) rfl ?_
 refine wo_pv (pv_extract (v := vB (mlook K (98 :: n)).isSome) rfl rfl) rfl ?_
 refine Qv (k:=Wq (Za (k:=Qc (k:=Qv (k:=Qv (k:=Gi 3 (t:=fun h19 => ?_) (f:=fun h19 => ?_)))))))
 ·
  refine O1 (k:=O1 (k:=O1 (k:=P1 (k:=Wq (Z1 (k:=Qc (k:=Qv (k:=Vv (k:=Wq ?_)))))))))
  refine Zt (k:=Va ?_)
  exact zb97ret3
 ·
  refine J0 (k:=I0 (k:=?_))
  refine wo_pv (pv_indexm (m := 0) Tryz.underlying9 rfl rfl rfl (by omega)) rfl ?_
  refine J0 (k:=P0 (k:=Wq (Zi (t:=fun h23 => ?_) (f:=fun h23 => ?_))))
  ·
   refine Qc (k:=Qv (k:=Vv (k:=Wq (Zt (k:=Va ?_)))))
   exact zb97ret3
  ·
   refine Zk (k:=Ya (Za (k:=Dw [] (k:=?_))))
   refine Dv 0 (k:=?_)
   refine d_first 1 rfl rfl rfl (by kernel_rfl) (by kernel_rfl) (tl_pv (pv_slice_inm (m := 1) (o := 41) Tryz.underlying9 rfl rfl rfl rfl rfl (by omega) (by omega))) ?_
   refine Dv 2 (k:=?_)
   refine d_first 3 rfl rfl rfl (by kernel_rfl) (by kernel_rfl) (tl_pv (pv_slice_fromm (m := 41) Tryz.underlying9 rfl rfl rfl (by omega))) ?_
   refine Dv 4 (k:=Dv 5 (k:=Dv 6 (k:=Dd (k:=Ya (Zt (k:=?_))))))
   rw [if_neg (by rintro (h | h); omega; exact h ((e100 _).1 (by first | assumption | (apply Classical.not_not.1; assumption))))]
   exact fin_ret () (vs := [_, _, _]) (Cs := []) rfl (.tmp rfl (.tmp rfl (.tmp rfl .nil))) rfl trivial ent_pick
theorem zb40ret7 {G : Prop} (h : G := by
    rw [if_pos (by first | exact .inl h43 | exact .inr (fun h => absurd ((e102 _).2 h) (by assumption)))] at hap2
    rw [appD_none] at hap2
    rw [← hap2]
    exact fin_ret () (vs := [_, _]) (Cs := []) rfl (.tmp rfl (.tmp rfl .nil)) rfl trivial ent_pick) : G := h
theorem zb40join5 {G : Prop} (h : G := by
    first
    | (have e : ctnR K (3 - ds.length) n = fullB K n := by
         cases h : 3 - ds.length with
         | zero => rfl
         | succ k => rw [ctnR, ← hx]
       exact to_inv ⟨(), by rw [← e]; exact hap⟩ trivial ⟨rfl, rfl, rfl, trivial⟩ ent_pick)
    | (have e : ctnR K (3 - ds.length) n = fullB K n := by rw [show 3 - ds.length = 0 by omega]; rfl
       exact to_inv ⟨(), by rw [← e]; exact hap⟩ trivial ⟨rfl, rfl, rfl, trivial⟩ ent_pick)) : G := h
set_option maxHeartbeats 4000000 in
theorem blob_Content_sp (s p : Nat) (J : Jn) (K : Ks) (hK : TxtK K) (n0 : Bs) (hn0 : n0.length ≤ 1099511627776) : Sp1 Tryz.prog 40 [.pointer (some ⟨s, 0, none⟩), vS n0] [IsS s p J K] (apV (ctnB K n0)) [IsS s p J K] := by
 have e102 : ∀ c : UInt8, ((c.toNat : Int) = 102) ↔ c = 102 := fun c => u8_eq c 102 (by decide)
 refine Sp.body (n := 70) Tryz.call40 Tryz.func40 rfl rfl rfl ?_
 refine Qc (k:=Qv (k:=Wq ?_))
 refine p_gscope (fun (i : { x : (Option Addr × Nat) × List Bs × Bs // x.2.1.length ≤ 3 ∧ x.2.2.length ≤ 1099511627776 ∧ (∀ d ∈ x.2.1, d.length ≤ 1073741824) ∧ appD x.2.1 (ctnR K (3 - x.2.1.length) x.2.2) = ctnB K n0 }) => [(0, .pointer (some ⟨s, 0, none⟩)), (1, vS i.1.2.2), (6, .slice i.1.1.1 i.1.2.1.length i.1.1.2)]) (fun (i : { x : (Option Addr × Nat) × List Bs × Bs // x.2.1.length ≤ 3 ∧ x.2.2.length ≤ 1099511627776 ∧ (∀ d ∈ x.2.1, d.length ≤ 1073741824) ∧ appD x.2.1 (ctnR K (3 - x.2.1.length) x.2.2) = ctnB K n0 }) => [Row 9 1 (.slice i.1.1.1 i.1.2.1.length i.1.1.2) i.1.2.1.length (i.1.2.1.map vS), IsS s p J K]) (fun (i : { x : (Option Addr × Nat) × List Bs × Bs // x.2.1.length ≤ 3 ∧ x.2.2.length ≤ 1099511627776 ∧ (∀ d ∈ x.2.1, d.length ≤ 1073741824) ∧ appD x.2.1 (ctnR K (3 - x.2.1.length) x.2.2) = ctnB K n0 }) => 3 - i.1.2.1.length) 0 rfl rfl rfl (fun i => ?_) ?_
 ·
  obtain ⟨⟨⟨da, dc⟩, ds, n⟩, hds, hn, hdl, hap⟩ := i
  dsimp only at hds hn hdl hap ⊢
  obtain ⟨x, hx⟩ : ∃ x, x = basedB K n := ⟨_, rfl⟩
  have hB := blob_based_sp s p J K hK n hn
  have hxl : ∀ b d, x = some (b, d) → b.length = 40 ∧ d.length ≤ 1073741824 := fun b d e => basedB_len hK (by rw [← hx]; exact e)
  rw [← hx] at hB
  try dsimp only
  refine Qc (k:=Qv (k:=?_))
  refine r_call1 hB rfl rfl rfl ?_
  refine Vv (k:=?_)
  refine wo_pv (pv_extract (v := vS (x.getD ([], [])).1) rfl rfl) rfl ?_
  refine wo_pv (pv_extract (v := vS (x.getD ([], [])).2) rfl rfl) rfl ?_
  refine wo_pv (pv_extract (v := vB x.isSome) rfl rfl) rfl ?_
  refine Qv (k:=Vv (k:=Wq ?_))
  refine p_cut (fun (i : { u : Unit // appD ds (fullB K n) = ctnB K n0 }) => [(0, .pointer (some ⟨s, 0, none⟩)), (1, vS n), (6, .slice da ds.length dc)]) (fun (i : { u : Unit // appD ds (fullB K n) = ctnB K n0 }) => [Row 9 1 (.slice da ds.length dc) ds.length (ds.map vS), IsS s p J K]) rfl (fun i => ?_) ?_
  ·
   obtain ⟨u, hap2⟩ := i
   obtain ⟨hv, hvl⟩ := hK.get (98 :: n)
   unfold fullB at hap2
   obtain ⟨v, hvv⟩ : ∃ v, v = getB K (98 :: n) := ⟨_, rfl⟩
   rw [← hvv] at hv hvl hap2
   have hG := store_Get_sp s p J K (98 :: n)
   rw [hv] at hG
   try dsimp only
   refine Qc (k:=Qv (k:=?_))
   refine wo_pv (pv_cat rfl rfl (by simp only [List.length_singleton]; omega)) rfl ?_
   refine r_call1 hG rfl rfl rfl ?_
   refine Vv (k:=?_)
   refine wo_pv (pv_extract (v := vS v) rfl rfl) rfl ?_
   refine wo_pv (pv_extract (v := vB (mlook K (98 :: n)).isSome) rfl rfl) rfl ?_
   refine Qv (k:=Wq (Za (k:=Qc (k:=Qv (k:=Vv (k:=Gi 2 (t:=fun h43 => ?_) (f:=fun h43 => ?_)))))))
   ·
    refine O1 (k:=O1 (k:=O1 (k:=P1 (k:=Wq (Z1 (k:=Qc (k:=Qv (k:=Wq (Zt (k:=?_))))))))))
    refine Va ?_
    refine t_g_ret ?_
    exact zb40ret7
   ·
    have hv0 : 0 < v.length := List.length_pos_iff.2 h43
    refine J0 (k:=I0 (k:=?_))
    refine wo_pv (pv_indexm (m := 0) Tryz.underlying9 rfl rfl rfl (by omega)) rfl ?_
    refine J0 (k:=P0 (k:=Wq (Zi (t:=fun h47 => ?_) (f:=fun h47 => ?_))))
    ·
     refine Qc (k:=Qv (k:=Wq (Zt (k:=Va ?_))))
     refine t_g_ret ?_
     exact zb40ret7
    ·
     refine Zk (k:=Ya (Za (k:=?_)))
     have hne : v ≠ [] := by assumption
     have hv0 : 0 < v.length := List.length_pos_iff.2 hne
     rw [if_neg (by rintro (h | h); exact hne h; exact h ((e102 _).1 (by first | assumption | (apply Classical.not_not.1; assumption))))] at hap2
     refine Zr (k:=Vv (k:=?_))
     refine wo_pv (pv_slice_fromm (m := 1) Tryz.underlying9 rfl rfl rfl (by omega)) rfl ?_
     refine Vv (k:=Wq (Za (k:=Qc (k:=Qv (k:=Qv (k:=Wq (Zb (k:=?_))))))))
     refine p_loop (fun (i : { x : Nat × Bs // x.1 ≤ ds.length ∧ x.2.length ≤ 1073741824 ∧ appD (ds.take x.1) (some x.2) = ctnB K n0 }) => [(0, .pointer (some ⟨s, 0, none⟩)), (6, .slice da ds.length dc), (12, vS i.1.2), (13, vI ((i.1.1 : Int) - 1))]) (fun (i : { x : Nat × Bs // x.1 ≤ ds.length ∧ x.2.length ≤ 1073741824 ∧ appD (ds.take x.1) (some x.2) = ctnB K n0 }) => [Row 9 1 (.slice da ds.length dc) ds.length (ds.map vS), IsS s p J K]) (fun (i : { x : Nat × Bs // x.1 ≤ ds.length ∧ x.2.length ≤ 1073741824 ∧ appD (ds.take x.1) (some x.2) = ctnB K n0 }) => i.1.1) rfl (⟨(ds.length, v.drop 1), Nat.le_refl _, by dsimp only; rw [List.length_drop]; omega, by dsimp only; rw [List.take_length]; exact hap2⟩) ?_ ?_ (fun i => ?_)
     · exact ⟨rfl, rfl, rfl, rfl, trivial⟩
     ·
      exact ent_pick
     obtain ⟨⟨j, out⟩, hj, ho, haj⟩ := i
     dsimp only at hj ho haj ⊢
     try dsimp only
     refine Za (k:=Qc (k:=Qv (k:=Wq (Zi (t:=fun h54 => ?_) (f:=fun h54 => ?_)))))
     ·
      refine Zk (k:=Ya (Za (k:=Zb (k:=Za (k:=?_)))))
      have hj1 : 0 < j := by omega
      have hjd : ds.getD (j - 1) [] ∈ ds := by
       have : ds.getD (j - 1) [] = ds[j - 1] := by simp [show j - 1 < ds.length by omega]
       rw [this]; exact List.getElem_mem _
      have hdz := hdl _ hjd
      have htk : ds.take j = ds.take (j - 1) ++ [ds.getD (j - 1) []] := by
       have := List.take_succ_eq_append_getElem (l := ds) (i := j - 1) (by omega)
       rw [show j - 1 + 1 = j by omega] at this
       rw [this]; simp [show j - 1 < ds.length by omega]
      rw [htk, appD_snoc, Option.bind_some] at haj
      obtain ⟨y, hy⟩ : ∃ y, y = applyB out (ds.getD (j - 1) []) := ⟨_, rfl⟩
      have hA := delta_Apply_sp out (ds.getD (j - 1) []) (by omega) (by omega)
      have hyl : ∀ t, y = some t → t.length ≤ 300 := fun t e => applyB_len (by rw [← hy]; exact e)
      rw [← hy] at hA haj
      refine Zr (k:=Qv (k:=Vv (k:=?_)))
      refine r_elemAddr (m := j - 1) (sz := 1) Tryz.underlying27 ti9 rfl rfl rfl (by omega) (by omega) (by rw [List.length_map]; omega) (Nat.mul_one _) rfl ?_
      refine Yl (hv:=by exact get_mapD [] (m := j - 1) (by omega)) (k:=?_)
      refine r_callF hA rfl rfl rfl ?_
      refine Vv (k:=?_)
      refine wo_pv (pv_extract (v := vS (y.getD [])) rfl rfl) rfl ?_
      refine wo_pv (pv_extract (v := vB y.isSome) rfl rfl) rfl ?_
      refine Qv (k:=Wq (Za (k:=Qc (k:=Qv (k:=Wq (Zi (t:=fun h67 => ?_) (f:=fun h67 => ?_)))))))
      ·
       obtain rfl : y = none := by cases y with | none => rfl | some z => simp at h67
       rw [appD_none] at haj
       refine Qc (k:=Qv (k:=Wq (Zt (k:=Va (Vb (Va (Vi (Vb (Va ?_)))))))))
       refine t_g_ret ?_
       rw [← haj]
       exact fin_ret () (vs := [_, _]) (Cs := []) rfl (.tmp rfl (.tmp rfl .nil)) rfl trivial ent_pick
      ·
       obtain ⟨t, rfl⟩ : ∃ z, y = some z := by cases y with | none => simp at h67 | some z => exact ⟨z, rfl⟩
       have htl := hyl t rfl
       dsimp only [Option.getD_some]
       refine Zk (k:=Ya (Zr (k:=Qv (k:=Wn (Yb (Ya (Zr (k:=Qv (k:=Vv (k:=?_))))))))))
       refine Wn ?_
       refine to_inv ⟨(j - 1, t), by dsimp only; omega, by dsimp only; omega, haj⟩ (by dsimp only; omega) ⟨rfl, rfl, rfl, (by dsimp only; rw [show (((j - 1 : Nat) : Int) - 1) = (j : Int) - 1 - 1 by omega]; rfl), trivial⟩ ent_pick
     ·
      refine Ze (k:=Xa (Xi (Xb (Ya (Qc (k:=Qv (k:=Vv (k:=Wq (Zt (k:=?_))))))))))
      refine t_g_ret ?_
      have hj0 : j = 0 := by omega
      subst hj0
      rw [← haj]
      exact fin_ret () (vs := [_, _]) (Cs := []) rfl (.tmp rfl (.tmp rfl .nil)) rfl trivial ent_pick
  ·
   refine Qc (k:=Qv (k:=Gi 1 (t:=fun h24 => ?_) (f:=fun h24 => ?_)))
   ·
    obtain ⟨⟨b, d⟩, rfl⟩ : ∃ y, x = some y := by cases x with | none => simp at h24 | some y => exact ⟨y, rfl⟩
    obtain ⟨hbl, hdl2⟩ := hxl b d rfl
    dsimp only [Option.getD_some]
    refine J1 (k:=J1 (k:=J1 (k:=P1 (k:=Wq (Zi (t:=fun h28 => ?_) (f:=fun h28 => ?_))))))
    ·
     refine Qc (k:=Qv (k:=Zv [_] (cs := [_]) (k:=fun b31 => ?_)))
     refine r_append1 (sz := 1) (bytes := 16) Tryz.underlying27 ti9 rfl rfl rfl rfl rfl rfl rfl (by rfl) (by rfl) (by omega) (by simp only [maxLen]; omega) rfl (fun a32 c32 => ?_)
     refine Qv (k:=Vv (k:=Wq ?_))
     refine p_goto 0 rfl ?_
     refine to_inv_goto ?_
     refine to_goto ⟨((a32, c32), ds ++ [d], b), by simp; omega, by dsimp only; omega, fun e he => (List.mem_append.1 he).elim (hdl e) (fun h => by rw [List.mem_singleton.1 h]; exact hdl2), ?_⟩ (by simp; omega) ⟨rfl, rfl, by dsimp only; rw [List.length_append, List.length_singleton]; rfl, trivial⟩ ?_
     · dsimp only
       rw [appD_snoc, List.length_append, List.length_singleton, ← hap]
       congr 1
       rw [show 3 - ds.length = 3 - (ds.length + 1) + 1 by omega, ctnR, ← hx]
     · dsimp only
       rw [List.length_append, List.length_singleton]
       exact ent_step (row_norm (by rfl) (by simp)) ent_pick
    ·
     refine Zk (k:=?_)
     exact zb40join5
   ·
    obtain rfl : x = none := by cases x with | none => rfl | some y => simp at h24
    refine O0 (k:=O0 (k:=O0 (k:=P0 (k:=Wq (Z0 (k:=Zk (k:=?_)))))))
    exact zb40join5
 ·
  refine Zr (k:=Vv (k:=Wn ?_))
  refine to_inv ⟨((none, 0), [], n0), Nat.zero_le _, hn0, (fun d h => by cases h), rfl⟩ trivial ⟨rfl, rfl, rfl, trivial⟩ ((row_nil (e := 9) (sz := 1)).trans (show Ent _ [Row 9 1 (.slice none 0 0) 0 [], IsS s p J K] from ent_pick))
end
section
set_option maxRecDepth 100000
theorem zb42ret3 {G : Prop} (h : G := by
    rw [if_pos (by first | exact .inl h20 | exact .inr ⟨fun h => absurd ((e102 _).2 h) (by assumption), fun h => absurd ((e100 _).2 h) (by assumption)⟩)]
    exact fin_ret () (vs := [_]) (Cs := []) rfl (.tmp rfl .nil) rfl trivial ent_pick) : G := h
theorem zb42join4 {G : Prop} (h : G := by
    refine to_inv ⟨(), ?_⟩ trivial ⟨rfl, rfl, trivial⟩ ent_pick
    rintro (h | ⟨h1, h2⟩)
    · exact h20 h
    · first
      | exact h1 ((e102 _).1 (by first | assumption | (apply Classical.not_not.1; assumption)))
      | exact h2 ((e100 _).1 (by first | assumption | (apply Classical.not_not.1; assumption)))) : G := h
set_option maxHeartbeats 1000000 in
theorem blob_Depth_sp (s p : Nat) (J : Jn) (K : Ks) (hK : TxtK K) (n0 : Bs) (hn0 : n0.length ≤ 1099511627776) : Sp1 Tryz.prog 42 [.pointer (some ⟨s, 0, none⟩), vS n0] [IsS s p J K] (vI (depB K n0)) [IsS s p J K] := by
 have e102 : ∀ c : UInt8, ((c.toNat : Int) = 102) ↔ c = 102 := fun c => u8_eq c 102 (by decide)
 have e100 : ∀ c : UInt8, ((c.toNat : Int) = 100) ↔ c = 100 := fun c => u8_eq c 100 (by decide)
 obtain ⟨hv, hvl⟩ := hK.get (98 :: n0)
 unfold depB
 obtain ⟨v, hvv⟩ : ∃ v, v = getB K (98 :: n0) := ⟨_, rfl⟩
 rw [← hvv] at hv hvl ⊢
 have hG := store_Get_sp s p J K (98 :: n0)
 rw [hv] at hG
 refine Sp.body (n := 45) Tryz.call42 Tryz.func42 rfl rfl rfl ?_
 refine Qc (k:=Vv (k:=Wq (Qc (k:=Qv (k:=?_)))))
 refine wo_pv (pv_cat rfl rfl (by simp only [List.length_singleton]; omega)) rfl ?_
 refine r_call1 hG rfl rfl rfl ?_
 refine Vv (k:=?_)
 refine wo_pv (pv_extract (v := vS v) rfl rfl) rfl ?_
 refine wo_pv (pv_extract (v := vB (mlook K (98 :: n0)).isSome) rfl rfl) rfl ?_
 refine Qv (k:=Wq ?_)
 refine p_cut (fun (i : { u : Unit // ¬ (v = [] ∨ (v.getD 0 0 ≠ 102 ∧ v.getD 0 0 ≠ 100)) }) => [(0, .pointer (some ⟨s, 0, none⟩)), (1, vS n0)]) (fun (i : { u : Unit // ¬ (v = [] ∨ (v.getD 0 0 ≠ 102 ∧ v.getD 0 0 ≠ 100)) }) => [IsS s p J K]) rfl (fun i => ?_) ?_
 ·
  obtain ⟨u, hne⟩ := i
  rw [if_neg hne]
  try dsimp only
  refine Za (k:=Qc (k:=Vv (k:=Wq (Zb (k:=?_)))))
  refine p_loop (fun (i : { x : Nat × Bs // x.1 ≤ 4 ∧ x.2.length ≤ 1099511627776 ∧ x.1 + depF K (4 - x.1) x.2 = depF K 4 n0 }) => [(0, .pointer (some ⟨s, 0, none⟩)), (1, vS i.1.2), (30, vI i.1.1)]) (fun (i : { x : Nat × Bs // x.1 ≤ 4 ∧ x.2.length ≤ 1099511627776 ∧ x.1 + depF K (4 - x.1) x.2 = depF K 4 n0 }) => [IsS s p J K]) (fun (i : { x : Nat × Bs // x.1 ≤ 4 ∧ x.2.length ≤ 1099511627776 ∧ x.1 + depF K (4 - x.1) x.2 = depF K 4 n0 }) => 4 - i.1.1) rfl (⟨(0, n0), Nat.zero_le _, hn0, Nat.zero_add _⟩) ?_ ?_ (fun i => ?_)
  · exact ⟨rfl, rfl, rfl, trivial⟩
  ·
   exact ent_pick
  obtain ⟨⟨j, n⟩, hj, hn, hd⟩ := i
  dsimp only at hj hn hd ⊢
  obtain ⟨x, hx⟩ : ∃ x, x = basedB K n := ⟨_, rfl⟩
  have hB := blob_based_sp s p J K hK n hn
  have hxl : ∀ b d, x = some (b, d) → b.length = 40 := fun b d e => (basedB_len hK (by rw [← hx]; exact e)).1
  rw [← hx] at hB
  try dsimp only
  refine Qc (k:=Vv (k:=Wq (Za (k:=Zi (t:=fun h31 => ?_) (f:=fun h31 => ?_)))))
  ·
   refine Zk (k:=Ya (Za (k:=Zb (k:=Qc (k:=Qv (k:=Wq (Qc (k:=Vv (k:=?_)))))))))
   refine Vv (k:=?_)
   refine r_call1 hB rfl rfl rfl ?_
   refine Vv (k:=?_)
   refine wo_pv (pv_extract (v := vS (x.getD ([], [])).1) rfl rfl) rfl ?_
   refine wo_pv (pv_extract (v := vS (x.getD ([], [])).2) rfl rfl) rfl ?_
   refine wo_pv (pv_extract (v := vB x.isSome) rfl rfl) rfl ?_
   refine Qv (k:=Vv (k:=Wq (Za (k:=Qc (k:=Qv (k:=Wq (Zi (t:=fun h41 => ?_) (f:=fun h41 => ?_))))))))
   ·
    obtain rfl : x = none := by cases x with | none => rfl | some z => simp at h41
    have hz : depF K (4 - j) n = 0 := by rw [show 4 - j = 3 - j + 1 by omega, depF, ← hx]
    rw [hz] at hd
    refine Qc (k:=Qv (k:=Wq (Zt (k:=Va (Vb (Va (Vi (Vb (Va ?_)))))))))
    rw [← hd]
    exact fin_ret () (vs := [_]) (Cs := []) rfl (.tmp rfl .nil) rfl trivial ent_pick
   ·
    obtain ⟨⟨b, d⟩, rfl⟩ : ∃ z, x = some z := by cases x with | none => simp at h41 | some z => exact ⟨z, rfl⟩
    have hbl := hxl b d rfl
    have hz : depF K (4 - j) n = depF K (4 - (j + 1)) b + 1 := by rw [show 4 - j = 4 - (j + 1) + 1 by omega, depF, ← hx]
    rw [hz] at hd
    dsimp only [Option.getD_some]
    refine Zk (k:=Ya (Zr (k:=Qv (k:=Wn (Yb (Ya (Zr (k:=Qv (k:=Wn ?_)))))))))
    exact to_inv ⟨(j + 1, b), by dsimp only; omega, by dsimp only; omega, by dsimp only; omega⟩ (by dsimp only; omega) ⟨rfl, rfl, rfl, trivial⟩ ent_pick
  ·
   refine Ze (k:=Xa (Xi (Xb (Ya (Qc (k:=Vv (k:=Wq (Zt (k:=?_)))))))))
   have hj4 : j = 4 := by omega
   subst hj4
   rw [← hd]
   exact fin_ret () (vs := [_]) (Cs := []) rfl (.tmp rfl .nil) rfl trivial ent_pick
 ·
  refine Qc (k:=Qv (k:=Vv (k:=Gi 2 (t:=fun h20 => ?_) (f:=fun h20 => ?_))))
  ·
   refine O1 (k:=O1 (k:=O1 (k:=O1 (k:=Ou (k:=Ou (k:=Ou (k:=O1 (k:=P1 (k:=Wq (Z1 (k:=Za (k:=?_))))))))))))
   refine Zr (k:=Vv (k:=Wq (Zt (k:=Vi ?_))))
   exact zb42ret3
  ·
   have hv0 : 0 < v.length := List.length_pos_iff.2 h20
   refine J0 (k:=I0 (k:=?_))
   refine wo_pv (pv_indexm (m := 0) Tryz.underlying9 rfl rfl rfl (by omega)) rfl ?_
   refine J0 (k:=J0 (k:=Gi 6 (t:=fun h24 => ?_) (f:=fun h24 => ?_)))
   ·
    refine J1 (k:=I1 (k:=?_))
    refine wo_pv (pv_indexm (m := 0) Tryz.underlying9 rfl rfl rfl (by omega)) rfl ?_
    refine J1 (k:=I0 (k:=P1 (k:=P0 (k:=Wq (Zi (t:=fun h29 => ?_) (f:=fun h29 => ?_))))))
    ·
     refine Qc (k:=Vv (k:=Wq (Zt (k:=Vi ?_))))
     exact zb42ret3
    ·
     refine Zk (k:=?_)
     exact zb42join4
   ·
    refine O0 (k:=O0 (k:=O0 (k:=I0 (k:=P0 (k:=P0 (k:=Wq (Z0 (k:=Zk (k:=?_)))))))))
    exact zb42join4
set_option maxHeartbeats 1000000 in
theorem blob_stands_sp (s p : Nat) (J : Jn) (K : Ks) (hK : TxtK K) (n0 on : Bs) (hn0 : n0.length ≤ 1099511627776) : Sp1 Tryz.prog 95 [.pointer (some ⟨s, 0, none⟩), vS n0, vS on] [IsS s p J K] (vB (staB K n0 on)) [IsS s p J K] := by
 refine Sp.body (n := 26) Tryz.call95 Tryz.func95 rfl rfl rfl ?_
 refine Qc (k:=Vv (k:=Wq (Za (k:=Qc (k:=Vv (k:=Wq (Zb (k:=?_))))))))
 refine p_loop (fun (i : { x : Nat × Bs // x.1 ≤ 4 ∧ x.2.length ≤ 1099511627776 ∧ staF K on (4 - x.1) x.2 = staB K n0 on }) => [(0, .pointer (some ⟨s, 0, none⟩)), (1, vS i.1.2), (2, vS on), (10, vI i.1.1)]) (fun (i : { x : Nat × Bs // x.1 ≤ 4 ∧ x.2.length ≤ 1099511627776 ∧ staF K on (4 - x.1) x.2 = staB K n0 on }) => [IsS s p J K]) (fun (i : { x : Nat × Bs // x.1 ≤ 4 ∧ x.2.length ≤ 1099511627776 ∧ staF K on (4 - x.1) x.2 = staB K n0 on }) => 4 - i.1.1) rfl (⟨(0, n0), Nat.zero_le _, hn0, rfl⟩) ?_ ?_ (fun i => ?_)
 · exact ⟨rfl, rfl, rfl, rfl, trivial⟩
 ·
  exact ent_pick
 obtain ⟨⟨j, n⟩, hj, hn, hd⟩ := i
 dsimp only at hj hn hd ⊢
 obtain ⟨x, hx⟩ : ∃ x, x = basedB K n := ⟨_, rfl⟩
 have hB := blob_based_sp s p J K hK n hn
 have hxl : ∀ b d, x = some (b, d) → b.length = 40 := fun b d e => (basedB_len hK (by rw [← hx]; exact e)).1
 rw [← hx] at hB
 try dsimp only
 refine Qc (k:=Vv (k:=Wq (Za (k:=Zi (t:=fun h11 => ?_) (f:=fun h11 => ?_)))))
 ·
  refine Zk (k:=Ya (Za (k:=Zb (k:=Za (k:=Za (k:=?_))))))
  rw [show 4 - j = 4 - (j + 1) + 1 by omega, staF, ← hx] at hd
  refine Zr (k:=Qv (k:=Vv (k:=Wq (Zi (t:=fun h14 => ?_) (f:=fun h14 => ?_)))))
  ·
   rw [if_pos h14] at hd
   refine Qc (k:=Vv (k:=Wq (Zt (k:=Va (Vb (Va (Vi (Vb (Va ?_)))))))))
   rw [← hd]
   exact fin_ret () (vs := [_]) (Cs := []) rfl (.tmp rfl .nil) rfl trivial ent_pick
  ·
   rw [if_neg h14] at hd
   refine Zk (k:=Ya (Qc (k:=Qv (k:=?_))))
   refine r_call1 hB rfl rfl rfl ?_
   refine Vv (k:=?_)
   refine wo_pv (pv_extract (v := vS (x.getD ([], [])).1) rfl rfl) rfl ?_
   refine wo_pv (pv_extract (v := vS (x.getD ([], [])).2) rfl rfl) rfl ?_
   refine wo_pv (pv_extract (v := vB x.isSome) rfl rfl) rfl ?_
   refine Qv (k:=Vv (k:=Wq (Za (k:=Qc (k:=Qv (k:=Wq (Zi (t:=fun h23 => ?_) (f:=fun h23 => ?_))))))))
   ·
    obtain rfl : x = none := by cases x with | none => rfl | some z => simp at h23
    refine Qc (k:=Vv (k:=Wq (Zt (k:=Va (Vb (Va (Vi (Vb (Va ?_)))))))))
    rw [← hd]
    exact fin_ret () (vs := [_]) (Cs := []) rfl (.tmp rfl .nil) rfl trivial ent_pick
   ·
    obtain ⟨⟨b, d⟩, rfl⟩ : ∃ z, x = some z := by cases x with | none => simp at h23 | some z => exact ⟨z, rfl⟩
    have hbl := hxl b d rfl
    dsimp only [Option.getD_some] at hd ⊢
    refine Zk (k:=Ya (Zr (k:=Qv (k:=Wn (Yb (Ya (Zr (k:=Qv (k:=Wn ?_)))))))))
    exact to_inv ⟨(j + 1, b), by dsimp only; omega, by dsimp only; omega, hd⟩ (by dsimp only; omega) ⟨rfl, rfl, rfl, rfl, trivial⟩ ent_pick
 ·
  refine Ze (k:=Xa (Xi (Xb (Ya (Qc (k:=Vv (k:=Wq (Zt (k:=?_)))))))))
  have hj4 : j = 4 := by omega
  subst hj4
  rw [← hd]
  exact fin_ret () (vs := [_]) (Cs := []) rfl (.tmp rfl .nil) rfl trivial ent_pick
end
section
/-- What a function value does when it is ranged over, while the caller keeps R. -/
def IterB (P : Program) {α : Type} (g : Nat) (lb : List Value) (enc : α → List Value) (ok : List α → α → Prop) (stopped : List α → Prop) (R : HP) (As Bs : List HP) (all : List α) (val : Option (List α) → Value) : Prop :=
 ∀ (y : Value) (J J0 Jx : List α → HP), YSpec P y enc ok J Jx → (∀ pre, Ent [J pre] [R, J0 pre]) → (∀ pre, Ent [R, J0 pre] [J pre]) →
  Sp P g (y :: lb) (J [] :: As) (X := Option (List α)) val (fun x => ∀ pre, x = some pre → stopped pre) (fun x => endsAt J Jx all x :: Bs)
theorem ent_fold2 {R J J0 : HP} {Hs Rs : List HP} (h : Ent [R, J0] [J]) (e : Ent Hs (R :: J0 :: Rs)) : Ent Hs (J :: Rs) := e.trans (h.frame Rs)
theorem ent_open2 {R J J0 : HP} {Hs Rs Gs : List HP} [hp : PickC J Hs Rs] (h : Ent [J] [R, J0]) (e : Ent (R :: J0 :: Rs) Gs) : Ent Hs Gs :=
 ((ent_cons (Ent.refl _)).trans (h.frame Rs)).trans e
theorem ent_al_last {R : HP} {Xs : List HP} : Ent [R, Al Xs] (R :: Xs) := ⟨fun ⟨h1, h2, d, e, a, t⟩ => ⟨h1, h2, d, e, a, by have := sl_al t; rwa [List.append_nil] at this⟩⟩
theorem ent_al_one {Xs : List HP} : Ent [Al Xs] Xs := ⟨fun t => by have := sl_al t; rwa [List.append_nil] at this⟩
theorem ent_one_al {Xs : List HP} : Ent Xs [Al Xs] := ⟨fun {M h} s => ⟨h, Res.emp, Res.dj_emp _, (Res.add_emp _).symm, s, trivial⟩⟩
section
variable {r : Option Nat} {P : Program} {n : Nat} {ops : Array Oper} {os : List Oper} {A : List HP} {L : Loc} {Hs : List HP} {Q : Out} {ty : TypeId} {d : Nat} {pos : String} {after : Array Edge} {c : Code}
/-- for .. := range f { .. } -/
theorem wc_rangeFuncG {α : Type} {f : Operand} {ps : Array Tmp} {assign body : Code} {g : Nat} {lb : List Value} {enc : α → List Value} {ok : List α → α → Prop} {stopped : List α → Prop} {As Bs : List HP} {fin : List α → Prop} {val : Option (List α) → Value}
    (I : List α → List HP) (Ix : Option Nat → List α → List HP)
    (hf : ev L f = some (.func (.func g) #[] lb.toArray))
    (en : ∀ l : Nat, ∃ (X : Type) (As' : List HP) (v : X → Value) (o : X → Prop) (Bs' : X → List HP), Sp P g (.func (.yield l) #[] #[] :: lb) As' v o Bs')
    (it : ∀ (b : Nat) (o : Obj) (y : Value) (Jx : List α → HP), YSpec P y enc ok (fun pre => Al (Blk b o :: I pre)) Jx → Sp P g (y :: lb) (Al (Blk b o :: I []) :: As) (X := Option (List α) × List α) (fun x => val x.1) (fun x => (∀ pre, x.1 = some pre → stopped pre) ∧ (x.1 = none → fin x.2)) (fun x => endsAt (fun pre => Al (Blk b o :: I pre)) Jx x.2 x.1 :: Bs))
    (hps : ∀ x, (enc x).length = ps.size) (hpn : ps.toList.all (fun p => Nat.blt p n) = true)
    (ha : Ent Hs (I [] ++ As))
    (round : ∀ (l : Nat) (pre : List α) (x : α), ok pre x → wc (some l) P n assign (bindL ps.toList (enc x) L) (I pre) (asgO (some l) P body (roundO I Ix (pre ++ [x]))))
    (done : ∀ all, fin all → tw n Q .normal L (I all ++ Bs))
    (stop : ∀ (j : Option Nat) (pre : List α), stopped pre → wc none P n (jc j) L (Ix j pre ++ Bs) Q) :
    wc none P n (.rangeFunc f ps assign body) L Hs Q := by
 intro a M h st w hfr dj t
 obtain ⟨fr, g1, g2, dg, e, sd, s2⟩ := st
 subst e
 obtain ⟨kI, kA, dIA, e, sI, sA⟩ := SL.split (ha s2)
 subst e
 refine wpIn_rangeFunc ?_
 intro fn hfn
 obtain ⟨rec, hrec⟩ : ∃ rec : LoopState → Option Code → Loop, rec = fun st pe => { state := st, pending := pe, fn, tmps := a.tmps, params := ps, assign, body, defers := w.heap.size } := ⟨_, rfl⟩
 obtain ⟨W1, hW1⟩ : ∃ W1, (w.alloc (.deferred (some []))).alloc (.loop (rec .ready none)) = W1 := ⟨_, rfl⟩
 have hsz : (w.alloc (.deferred (some []))).heap.size = w.heap.size + 1 := by simp
 have tD := t.alloc (.deferred (some []))
 have tL := tD.alloc (.loop (rec .ready none))
 obtain ⟨_, f1⟩ := fresh_none t
 obtain ⟨_, f2⟩ := fresh_none tD
 rw [hsz] at tL f2
 rw [hW1] at tL
 refine ⟨w.heap.size + 1, [{ target := .collected w.heap.size, args := #[] }], W1, { target := .fn (.func g) lb.toArray, args := #[.func (.yield (w.heap.size + 1)) #[] #[]] }, W1, g,
  #[.func (.yield (w.heap.size + 1)) #[] #[]] ++ lb.toArray, W1, ?_, ?_, fun _ _ => trivial, ?_, (fun e => by cases e), ?_⟩
 · rw [← hW1, hrec]; exact run_enterLoop_outer _ _ _ _ _
 · simp only [resolve, rangeCall]
   rw [fr.ev hf]
   simp [go_sem]
 · obtain ⟨X', A', v', o', B', hen⟩ := en (w.heap.size + 1)
   have := hen.enters
   simp [invoke, go_sem]
   exact this _ _
 ·
  have ys : YSpec P (.func (.yield (w.heap.size + 1)) #[] #[]) enc ok (fun pre => Al (Blk (w.heap.size + 1) (.loop (rec .ready none)) :: I pre))
      (fun pre => Ex fun j : Option Nat => Al (Blk (w.heap.size + 1) (.loop (rec .done (some (jc j)))) :: Ix j pre)) := by
   refine ⟨_, rfl, fun pre x hok w' M' h' hf' dj' t' hj => ?_⟩
   obtain ⟨p1, p2, dp, e, hp1, sp2⟩ := hj
   have hp1' : p1 = Res.one _ _ := hp1
   subst hp1'
   subst e
   have hl : w'.heap[w.heap.size + 1]? = some (.loop (rec .ready none)) := t'.ow _ _ (by simp [Res.add, Res.one])
   have hy := run_yield (P := P) (args := (enc x).toArray) hl (by rw [hrec]; simpa using hps x)
   refine ⟨_, _, _, _, hy, roundIn_of_wpIn (F := WF none) trivial ?_⟩
   have e1 : (rec .ready none).assign = assign := by rw [hrec]
   have e2 : (rec .ready none).body = body := by rw [hrec]
   have e3 : (rec .ready none).tmps = a.tmps := by rw [hrec]
   have e4 : (rec .ready none).params = ps := by rw [hrec]
   rw [e1, e2, e3, e4]
   obtain ⟨dj1, dj2⟩ := Res.dj_add_left.1 dj'
   have hfold : (ps.zip (enc x).toArray).foldl (fun t (p, v) => t.setIfInBounds p v) a.tmps = (ps.toList.zip (enc x)).foldl (fun t (p, v) => t.setIfInBounds p v) a.tmps := by
    rw [← Array.foldl_toList]; simp
   rw [hfold]
   have hfr : Fr n (bindL ps.toList (enc x) L) { tmps := (ps.toList.zip (enc x)).foldl (fun t (p, v) => t.setIfInBounds p v) a.tmps, defers := [] } :=
    fr_bind ps.toList (enc x) (fun p hp => by have := List.all_eq_true.1 hpn p hp; simpa using this) fr
   have d2 : p2.dj ((Res.one (w.heap.size + 1) (.loop (rec .ready none))).add hf') := Res.dj_add_right.2 ⟨Res.dj_comm dp, dj2⟩
   have t2 : Sat w' M' (p2.add ((Res.one (w.heap.size + 1) (.loop (rec .ready none))).add hf')) := by
    rw [← Res.add_assoc, ← Res.add_comm dp]; exact t'
   have hw := round (w.heap.size + 1) pre x hok _ M' p2 ⟨hfr, Res.emp, p2, Res.emp_dj _, rfl, trivial, sp2⟩ w' _ d2 t2
   refine wpIn_mono (F := WF (some (w.heap.size + 1))) hw ?_
   rintro ex a1 w1 ⟨M1, h1, le1, dj3, t3, q1⟩
   cases ex with
   | normal =>
     have q1' : wout (some (w.heap.size + 1)) P body (roundO I Ix (pre ++ [x])) a1 M1 h1 := q1
     obtain ⟨y1, y2⟩ := Res.dj_add_right.1 dj3
     have hb : w1.heap[w.heap.size + 1]? = some (.loop (rec .ready none)) := t3.ow _ _ (Res.le_add_right dj3 _ _ (by simp [Res.add, Res.one]))
     refine ⟨_, run_beginRound hb (by rw [hrec]), ?_⟩
     have dA : (Res.one (w.heap.size + 1) (.loop (rec .ready none))).dj (h1.add hf') := Res.dj_add_right.2 ⟨Res.dj_comm y1, dj1⟩
     have hcomm : ∀ o : Obj, h1.dj (Res.one (w.heap.size + 1) o) → h1.add ((Res.one (w.heap.size + 1) o).add hf') = (Res.one (w.heap.size + 1) o).add (h1.add hf') := fun o dd => by
      rw [← Res.add_assoc, Res.add_comm dd, Res.add_assoc]
     rw [hcomm _ y1] at t3
     have t4 := Sat.putObj (o' := .loop { rec .ready none with state := .busy }) dA t3
     have dB : (Res.one (w.heap.size + 1) (.loop { rec .ready none with state := .busy })).dj (h1.add hf') := dj_one_any dA
     have dB1 := (Res.dj_add_right.1 dB).1
     rw [← hcomm _ (Res.dj_comm dB1)] at t4
     refine wpIn_mono (F := WF (some (w.heap.size + 1))) (q1' _ _ (Res.dj_add_right.2 ⟨Res.dj_comm dB1, y2⟩) t4) ?_
     have fin : ∀ (jump : Option Code) (M2 : Kn) (h2 : Res) (w2 : World), M1.le M2 → h2.dj ((Res.one (w.heap.size + 1) (.loop { rec .ready none with state := .busy })).add hf') → Sat w2 M2 (h2.add ((Res.one (w.heap.size + 1) (.loop { rec .ready none with state := .busy })).add hf')) →
         ∃ w3, (Instr.endRound (w.heap.size + 1) jump).run P w2 = .ok (.bool jump.isNone) w3 ∧ (Res.one (w.heap.size + 1) (.loop (rec (if jump.isNone then .ready else .done) jump))).dj h2 ∧
          ((Res.one (w.heap.size + 1) (.loop (rec (if jump.isNone then .ready else .done) jump))).add h2).dj hf' ∧ Sat w3 M2 (((Res.one (w.heap.size + 1) (.loop (rec (if jump.isNone then .ready else .done) jump))).add h2).add hf') := by
      intro jump M2 h2 w2 le2 dj5 t5
      have hb2 : w2.heap[w.heap.size + 1]? = some (.loop { rec .ready none with state := .busy }) := t5.ow _ _ (Res.le_add_right dj5 _ _ (by simp [Res.add, Res.one]))
      have hr := run_endRound (P := P) jump hb2
      obtain ⟨z1, z2⟩ := Res.dj_add_right.1 dj5
      have eqq : h2.add ((Res.one (w.heap.size + 1) (.loop { rec .ready none with state := .busy })).add hf') = (Res.one (w.heap.size + 1) (.loop { rec .ready none with state := .busy })).add (h2.add hf') := by
       rw [← Res.add_assoc, Res.add_comm z1, Res.add_assoc]
      rw [eqq] at t5
      have dC : (Res.one (w.heap.size + 1) (.loop { rec .ready none with state := .busy })).dj (h2.add hf') := Res.dj_add_right.2 ⟨Res.dj_comm z1, dj_one_any dj1⟩
      have t6 := Sat.putObj (o' := .loop (rec (if jump.isNone then .ready else .done) jump)) dC t5
      have dD : (Res.one (w.heap.size + 1) (.loop (rec (if jump.isNone then .ready else .done) jump))).dj (h2.add hf') := dj_one_any dC
      obtain ⟨v1, v2⟩ := Res.dj_add_right.1 dD
      refine ⟨_, ?_, v1, Res.dj_add_left.2 ⟨v2, z2⟩, by rw [Res.add_assoc]; exact t6⟩
      rw [hr, hrec]
     rintro e2 a2 w2 ⟨M2, h2, le2, dj5, t5, q2⟩
     cases e2 with
     | normal =>
       obtain ⟨w3, r1, r2, r3, r4⟩ := fin none M2 h2 w2 le2 dj5 t5
       exact ⟨_, w3, r1, true, M2, _, rfl, Kn.le_trans le1 le2, r3, r4, _, _, r2, rfl, rfl, q2⟩
     | ret =>
       obtain ⟨w3, r1, r2, r3, r4⟩ := fin (some .ret) M2 h2 w2 le2 dj5 t5
       exact ⟨_, w3, r1, false, M2, _, rfl, Kn.le_trans le1 le2, r3, r4, none, _, _, r2, rfl, rfl, q2⟩
     | exit id =>
       obtain ⟨w3, r1, r2, r3, r4⟩ := fin (some (.exit id)) M2 h2 w2 le2 dj5 t5
       exact ⟨_, w3, r1, false, M2, _, rfl, Kn.le_trans le1 le2, r3, r4, some id, _, _, r2, rfl, rfl, q2⟩
     | goto _ => exact q2.elim
     | panic _ => exact q2.elim
     | outgrown => exact q2.elim
   | ret => exact q1.elim
   | exit _ => exact q1.elim
   | goto _ => exact q1.elim
   | panic _ => exact q1.elim
   | outgrown => exact q1.elim
  have sp := it _ _ _ _ ys
  -- resources
  obtain ⟨dg1, dg2⟩ := Res.dj_add_right.1 dg
  obtain ⟨q1, q2⟩ := Res.dj_add_left.1 dj
  obtain ⟨q3, q4⟩ := Res.dj_add_left.1 q2
  let D : Res := Res.one w.heap.size (.deferred (some []))
  let Lp : Res := Res.one (w.heap.size + 1) (.loop (rec .ready none))
  have dLp : Lp.dj (D.add ((g1.add (kI.add kA)).add hfr)) := one_dj f2
  have dD : D.dj ((g1.add (kI.add kA)).add hfr) := one_dj f1
  obtain ⟨a1, a2⟩ := Res.dj_add_right.1 dLp
  obtain ⟨a3, a4⟩ := Res.dj_add_right.1 a2
  obtain ⟨a5, a6⟩ := Res.dj_add_right.1 a3
  obtain ⟨a7, a8⟩ := Res.dj_add_right.1 a6
  obtain ⟨b3, b4⟩ := Res.dj_add_right.1 dD
  obtain ⟨b5, b6⟩ := Res.dj_add_right.1 b3
  obtain ⟨b7, b8⟩ := Res.dj_add_right.1 b6
  have eqr : Lp.add (D.add ((g1.add (kI.add kA)).add hfr)) = ((Lp.add kI).add kA).add ((D.add g1).add hfr) := by
   funext i
   simp only [Res.add]
   have c1 := b7 i; have c2 := b8 i; have c3 := b5 i; have c4 := dg1 i; have c5 := dg2 i
   revert c1 c2 c3 c4 c5
   cases Lp i <;> cases D i <;> cases g1 i <;> cases kI i <;> cases kA i <;> simp
  have tL' : Sat W1 M (((Lp.add kI).add kA).add ((D.add g1).add hfr)) := by rw [← eqr]; exact tL
  have djr : ((Lp.add kI).add kA).dj ((D.add g1).add hfr) := by
   refine Res.dj_add_left.2 ⟨Res.dj_add_left.2 ⟨?_, ?_⟩, ?_⟩
   · exact Res.dj_add_right.2 ⟨Res.dj_add_right.2 ⟨a1, a5⟩, a4⟩
   · exact Res.dj_add_right.2 ⟨Res.dj_add_right.2 ⟨Res.dj_comm b7, Res.dj_comm dg1⟩, q3⟩
   · exact Res.dj_add_right.2 ⟨Res.dj_add_right.2 ⟨Res.dj_comm b8, Res.dj_comm dg2⟩, q4⟩
  have cc := sp.calls W1 M ((Lp.add kI).add kA) ((D.add g1).add hfr) djr tL' ⟨Lp.add kI, kA, Res.dj_add_left.2 ⟨a8, dIA⟩, rfl, ⟨Lp, kI, a7, rfl, rfl, sI⟩, sA⟩
  have hargs : (Value.func (.yield (w.heap.size + 1)) #[] #[] :: lb).toArray = #[.func (.yield (w.heap.size + 1)) #[] #[]] ++ lb.toArray := by simp
  rw [hargs] at cc
  refine CallsIn.mono (F := WF none) cc ?_
  rintro ee w3 ⟨x, M3, h3, rfl, hx, le3, dj3, t3, s3⟩
  have stN : ∀ (o : Obj) (Gs : List HP) (m : Res), (Res.one (w.heap.size + 1) o).dj m → ((Res.one (w.heap.size + 1) o).add m).dj ((D.add g1).add hfr) → Sat w3 M3 (((Res.one (w.heap.size + 1) o).add m).add ((D.add g1).add hfr)) → SL Gs M3 m → ∀ o' : Obj,
      St n L Gs { a with defers := [{ target := .collected w.heap.size, args := #[] }] ++ a.defers } M3 ((D.add g1).add m) ∧ ((D.add g1).add m).dj hfr ∧ Sat (w3.putObj (w.heap.size + 1) o') M3 (((D.add g1).add m).add hfr) := by
   intro o Gs m dom djm tm sm o'
   obtain ⟨u1, u2⟩ := Res.dj_add_left.1 djm
   obtain ⟨u3, u4⟩ := Res.dj_add_right.1 u2
   obtain ⟨u5, u6⟩ := Res.dj_add_right.1 u3
   obtain ⟨u7, u8⟩ := Res.dj_add_right.1 u1
   refine ⟨⟨fr, D.add g1, m, Res.dj_comm u3, rfl, ?_, sm⟩, Res.dj_add_left.2 ⟨Res.dj_add_left.2 ⟨b4, q1⟩, u4⟩, ?_⟩
   · refine ⟨D, g1, b5, rfl, ⟨w.heap.size, Res.emp, D, Res.emp_dj _, rfl, rfl, D, Res.emp, Res.dj_emp _, (Res.add_emp _).symm, rfl, trivial⟩, SL.mono le3 sd⟩
   · rw [Res.add_assoc] at tm
     have dX : (Res.one (w.heap.size + 1) o).dj (m.add ((D.add g1).add hfr)) := Res.dj_add_right.2 ⟨dom, u1⟩
     have t7 := Sat.putObj (o' := o') dX tm
     have eq7 : m.add ((D.add g1).add hfr) = ((D.add g1).add m).add hfr := by rw [← Res.add_assoc, Res.add_comm u3]
     rw [eq7] at t7
     exact t7.le (Res.le_add_right (by rw [← eq7]; exact dj_one_any dX))
  obtain ⟨x, all⟩ := x
  obtain ⟨hx, hfin⟩ := hx
  dsimp only at hx hfin s3 ⊢
  obtain ⟨m1, m2, dm, e, sm1, sm2⟩ := s3
  subst e
  cases x with
  | none =>
    obtain ⟨o1, o2, do12, e, ho1, so2⟩ := sm1
    have ho1' : o1 = Res.one _ _ := ho1
    subst ho1'
    subst e
    have hb : w3.heap[w.heap.size + 1]? = some (.loop (rec .ready none)) := t3.ow _ _ (by simp [Res.add, Res.one])
    refine ⟨none, _, by have := run_endLoop (P := P) hb (by rw [hrec]; simp); rw [hrec] at this; exact this, ?_⟩
    obtain ⟨v1, v2⟩ := Res.dj_add_left.1 dm
    rw [Res.add_assoc (Res.one _ _) o2 m2] at t3 dj3
    obtain ⟨w1, w2, w4⟩ := stN _ (I all ++ Bs) (o2.add m2) (Res.dj_add_right.2 ⟨do12, v1⟩) dj3 t3 (SL.append v2 so2 sm2) (.loop { rec .ready none with state := .exhausted })
    have := done all (hfin rfl) _ M3 _ w1
    rw [hrec] at w4
    exact ⟨M3, _, le3, w2, w4, this⟩
  | some pre =>
    obtain ⟨j, o1, o2, do12, e, ho1, so2⟩ := sm1
    have ho1' : o1 = Res.one _ _ := ho1
    subst ho1'
    subst e
    have hb : w3.heap[w.heap.size + 1]? = some (.loop (rec .done (some (jc j)))) := t3.ow _ _ (by simp [Res.add, Res.one])
    refine ⟨some (jc j), _, by have := run_endLoop (P := P) hb (by rw [hrec]; simp); rw [hrec] at this; exact this, ?_⟩
    obtain ⟨v1, v2⟩ := Res.dj_add_left.1 dm
    rw [Res.add_assoc (Res.one _ _) o2 m2] at t3 dj3
    obtain ⟨w1, w2, w4⟩ := stN _ (Ix j pre ++ Bs) (o2.add m2) (Res.dj_add_right.2 ⟨do12, v1⟩) dj3 t3 (SL.append v2 so2 sm2) (.loop { rec .done (some (jc j)) with state := .exhausted })
    rw [hrec] at w4
    exact wpIn_mono (stop j pre (hx pre rfl) _ M3 _ w1 _ _ w2 w4) (fun _ _ _ q => lift_le le3 q)
theorem p_rangeFuncB {α : Type} {g : Nat} {lb : List Value} {enc : α → List Value} {ok : List α → α → Prop} {stopped : List α → Prop} {R : HP} {As Bs : List HP} {all : List α} {val : Option (List α) → Value}
    (I : List α → List HP) (Ix : Option Nat → List α → List HP) (I0 : List α → List HP) (hc : c = .rangeFunc (rF c) (rP c) (rA c) (rB c))
    (it : IterB P g lb enc ok stopped R As Bs all val)
    (hf : ev L (rF c) = some (.func (.func g) #[] lb.toArray))
    (hps : ∀ x, (enc x).length = (rP c).size) (hpn : (rP c).toList.all (fun p => Nat.blt p n) = true)
    (h1 : ∀ pre, Ent (I pre) (R :: I0 pre)) (h2 : ∀ pre, Ent (R :: I0 pre) (I pre))
    (ha : Ent Hs (I [] ++ As))
    (round : ∀ (l : Nat) (pre : List α) (x : α), ok pre x → wc (some l) P n (rA c) (bindL (rP c).toList (enc x) L) (I pre) (asgO (some l) P (rB c) (roundO I Ix (pre ++ [x]))))
    (done : tw n Q .normal L (I all ++ Bs))
    (stop : ∀ (j : Option Nat) (pre : List α), stopped pre → wc none P n (jc j) L (Ix j pre ++ Bs) Q) : wc none P n c L Hs Q := by
 rw [hc]
 refine wc_rangeFuncG (fin := fun l => l = all) I Ix hf (fun l => ⟨_, _, _, _, _, it (.func (.yield l) #[] #[]) (fun _ => ⟨fun _ _ => False, fun _ e => e⟩) (fun _ => ⟨fun _ _ => False, fun _ e => e⟩) (fun _ => ⟨fun _ _ => False, fun _ e => e⟩) ⟨_, rfl, fun _ _ _ _ _ _ _ _ _ e => e.elim⟩ (fun _ => ⟨fun ⟨_, _, _, _, e, _⟩ => e.elim⟩) (fun _ => ⟨fun ⟨_, _, _, _, _, _, _, _, _, e, _⟩ => e.elim⟩)⟩) (fun b o y Jx ys => (it y _ (fun pre => Al (Blk b o :: I0 pre)) Jx ys (fun pre => ?_) (fun pre => ?_)).mono (Ent.refl _) fun x hx => ⟨(x, all), rfl, ⟨hx, fun _ => rfl⟩, Ent.refl _⟩) hps hpn ha round (fun l e => by subst e; exact done) stop
 · exact ent_al_one.trans ((ent_cons (A := Blk b o) (h1 pre)).trans ((ent_cons (A := R) (Ent.refl _)).trans (ent_cons ent_one_al)))
 · exact ent_al_last.trans (((ent_cons (A := Blk b o) (Ent.refl _)).trans (ent_cons (h2 pre))).trans ent_one_al)
end
end
section
set_option maxRecDepth 100000
theorem zbb150next0 {G : Prop} (h : G := by
    refine to_inv ⟨j + 1, by omega⟩ (by dsimp only; omega) ⟨rfl, rfl, rfl, rfl, rfl, rfl, rfl, trivial⟩ ?_
    dsimp only
    rw [hfs]
    exact ent_pick) : G := h
theorem store_From_itB (c1 c2 s p : Nat) (J : Jn) (ks : Ks) (q : Bs) (hks : ks.length ≤ 4398046511104) : IterB Tryz.prog 150 [.pointer (some ⟨c1, 0, none⟩), .pointer (some ⟨c2, 0, none⟩)] (fun x : Bs × Value => [vS x.1, x.2]) (okL (fromS ks q)) (stopL (fromS ks q)) (IsS s p J ks)
    [Ce c1 72 [.pointer (some ⟨s, 0, none⟩)], Ce c2 9 [vS q]] [Ce c1 72 [.pointer (some ⟨s, 0, none⟩)], Ce c2 9 [vS q]] (fromS ks q) (fun _ => .tuple #[]) := by
 intro y Jy J0 Jx ys hj1 hj2
 have hkl := keysS_len ks
 refine Sp.body (n := 33) Tryz.call150 Tryz.func150 rfl rfl rfl ?_
 refine wc_ent' (ent_open2 (hj1 []) (Ent.refl _)) ?_
 refine wc_front (IsS s p J ks) ?_
 refine wc_exi fun jq => wc_exi fun b => wc_al ?_
 refine Qc (k:=Zd (k:=Vv (k:=Qx 1 93 (k:=?_))))
 refine r_callX (maps_Clone_sp b ks) rfl rfl rfl (fun b' _ => ?_)
 refine Vv (k:=Wq (Qc (k:=Vv (k:=?_))))
 refine r_callX (maps_Keys_sp (some b')) rfl rfl rfl (fun cb _ => ?_)
 refine r_callX (slices_Sorted_sp (maps_Keys_it cb b' ks) ks.length hks (fun pre x h => h.2.2) (fun l h => by have := h.length_eq; simp at this; omega)) rfl rfl rfl (fun xs hxs => ?_)
 obtain ⟨⟨sa, sc⟩, al⟩ := xs
 have hse : sortB al = keysS ks := sortB_eq hxs
 have hal : al.length = ks.length := by have := hxs.length_eq; simpa using this
 dsimp only
 rw [hse, hal]
 refine Qv (k:=Wq (Zb (k:=?_)))
 refine p_loop (fun (i : { j : Nat // j ≤ ks.length }) => [(0, y), (1, .pointer (some ⟨c1, 0, none⟩)), (2, .pointer (some ⟨c2, 0, none⟩)), (4, .map (some b')), (14, .slice sa ks.length sc), (15, vI ks.length), (16, vI i.1)]) (fun (i : { j : Nat // j ≤ ks.length }) => [Jy (fromL ks q ((keysS ks).take i.1)), Row 9 1 (.slice sa ks.length sc) ks.length ((keysS ks).map vS), MapS b' ks, Ce c1 72 [.pointer (some ⟨s, 0, none⟩)], Ce c2 9 [vS q]]) (fun (i : { j : Nat // j ≤ ks.length }) => ks.length - i.1) rfl (⟨0, Nat.zero_le _⟩) ?_ ?_ (fun i => ?_)
 · exact ⟨rfl, rfl, rfl, rfl, rfl, rfl, rfl, trivial⟩
 ·
  dsimp only
  rw [show fromL ks q ((keysS ks).take 0) = [] from rfl]
  refine ent_fold2 (hj2 []) ?_
  exact ent_step (fold_isS jq b rfl rfl rfl) ent_pick
 obtain ⟨j, hj⟩ := i
 try dsimp only
 refine Qc (k:=Vv (k:=Wq (Za (k:=Zi (t:=fun h17 => ?_) (f:=fun h17 => ?_)))))
 ·
  refine Zk (k:=Ya (Za (k:=Zb (k:=Za (k:=?_)))))
  have hjl : j < (keysS ks).length := by omega
  have hml := mlook_mem (keysS_mem.1 (List.getElem_mem hjl))
  obtain ⟨v, hv⟩ := Option.isSome_iff_exists.1 hml
  have hst : (keysS ks).take (j + 1) = (keysS ks).take j ++ [(keysS ks)[j]] := List.take_succ_eq_append_getElem hjl
  have hff : fromS ks q = fromL ks q ((keysS ks).take j) ++ fromL ks q [(keysS ks)[j]] ++ fromL ks q ((keysS ks).drop (j + 1)) := by
   have e : keysS ks = (keysS ks).take j ++ ([(keysS ks)[j]] ++ (keysS ks).drop (j + 1)) := by rw [List.singleton_append, ← List.drop_eq_getElem_cons hjl, List.take_append_drop]
   unfold fromS
   conv => lhs; rw [e]
   simp only [fromL, List.filter_append, List.map_append, List.append_assoc]
  have hfs : fromL ks q ((keysS ks).take (j + 1)) = fromL ks q ((keysS ks).take j) ++ fromL ks q [(keysS ks)[j]] := by rw [hst]; simp only [fromL, List.filter_append, List.map_append]
  refine Zr (k:=Ye 1 (k:=Ym (k:=Vv (k:=Wq (Qc (k:=Vv (k:=Zd (k:=?_))))))))
  refine r_callF (HasPrefix_sp (keysS ks)[j] q) rfl rfl rfl ?_
  refine Vv (k:=Gi 3 (t:=fun h23 => ?_) (f:=fun h23 => ?_))
  ·
   have hone : fromL ks q [(keysS ks)[j]] = [((keysS ks)[j], v)] := by simp [fromL, h23, hv]
   rw [hone] at hff hfs
   refine J1 (k:=J1 (k:=J1 (k:=J1 (k:=I1 (k:=?_)))))
   refine r_lookup (v := v) Tryz.underlying93 Tryz.underlying9 ti9 rfl rfl rfl (by simp only [hv]; rfl) rfl ?_
   refine I1 (k:=?_)
   refine r_yield ys (fromL ks q ((keysS ks).take j)) ((keysS ks)[j], v) ⟨_, by rw [hff, List.append_assoc, List.singleton_append]⟩ rfl rfl rfl ?_ ?_
   ·
    refine J1 (k:=P1 (k:=Wq (Z0 (k:=Zk (k:=Yb (Ya (Zr (k:=Qv (k:=Wn ?_)))))))))
    exact zbb150next0
   ·
    refine J1 (k:=P1 (k:=Wq (Z1 (k:=Zt (k:=Vb (Va (Vi (Vb ?_))))))))
    refine fin_ret (some (fromL ks q ((keysS ks).take (j + 1)))) (vs := []) (Cs := []) rfl .nil rfl (fun pre e => by cases e; exact ⟨by rw [hfs]; simp, _, by rw [hff, hfs]⟩) ?_
    simp only [endsAt]
    rw [hfs]
    exact ent_pick
  ·
   have hone : fromL ks q [(keysS ks)[j]] = [] := by simp [fromL, h23]
   rw [hone, List.append_nil] at hfs
   refine O0 (k:=O0 (k:=O0 (k:=O0 (k:=O0 (k:=O0 (k:=O0 (k:=P0 (k:=Wq (Z0 (k:=Zk (k:=Yb ?_)))))))))))
   refine Ya (Zr (k:=Qv (k:=Wn ?_)))
   exact zbb150next0
 ·
  refine Ze (k:=Xa (Xi (Xb ?_)))
  have hj2 : j = (keysS ks).length := by omega
  subst hj2
  refine fin_end none (vs := []) (Cs := []) rfl .nil rfl (fun pre e => by cases e) ?_
  simp only [endsAt]
  rw [List.take_length, show fromL ks q (keysS ks) = fromS ks q from rfl]
  exact ent_pick
end
end Go.Proofs.YtibccdcemcgkeaaGreat
