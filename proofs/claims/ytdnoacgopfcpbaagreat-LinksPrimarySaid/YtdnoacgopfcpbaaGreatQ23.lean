/- Texts of this proof, put together: P17P, MapB, MapXL, SFiles0, SDiff, SChanges, MapIns, SChain18, SSameS, LawLinksRuns. -/
import Derived.Test.YtdnoacgopfcpbaaGreatQ22
set_option linter.unusedVariables false
set_option linter.unusedSimpArgs false
namespace Go.Proofs.YtdnoacgopfcpbaaGreat
section
def aText : Bs := [97, 32, 116, 101, 120, 116]
def lpP (a k : Nat) : List Bs := (List.range k).map (lpX a)
theorem lpP_succ (a k : Nat) : lpP a (k + 1) = lpP a k ++ [lpX a k] := by simp [lpP, List.range_succ]
theorem lpP_len (a k : Nat) : (lpP a k).length = k := by simp [lpP]
theorem lpP_isN {a k : Nat} : ∀ p ∈ lpP a k, isN p = true := by
 intro p hp
 obtain ⟨i, _, rfl⟩ := List.mem_map.1 hp
 exact isN_sha _
theorem lpP_nodup {a k : Nat} (ha : a ≤ 200) (hk : k ≤ 3) : (lpP a k).Nodup := by
 have d := lp_all ha
 have e1 := d.d01
 have e2 := d.d02
 have e3 := d.d12
 rcases (by omega : k = 0 ∨ k = 1 ∨ k = 2 ∨ k = 3) with rfl | rfl | rfl | rfl
 · simp [lpP]
 · simp [lpP, List.range_succ]
 · simp [lpP, List.range_succ, e1]
 · simp [lpP, List.range_succ, e1, e2, e3]
structure LpQ (ps : List Bs) : Prop where
 n : ∀ p ∈ ps, isN p = true
 nd : ps.Nodup
 lo : 1 ≤ ps.length
 hi : ps.length ≤ 3
def lpC (ps : List Bs) : Ck := ckMe ps [] me 0
def lpH (ps : List Bs) : Ks := [([99], vS (ckB (lpC ps))), ([116], vS aText)]
def lpL (ps : List Bs) : List (Bs × Bs) := [([99], ckB (lpC ps)), ([116], aText)]
theorem aText_no : readK aText = none := readK_noZ (by decide)
section
variable {ps : List Bs} (h : LpQ ps)
include h
theorem lpC_right : RightK (lpC ps) := right_me h.n h.nd h.hi right_t0 me_word (by decide)
theorem lp_held : HeldP (lpH ps) (lpL ps) := by
 refine ⟨List.Perm.refl _, by simp [lpL], fun p hp => ?_⟩
 have h1 := ckB_len (lpC_right h)
 simp only [lpL, List.mem_cons, List.not_mem_nil, or_false] at hp
 rcases hp with rfl | rfl
 · dsimp only; omega
 · decide
theorem lp_cks : cksL (lpH ps) = [([99], lpC ps)] := by
 rw [(lp_held h).cks_eq (by simp only [lpL, List.map_cons, List.map_nil]; decide)]
 simp [lpL, right_read (lpC_right h), aText_no]
theorem lp_pl : plF (cksL (lpH ps)) = ps.map fun p => ⟨[99], p, decide (p = ps.headD [])⟩ := by
 rw [lp_cks h]
 simp [plF, plOf, lpC, firstB, ckMe]
theorem lp_pri : priB (lpH ps) [99] = ps.headD [] := by
 unfold priB
 rw [(lp_held h).get (p := ([99], ckB (lpC ps))) (by simp [lpL]), right_read (lpC_right h)]; rfl
theorem lp_pri2 : priB (lpH ps) [116] = [] := by
 unfold priB
 rw [(lp_held h).get (p := ([116], aText)) (by simp [lpL]), aText_no]; rfl
theorem lp_chl {pre : List CkN} (name : Bs) (hf : finC (lpH ps) pre) : (chlF name pre).length = if name ≠ [] ∧ ps.headD [] = name then 1 else 0 := by
 rw [chlF_key, show pre.map ckKey = cksL (lpH ps) from hf, lp_cks h, List.filter_cons, show firstB (lpC ps) = ps.headD [] from rfl]
 by_cases hh : name ≠ [] ∧ ps.headD [] = name
 · rw [if_pos (decide_eq_true hh), if_pos hh]; rfl
 · rw [if_neg (fun e => hh (of_decide_eq_true e)), if_neg hh]; rfl
/-- The i-th one is the first one. -/
theorem lp_at {i : Nat} (hi : i < ps.length) : ((ps[i] ≠ [] ∧ ps.headD [] = ps[i]) ↔ i = 0) := by
 have h0 : ps.headD [] = ps[0]'(by omega) := by
  cases ps with
  | nil => simp at hi
  | cons a r => rfl
 have hn := isN_len (h.n ps[i] (List.getElem_mem hi))
 rw [h0]
 constructor
 · rintro ⟨_, e⟩
   exact (nodup_inj h.nd (by omega) hi e).symm
 · rintro rfl
   exact ⟨fun e => by rw [e] at hn; simp at hn, rfl⟩
end
/-- Those that are the first one's. -/
def cntP (l : List Pl) : Nat := l.countP fun x => x.prim
theorem cntP_one {ps : List Bs} (h : LpQ ps) {q : List Pl} (hq : q.Perm (ps.map fun p => ⟨[99], p, decide (p = ps.headD [])⟩)) : cntP q = 1 := by
 unfold cntP
 rw [hq.countP_eq, List.countP_map]
 have h0 : ps.headD [] ∈ ps := by
  cases hp : ps with
  | nil => have := h.lo; rw [hp] at this; simp at this
  | cons a r => simp
 have e : ((fun x : Pl => x.prim) ∘ fun p : Bs => (⟨[99], p, decide (p = ps.headD [])⟩ : Pl)) = fun p => p == ps.headD [] := by
  funext p
  rw [Bool.eq_iff_iff]
  simp
 rw [e]
 have := h.nd.count (a := ps.headD [])
 rw [if_pos h0] at this
 exact this
theorem pl_mem {ps : List Bs} {q : List Pl} (hq : q.Perm (ps.map fun p => ⟨[99], p, decide (p = ps.headD [])⟩)) {x : Pl} (hx : x ∈ q) : x.child = [99] ∧ x.prim = decide (x.parent = ps.headD []) := by
 obtain ⟨p, _, rfl⟩ := List.mem_map.1 (hq.mem_iff.1 hx)
 exact ⟨rfl, rfl⟩
theorem cntP_take {q : List Pl} {j : Nat} (hj : j < q.length) : cntP (q.take (j + 1)) = cntP (q.take j) + if q[j].prim then 1 else 0 := by
 unfold cntP
 rw [List.take_succ_eq_append_getElem hj, List.countP_append, List.countP_cons, List.countP_nil]
 omega
end
section
section
variable {r : Option Nat} {P : Program} {n : Nat} {ops : Array Oper} {os : List Oper} {A : List HP} {L : Loc} {Hs : List HP} {Q : Out} {ty : TypeId} {d : Nat} {pos : String} {after : Array Edge} {c : Code}
theorem an_newE {K : Loc → List HP → Prop} {op : Op} {d : Nat} {o : Obj} {val : Nat → Value} (B : Nat → HP) (hB : ∀ M b, (B b).at_ M (Res.one b o)) (hd : Nat.blt d n = true)
    (hrun : ∀ (a : Act), Fr n L a → ∀ (w : World) (dst : Option Tmp) (pos : String) (after : Array Edge) (guard : Option (Nat × Bool)),
     (execOp a.eval ⟨dst, op, ty, pos, after, guard⟩).run P w = .ok (.value (val w.heap.size)) (w.alloc o))
    (k : ∀ b, K ((d, val b) :: L) (B b :: Hs)) : AnOp r P n ops A ⟨some d, op, ty, pos, after, none⟩ K L Hs := by
 refine ⟨hd, .inr ⟨.inl rfl, Nat, val, fun _ => True, [], Hs, fun b => [B b], Ent.refl _, ?_, fun b _ => k b⟩⟩
 intro a fr w M h hA hf dj dj' s sA t
 rw [hrun a fr w]
 have t2 := t.alloc o
 obtain ⟨f1, f2⟩ := fresh_none t
 obtain ⟨f3, f4⟩ := Res.add_none.1 f2
 obtain ⟨f5, f6⟩ := Res.add_none.1 f3
 refine ⟨w.heap.size, M, (Res.one w.heap.size o).add h, rfl, trivial, Kn.le_refl _, Res.dj_add_left.2 ⟨one_dj f6, dj⟩, ?_, ?_, Res.one w.heap.size o, h, one_dj f5, rfl, hB _ _, trivial⟩
 · obtain ⟨x1, x2⟩ := Res.dj_add_left.1 dj'
   exact Res.dj_add_left.2 ⟨Res.dj_add_left.2 ⟨one_dj f4, x1⟩, x2⟩
 · rw [Res.add_assoc, Res.add_assoc]
   rw [Res.add_assoc] at t2
   exact t2
end
end
end Go.Proofs.YtdnoacgopfcpbaaGreat
/- Map literals of other keys. -/
namespace Go.Proofs.YtdnoacgopfcpbaaGreat.MX
section
variable {α : Type} {r : Option Nat} {P : Program} {n : Nat} {ops : Array Oper} {os : List Oper} {A : List HP} {L : Loc} {Hs : List HP} {Q : Out} {ty : TypeId} {d : Nat} {pos : String} {after : Array Edge} {c : Code}
theorem an_mkmap {K : Loc → List HP → Prop} {E : KeyE α} {t : TypeId} (hd : Nat.blt d n = true) (k : ∀ b, K ((d, .map (some b)) :: L) (MapS E b [] :: Hs)) : AnOp r P n ops A ⟨some d, .makeMap t none, ty, pos, after, none⟩ K L Hs :=
 an_newE (o := .map #[] 0) (val := fun b => .map (some b)) (fun b => MapS E b []) (fun M b => ⟨_, _, rfl, MapG.nil⟩) hd (fun a f w dst pos after guard => by simp [execOp, Instr.makeMap, newObj, Sem.run]) k
theorem opt_insert [DecidableEq α] {E : KeyE α} {t kt e : TypeId} {x y z : Operand} {b : Nat} {ks : Ks α} {k : α} {v : Value} (ht : P.underlying t = some (.map kt e)) (hk : KeyP P kt E)
    (hx : ev L x = some (.map (some b))) (hy : ev L y = some (E.enc k)) (hz : ev L z = some v) :
    OpT r P n ⟨none, .insert t x y z, ty, pos, after, none⟩ A L [MapS E b ks] (fun _ : Unit => undef) (fun _ => True) (fun _ => [MapS E b (mput ks k v)]) :=
 opt_mapUpdate (pos := pos) (after := after) (ty := ty) ht hk hx hy hz
theorem r_insert [DecidableEq α] {E : KeyE α} {t kt e : TypeId} {x y z : Operand} {b : Nat} {ks : Ks α} {k : α} {v : Value} {Rs : List HP} (ht : P.underlying t = some (.map kt e)) (hk : KeyP P kt E)
    (hx : ev L x = some (.map (some b))) (hy : ev L y = some (E.enc k)) (hz : ev L z = some v) [h : MapPC E b ks Hs Rs] (K : wo r P n ops os L (MapS E b (mput ks k v) :: Rs) Q) : wo r P n ops (⟨none, .insert t x y z, ty, pos, after, none⟩ :: os) L Hs Q := by
 haveI : PicksC [MapS E b ks] Hs Rs := ⟨.cons h.get .nil⟩
 exact wo_opT (by intro c; simp) (opt_insert ht hk hx hy hz (ks := ks)) rfl (fun _ _ => K)
theorem an_insert [DecidableEq α] {E : KeyE α} {K : Loc → List HP → Prop} {t kt e : TypeId} {x y z : Operand} {b : Nat} {ks : Ks α} {k : α} {v : Value} {Rs : List HP} (ht : P.underlying t = some (.map kt e)) (hk : KeyP P kt E)
    (hx : ev L x = some (.map (some b))) (hy : ev L y = some (E.enc k)) (hz : ev L z = some v) [h : MapPC E b ks Hs Rs] (k' : K L (MapS E b (mput ks k v) :: Rs)) : AnOp r P n ops A ⟨none, .insert t x y z, ty, pos, after, none⟩ K L Hs := by
 haveI : PicksC [MapS E b ks] Hs Rs := ⟨.cons h.get .nil⟩
 exact an_opT (opt_insert ht hk hx hy hz (ks := ks)) rfl (fun _ _ => k')
theorem an_lookup [DecidableEq α] {E : KeyE α} {K : Loc → List HP → Prop} {t kt e : TypeId} {i : TypeInfo} {z : Value} {x y : Operand} {b : Nat} {ks : Ks α} {k : α} {ok : Bool} {v : Value} (ht : P.underlying t = some (.map kt e)) (hk : KeyP P kt E) (hi : P.info? e = some i) (hz : i.zero = some z)
    (hx : ev L x = some (.map (some b))) (hy : ev L y = some (E.enc k)) [hr : HasC (MapS E b ks) Hs] (hv : (if ok then Value.tuple #[(mlook ks k).getD z, .bool (mlook ks k).isSome] else (mlook ks k).getD z) = v) (hd : Nat.blt d n = true) (kk : K ((d, v) :: L) Hs) : AnOp r P n ops A ⟨some d, .lookup t x y ok, ty, pos, after, none⟩ K L Hs := by
 subst hv
 refine an_read hr.get hd (fun a f w M h h1 hf t' le yy => ?_) kk
 obtain ⟨es, clock, e1, g⟩ := yy
 have hb : w.heap[b]? = some (.map es clock) := t'.ow _ _ (Res.le_add_left _ _ _ _ (le _ _ (by rw [e1]; exact Res.one_same _ _)))
 simp [execOp, f.ev hx, f.ev hy, run_mlook ht hk hi hz hb g k ok]
end
/-- yes and no. -/
abbrev yn (u v : Value) : Ks Bool := mput (mput [] true u) false v
abbrev ny (u v : Value) : Ks Bool := mput (mput [] false v) true u
theorem yn_look (u v z : Value) (b : Bool) : (mlook (yn u v) b).getD z = if b then u else v := by cases b <;> rfl
theorem ny_look (u v z : Value) (b : Bool) : (mlook (ny u v) b).getD z = if b then u else v := by cases b <;> rfl
end Go.Proofs.YtdnoacgopfcpbaaGreat.MX
namespace Go.Proofs.YtdnoacgopfcpbaaGreat
section
set_option maxRecDepth 100000
theorem zb59ret3 {G : Prop} (h : G := by exact fin_ret (xa.fa, xa.fc) (vs := [_, _]) (Cs := []) rfl (.tmp rfl (.tmp rfl .nil)) rfl ⟨hkn.1, hkn.2.2⟩ ent_pick) : G := h
theorem files_Of0_sp (b : Nat) (H : Ks) (hH : TxtK H) (hB : NoBase H) (name : Bs) : OfSp Tryz.prog 59 b H name := by
 obtain ⟨htx, htl⟩ := hH.get name
 have hRd := checkin_Read_sp (getB H name) htl
 unfold OfSp
 refine Sp.body (n := 90) Tryz.call59 Tryz.func59 rfl rfl rfl ?_
 refine Qc (k:=Qv (k:=Wq (Qc (k:=Qv (k:=?_)))))
 refine r_lookup (v := vS (getB H name)) Tryz.underlying31 Tryz.underlying9 ti9 rfl rfl rfl htx rfl ?_
 refine r_callX hRd rfl rfl rfl (fun x19 hx19 => ?_)
 obtain ⟨xa, ck⟩ := x19
 obtain ⟨hck, hpc⟩ := hx19
 dsimp only at hck hpc ⊢
 have hbs : ck.base = [] := by
  rw [hck]
  cases e : readK (getB H name) with
  | none => rfl
  | some k => exact hB _ _ e
 have hof : (ofF H name).getD [] = ck.files ∧ (ofF H name).isSome = (readK (getB H name)).isSome := by
  unfold ofF
  rw [hck]
  cases e : readK (getB H name) with
  | none => exact ⟨rfl, rfl⟩
  | some k =>
    dsimp only
    rw [if_pos (hB _ _ e)]
    exact ⟨rfl, rfl⟩
 rw [hof.1, hof.2]
 refine Vv (k:=?_)
 refine wo_pv (pv_extract (v := .agg #[vS ck.base, vS ck.comment, vI ck.date, .slice xa.fa ck.files.length xa.fc, .slice xa.pa ck.parents.length xa.pc, .slice xa.ta ck.tags.length xa.tc, vS ck.user]) rfl rfl) rfl ?_
 refine wo_pv (pv_extract (v := vB (readK (getB H name)).isSome) rfl rfl) rfl ?_
 refine Zc [vS [], vS [], .int .i64 0, .slice none 0 0, .slice none 0 0, .slice none 0 0, vS []] (k:=fun b6 => Zp (k:=Vv (k:=Wq (Za (k:=Za (k:=?_))))))
 refine wc_know (A := Row 25 2 (.slice xa.fa ck.files.length xa.fc) ck.files.length (ck.files.flatMap flCells)) HasC.get row_know (fun hkn => ?_)
 refine wc_frzR xa.fa ?_
 refine Zr (k:=Qv (k:=Vv (k:=Gi 2 (t:=fun h24 => ?_) (f:=fun h24 => ?_))))
 ·
  refine O1 (k:=O1 (k:=O1 (k:=P1 (k:=Wq (Z1 (k:=Qc (k:=Qx 3 26 (k:=Qv (k:=?_)))))))))
  refine Vv (k:=Wq (Zt (k:=Va ?_)))
  exact zb59ret3
 ·
  refine I0 (k:=Vf 0 9 (k:=I0 (k:=Zd (k:=J0 (k:=P0 (k:=Wq (Zi (t:=fun h28 => ?_) (f:=fun h28 => ?_))))))))
  ·
   refine Qc (k:=Qx 3 26 (k:=Qv (k:=Vv (k:=Wq (Zt (k:=Va ?_))))))
   exact zb59ret3
  ·
   exact absurd hbs (by simp_all)
   --done
end
section
set_option maxRecDepth 100000
theorem dW_1 {ol wl : Fs} (h : wl.length = 0) : true = dW ol wl := (decide_eq_true (.inl h)).symm
theorem dW_2 {ol wl : Fs} (h : ¬ wl.length = 0) (h2 : 0 < ol.length) : (blt (hdF ol).1 (hdF wl).1 || decide ((hdF ol).1 = (hdF wl).1)) = dW ol wl := by
 unfold dW
 rw [blt_eq]
 by_cases e : (hdF ol).1 ≤ (hdF wl).1
 · rw [decide_eq_true (p := _ ∨ _) (.inr ⟨h2, e⟩)]
   by_cases e2 : (hdF ol).1 = (hdF wl).1
   · simp [e2]
   · have : (hdF ol).1 < (hdF wl).1 := Std.lt_of_le_of_ne e e2
     simp [this]
 · rw [decide_eq_false (p := _ ∨ _) (by rintro (h3 | ⟨_, h3⟩); exact h h3; exact e h3)]
   have h3 : ¬ (hdF ol).1 < (hdF wl).1 := fun h3 => e (List.le_of_lt h3)
   have h4 : ¬ (hdF ol).1 = (hdF wl).1 := fun h4 => e (by rw [h4]; exact List.le_refl _)
   simp [h3, h4]
theorem dW_3 {ol wl : Fs} (h : ¬ wl.length = 0) (h2 : ¬ 0 < ol.length) : false = dW ol wl := (decide_eq_false (by rintro (h3 | ⟨h3, _⟩); exact h h3; exact h2 h3)).symm
structure DfS where
 ol : Fs
 wl : Fs
 oa : Option Addr
 oc : Nat
 wa : Option Addr
 wc : Nat
 acc : List Ml
 ma : Option Addr
 mc : Nat
 k : Nat
structure DfS.Ok (x : DfS) (D : List Ml) : Prop where
 oc : x.ol.length ≤ x.oc
 wc : x.wl.length ≤ x.wc
 os : ∀ b, x.oa = some b → b.spot = none
 ws : ∀ b, x.wa = some b → b.spot = none
 le : x.ol.length + x.wl.length ≤ x.k
 eq : x.acc ++ diffK x.k x.ol x.wl = D
theorem zb60next0 {G : Prop} (h : G := by
    first
    | (have hne2 : ¬ (dM ol wl).old = (dM ol wl).new := by assumption
       refine to_inv ⟨⟨dOl ol wl, dWl ol wl, oa3, oc3, wa3, wc3, acc ++ [dM ol wl], a84, c84, k'⟩, ⟨ho3, hw3, hs3, hv3, by dsimp only; omega, by dsimp only; rw [← k6, if_neg hne2]; simp⟩⟩ (by dsimp only; omega) ⟨rfl, rfl, sl_eq (by simp), trivial⟩ ?_
       dsimp only
       simp only [List.length_append, List.length_cons, List.length_nil, Nat.zero_add, List.flatMap_append, List.flatMap_cons, List.flatMap_nil, List.append_nil, show mlCells (dM ol wl) = [vS [], vS (dM ol wl).name, vS (dM ol wl).old, vS (dM ol wl).new] from rfl]
       exact ent_pick)
    | (have he2 : (dM ol wl).old = (dM ol wl).new := Classical.not_not.1 (by assumption)
       refine to_inv ⟨⟨dOl ol wl, dWl ol wl, oa3, oc3, wa3, wc3, acc, ma, mc, k'⟩, ⟨ho3, hw3, hs3, hv3, by dsimp only; omega, by dsimp only; rw [← k6, if_pos he2]; simp⟩⟩ (by dsimp only; omega) ⟨rfl, rfl, rfl, trivial⟩ ?_
       dsimp only
       exact ent_pick)) : G := h
theorem zb60join11 {G : Prop} (h : G := by
    first
    | (have htt : dT ol wl = true := decide_eq_true ⟨by omega, by rw [← hw2]; first | exact .inl (by simpa using h54) | exact .inr (by assumption)⟩
       refine to_inv ⟨(fromA wa2 1 wc2 2, wc2 - 1), by dsimp only; rw [dWl, if_pos htt, List.length_tail]; omega, spot_from k4⟩ trivial ⟨rfl, by dsimp only; rw [dWl, if_pos htt, List.length_tail]; rfl, rfl, rfl, trivial⟩ ?_
       dsimp only
       rw [dM]
       dsimp only
       rw [dWl, if_pos htt, if_pos htt, if_pos htt, ← fl_tail (by omega)]
       exact (sli_from (a := wa2) (sz := 2) (k := wl.length) (c' := wc2) (m := 1) (kk := 2) (xs := wl.flatMap flCells) HasC.get hfw rfl (by omega) k2).trans ent_pick)
    | (have htf : dT ol wl = false := decide_eq_false (by rw [← hw2]; rintro ⟨h1, h2 | h2⟩ <;> first | omega | simp_all)
       refine to_inv ⟨(wa2, wc2), by dsimp only; rw [dWl, if_neg (by rw [htf]; simp)]; omega, k4⟩ trivial ⟨rfl, by dsimp only; rw [dWl, if_neg (by rw [htf]; simp)]; rfl, rfl, rfl, trivial⟩ ?_
       dsimp only
       rw [dM]
       dsimp only
       rw [dWl, if_neg (by rw [htf]; simp), if_neg (by rw [htf]; simp), if_neg (by rw [htf]; simp)]
       exact ent_pick)) : G := h
theorem zb60join8 {G : Prop} (h : G := by
    first
    | (have hwt : dW ol wl = true := hw2.symm.trans (by assumption)
       refine to_inv ⟨(fromA oa2 1 oc2 2, oc2 - 1), by dsimp only; rw [dOl, if_pos hwt, List.length_tail]; omega, spot_from k3⟩ trivial ⟨by dsimp only; rw [dOl, if_pos hwt, List.length_tail]; rfl, rfl, rfl, rfl, rfl, trivial⟩ ?_
       dsimp only
       rw [dN, dO, dOl, if_pos hwt, if_pos hwt, if_pos hwt, ← fl_tail (by omega)]
       exact (sli_from (a := oa2) (sz := 2) (k := ol.length) (c' := oc2) (m := 1) (kk := 2) (xs := ol.flatMap flCells) HasC.get hfo rfl (by omega) k1).trans ent_pick)
    | (have hwf : dW ol wl = false := hw2.symm.trans (by simpa using by assumption)
       refine to_inv ⟨(oa2, oc2), by dsimp only; rw [dOl, if_neg (by rw [hwf]; simp)]; omega, k3⟩ trivial ⟨by dsimp only; rw [dOl, if_neg (by rw [hwf]; simp)]; rfl, rfl, rfl, rfl, rfl, trivial⟩ ?_
       dsimp only
       rw [dN, dO, dOl, if_neg (by rw [hwf]; simp), if_neg (by rw [hwf]; simp), if_neg (by rw [hwf]; simp)]
       exact ent_pick)) : G := h
theorem zb60join5 {G : Prop} (h : G := by
    first
    | exact to_inv ⟨_, (dW_1 (by omega))⟩ trivial ⟨rfl, rfl, rfl, rfl, rfl, trivial⟩ ent_pick
    | exact to_inv ⟨_, (dW_2 (by omega) (by omega))⟩ trivial ⟨rfl, rfl, rfl, rfl, rfl, trivial⟩ ent_pick
    | exact to_inv ⟨_, (dW_3 (by omega) (by omega))⟩ trivial ⟨rfl, rfl, rfl, rfl, rfl, trivial⟩ ent_pick) : G := h
set_option maxHeartbeats 8000000 in
theorem files_Diff_sp (oa wa : Option Addr) (oc wc : Nat) (old own : Fs) (ho : old.length ≤ oc) (hw : own.length ≤ wc) (hos : ∀ b, oa = some b → b.spot = none) (hws : ∀ b, wa = some b → b.spot = none) (hl : old.length + own.length ≤ 1000000) :
    Sp Tryz.prog 60 [.slice oa old.length oc, .slice wa own.length wc] [SlI oa (old.flatMap flCells), SlI wa (own.flatMap flCells)] (X := Option Addr × Nat) (fun x => .slice x.1 (diffF old own).length x.2) (fun _ => True) (fun x => [Row 39 4 (.slice x.1 (diffF old own).length x.2) (diffF old own).length ((diffF old own).flatMap mlCells)]) := by
 have hDl := diffK_len (old.length + own.length) old own
 rw [show diffK (old.length + own.length) old own = diffF old own from rfl] at hDl
 have hD : diffF old own = diffK (old.length + own.length) old own := rfl
 generalize diffF old own = D at hDl hD ⊢
 refine Sp.body (n := 86) Tryz.call60 Tryz.func60 rfl rfl rfl ?_
 refine Qc (k:=Vv (k:=Wq (Qc (k:=Vv (k:=Wq (Za (k:=Zb (k:=?_))))))))
 refine p_loop (fun (i : { x : DfS // x.Ok D }) => [(0, .slice i.1.oa i.1.ol.length i.1.oc), (1, .slice i.1.wa i.1.wl.length i.1.wc), (5, .slice i.1.ma i.1.acc.length i.1.mc)]) (fun (i : { x : DfS // x.Ok D }) => [SlI i.1.oa (i.1.ol.flatMap flCells), SlI i.1.wa (i.1.wl.flatMap flCells), Row 39 4 (.slice i.1.ma i.1.acc.length i.1.mc) i.1.acc.length (i.1.acc.flatMap mlCells)]) (fun (i : { x : DfS // x.Ok D }) => i.1.ol.length + i.1.wl.length) rfl (⟨⟨old, own, oa, oc, wa, wc, [], none, 0, old.length + own.length⟩, ⟨ho, hw, hos, hws, Nat.le_refl _, hD.symm⟩⟩) ?_ ?_ (fun i => ?_)
 · exact ⟨rfl, rfl, rfl, trivial⟩
 ·
  dsimp only
  simp only [List.length_nil, List.flatMap_nil]
  exact (row_nil (e := 39) (sz := 4)).trans ent_pick
 obtain ⟨⟨ol, wl, oa2, oc2, wa2, wc2, acc, ma, mc, k⟩, ok⟩ := i
 obtain ⟨k1, k2, k3, k4, k5, k6⟩ := ok
 dsimp only at k1 k2 k3 k4 k5 k6 ⊢
 have hal : acc.length ≤ D.length := by rw [← k6, List.length_append]; omega
 try dsimp only
 refine p_cut (fun (u : { u : Unit // ¬ (ol.length = 0 ∧ wl.length = 0) }) => [(0, .slice oa2 ol.length oc2), (1, .slice wa2 wl.length wc2), (5, .slice ma acc.length mc)]) (fun (u : { u : Unit // ¬ (ol.length = 0 ∧ wl.length = 0) }) => [SlI oa2 (ol.flatMap flCells), SlI wa2 (wl.flatMap flCells), Row 39 4 (.slice ma acc.length mc) acc.length (acc.flatMap mlCells)]) rfl (fun u => ?_) ?_
 ·
  obtain ⟨_, hne⟩ := u
  have hless := d_less hne
  obtain ⟨k', rfl⟩ : ∃ m, k = m + 1 := ⟨k - 1, by omega⟩
  rw [diff_step hne] at k6
  have hfo := fl_len ol
  have hfw := fl_len wl
  have hwo := fun h => dW_own (ol := ol) (wl := wl) h hne
  have hto := fun h => dT_own (ol := ol) (wl := wl) h
  try dsimp only
  refine Zb (k:=Qc (k:=Zc [vS [], vS [], vS [], vS []] (k:=fun b6 => Wq ?_)))
  refine p_cut (fun (w : { w : Bool // w = dW ol wl }) => [(0, .slice oa2 ol.length oc2), (1, .slice wa2 wl.length wc2), (5, .slice ma acc.length mc), (6, .pointer (some ⟨b6, 0, none⟩)), (7, vB w.1)]) (fun (w : { w : Bool // w = dW ol wl }) => [Ce b6 39 [vS [], vS [], vS [], vS []], SlI oa2 (ol.flatMap flCells), SlI wa2 (wl.flatMap flCells), Row 39 4 (.slice ma acc.length mc) acc.length (acc.flatMap mlCells)]) rfl (fun w => ?_) ?_
  ·
   obtain ⟨w, hw2⟩ := w
   have hpo : w = true → 0 < ol.length := fun h => hwo (hw2.symm.trans h)
   dsimp only
   try dsimp only
   refine p_cut (fun (i : { x : Option Addr × Nat // (dOl ol wl).length ≤ x.2 ∧ ∀ b, x.1 = some b → b.spot = none }) => [(0, .slice i.1.1 (dOl ol wl).length i.1.2), (1, .slice wa2 wl.length wc2), (5, .slice ma acc.length mc), (6, .pointer (some ⟨b6, 0, none⟩)), (7, vB w)]) (fun (i : { x : Option Addr × Nat // (dOl ol wl).length ≤ x.2 ∧ ∀ b, x.1 = some b → b.spot = none }) => [Ce b6 39 [vS [], vS (dN ol wl), vS (dO ol wl), vS []], SlI i.1.1 ((dOl ol wl).flatMap flCells), SlI wa2 (wl.flatMap flCells), Row 39 4 (.slice ma acc.length mc) acc.length (acc.flatMap mlCells)]) rfl (fun i => ?_) ?_
   ·
    obtain ⟨⟨oa3, oc3⟩, ho3, hs3⟩ := i
    dsimp only at ho3 hs3 ⊢
    try dsimp only
    refine p_cut (fun (i : { x : Option Addr × Nat // (dWl ol wl).length ≤ x.2 ∧ ∀ b, x.1 = some b → b.spot = none }) => [(0, .slice oa3 (dOl ol wl).length oc3), (1, .slice i.1.1 (dWl ol wl).length i.1.2), (5, .slice ma acc.length mc), (6, .pointer (some ⟨b6, 0, none⟩))]) (fun (i : { x : Option Addr × Nat // (dWl ol wl).length ≤ x.2 ∧ ∀ b, x.1 = some b → b.spot = none }) => [Ce b6 39 [vS [], vS (dM ol wl).name, vS (dM ol wl).old, vS (dM ol wl).new], SlI i.1.1 ((dWl ol wl).flatMap flCells), SlI oa3 ((dOl ol wl).flatMap flCells), Row 39 4 (.slice ma acc.length mc) acc.length (acc.flatMap mlCells)]) rfl (fun i => ?_) ?_
    ·
     obtain ⟨⟨wa3, wc3⟩, hw3, hv3⟩ := i
     dsimp only at hw3 hv3 ⊢
     try dsimp only
     refine Qc (k:=Qx 2 9 (k:=Qx 3 9 (k:=Vv (k:=Wq (Zi (t:=fun h80 => ?_) (f:=fun h80 => ?_))))))
     ·
      refine Zr (k:=Vv (k:=Zm [_, _, _, _] (k:=Zv [_] (cs := [_, _, _, _]) (k:=fun b83 => ?_))))
      refine r_append1 (sz := 4) (bytes := 64) Tryz.underlying34 ti39 rfl rfl rfl rfl rfl rfl rfl (by rfl) (by rfl) (by omega) (by simp only [maxLen]; omega) rfl (fun a84 c84 => ?_)
      refine Vv (k:=Wn (Yb ?_))
      exact zb60next0
     ·
      refine Zk (k:=Yb ?_)
      exact zb60next0
    ·
     refine Za (k:=Dw [Ce b6 39 [vS [], vS (dN ol wl), vS (dO ol wl), vS []], SlI wa2 (wl.flatMap flCells)] (k:=?_))
     refine Dv 0 (k:=Dv 1 (k:=Dv 2 (k:=Dv 3 (k:=Gd 3 (t:=fun h51 => ?_) (f:=fun h51 => ?_)))))
     ·
      refine Di 4 (t:=U1 (h:=Uv)) (k:=Di 5 (t:=U1 (h:=Uv)) (k:=Di 6 (t:=U1 (h:=Uv)) (k:=Gd 6 (t:=fun h54 => ?_) (f:=fun h54 => ?_))))
      ·
       refine D1 7 (k:=D1 8 (k:=D1 9 (k:=D1 10 (k:=D1 11 (k:=D1 12 (k:=D1 13 (k:=Di 14 (t:=U1 (h:=UP1)) (k:=DP1 15 (k:=Dd (k:=Ya (Z1 (k:=?_))))))))))))
       refine Za (k:=Dw [SlI wa2 (wl.flatMap flCells)] (k:=?_))
       refine Dv 0 (k:=?_)
       refine d_first 1 rfl rfl rfl (by kernel_rfl) (by kernel_rfl) (tl_elemAddr (m := 0) (sz := 2) Tryz.underlying26 ti25 rfl rfl rfl rfl (by omega) (by omega) rfl) ?_
       refine d_first 2 rfl rfl rfl (by kernel_rfl) (by kernel_rfl) (tl_efield (o := 0) Tryz.underlying25 rfl ti9 rfl rfl rfl rfl (by omega)) ?_
       refine d_first 3 rfl rfl rfl (by kernel_rfl) (by kernel_rfl) (tl_eload Tryz.underlying9 rfl rfl (fl_hd (by omega)).1) ?_
       refine Dv 4 (k:=?_)
       refine d_first 5 rfl rfl rfl (by kernel_rfl) (by kernel_rfl) (tl_elemAddr (m := 0) (sz := 2) Tryz.underlying26 ti25 rfl rfl rfl rfl (by omega) (by omega) rfl) ?_
       refine d_first 6 rfl rfl rfl (by kernel_rfl) (by kernel_rfl) (tl_efield (o := 1) Tryz.underlying25 rfl ti9 rfl rfl rfl rfl (by omega)) ?_
       refine d_first 7 rfl rfl rfl (by kernel_rfl) (by kernel_rfl) (tl_eload Tryz.underlying9 rfl rfl (fl_hd (by omega)).2) ?_
       refine Di 8 (t:=Uf 1 9) (k:=Dn 9 (k:=No (k:=Di 10 (t:=Uf 3 9) (k:=Dn 11 (k:=No (k:=Dd (k:=Ya (Zr (k:=Vv (k:=?_))))))))))
       refine wo_pv (pv_slslice_froma (m := 1) (kk := 2) Tryz.underlying26 ti25 rfl rfl rfl rfl rfl (by omega) (by omega) k4) rfl ?_
       refine Vv (k:=Wn ?_)
       exact zb60join11
      ·
       refine Di 7 (t:=U0 (h:=Uf 1 9)) (k:=Di 8 (t:=U0 (h:=Ul)) (k:=Di 9 (t:=U0 (h:=Uv)) (k:=?_)))
       refine d_first 10 rfl rfl rfl (by kernel_rfl) (by kernel_rfl) (tl_in (b := false) rfl (tl_elemAddr (m := 0) (sz := 2) Tryz.underlying26 ti25 rfl rfl rfl rfl (by omega) (by omega) rfl)) ?_
       refine d_first 11 rfl rfl rfl (by kernel_rfl) (by kernel_rfl) (tl_in (b := false) rfl (tl_efield (o := 0) Tryz.underlying25 rfl ti9 rfl rfl rfl rfl (by omega))) ?_
       refine d_first 12 rfl rfl rfl (by kernel_rfl) (by kernel_rfl) (tl_in (b := false) rfl (tl_eload Tryz.underlying9 rfl rfl (fl_hd (by omega)).1)) ?_
       refine Di 13 (t:=U0 (h:=Uv)) (k:=Di 14 (t:=U1 (h:=UP0)) (k:=DP1 15 (k:=Dd (k:=Ya (Zi (t:=fun h63 => ?_) (f:=fun h63 => ?_))))))
       ·
        refine Za (k:=Dw [SlI wa2 (wl.flatMap flCells)] (k:=?_))
        refine Dv 0 (k:=?_)
        refine d_first 1 rfl rfl rfl (by kernel_rfl) (by kernel_rfl) (tl_elemAddr (m := 0) (sz := 2) Tryz.underlying26 ti25 rfl rfl rfl rfl (by omega) (by omega) rfl) ?_
        refine d_first 2 rfl rfl rfl (by kernel_rfl) (by kernel_rfl) (tl_efield (o := 0) Tryz.underlying25 rfl ti9 rfl rfl rfl rfl (by omega)) ?_
        refine d_first 3 rfl rfl rfl (by kernel_rfl) (by kernel_rfl) (tl_eload Tryz.underlying9 rfl rfl (fl_hd (by omega)).1) ?_
        refine Dv 4 (k:=?_)
        refine d_first 5 rfl rfl rfl (by kernel_rfl) (by kernel_rfl) (tl_elemAddr (m := 0) (sz := 2) Tryz.underlying26 ti25 rfl rfl rfl rfl (by omega) (by omega) rfl) ?_
        refine d_first 6 rfl rfl rfl (by kernel_rfl) (by kernel_rfl) (tl_efield (o := 1) Tryz.underlying25 rfl ti9 rfl rfl rfl rfl (by omega)) ?_
        refine d_first 7 rfl rfl rfl (by kernel_rfl) (by kernel_rfl) (tl_eload Tryz.underlying9 rfl rfl (fl_hd (by omega)).2) ?_
        refine Di 8 (t:=Uf 1 9) (k:=Dn 9 (k:=No (k:=Di 10 (t:=Uf 3 9) (k:=Dn 11 (k:=No (k:=Dd (k:=Ya (Zr (k:=Vv (k:=?_))))))))))
        refine wo_pv (pv_slslice_froma (m := 1) (kk := 2) Tryz.underlying26 ti25 rfl rfl rfl rfl rfl (by omega) (by omega) k4) rfl ?_
        refine Vv (k:=Wn ?_)
        exact zb60join11
       ·
        refine Zk (k:=?_)
        exact zb60join11
     ·
      refine D0 4 (k:=D0 5 (k:=D0 6 (k:=Di 7 (t:=Uu) (k:=Di 8 (t:=Uu) (k:=Di 9 (t:=Uu) (k:=Di 10 (t:=Uu) (k:=Di 11 (t:=Uu) (k:=Di 12 (t:=Uu) (k:=Di 13 (t:=Uu) (k:=D0 14 (k:=DP0 15 (k:=?_))))))))))))
      refine Dd (k:=Ya (Z0 (k:=Zk (k:=?_))))
      exact zb60join11
   ·
    refine Qc (k:=Vv (k:=Wq (Zi (t:=fun h35 => ?_) (f:=fun h35 => ?_))))
    ·
     refine Za (k:=?_)
     have hpo1 := hpo (by assumption)
     refine Dw [SlI oa2 (ol.flatMap flCells)] (k:=?_)
     refine Dv 0 (k:=?_)
     refine d_first 1 rfl rfl rfl (by kernel_rfl) (by kernel_rfl) (tl_elemAddr (m := 0) (sz := 2) Tryz.underlying26 ti25 rfl rfl rfl rfl (by omega) (by omega) rfl) ?_
     refine d_first 2 rfl rfl rfl (by kernel_rfl) (by kernel_rfl) (tl_efield (o := 0) Tryz.underlying25 rfl ti9 rfl rfl rfl rfl (by omega)) ?_
     refine d_first 3 rfl rfl rfl (by kernel_rfl) (by kernel_rfl) (tl_eload Tryz.underlying9 rfl rfl (fl_hd (by omega)).1) ?_
     refine Dv 4 (k:=?_)
     refine d_first 5 rfl rfl rfl (by kernel_rfl) (by kernel_rfl) (tl_elemAddr (m := 0) (sz := 2) Tryz.underlying26 ti25 rfl rfl rfl rfl (by omega) (by omega) rfl) ?_
     refine d_first 6 rfl rfl rfl (by kernel_rfl) (by kernel_rfl) (tl_efield (o := 1) Tryz.underlying25 rfl ti9 rfl rfl rfl rfl (by omega)) ?_
     refine d_first 7 rfl rfl rfl (by kernel_rfl) (by kernel_rfl) (tl_eload Tryz.underlying9 rfl rfl (fl_hd (by omega)).2) ?_
     refine Di 8 (t:=Uf 1 9) (k:=Dn 9 (k:=No (k:=Di 10 (t:=Uf 2 9) (k:=Dn 11 (k:=No (k:=Dd (k:=Ya (Zr (k:=Vv (k:=?_))))))))))
     refine wo_pv (pv_slslice_froma (m := 1) (kk := 2) Tryz.underlying26 ti25 rfl rfl rfl rfl rfl (by omega) (by omega) k3) rfl ?_
     refine Vv (k:=Wn ?_)
     exact zb60join8
    ·
     refine Zk (k:=?_)
     exact zb60join8
  ·
   refine Dw [SlI oa2 (ol.flatMap flCells), SlI wa2 (wl.flatMap flCells)] (k:=?_)
   refine Dv 0 (k:=Dv 1 (k:=Dv 2 (k:=Dv 3 (k:=Gd 3 (t:=fun h19 => ?_) (f:=fun h19 => ?_)))))
   ·
    refine D1 4 (k:=D1 5 (k:=D1 6 (k:=D1 7 (k:=Di 8 (t:=Uu) (k:=Di 9 (t:=Uu) (k:=Di 10 (t:=Uu) (k:=Di 11 (t:=Uu) (k:=Di 12 (t:=Uu) (k:=Di 13 (t:=Uu) (k:=Di 14 (t:=Uu) (k:=Di 15 (t:=Uu) (k:=?_))))))))))))
    refine Di 16 (t:=Uu) (k:=D1 17 (k:=DP1 18 (k:=Dv 19 (k:=Dd (k:=?_)))))
    exact zb60join5
   ·
    refine Di 4 (t:=U0 (h:=Uv)) (k:=Di 5 (t:=U0 (h:=Uv)) (k:=Di 6 (t:=U0 (h:=Uv)) (k:=Di 7 (t:=U0 (h:=Uv)) (k:=Gd 7 (t:=fun h23 => ?_) (f:=fun h23 => ?_)))))
    ·
     refine Di 8 (t:=U1 (h:=Uv)) (k:=?_)
     refine d_first 9 rfl rfl rfl (by kernel_rfl) (by kernel_rfl) (tl_in (b := true) rfl (tl_elemAddr (m := 0) (sz := 2) Tryz.underlying26 ti25 rfl rfl rfl rfl (by omega) (by omega) rfl)) ?_
     refine d_first 10 rfl rfl rfl (by kernel_rfl) (by kernel_rfl) (tl_in (b := true) rfl (tl_efield (o := 0) Tryz.underlying25 rfl ti9 rfl rfl rfl rfl (by omega))) ?_
     refine d_first 11 rfl rfl rfl (by kernel_rfl) (by kernel_rfl) (tl_in (b := true) rfl (tl_eload Tryz.underlying9 rfl rfl (fl_hd (by omega)).1)) ?_
     refine Di 12 (t:=U1 (h:=Uv)) (k:=?_)
     refine d_first 13 rfl rfl rfl (by kernel_rfl) (by kernel_rfl) (tl_in (b := true) rfl (tl_elemAddr (m := 0) (sz := 2) Tryz.underlying26 ti25 rfl rfl rfl rfl (by omega) (by omega) rfl)) ?_
     refine d_first 14 rfl rfl rfl (by kernel_rfl) (by kernel_rfl) (tl_in (b := true) rfl (tl_efield (o := 0) Tryz.underlying25 rfl ti9 rfl rfl rfl rfl (by omega))) ?_
     refine d_first 15 rfl rfl rfl (by kernel_rfl) (by kernel_rfl) (tl_in (b := true) rfl (tl_eload Tryz.underlying9 rfl rfl (fl_hd (by omega)).1)) ?_
     refine Di 16 (t:=U1 (h:=Uv)) (k:=Di 17 (t:=U0 (h:=UP1)) (k:=DP0 18 (k:=Dv 19 (k:=Dd (k:=?_)))))
     exact zb60join5
    ·
     refine D0 8 (k:=D0 9 (k:=D0 10 (k:=D0 11 (k:=D0 12 (k:=D0 13 (k:=D0 14 (k:=D0 15 (k:=D0 16 (k:=Di 17 (t:=U0 (h:=UP0)) (k:=DP0 18 (k:=Dv 19 (k:=?_))))))))))))
     refine Dd (k:=?_)
     exact zb60join5
 ·
  refine Qc (k:=Qv (k:=Qv (k:=Gi 3 (t:=fun h11 => ?_) (f:=fun h11 => ?_))))
  ·
   refine O1 (k:=O1 (k:=O1 (k:=P1 (k:=Wq (Z1 (k:=Zk (k:=?_)))))))
   exact to_inv ⟨(), by omega⟩ trivial ⟨rfl, rfl, rfl, trivial⟩ ent_pick
  ·
   refine J0 (k:=J0 (k:=J0 (k:=P0 (k:=Wq (Zi (t:=fun h15 => ?_) (f:=fun h15 => ?_))))))
   ·
    refine Zk (k:=?_)
    exact to_inv ⟨(), by omega⟩ trivial ⟨rfl, rfl, rfl, trivial⟩ ent_pick
   ·
    refine Ze (k:=Xi (Xi (Xb (Ya (Qc (k:=Qv (k:=Wq (Zt (k:=?_)))))))))
    rw [diff_nil k ⟨by omega, by omega⟩, List.append_nil] at k6
    subst k6
    exact fin_ret (ma, mc) (vs := [_]) (Cs := []) rfl (.tmp rfl .nil) rfl trivial ent_pick
end
section
set_option maxRecDepth 100000
abbrev ChI (b : Nat) (acc : List Ml) : HP := Ex fun s : Option Addr × Nat => Al [Ce b 34 [.slice s.1 acc.length s.2], Row 39 4 (.slice s.1 acc.length s.2) acc.length (acc.flatMap mlCells)]
theorem zb18join10 {G : Prop} (h : G := by
    first
    | (have hs1 : (ofF H nm).isSome = true := by assumption
       have hf1 : ¬ firstB ck = [] := by assumption
       have ho : oldF H ck (ofF H nm) = ofF H (firstB ck) := by rw [oldF, if_neg (by rw [hs1]; simp), if_neg hf1]
       rw [ho]
       exact to_inv ⟨(pa, pc), hxp⟩ trivial ⟨rfl, rfl, rfl, rfl, rfl, rfl, trivial⟩ ent_pick)
    | (have hs1 : (ofF H nm).isSome = true := by assumption
       have hf1 : firstB ck = [] := Classical.not_not.1 (by assumption)
       have ho : oldF H ck (ofF H nm) = some [] := by rw [oldF, if_neg (by rw [hs1]; simp), if_pos hf1]
       rw [ho]
       refine to_inv ⟨(none, 0), Nat.le_refl _, fun b e => by cases e⟩ trivial ⟨rfl, rfl, rfl, rfl, by rw [hs1]; rfl, rfl, trivial⟩ ?_
       simp only [Option.getD_some, Option.getD_none, List.flatMap_nil]
       exact sli_nil.trans ent_pick)
    | (have hs1 : (ofF H nm).isSome = false := by first | assumption | simpa using h25
       have ho : oldF H ck (ofF H nm) = none := by rw [oldF, if_pos hs1]
       rw [ho]
       refine to_inv ⟨(none, 0), Nat.le_refl _, fun b e => by cases e⟩ trivial ⟨rfl, rfl, rfl, rfl, by rw [hs1]; rfl, rfl, trivial⟩ ?_
       simp only [Option.getD_some, Option.getD_none, List.flatMap_nil]
       exact sli_nil.trans ent_pick)) : G := h
set_option maxHeartbeats 8000000 in
theorem links_Changes_sp (b : Nat) (H : Ks) (hH : TxtK H) (hn : H.length ≤ 10000) (hOf : ∀ name, OfSp Tryz.prog 59 b H name) :
    Sp Tryz.prog 18 [.map (some b)] [MapS b H] (X := Option Addr × Nat) (fun x => .slice x.1 (chgF H (cksL H)).length x.2) (fun _ => True) (fun x => [Row 39 4 (.slice x.1 (chgF H (cksL H)).length x.2) (chgF H (cksL H)).length ((chgF H (cksL H)).flatMap mlCells), MapS b H]) := by
 refine Sp.body (n := 53) Tryz.call18 Tryz.func18 rfl rfl rfl ?_
 refine Qc (k:=Zx [_] (k:=fun b1 => Vv (k:=Wq (Qc (k:=Zc [.slice none 0 0] (k:=fun b3 => Wq (Za (k:=Qc (k:=?_)))))))))
 refine Zd (k:=?_)
 refine r_callX (links_Checkins_sp (some b)) rfl rfl rfl (fun cb _ => ?_)
 refine Wq (Zb (k:=?_))
 refine p_rangeFuncX (fun pre => [ChI b3 (chgF H (pre.map ckKey)), Ce b1 31 [.map (some b)], MapS b H]) (fun j pre => [Pu False]) (fun pre => [ChI b3 (chgF H (pre.map ckKey)), Ce b1 31 [.map (some b)]]) rfl (links_Checkins_it cb b H hH (by omega)) rfl (fun _ => by rfl) rfl (fun pre => ?_) (fun pre => ?_) ?_ (fun l pre x hok => ?_) (fun all hfin => ?_) (fun j pre hs => ?_)
 · exact ent_pick
 · exact ent_pick
 · (refine ent_app ?_; refine ent_ex (none, 0) (ent_al ?_); dsimp only; rw [show chgF H (([] : List CkN).map ckKey) = [] from rfl]; exact ent_cons (ent_step row_nil ent_pick))
 ·
  have hpl := okC_len hok
  have hcl : (chgF H (pre.map ckKey)).length ≤ 48 * pre.length := by
   have := chgF_len H (pre.map ckKey)
   rwa [List.length_map] at this
  have hsn : chgF H ((pre ++ [x]).map ckKey) = chgF H (pre.map ckKey) ++ chgOf H (ckKey x) := by rw [List.map_append, List.map_cons, List.map_nil, chgF_snoc]
  obtain ⟨nm, xa, ck⟩ := x
  dsimp only [ckV, ckVals, ckKey] at hsn ⊢
  generalize chgF H (pre.map ckKey) = acc0 at hsn hcl ⊢
  have hpl2 : ck.parents.length ≤ 3 := by
   have := (readK_iff.1 hok.2.2).1.parents.len
   dsimp only at this
   omega
  have hFi := links_First_sp (B := SlI xa.pa (ck.parents.map vS)) xa ck (by omega) sla_sli
  have hcg : chgOf H (nm, ck) = match oldF H ck (ofF H nm) with
   | none => []
   | some old => (diffF old ((ofF H nm).getD [])).map (wthC nm) := rfl
  have hol := ofF_len (H := H) (n := nm)
  have holl := oldF_len (H := H) (c := ck) (own := ofF H nm)
  unfold CkM
  refine wc_al ?_
  refine wc_ent' (ent_pick1 (.there (.there (.there .here)))) ?_
  refine wc_exi fun s => wc_al ?_
  refine Qc (k:=Vv (k:=Wq (Zr (k:=Zc [vS [], vS [], .int .i64 0, .slice none 0 0, .slice none 0 0, .slice none 0 0, vS []] (k:=fun b5 => Zp (k:=Wg (Zb (k:=Qc (k:=Zd (k:=?_))))))))))
  refine Vv (k:=?_)
  refine r_callX (hOf nm) rfl rfl rfl (fun xo hxo => ?_)
  obtain ⟨oa, oc⟩ := xo
  dsimp only at hxo ⊢
  refine Vv (k:=?_)
  refine wo_pv (pv_extract (v := .slice oa ((ofF H nm).getD []).length oc) rfl rfl) rfl ?_
  refine wo_pv (pv_extract (v := vB (ofF H nm).isSome) rfl rfl) rfl ?_
  refine Qv (k:=Wq (Qc (k:=Vv (k:=Wq ?_))))
  refine p_cut (fun (i : { x : Option Addr × Nat // ((oldF H ck (ofF H nm)).getD []).length ≤ x.2 ∧ ∀ b, x.1 = some b → b.spot = none }) => [(1, .pointer (some ⟨b1, 0, none⟩)), (3, .pointer (some ⟨b3, 0, none⟩)), (4, vS nm), (6, .slice oa ((ofF H nm).getD []).length oc), (7, vB (oldF H ck (ofF H nm)).isSome), (8, .slice i.1.1 ((oldF H ck (ofF H nm)).getD []).length i.1.2)]) (fun (i : { x : Option Addr × Nat // ((oldF H ck (ofF H nm)).getD []).length ≤ x.2 ∧ ∀ b, x.1 = some b → b.spot = none }) => [Ce b3 34 [.slice s.1 acc0.length s.2], Row 39 4 (.slice s.1 acc0.length s.2) acc0.length (acc0.flatMap mlCells), SlI oa (((ofF H nm).getD []).flatMap flCells), SlI i.1.1 (((oldF H ck (ofF H nm)).getD []).flatMap flCells), Ce b1 31 [.map (some b)], MapS b H]) rfl (fun i => ?_) ?_
  ·
   obtain ⟨⟨la, lc⟩, hl1, hl2⟩ := i
   dsimp only at hl1 hl2 ⊢
   try dsimp only
   refine Za (k:=Qc (k:=Qv (k:=Wq (Zi (t:=fun h36 => ?_) (f:=fun h36 => ?_)))))
   ·
    refine Ze (k:=Xa (Xb ?_))
    first
    | (have hnone : oldF H ck (ofF H nm) = none := by
         cases e : oldF H ck (ofF H nm) with
         | none => rfl
         | some q => rw [e] at h36; simp at h36
       rw [hnone] at hcg
       refine to_round ?_
       rw [hsn, hcg, List.append_nil]
       refine ent_ex s (ent_al ?_)
       exact ent_pick)
    | (have hjl : D.take j = D := List.take_of_length_le (by omega)
       refine to_round ?_
       try dsimp only
       rw [hsn, hcg, hjl]
       refine ent_ex (sa, sc) (ent_al ?_)
       exact ent_pick)
   ·
    obtain ⟨old, hold⟩ : ∃ q, oldF H ck (ofF H nm) = some q := Option.isSome_iff_exists.1 (by simpa using h36)
    rw [hold] at hcg hl1 holl ⊢
    simp only [Option.getD_some] at hcg hl1 holl ⊢
    have hDf := files_Diff_sp la oa lc oc old ((ofF H nm).getD []) hl1 hxo.1 hl2 hxo.2 (by omega)
    have hdl := diffF_len old ((ofF H nm).getD [])
    refine Zk (k:=Ya (Qc (k:=Qv (k:=?_))))
    refine r_callX hDf rfl rfl rfl (fun xd _ => ?_)
    obtain ⟨da, dc⟩ := xd
    dsimp only at hcg ⊢
    generalize diffF old ((ofF H nm).getD []) = D at hcg hdl ⊢
    refine Qv (k:=Wq (Zb (k:=?_)))
    refine p_loop (fun (i : { x : (Option Addr × Nat) × Nat // x.2 ≤ D.length }) => [(3, .pointer (some ⟨b3, 0, none⟩)), (4, vS nm), (39, .slice da D.length dc), (40, vI D.length), (41, vI i.1.2)]) (fun (i : { x : (Option Addr × Nat) × Nat // x.2 ≤ D.length }) => [Ce b3 34 [.slice i.1.1.1 (acc0 ++ (D.take i.1.2).map (wthC nm)).length i.1.1.2], Row 39 4 (.slice i.1.1.1 (acc0 ++ (D.take i.1.2).map (wthC nm)).length i.1.1.2) (acc0 ++ (D.take i.1.2).map (wthC nm)).length ((acc0 ++ (D.take i.1.2).map (wthC nm)).flatMap mlCells), Row 39 4 (.slice da D.length dc) D.length (D.flatMap mlCells), Ce b1 31 [.map (some b)], MapS b H]) (fun (i : { x : (Option Addr × Nat) × Nat // x.2 ≤ D.length }) => D.length - i.1.2) rfl (⟨(s, 0), Nat.zero_le _⟩) ?_ ?_ (fun i => ?_)
    · exact ⟨rfl, rfl, rfl, rfl, rfl, trivial⟩
    ·
     dsimp only
     rw [List.take_zero, List.map_nil, List.append_nil]
     exact ent_pick
    obtain ⟨⟨⟨sa, sc⟩, j⟩, hj⟩ := i
    dsimp only at hj ⊢
    have hml : (acc0 ++ (D.take j).map (wthC nm)).length = acc0.length + j := by rw [List.length_append, List.length_map, List.length_take]; omega
    try dsimp only
    refine Qc (k:=Vv (k:=Wq (Za (k:=Zi (t:=fun h42 => ?_) (f:=fun h42 => ?_)))))
    ·
     refine Zk (k:=Ya (Za (k:=Zb (k:=Qc (k:=Ye 4 (k:=?_))))))
     refine r_eloada (vs := [vS (D[j]'(by omega)).chk, vS (D[j]'(by omega)).name, vS (D[j]'(by omega)).old, vS (D[j]'(by omega)).new]) (sz := 4) Tryz.underlying39 rfl ti39 rfl rfl (by rw [flat_len (sz := 4) (fun _ => rfl)]; omega) rfl (get_flat (f := mlCells) (fun _ => rfl) (by omega)) rfl ?_
     refine Zc [vS [], vS [], vS [], vS []] (k:=fun b11 => Zp (k:=Wq (Qc (k:=Vv (k:=Vf 0 9 (k:=Zo (k:=Wq (Zr (k:=Zd (k:=Zm [_, _, _, _] (k:=?_)))))))))))
     refine Zv [_] (cs := [_, _, _, _]) (k:=fun b49 => ?_)
     refine r_append1 (sz := 4) (bytes := 64) Tryz.underlying34 ti39 rfl rfl rfl rfl rfl rfl rfl (by rfl) (by rfl) (by omega) (by simp only [maxLen]; omega) rfl (fun a50 c50 => ?_)
     refine Zo (k:=Wn (Yb (Ya (Zr (k:=Qv (k:=Wn ?_))))))
     have hjl : j < D.length := by omega
     have hst : acc0 ++ ((D.take (j + 1)).map (wthC nm)) = acc0 ++ ((D.take j).map (wthC nm)) ++ [⟨nm, D[j].name, D[j].old, D[j].new⟩] := by
      rw [List.take_succ_eq_append_getElem hjl, List.map_append, ← List.append_assoc]
      rfl
     refine to_inv ⟨((a50, c50), j + 1), by dsimp only; omega⟩ (by dsimp only; omega) ⟨rfl, rfl, rfl, rfl, rfl, trivial⟩ ?_
     dsimp only
     rw [hst]
     simp only [List.length_append, List.length_cons, List.length_nil, Nat.zero_add, List.flatMap_append, List.flatMap_cons, List.flatMap_nil, List.append_nil, mlCells]
     exact ent_pick
    ·
     refine Ze (k:=Xa (Xi (Xb (Yb ?_))))
     first
     | (have hnone : oldF H ck (ofF H nm) = none := by
          cases e : oldF H ck (ofF H nm) with
          | none => rfl
          | some q => rw [e] at h36; simp at h36
        rw [hnone] at hcg
        refine to_round ?_
        rw [hsn, hcg, List.append_nil]
        refine ent_ex s (ent_al ?_)
        exact ent_pick)
     | (have hjl : D.take j = D := List.take_of_length_le (by omega)
        refine to_round ?_
        try dsimp only
        rw [hsn, hcg, hjl]
        refine ent_ex (sa, sc) (ent_al ?_)
        exact ent_pick)
  ·
   refine Qc (k:=Zm [_, _, _, _, _, _, _] (k:=?_))
   refine r_call1 hFi rfl rfl rfl ?_
   refine Vv (k:=Wq (Qc (k:=Qv (k:=Gi 1 (t:=fun h25 => ?_) (f:=fun h25 => ?_)))))
   ·
    refine J1 (k:=J1 (k:=P1 (k:=Wq (Zi (t:=fun h28 => ?_) (f:=fun h28 => ?_)))))
    ·
     refine Zr (k:=Zd (k:=Vv (k:=?_)))
     refine r_callX (hOf (firstB ck)) rfl rfl rfl (fun xp hxp => ?_)
     obtain ⟨pa, pc⟩ := xp
     dsimp only at hxp ⊢
     refine Vv (k:=?_)
     refine wo_pv (pv_extract (v := .slice pa ((ofF H (firstB ck)).getD []).length pc) rfl rfl) rfl ?_
     refine wo_pv (pv_extract (v := vB (ofF H (firstB ck)).isSome) rfl rfl) rfl ?_
     refine Qv (k:=Wn ?_)
     exact zb18join10
    ·
     refine Zk (k:=?_)
     exact zb18join10
   ·
    refine O0 (k:=O0 (k:=P0 (k:=Wq (Z0 (k:=Zk (k:=?_))))))
    exact zb18join10
 ·
  simp only [List.cons_append, List.nil_append]
  rw [show chgF H (all.map ckKey) = chgF H (cksL H) from by rw [show all.map ckKey = cksL H from hfin]]
  refine Yb (Ya (Za (k:=?_)))
  refine wc_exi fun s => wc_al ?_
  refine Zr (k:=Zd (k:=Vv (k:=Wq (Zt (k:=?_)))))
  exact fin_ret s (vs := [_]) (Cs := []) rfl (.tmp rfl .nil) rfl trivial ent_pick
 ·
  exact wc_no (fun s => by obtain ⟨_, _, _, _, a, _⟩ := s; exact a)
end
section
section
variable {r : Option Nat} {P : Program} {n : Nat} {ops : Array Oper} {os : List Oper} {A : List HP} {L : Loc} {Hs : List HP} {Q : Out} {ty : TypeId} {d : Nat} {pos : String} {after : Array Edge} {c : Code}
theorem an_mkmap {K : Loc → List HP → Prop} {t : TypeId} (hd : Nat.blt d n = true) (k : ∀ b, K ((d, .map (some b)) :: L) (MapS b [] :: Hs)) : AnOp r P n ops A ⟨some d, .makeMap t none, ty, pos, after, none⟩ K L Hs := by
 refine ⟨hd, .inr ⟨.inl rfl, Nat, fun b => .map (some b), fun _ => True, [], Hs, fun b => [MapS b []], Ent.refl _, ?_, fun b _ => k b⟩⟩
 intro a fr w M h hA hf dj dj' s sA t'
 have e : (execOp a.eval ⟨some d, .makeMap t none, ty, pos, after, none⟩).run P w = .ok (.value (.map (some w.heap.size))) (w.alloc (.map #[] 0)) := by simp [execOp, Instr.makeMap, newObj, Sem.run]
 rw [e]
 have t2 := t'.alloc (.map #[] 0)
 obtain ⟨f1, f2⟩ := fresh_none t'
 obtain ⟨f3, f4⟩ := Res.add_none.1 f2
 obtain ⟨f5, f6⟩ := Res.add_none.1 f3
 refine ⟨w.heap.size, M, (Res.one w.heap.size (.map #[] 0)).add h, rfl, trivial, Kn.le_refl _, Res.dj_add_left.2 ⟨one_dj f6, dj⟩, ?_, ?_, Res.one w.heap.size (.map #[] 0), h, one_dj f5, rfl, ⟨_, _, rfl, MapG.nil⟩, trivial⟩
 · obtain ⟨x1, x2⟩ := Res.dj_add_left.1 dj'
   exact Res.dj_add_left.2 ⟨Res.dj_add_left.2 ⟨one_dj f4, x1⟩, x2⟩
 · rw [Res.add_assoc, Res.add_assoc]
   rw [Res.add_assoc] at t2
   exact t2
theorem opt_insert {t kt e : TypeId} {x y z : Operand} {b : Nat} {ks : Ks} {k : List UInt8} {v : Value} (ht : P.underlying t = some (.map kt e)) (hk : P.underlying kt = some .string)
    (hx : ev L x = some (.map (some b))) (hy : ev L y = some (vS k)) (hz : ev L z = some v) :
    OpT r P n ⟨none, .insert t x y z, ty, pos, after, none⟩ A L [MapS b ks] (fun _ : Unit => undef) (fun _ => True) (fun _ => [MapS b (mput ks k v)]) :=
 opt_mapUpdate (pos := pos) (after := after) (ty := ty) ht hk hx hy hz
theorem r_insert {os : List Oper} {Q : Out} {t kt e : TypeId} {x y z : Operand} {b : Nat} {ks : Ks} {k : List UInt8} {v : Value} {Rs : List HP} (ht : P.underlying t = some (.map kt e)) (hk : P.underlying kt = some .string)
    (hx : ev L x = some (.map (some b))) (hy : ev L y = some (vS k)) (hz : ev L z = some v) [h : MapPC b ks Hs Rs] (K : wo r P n ops os L (MapS b (mput ks k v) :: Rs) Q) : wo r P n ops (⟨none, .insert t x y z, ty, pos, after, none⟩ :: os) L Hs Q := by
 haveI : PicksC [MapS b ks] Hs Rs := ⟨.cons h.get .nil⟩
 exact wo_opT (by intro c; simp) (opt_insert ht hk hx hy hz (ks := ks)) rfl (fun _ _ => K)
theorem an_insert {K : Loc → List HP → Prop} {t kt e : TypeId} {x y z : Operand} {b : Nat} {ks : Ks} {k : List UInt8} {v : Value} {Rs : List HP} (ht : P.underlying t = some (.map kt e)) (hk : P.underlying kt = some .string)
    (hx : ev L x = some (.map (some b))) (hy : ev L y = some (vS k)) (hz : ev L z = some v) [h : MapPC b ks Hs Rs] (k' : K L (MapS b (mput ks k v) :: Rs)) : AnOp r P n ops A ⟨none, .insert t x y z, ty, pos, after, none⟩ K L Hs := by
 haveI : PicksC [MapS b ks] Hs Rs := ⟨.cons h.get .nil⟩
 exact an_opT (opt_insert ht hk hx hy hz (ks := ks)) rfl (fun _ _ => k')
end
section
variable {α : Type} (a b c : α)
end
end
section
set_option maxRecDepth 100000
/-- ref10.Checkin of a check-in that has no files. -/
theorem ref10_me_sp {Bt : HP} (pa : Option Addr) (pc : Nat) (ta : Option Addr) (tc : Nat) {ps : List Bs} {ts : List Tg} {u : Bs} {d : Int} (h : RightK (ckMe ps ts u d)) (hpc : ps.length ≤ pc) (sht : SlA Bt ta (ts.flatMap tgCells)) :
    Sp1 Tryz.prog 16 [.agg #[vS [], vS [], vI d, .slice none 0 0, .slice pa ps.length pc, .slice ta ts.length tc, vS u]] [SlI none [], SlI pa (ps.map vS), Bt] (vS (ckB (ckMe ps ts u d))) [SlI none [], Bt] :=
 ref10_Checkin_sp (Bf := SlI none []) ⟨none, 0, pa, pc, ta, tc⟩ (ckMe ps ts u d) (right_z h) h.date (Nat.le_trans (ck_small h) (by decide)) sla_sli sht hpc
end
section
set_option maxRecDepth 100000
theorem picksSelf : ∀ As : List HP, Picks As As []
 | [] => .nil
 | A :: r => .cons .here (picksSelf r)
theorem takeStep {α : Type} {l l' : List α} {j : Nat} (h : j < l.length) (h' : j < l'.length) (e : l.take j = l'.take j) (x : l[j] = l'[j]) : l.take (j + 1) = l'.take (j + 1) := by
 rw [List.take_succ_eq_append_getElem h, List.take_succ_eq_append_getElem h', e, x]
theorem book_SameS_sp {As : List HP} {a a' : Option Addr} (n n' c c' : Nat) (l l' : List Bs) [h1 : RdSl a (l.map vS) As] [h2 : RdSl a' (l'.map vS) As] (hn : l.length = n) (hn' : l'.length = n') (hb : n ≤ 140737488355328) :
    Sp1 Tryz.prog 20 [.slice a n c, .slice a' n' c'] As (vB (decide (l = l'))) As := by
 subst hn; subst hn'
 haveI : PicksC As As [] := ⟨picksSelf As⟩
 refine Sp.body (n := 26) Tryz.call20 Tryz.func20 rfl rfl rfl ?_
 refine Qc (k:=Vv (k:=Wq (Za (k:=Qc (k:=Qv (k:=Qv (k:=Vv (k:=?_))))))))
 refine Wq (Zi (t:=fun h10 => ?_) (f:=fun h10 => ?_))
 ·
  refine Qc (k:=Vv (k:=Wq (Zt (k:=Va ?_))))
  have hn : ¬ l = l' := fun e => h10 (by rw [e])
  exact fin_ret () (vs := [_]) (Cs := []) rfl (.tmp rfl .nil) (by rw [decide_eq_false hn]; rfl) trivial (by rw [List.append_nil]; exact Ent.refl _)
 ·
  refine Zk (k:=Ya (Za (k:=Qc (k:=Vv (k:=Wq (Zb (k:=?_)))))))
  refine p_loop (fun (i : { j : Nat // j ≤ l.length ∧ l.take j = l'.take j }) => [(0, .slice a l.length c), (1, .slice a' l'.length c'), (5, vI i.1)]) (fun (i : { j : Nat // j ≤ l.length ∧ l.take j = l'.take j }) => As) (fun (i : { j : Nat // j ≤ l.length ∧ l.take j = l'.take j }) => l.length - i.1) rfl (⟨0, Nat.zero_le _, rfl⟩) ?_ ?_ (fun i => ?_)
  · exact ⟨rfl, rfl, rfl, trivial⟩
  ·
   exact Ent.refl _
  obtain ⟨j, hj, hw⟩ := i
  try dsimp only
  refine Za (k:=Qc (k:=Qv (k:=Qv (k:=Wq (Zi (t:=fun h14 => ?_) (f:=fun h14 => ?_))))))
  ·
   refine Zk (k:=Ya (Za (k:=Zb (k:=Za (k:=?_)))))
   have hjl : j < l.length := by omega
   have hjl' : j < l'.length := by omega
   refine d_draw rfl rfl rfl As ?_
   refine Dv 0 (k:=Dv 1 (k:=?_))
   refine d_first 2 rfl rfl rfl (by kernel_rfl) (by kernel_rfl) (tl_elemAddr (sz := 1) Tryz.underlying27 ti9 rfl rfl rfl rfl (by omega) (by first | (rw [List.length_map]; omega) | (rw [flat_len (sz := 1) (fun _ => rfl)]; omega) | (simp; omega)) (Nat.mul_one _)) ?_
   refine d_first 3 rfl rfl rfl (by kernel_rfl) (by kernel_rfl) (tl_eload Tryz.underlying9 rfl rfl (get_map (m := j) (by omega))) ?_
   refine Dv 4 (k:=Dv 5 (k:=?_))
   refine d_first 6 rfl rfl rfl (by kernel_rfl) (by kernel_rfl) (tl_elemAddr (sz := 1) Tryz.underlying27 ti9 rfl rfl rfl rfl (by omega) (by first | (rw [List.length_map]; omega) | (rw [flat_len (sz := 1) (fun _ => rfl)]; omega) | (simp; omega)) (Nat.mul_one _)) ?_
   refine d_first 7 rfl rfl rfl (by kernel_rfl) (by kernel_rfl) (tl_eload Tryz.underlying9 rfl rfl (get_map (m := j) (by omega))) ?_
   refine Dv 8 (k:=Dd (k:=Ya (Zi (t:=fun h25 => ?_) (f:=fun h25 => ?_))))
   ·
    refine Qc (k:=Vv (k:=Wq (Zt (k:=Vb (Va (Vi (Vb (Va ?_))))))))
    have hn : ¬ l = l' := fun e => by subst e; exact h25 rfl
    exact fin_ret () (vs := [_]) (Cs := []) rfl (.tmp rfl .nil) (by rw [decide_eq_false hn]; rfl) trivial (by rw [List.append_nil]; exact Ent.refl _)
   ·
    refine Zk (k:=Yb (Ya (Zr (k:=Qv (k:=Vv (k:=Wn ?_))))))
    have hx : l[j] = l'[j] := Decidable.byContradiction h25
    exact to_inv ⟨j + 1, by omega, takeStep hjl hjl' hw hx⟩ (by dsimp only; omega) ⟨rfl, rfl, rfl, trivial⟩ (by rw [List.append_nil]; exact Ent.refl _)
  ·
   refine Ze (k:=Xa (Xi (Xb (Ya (Qc (k:=Vv (k:=Wq (Zt (k:=?_)))))))))
   have hjl : j = l.length := by omega
   subst hjl
   have he : l = l' := by
    have e1 : l'.length = l.length := by omega
    rw [List.take_length, ← e1, List.take_length] at hw
    exact hw
   exact fin_ret () (vs := [_]) (Cs := []) rfl (.tmp rfl .nil) (by rw [decide_eq_true he]; rfl) trivial (by rw [List.append_nil]; exact Ent.refl _)
end
section
set_option maxRecDepth 100000
/-- ref10.Checkin of a right check-in. -/
theorem ref10_r_sp {Bf Bt : HP} (x : CkA) {c : Ck} (h : RightK c) (hpc : c.parents.length ≤ x.pc) (shf : SlA Bf x.fa (c.files.flatMap flCells)) (sht : SlA Bt x.ta (c.tags.flatMap tgCells)) :
    Sp1 Tryz.prog 16 [.agg (ckVals x c).toArray] [Bf, SlI x.pa (c.parents.map vS), Bt] (vS (ckB c)) [Bf, Bt] :=
 ref10_Checkin_sp x c (right_z h) h.date (Nat.le_trans (ck_small h) (by decide)) shf sht hpc
theorem eqPl (a b : Pl) : eqCells [vS a.child, vS a.parent, vB a.prim] [vS b.child, vS b.parent, vB b.prim] = decide (a = b) := by
 obtain ⟨a1, a2, a3⟩ := a
 obtain ⟨b1, b2, b3⟩ := b
 simp only [eqCells, eqCell_s, Bool.and_true, Pl.mk.injEq, Bool.decide_and]
 cases a3 <;> cases b3 <;> simp [eqCell, vB]
theorem eqMl (a b : Ml) : eqCells [vS a.chk, vS a.name, vS a.old, vS a.new] [vS b.chk, vS b.name, vS b.old, vS b.new] = decide (a = b) := by
 obtain ⟨a1, a2, a3, a4⟩ := a
 obtain ⟨b1, b2, b3, b4⟩ := b
 simp only [eqCells, eqCell_s, Bool.and_true, Ml.mk.injEq, Bool.decide_and]
set_option maxHeartbeats 8000000 in
theorem LinksRuns_x {x : Bs} (hx : isN x = true) (hS : SpF Tryz.prog 15 [vS [120]] (vS x)) : Sp1 Tryz.prog 3 [] [] (vB true) [] := by
 have hC : ∀ b c, Sp1 Tryz.prog 16 [.agg #[vS [], vS [], vI 0, .slice (some ⟨b, 0, none⟩) 1 1, .slice (some ⟨c, 0, none⟩) 1 1, .slice none 0 0, vS me]] [Ce b 25 [vS [97], vS x], SlI (some ⟨c, 0, none⟩) [vS x], SlI none []] (vS (ckB (lrC x))) [Ce b 25 [vS [97], vS x], SlI none []] := fun b c =>
  ref10_r_sp (Bf := Ce b 25 [vS [97], vS x]) (Bt := SlI none []) ⟨some ⟨b, 0, none⟩, 1, some ⟨c, 0, none⟩, 1, none, 0⟩ (lrC_right hx) (Nat.le_refl _) sla_ce sla_sli
 have hO : ∀ b, Sp1 Tryz.prog 16 [.agg #[vS [], vS [], vI 0, .slice (some ⟨b, 0, none⟩) 1 1, .slice none 0 0, .slice none 0 0, vS me]] [Ce b 25 [vS [97], vS x], SlI none [], SlI none []] (vS (ckB (lrO x))) [Ce b 25 [vS [97], vS x], SlI none []] := fun b =>
  ref10_r_sp (Bf := Ce b 25 [vS [97], vS x]) (Bt := SlI none []) ⟨some ⟨b, 0, none⟩, 1, none, 0, none, 0⟩ (lrO_right hx) (Nat.le_refl _) sla_ce sla_sli
 have hh := lr_held hx
 have hlen : (lrH x).length = 2 := rfl
 have hP := fun b => links_Parents_sp b (lrH x) hh.txt (by rw [hlen]; omega)
 have hM := fun b => links_Changes_sp b (lrH x) hh.txt (by rw [hlen]; omega) (fun n => files_Of0_sp b (lrH x) hh.txt (lr_nobase hx) n)
 have hPr := fun b => links_Primary_sp b (lrH x) hh.txt [99]
 have hCh := fun b => links_Children_sp b (lrH x) hh.txt (by rw [hlen]; omega) x
 rw [lr_pri hx] at hPr
 rw [lr_chg hx] at hM
 have hpl := lr_pl hx
 have hcl := fun pre => lr_chl hx (pre := pre)
 have hmp : mput (mput [] [99] (vS (ckB (lrC x)))) [111] (vS (ckB (lrO x))) = lrH x := by simp [mput, lrH]
 generalize lrH x = H at *
 generalize ckB (lrC x) = cC at *
 generalize ckB (lrO x) = cO at *
 refine Sp.body (n := 65) Tryz.call3 Tryz.func3 rfl rfl rfl ?_
 refine Qc (k:=Vv (k:=Wq (Qc (k:=?_))))
 refine r_callF hS rfl rfl rfl ?_
 refine Vv (k:=Wq (Qc (k:=Vv (k:=Vx (Ps [_, _]) (k:=Zv [_] (cs := [_, _]) (k:=fun b10 => Vv (k:=Zv [_] (cs := [_]) (k:=fun b12 => Vx (Ps [vS [], vS [], .int .i64 0, _, _, .slice none 0 0, _]) (k:=?_)))))))))
 refine wo_frzC b12 ?_
 refine wo_ent' sli_nil ?_
 refine r_call1 (hC b10 b12) rfl rfl rfl ?_
 refine Vv (k:=Wq (Qc (k:=Vv (k:=Vx (Ps [_, _]) (k:=Zv [_] (cs := [_, _]) (k:=fun b17 => Vx (Ps [vS [], vS [], .int .i64 0, _, .slice none 0 0, .slice none 0 0, _]) (k:=?_)))))))
 refine wo_ent' sli_nil ?_
 refine wo_ent' sli_nil ?_
 refine r_call1 (hO b17) rfl rfl rfl ?_
 refine Vv (k:=Wq (Qc (k:=?_)))
 refine r_mkmap rfl (fun b20 => ?_)
 refine Vv (k:=?_)
 refine r_insert Tryz.underlying31 Tryz.underlying9 rfl rfl rfl ?_
 refine Vv (k:=?_)
 refine r_insert Tryz.underlying31 Tryz.underlying9 rfl rfl rfl ?_
 rw [hmp]
 refine Qv (k:=Wq (Qc (k:=Vv (k:=?_))))
 refine r_callX (hP b20) rfl rfl rfl (fun xp hxp => ?_)
 obtain ⟨⟨pa, pc⟩, ql⟩ := xp
 have hq : ql = [⟨[99], x, true⟩] := by rw [hpl] at hxp; exact List.perm_singleton.1 hxp.1
 subst hq
 dsimp only [List.length_cons, List.length_nil, List.flatMap_cons, List.flatMap_nil, plCells, List.cons_append, List.nil_append]
 refine Vv (k:=?_)
 refine r_callX (hM b20) rfl rfl rfl (fun xm hxm => ?_)
 obtain ⟨ma, mc⟩ := xm
 dsimp only [List.length_cons, List.length_nil, List.flatMap_cons, List.flatMap_nil, mlCells, List.cons_append, List.nil_append]
 refine Qv (k:=Wq (Qc (k:=Qv (k:=Qv (k:=Gi 3 (t:=fun h31 => ?_) (f:=fun h31 => ?_))))))
 ·
  refine J1 (k:=I1 (k:=?_))
  refine r_elemAddr (m := 0) (sz := 3) Tryz.underlying32 ti37 rfl rfl rfl rfl (by omega) (by simp [plCells]) (Nat.zero_mul _) rfl ?_
  refine I1 (k:=?_)
  refine r_eloada (vs := [vS [99], vS x, .bool true]) (sz := 3) Tryz.underlying37 rfl ti37 rfl rfl (by simp [plCells]) rfl rfl rfl ?_
  refine J1 (k:=I1 (k:=Vx (Ps [_, _, _]) (k:=I1 (k:=?_))))
  refine wo_pv (pv_aeql [.string, .string, .bool] Tryz.underlying37 (by kernel_rfl) (by kernel_rfl) (by kernel_rfl) rfl rfl rfl) rfl ?_
  refine P1 (k:=Vv (k:=Gi 11 (t:=fun h39 => ?_) (f:=fun h39 => ?_)))
  ·
   refine J1 (k:=J1 (k:=J1 (k:=P1 (k:=Vv (k:=Gi 16 (t:=fun h44 => ?_) (f:=fun h44 => ?_))))))
   ·
    refine J1 (k:=I1 (k:=?_))
    refine r_elemAddr (m := 0) (sz := 4) Tryz.underlying34 ti39 rfl rfl rfl rfl (by omega) (by simp [mlCells]) (Nat.zero_mul _) rfl ?_
    refine I1 (k:=?_)
    refine r_eloada (vs := [vS [111], vS [97], vS [], vS x]) (sz := 4) Tryz.underlying39 rfl ti39 rfl rfl (by simp [mlCells]) rfl rfl rfl ?_
    refine J1 (k:=I1 (k:=Vx (Ps [_, _, vS [], _]) (k:=I1 (k:=?_))))
    refine wo_pv (pv_aeql [.string, .string, .string, .string] Tryz.underlying39 (by kernel_rfl) (by kernel_rfl) (by kernel_rfl) rfl rfl rfl) rfl ?_
    refine P1 (k:=Vv (k:=Gi 24 (t:=fun h52 => ?_) (f:=fun h52 => ?_)))
    ·
     refine J1 (k:=I1 (k:=?_))
     refine r_call1 (hPr b20) rfl rfl rfl ?_
     refine J1 (k:=J1 (k:=P1 (k:=Vv (k:=Gi 30 (t:=fun h58 => ?_) (f:=fun h58 => ?_)))))
     ·
      refine J1 (k:=J1 (k:=I1 (k:=?_)))
      refine r_callX (hCh b20) rfl rfl rfl (fun xc hxc => ?_)
      obtain ⟨⟨ca, cc⟩, al⟩ := xc
      dsimp only
      rw [hcl al hxc]
      simp only [List.length_cons, List.length_nil, Nat.zero_add]
      refine I1 (k:=Zv [_] (cs := [_]) (k:=fun b62 => I1 (k:=?_)))
      refine r_call1 (book_SameS_sp (As := [Row 9 1 (.slice ca 1 cc) 1 (([[99]] : List Bs).map vS), Ce b62 9 [vS [99]]]) 1 1 cc 1 [[99]] [[99]] rfl rfl (by decide)) rfl rfl rfl ?_
      refine P1 (k:=Vv (k:=Wq (Zt (k:=?_))))
      exact fin_ret () (vs := [_]) (Cs := []) rfl (.tmp rfl .nil) rfl trivial ent_nil
     ·
      exact absurd rfl h58
      --done
    ·
     have := eqMl ⟨[111], [97], [], x⟩ ⟨[111], [97], [], x⟩
     simp_all
     --done
   ·
    exact absurd rfl h44
    --done
  ·
   have := eqPl ⟨[99], x, true⟩ ⟨[99], x, true⟩
   simp_all
   --done
 ·
  exact absurd rfl h31
  --done
theorem LinksRuns_sp : Sp1 Tryz.prog 3 [] [] (vB true) [] := LinksRuns_x (isN_sha [120]) (ref1_Sum_sp [120] (by decide))
end
end Go.Proofs.YtdnoacgopfcpbaaGreat
