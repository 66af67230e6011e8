/- Texts of this proof, put together: LawTagsChain. -/
import Derived.Test.YtomgdbanbpjedaaGreatQ25
set_option linter.unusedVariables false
set_option linter.unusedSimpArgs false
namespace Go.Proofs.YtomgdbanbpjedaaGreat
section
set_option maxRecDepth 100000
section
variable {P : Program} {n : Nat} {L : Loc} {ty : TypeId}
/-- An array of zeros. -/
theorem pv_build0 {t e : TypeId} {len : Nat} {ti tt : TypeInfo} {z : Value} (ht : P.underlying t = some (.array len e)) (hi : P.info? e = some ti) (hit : P.info? t = some tt) (hz : tt.zero = some z) : PV P n L (.build t ([] : List (Nat × Operand)).toArray) ty (.agg z.cells) := by
 refine pv_buildx (pv := []) rfl (fun w => ?_)
 unfold Instr.build
 simp only [Sem.run_bind, zeroValue, typeInfo, program, Sem.run, hit, hz, Result.andThen_ok, run_underlying ht, sizeOf, hi, Sem.run_pure]
 rfl
end
structure CoS where
 i : Nat
 K : Ks
 cs : List Nat
 o : Nat → Option Nat
structure CoS.Ok (x : CoS) (n : Nat) : Prop where
 le : x.i ≤ n
 le8 : x.i ≤ 8
 ci : CoI x.K x.cs
 cl : x.cs.length ≤ x.i
 be : ∀ a, a < 3 → BestO x.cs a (x.o a)
def bdV : Option Nat → Int
 | none => -1
 | some m => ((m / 18 : Nat) : Int)
def bkV : Option Nat → UInt8
 | none => 0
 | some m => kB (m / 2 % 3)
def bsV : Option Nat → Bs
 | none => []
 | some m => coN m
def bd3 (o : Nat → Option Nat) : List Value := [vI (bdV (o 0)), vI (bdV (o 1)), vI (bdV (o 2))]
def bk3 (o : Nat → Option Nat) : List Value := [vU (bkV (o 0)).toNat, vU (bkV (o 1)).toNat, vU (bkV (o 2)).toNat]
def bs3 (o : Nat → Option Nat) : List Value := [vS (bsV (o 0)), vS (bsV (o 1)), vS (bsV (o 2))]
def x3 : List Value := [vS (xN 0), vS (xN 1), vS (xN 2)]
theorem get_3 {f : Nat → Value} {a : Nat} (h : a < 3) : [f 0, f 1, f 2][a]? = some (f a) := by
 have : a = 0 ∨ a = 1 ∨ a = 2 := by omega
 rcases this with rfl | rfl | rfl <;> rfl
theorem kB_get {k : Nat} (h : k < 3) : ([43, 42, 45] : Bs).getD k 0 = kB k := by
 have : k = 0 ∨ k = 1 ∨ k = 2 := by omega
 rcases this with rfl | rfl | rfl <;> rfl
theorem uB_get {k : Nat} (h : k < 2) : [vS [109, 101], vS [121, 111, 117]][k]? = some (vS (uB k)) := by
 have : k = 0 ∨ k = 1 := by omega
 rcases this with rfl | rfl <;> rfl
theorem co_at {d a k u : Nat} (hd : d ≤ 5) (ha : a < 3) (hk : k < 3) (hu : u < 2) : ∃ m, m < 108 ∧ m / 18 = d ∧ m / 6 % 3 = a ∧ m / 2 % 3 = k ∧ m % 2 = u := ⟨d * 18 + a * 6 + k * 2 + u, by omega, by omega, by omega, by omega, by omega⟩
def oPut (o : Nat → Option Nat) (a m : Nat) : Nat → Option Nat := fun b => if b = a then some m else o b
theorem be_put {cs cs' : List Nat} {mm a d : Nat} {o : Nat → Option Nat} (be : ∀ a, a < 3 → BestO cs a (o a)) (ha : a < 3) (e6 : mm / 6 % 3 = a) (e18 : mm / 18 = d) (hc : ∀ j, j ∈ cs' ↔ j ∈ cs ∨ j = mm) (h : bdV (o a) < (d : Int) ∨ ((d : Int) = bdV (o a) ∧ bsV (o a) < coN mm)) : ∀ b, b < 3 → BestO cs' b (oPut o a mm b) := by
 intro b hb
 have h3 := best_step (be b hb) hc
 unfold oPut
 by_cases e : b = a
 · subst e
   rw [if_pos rfl]
   refine h3.2.1 e6 fun k hk => ?_
   rw [hk] at h
   dsimp only [bdV, bsV] at h
   rcases h with h | ⟨h1, h2⟩
   · exact .inl (by omega)
   · exact .inr ⟨by omega, h2⟩
 · rw [if_neg e]
   exact h3.1 (by rw [e6]; exact fun x => e x.symm)
theorem be_keep {cs cs' : List Nat} {mm a d : Nat} {o : Nat → Option Nat} (be : ∀ a, a < 3 → BestO cs a (o a)) (ha : a < 3) (e6 : mm / 6 % 3 = a) (e18 : mm / 18 = d) (hc : ∀ j, j ∈ cs' ↔ j ∈ cs ∨ j = mm) (h1 : ¬ bdV (o a) < (d : Int)) (h2 : ¬ ((d : Int) = bdV (o a) ∧ bsV (o a) < coN mm)) : ∀ b, b < 3 → BestO cs' b (o b) := by
 intro b hb
 have h3 := best_step (be b hb) hc
 by_cases e : b = a
 · subst e
   cases ho : o b with
   | none => rw [ho] at h1; dsimp only [bdV] at h1; exfalso; omega
   | some k =>
     rw [ho] at h1 h2
     dsimp only [bdV, bsV] at h1 h2
     have := h3.2.2 e6 k ho (by omega) (fun h => h2 ⟨by omega, h.2⟩)
     rwa [ho] at this
 · exact h3.1 (by rw [e6]; exact fun x => e x.symm)
theorem set_3 {f : Option Nat → Value} {o : Nat → Option Nat} {a m : Nat} (ha : a < 3) : [f (o 0), f (o 1), f (o 2)].set a (f (some m)) = [f (oPut o a m 0), f (oPut o a m 1), f (oPut o a m 2)] := by
 have : a = 0 ∨ a = 1 ∨ a = 2 := by omega
 rcases this with rfl | rfl | rfl <;> rfl
theorem bgt_iff (a b : Bs) : (!(blt a b || decide (a = b))) = true ↔ b < a := by
 rw [blt_eq]
 constructor
 · intro h
   have h1 : ¬ a < b := by intro h2; simp [h2] at h
   have h2 : a ≠ b := by intro h2; simp [h2] at h
   exact Classical.byContradiction fun h3 => h2 (List.le_antisymm (List.not_lt.1 h3) (List.not_lt.1 h1))
 · intro h
   have h1 : ¬ a < b := fun h2 => List.lt_irrefl _ (List.lt_trans h h2)
   have h2 : a ≠ b := fun e => by rw [e] at h; exact List.lt_irrefl _ h
   simp [h1, h2]
theorem bk_45 (c : UInt8) (n : UInt8) : ((c.toNat : Int) = (n.toNat : Int)) ↔ c = n := by
 constructor
 · intro h; exact UInt8.toNat_inj.1 (by omega)
 · rintro rfl; rfl
theorem ha_eq {sp : Bool} {o : Option Nat} (h : 0 ≤ bdV o) : decide (¬ ((bkV o).toNat : Int) = 45) = haB sp o := by
 cases o with
 | none => cases h
 | some m =>
   have := bk_45 (kB (m / 2 % 3)) 45
   rw [bkV, haB, show (45 : Int) = ((45 : UInt8).toNat : Int) from rfl]
   simp only [this, decide_not]
theorem sp_eq {sp : Bool} {o : Option Nat} (h : 0 ≤ bdV o) : decide (((bkV o).toNat : Int) = 42) = spB sp o := by
 cases o with
 | none => cases h
 | some m =>
   have := bk_45 (kB (m / 2 % 3)) 42
   rw [bkV, spB, show (42 : Int) = ((42 : UInt8).toNat : Int) from rfl]
   simp only [this]
theorem no_eq {sp : Bool} {o : Option Nat} (h : ¬ 0 ≤ bdV o) : sp = spB sp o ∧ sp = haB sp o := by
 cases o with
 | none => exact ⟨rfl, rfl⟩
 | some m => exact absurd (show (0 : Int) ≤ ((m / 18 : Nat) : Int) by omega) h
theorem own_eq (o : Option Nat) : o.isSome = decide (0 ≤ bdV o) := by
 cases o with
 | none => rfl
 | some m => exact (decide_eq_true (show (0 : Int) ≤ ((m / 18 : Nat) : Int) by omega)).symm
theorem zb4next1 {G : Prop} (h : G := by exact to_inv ⟨(j + 1, spB sp (o2 j)), by dsimp only; omega, by dsimp only; rw [hsp]; rfl⟩ (by dsimp only; omega) ⟨rfl, rfl, rfl, rfl, rfl, rfl, trivial⟩ ent_pick) : G := h
theorem zb4join25 {G : Prop} (h : G := by
    first
    | exact to_inv () trivial ⟨rfl, rfl, rfl, rfl, vB_eq (sp_eq (by assumption)), rfl, vB_eq (ha_eq (by assumption)), rfl, trivial⟩ ent_pick
    | exact to_inv () trivial ⟨rfl, rfl, rfl, rfl, vB_eq (no_eq (by assumption)).1, rfl, vB_eq (no_eq (by assumption)).2, rfl, trivial⟩ ent_pick) : G := h
theorem zb4next0 {G : Prop} (h : G := by
    first
    | (refine to_inv ⟨⟨i + 1, mput K (coN mm) (vS (coT mm)), cs', oPut o at_ mm⟩, by dsimp only; omega, by dsimp only; omega, ci', by dsimp only; omega, be_put be ha3 e6 e18 hc' (by first | exact .inl (by assumption) | exact .inr ⟨by assumption, (bgt_iff _ _).1 (by assumption)⟩)⟩ (by dsimp only; omega) ⟨rfl, rfl, rfl, rfl, rfl, rfl, rfl, rfl, trivial⟩ ?_
       dsimp only
       rw [show bd3 (oPut o at_ mm) = (bd3 o).set at_ (vI d) from by rw [show vI (d : Int) = vI (bdV (some mm)) from by rw [bdV, e18]]; exact (set_3 (f := fun x => vI (bdV x)) ha3).symm, show bk3 (oPut o at_ mm) = (bk3 o).set at_ (vU (kB kt).toNat) from by rw [show vU ((kB kt).toNat : Int) = vU ((bkV (some mm)).toNat : Int) from by rw [bkV, e2]]; exact (set_3 (f := fun x => vU ((bkV x).toNat : Int)) ha3).symm, show bs3 (oPut o at_ mm) = (bs3 o).set at_ (vS (coN mm)) from (set_3 (f := fun x => vS (bsV x)) ha3).symm]
       exact ent_pick)
    | (refine to_inv ⟨⟨i + 1, mput K (coN mm) (vS (coT mm)), cs', o⟩, by dsimp only; omega, by dsimp only; omega, ci', by dsimp only; omega, be_keep be ha3 e6 e18 hc' (by assumption) (fun hx => absurd hx.1 (by assumption))⟩ (by dsimp only; omega) ⟨rfl, rfl, rfl, rfl, rfl, rfl, rfl, rfl, trivial⟩ ?_
       dsimp only
       exact ent_pick)
    | (refine to_inv ⟨⟨i + 1, mput K (coN mm) (vS (coT mm)), cs', o⟩, by dsimp only; omega, by dsimp only; omega, ci', by dsimp only; omega, be_keep be ha3 e6 e18 hc' (by assumption) (fun hx => by have e := (bgt_iff _ _).2 hx.2; dsimp only at e; rw [h97] at e; cases e)⟩ (by dsimp only; omega) ⟨rfl, rfl, rfl, rfl, rfl, rfl, rfl, rfl, trivial⟩ ?_
       dsimp only
       exact ent_pick)) : G := h
theorem zb4join14 {G : Prop} (h : G := by exact to_inv () trivial ⟨rfl, rfl, rfl, rfl, rfl, rfl, rfl, rfl, rfl, rfl, rfl, rfl, trivial⟩ ent_pick) : G := h
theorem zb4join11 {G : Prop} (h : G := by
    first
    | (have hw := withinI_in (n := ds[i]) (lo := 0) (hi := 5) (by omega)
       exact to_inv ⟨(withinI ds[i] 0 5).toNat, by omega⟩ trivial ⟨rfl, rfl, rfl, rfl, rfl, rfl, rfl, rfl, vI_eq (by dsimp only; omega), trivial⟩ ent_pick)
    | exact to_inv ⟨0, Nat.zero_le _⟩ trivial ⟨rfl, rfl, rfl, rfl, rfl, rfl, rfl, rfl, rfl, trivial⟩ ent_pick) : G := h
set_option maxHeartbeats 8000000 in
theorem TagsChain_sp {ka da : Option Addr} (kc dc : Nat) (ks ds : List Int) (hk : ks.length ≤ 9223372036854775807) (hd : ds.length ≤ 9223372036854775807) :
    Sp1 Tryz.prog 4 [.slice ka ks.length kc, .slice da ds.length dc] [SlI ka (ks.map vI), SlI da (ds.map vI)] (vB true) [] := by
 refine Sp.body (n := 158) Tryz.call4 Tryz.func4 rfl rfl rfl ?_
 refine Qc (k:=Vv (k:=Wq (Qc (k:=?_))))
 refine wo_ent' sli_nil ?_
 refine r_callX (law18_chain_sp (Bt := SlI none []) none 0 [] right_t0 tgD_no sla_sli) rfl rfl rfl (fun x22 hx22 => ?_)
 obtain ⟨⟨m, K0⟩, bl⟩ := x22
 dsimp only at hx22 ⊢
 have ci0 := coI_0 hx22
 refine Vv (k:=?_)
 refine wo_pv (pv_extract (v := .map (some m)) rfl rfl) rfl ?_
 refine wo_pv (pv_extract (v := .slice (some ⟨bl, 0, none⟩) 3 3) rfl rfl) rfl ?_
 refine Qv (k:=Wq (Qc (k:=?_)))
 refine wo_pv (pv_buildA (vs := [_, _, _]) Tryz.underlying42 ti3 rfl rfl rfl ti42 rfl rfl) rfl ?_
 refine Zc [.int .i64 0, .int .i64 0, .int .i64 0] (k:=fun b7 => Zp (k:=Wq (Qc (k:=?_))))
 refine wo_pv (show PV _ _ _ _ _ (.agg #[.int .u8 0, .int .u8 0, .int .u8 0]) from pv_build0 Tryz.underlying43 ti5 ti43 rfl) rfl ?_
 refine Zc [.int .u8 0, .int .u8 0, .int .u8 0] (k:=fun b8 => Zp (k:=Wq (Qc (k:=?_))))
 refine wo_pv (show PV _ _ _ _ _ (.agg #[vS [], vS [], vS []]) from pv_build0 Tryz.underlying44 ti9 ti44 rfl) rfl ?_
 refine Zc [vS [], vS [], vS []] (k:=fun b9 => Zp (k:=Wq ?_))
 refine p_cut (fun (y : { x : CoS // x.Ok ks.length }) => [(5, .map (some m)), (6, .slice (some ⟨bl, 0, none⟩) 3 3), (7, .pointer (some ⟨b7, 0, none⟩)), (8, .pointer (some ⟨b8, 0, none⟩))]) (fun (y : { x : CoS // x.Ok ks.length }) => [MapS m y.1.K, Ce b7 42 (bd3 y.1.o), Ce b8 43 (bk3 y.1.o), Ce bl 9 x3]) rfl (fun y => ?_) ?_
 ·
  obtain ⟨⟨i2, K2, cs2, o2⟩, ok2⟩ := y
  obtain ⟨hi2, hi82, ci2, hcl2, be2⟩ := ok2
  dsimp only at hi2 hi82 ci2 hcl2 be2 ⊢
  have hKl := coI_len ci2
  try dsimp only
  refine Qc (k:=Vv (k:=Wq (Za (k:=Qc (k:=Vv (k:=Wq (Zb (k:=?_))))))))
  refine p_loop (fun (i : { x : Nat × Bool // x.1 ≤ 3 ∧ x.2 = sprd o2 x.1 }) => [(5, .map (some m)), (6, .slice (some ⟨bl, 0, none⟩) 3 3), (7, .pointer (some ⟨b7, 0, none⟩)), (8, .pointer (some ⟨b8, 0, none⟩)), (16, vB i.1.2), (107, vI i.1.1)]) (fun (i : { x : Nat × Bool // x.1 ≤ 3 ∧ x.2 = sprd o2 x.1 }) => [MapS m K2, Ce b7 42 (bd3 o2), Ce b8 43 (bk3 o2), Ce bl 9 x3]) (fun (i : { x : Nat × Bool // x.1 ≤ 3 ∧ x.2 = sprd o2 x.1 }) => 3 - i.1.1) rfl (⟨(0, false), by dsimp only; omega, rfl⟩) ?_ ?_ (fun i => ?_)
  · exact ⟨rfl, rfl, rfl, rfl, rfl, rfl, trivial⟩
  ·
   exact ent_pick
  obtain ⟨⟨j, sp⟩, hj, hsp⟩ := i
  dsimp only at hj hsp ⊢
  try dsimp only
  refine Qc (k:=Vv (k:=Wq (Za (k:=Zi (t:=fun h108 => ?_) (f:=fun h108 => ?_)))))
  ·
   refine Zk (k:=Ya (Za (k:=Zb (k:=Za (k:=?_)))))
   have hj3 : j < 3 := by omega
   have hof := co_of ci2 be2 hj3
   obtain ⟨y, hy⟩ : ∃ y, y = ofT (cksL K2) (lastL K2) [116] (xN j) := ⟨_, rfl⟩
   have hOf := tags_Of_sp m K2 ci2.held.txt ci2.held.knd (by omega) [116] (xN j) y hy
   obtain ⟨hy1, hy2⟩ := coR_own o2 j hj3
   rw [← hof, ← hy] at hy1 hy2
   clear hy hof
   rw [← hsp] at hy1
   rw [own_eq] at hy2
   generalize y.getD tgd0 = z2 at hOf hy2
   generalize y.isSome = okb at hOf hy1 hy2
   obtain ⟨g1, g2, g3, g4, g5, g6⟩ := z2
   dsimp only at hy2
   refine Zr (k:=Qv (k:=Wq (Qc (k:=Qv (k:=Wq ?_)))))
   refine p_cut (fun (_ : Unit) => [(5, .map (some m)), (6, .slice (some ⟨bl, 0, none⟩) 3 3), (7, .pointer (some ⟨b7, 0, none⟩)), (8, .pointer (some ⟨b8, 0, none⟩)), (16, vB (spB sp (o2 j))), (17, vI j), (18, vB (haB sp (o2 j))), (107, vI j)]) (fun (_ : Unit) => [MapS m K2, Ce b7 42 (bd3 o2), Ce b8 43 (bk3 o2), Ce bl 9 x3]) rfl (fun _ => ?_) ?_
   ·
    try dsimp only
    refine Qc (k:=Qv (k:=Vv (k:=?_)))
    refine r_elemAddr (m := j) (sz := 1) Tryz.underlying23 ti9 rfl rfl rfl rfl (by omega) (by simp [x3]) (Nat.mul_one _) rfl ?_
    refine r_eload Tryz.underlying9 rfl rfl (get_3 (f := fun i => vS (xN i)) hj3) rfl ?_
    refine r_call1 hOf rfl rfl rfl ?_
    refine Vv (k:=?_)
    refine wo_pv (pv_extract (v := .agg #[vS g1, vS g2, vS g3, vS g4, .bool g5, .bool g6]) rfl rfl) rfl ?_
    refine wo_pv (pv_extract (v := vB okb) rfl rfl) rfl ?_
    refine Zc [vS [], vS [], vS [], vS [], .bool false, .bool false] (k:=fun b19 => Zp (k:=Vv (k:=Wq (Za (k:=Dw [Ce b19 33 [vS g1, vS g2, vS g3, vS g4, .bool g5, .bool g6], Ce bl 9 x3, Ce b7 42 (bd3 o2)] (k:=?_))))))
    refine Dv 0 (k:=Dv 1 (k:=?_))
    refine d_first 2 rfl rfl rfl (by kernel_rfl) (by kernel_rfl) (tl_pv (pv_bneq Tryz.underlying4 rfl rfl)) ?_
    refine Dv 3 (k:=Gd 3 (t:=fun h135 => ?_) (f:=fun h135 => ?_))
    ·
     exfalso
     simp_all
     --done
    ·
     refine Di 4 (t:=U0 (h:=Uv)) (k:=Di 5 (t:=U0 (h:=Uv)) (k:=Gd 5 (t:=fun h137 => ?_) (f:=fun h137 => ?_)))
     ·
      refine Di 6 (t:=U1 (h:=Uf 1 9)) (k:=Di 7 (t:=U1 (h:=Ul)) (k:=Di 8 (t:=U1 (h:=Uv)) (k:=Di 9 (t:=U1 (h:=Uv)) (k:=?_))))
      refine d_first 10 rfl rfl rfl (by kernel_rfl) (by kernel_rfl) (tl_in (b := true) rfl (tl_elemAddr (m := j) (sz := 1) Tryz.underlying23 ti9 rfl rfl rfl rfl (by omega) (by simp [x3]) (Nat.mul_one _))) ?_
      refine d_first 11 rfl rfl rfl (by kernel_rfl) (by kernel_rfl) (tl_in (b := true) rfl (tl_eload Tryz.underlying9 rfl rfl (get_3 (f := fun i => vS (xN i)) hj3))) ?_
      refine Di 12 (t:=U1 (h:=Uv)) (k:=Di 13 (t:=U1 (h:=Uv)) (k:=Gd 13 (t:=fun h145 => ?_) (f:=fun h145 => ?_)))
      ·
       exfalso
       simp_all
       --done
      ·
       refine Di 14 (t:=U0 (h:=Uf 5 4)) (k:=Di 15 (t:=U0 (h:=Ul)) (k:=Di 16 (t:=U0 (h:=Uv)) (k:=?_)))
       refine d_first 17 rfl rfl rfl (by kernel_rfl) (by kernel_rfl) (tl_in (b := false) rfl (tl_pv (pv_aindex1 Tryz.underlying42 ti3 rfl rfl rfl (by first | rfl | omega) (by omega)))) ?_
       refine d_first 18 rfl rfl rfl (by kernel_rfl) (by kernel_rfl) (tl_in (b := false) rfl (tl_load Tryz.underlying3 rfl rfl (show (bd3 o2)[j]? = some (vI (bdV (o2 j))) from get_3 (f := fun i => vI (bdV (o2 i))) hj3))) ?_
       refine Di 19 (t:=U0 (h:=Uv)) (k:=?_)
       refine d_first 20 rfl rfl rfl (by kernel_rfl) (by kernel_rfl) (tl_in (b := false) rfl (tl_pv (pv_bneq Tryz.underlying4 rfl rfl))) ?_
       refine Di 21 (t:=U1 (h:=UP0)) (k:=Di 22 (t:=U0 (h:=UP1)) (k:=DP0 23 (k:=Dd (k:=Ya (Zi (t:=fun h155 => ?_) (f:=fun h155 => ?_))))))
       ·
        exfalso
        simp_all
        --done
       ·
        refine Zk (k:=Yb (Ya (Zr (k:=Qv (k:=Wn ?_)))))
        exact zb4next1
     ·
      refine D0 6 (k:=D0 7 (k:=D0 8 (k:=D0 9 (k:=D0 10 (k:=D0 11 (k:=D0 12 (k:=D0 13 (k:=Di 14 (t:=Uu) (k:=Di 15 (t:=Uu) (k:=Di 16 (t:=Uu) (k:=Di 17 (t:=Uu) (k:=?_))))))))))))
      refine Di 18 (t:=Uu) (k:=Di 19 (t:=Uu) (k:=Di 20 (t:=Uu) (k:=D0 21 (k:=Di 22 (t:=U0 (h:=UP0)) (k:=DP0 23 (k:=Dd (k:=Ya (Z0 (k:=Zk (k:=Yb (Ya ?_)))))))))))
      refine Zr (k:=Qv (k:=Wn ?_))
      exact zb4next1
   ·
    refine Qc (k:=Vv (k:=?_))
    refine wo_pv (pv_aindex1 Tryz.underlying42 ti3 rfl rfl rfl (by first | rfl | omega) (by omega)) rfl ?_
    refine r_load Tryz.underlying3 rfl rfl (show (bd3 o2)[j]? = some (vI (bdV (o2 j))) from get_3 (f := fun i => vI (bdV (o2 i))) hj3) rfl ?_
    refine Vv (k:=Wq (Zi (t:=fun h114 => ?_) (f:=fun h114 => ?_)))
    ·
     refine Dw [Ce b8 43 (bk3 o2)] (k:=?_)
     refine Dv 0 (k:=?_)
     refine d_first 1 rfl rfl rfl (by kernel_rfl) (by kernel_rfl) (tl_pv (pv_aindex1 Tryz.underlying43 ti5 rfl rfl rfl (by first | rfl | omega) (by omega))) ?_
     refine d_first 2 rfl rfl rfl (by kernel_rfl) (by kernel_rfl) (tl_load Tryz.underlying5 rfl rfl (show (bk3 o2)[j]? = some (vU ((bkV (o2 j)).toNat : Int)) from get_3 (f := fun i => vU ((bkV (o2 i)).toNat : Int)) hj3)) ?_
     refine Dv 3 (k:=Dv 4 (k:=?_))
     refine d_first 5 rfl rfl rfl (by kernel_rfl) (by kernel_rfl) (tl_pv (pv_aindex1 Tryz.underlying43 ti5 rfl rfl rfl (by first | rfl | omega) (by omega))) ?_
     refine d_first 6 rfl rfl rfl (by kernel_rfl) (by kernel_rfl) (tl_load Tryz.underlying5 rfl rfl (show (bk3 o2)[j]? = some (vU ((bkV (o2 j)).toNat : Int)) from get_3 (f := fun i => vU ((bkV (o2 i)).toNat : Int)) hj3)) ?_
     refine Dv 7 (k:=Dv 8 (k:=Dv 9 (k:=Dd (k:=?_))))
     exact zb4join25
    ·
     refine Zk (k:=?_)
     exact zb4join25
  ·
   refine Ze (k:=Xa (Xi (Xb (Ya (Qc (k:=?_))))))
   refine r_call1 TagsRuns_sp rfl rfl rfl ?_
   refine Vv (k:=Wq (Zt (k:=?_)))
   exact fin_ret () (vs := [_]) (Cs := []) rfl (.tmp rfl .nil) rfl trivial ent_nil
 ·
  refine Qc (k:=Vv (k:=Wq (Zb (k:=?_))))
  refine p_loop (fun (i : { x : CoS // x.Ok ks.length }) => [(0, .slice ka ks.length kc), (1, .slice da ds.length dc), (5, .map (some m)), (6, .slice (some ⟨bl, 0, none⟩) 3 3), (7, .pointer (some ⟨b7, 0, none⟩)), (8, .pointer (some ⟨b8, 0, none⟩)), (9, .pointer (some ⟨b9, 0, none⟩)), (10, vI i.1.i)]) (fun (i : { x : CoS // x.Ok ks.length }) => [MapS m i.1.K, Ce b7 42 (bd3 i.1.o), Ce b8 43 (bk3 i.1.o), Ce b9 44 (bs3 i.1.o), Ce bl 9 x3, SlI ka (ks.map vI), SlI da (ds.map vI)]) (fun (i : { x : CoS // x.Ok ks.length }) => 8 - i.1.i) rfl (⟨⟨0, K0, [], fun _ => none⟩, ⟨Nat.zero_le _, Nat.zero_le _, ci0, Nat.le_refl _, fun a _ j hj => absurd hj (List.not_mem_nil)⟩⟩) ?_ ?_ (fun i => ?_)
  · exact ⟨rfl, rfl, rfl, rfl, rfl, rfl, rfl, rfl, trivial⟩
  ·
   refine (ce_norm (b := b7) (T := 42) (l' := bd3 fun _ => none) (by rfl) (by rfl)).trans ?_
   refine (ce_norm (b := b8) (T := 43) (l' := bk3 fun _ => none) (by rfl) (by rfl)).trans ?_
   refine (ce_norm (b := b9) (T := 44) (l' := bs3 fun _ => none) (by rfl) (by rfl)).trans ?_
   refine (ce_norm (b := bl) (T := 9) (l' := x3) (by rfl) (by rfl)).trans ?_
   exact ent_pick
  obtain ⟨⟨i, K, cs, o⟩, ok⟩ := i
  obtain ⟨hi, hi8, ci, hcl, be⟩ := ok
  dsimp only at hi hi8 ci hcl be ⊢
  try dsimp only
  refine Za (k:=Qc (k:=Qv (k:=Qv (k:=Vv (k:=Gi 4 (t:=fun h32 => ?_) (f:=fun h32 => ?_))))))
  ·
   refine J1 (k:=J1 (k:=P1 (k:=Wq (Zi (t:=fun h35 => ?_) (f:=fun h35 => ?_)))))
   ·
    refine Zk (k:=Ya (Za (k:=Zb (k:=Za (k:=?_)))))
    have hik : i < ks.length := by omega
    refine Zr (k:=Vv (k:=Wq ?_))
    refine p_cut (fun (d : { d : Nat // d ≤ 5 }) => [(0, .slice ka ks.length kc), (1, .slice da ds.length dc), (5, .map (some m)), (6, .slice (some ⟨bl, 0, none⟩) 3 3), (7, .pointer (some ⟨b7, 0, none⟩)), (8, .pointer (some ⟨b8, 0, none⟩)), (9, .pointer (some ⟨b9, 0, none⟩)), (10, vI i), (11, vI d.1)]) (fun (d : { d : Nat // d ≤ 5 }) => [MapS m K, Ce b7 42 (bd3 o), Ce b8 43 (bk3 o), Ce b9 44 (bs3 o), Ce bl 9 x3, SlI ka (ks.map vI), SlI da (ds.map vI)]) rfl (fun d => ?_) ?_
    ·
     obtain ⟨d, hd5⟩ := d
     dsimp only
     try dsimp only
     refine Qc (k:=Qv (k:=Ye 1 (k:=?_)))
     refine r_eload Tryz.underlying3 rfl rfl (get_map (m := i) (by omega)) rfl ?_
     refine wo_pv (pv_quow rfl rfl (by omega)) rfl ?_
     refine r_callF (book_Within_sp _ 0 2 (by omega) (by omega) (by omega)) rfl rfl rfl ?_
     have hAt := withinI_in (n := IntKind.i64.wrap ((ks[i]).tdiv 3)) (lo := 0) (hi := 2) (by omega)
     obtain ⟨at_, hat⟩ : ∃ a : Nat, withinI (IntKind.i64.wrap ((ks[i]).tdiv 3)) 0 2 = (a : Int) := ⟨(withinI (IntKind.i64.wrap ((ks[i]).tdiv 3)) 0 2).toNat, by omega⟩
     rw [hat] at hAt ⊢
     have ha3 : at_ < 3 := by omega
     refine Vv (k:=Wq (Qc (k:=Qv (k:=Ye 1 (k:=?_)))))
     refine r_eload Tryz.underlying3 rfl rfl (get_map (m := i) (by omega)) rfl ?_
     refine r_callF (book_Within_sp _ 0 2 (by omega) (by omega) (by omega)) rfl rfl rfl ?_
     have hKt := withinI_in (n := ks[i]) (lo := 0) (hi := 2) (by omega)
     obtain ⟨kt, hkt⟩ : ∃ a : Nat, withinI (ks[i]) 0 2 = (a : Int) := ⟨(withinI (ks[i]) 0 2).toNat, by omega⟩
     rw [hkt] at hKt ⊢
     have hk3 : kt < 3 := by omega
     obtain ⟨u, hu⟩ : ∃ u, u = i % 2 := ⟨_, rfl⟩
     have hu2 : u < 2 := by omega
     obtain ⟨mm, hmm, e18, e6, e2, e1⟩ := co_at hd5 ha3 hk3 hu2
     have hcc : coC mm = ctOne (d : Int) (kB kt) (xN at_) [] (uB u) := by rw [coC, coF, e18, e6, e2, e1]
     have hT : ctB (ctOne (d : Int) (kB kt) (xN at_) [] (uB u)) = coT mm := by rw [coT, hcc]
     have hRt : RightCt (ctOne (d : Int) (kB kt) (xN at_) [] (uB u)) := by rw [← hcc]; exact coC_right hmm
     have hTl := ctB_len hRt
     rw [hT] at hTl
     have hCt := fun b => ref10_ct_sp (Bt := Ce b 27 [vU (kB kt).toNat, vS [116], vS (xN at_), vS []]) (some ⟨b, 0, none⟩) 1 hRt sla_ce (tgZ_one (k := kB kt) (nm := [116]) (tgt := xN at_) (v := []) (by decide) (Nat.le_of_eq (isN_len (xN_isN _))) (by decide))
     simp only [hT] at hCt
     have hSm := ref1_Sum_sp (coT mm) (by omega)
     rw [show shaB (coT mm) = coN mm from rfl] at hSm
     obtain ⟨cs', ci', hc', hl'⟩ := coI_put ci hmm
     have hbs := be at_ ha3
     refine wo_pv (pv_indexm (l := [43, 42, 45]) (m := kt) Tryz.underlying9 rfl rfl rfl (by simp; omega)) rfl ?_
     rw [kB_get hk3]
     refine Vv (k:=Wq ?_)
     refine p_cut (fun (_ : Unit) => [(0, .slice ka ks.length kc), (1, .slice da ds.length dc), (5, .map (some m)), (6, .slice (some ⟨bl, 0, none⟩) 3 3), (7, .pointer (some ⟨b7, 0, none⟩)), (8, .pointer (some ⟨b8, 0, none⟩)), (9, .pointer (some ⟨b9, 0, none⟩)), (10, vI i), (11, vI d), (12, vI at_), (13, vU (kB kt).toNat), (14, vS (coT mm))]) (fun (_ : Unit) => [MapS m K, Ce b7 42 (bd3 o), Ce b8 43 (bk3 o), Ce b9 44 (bs3 o), Ce bl 9 x3, SlI ka (ks.map vI), SlI da (ds.map vI)]) rfl (fun _ => ?_) ?_
     ·
      try dsimp only
      refine Qc (k:=Vv (k:=?_))
      refine r_callF hSm rfl rfl rfl ?_
      refine Vv (k:=Wq (Qc (k:=Qv (k:=Vv (k:=?_)))))
      refine r_mapUpdate Tryz.underlying22 Tryz.underlying9 rfl rfl rfl ?_
      refine Wq (Qc (k:=Qv (k:=?_)))
      refine wo_pv (pv_aindex1 Tryz.underlying42 ti3 rfl rfl rfl (by first | rfl | omega) (by omega)) rfl ?_
      refine r_load Tryz.underlying3 rfl rfl (show (bd3 o)[at_]? = some (vI (bdV (o at_))) from get_3 (f := fun i => vI (bdV (o i))) ha3) rfl ?_
      refine Qv (k:=Gi 5 (t:=fun h84 => ?_) (f:=fun h84 => ?_))
      ·
       refine O1 (k:=O1 (k:=O1 (k:=O1 (k:=O1 (k:=O1 (k:=Ou (k:=Ou (k:=Ou (k:=Ou (k:=Ou (k:=O1 (k:=?_))))))))))))
       refine P1 (k:=Wq (Z1 (k:=Zr (k:=Qv (k:=Qv (k:=Qv (k:=?_)))))))
       refine wo_pv (pv_aindex1 Tryz.underlying42 ti3 rfl rfl rfl (by first | rfl | omega) (by omega)) rfl ?_
       refine r_store ti3 rfl rfl rfl rfl (by exact ha3) ?_
       refine wo_pv (pv_aindex1 Tryz.underlying43 ti5 rfl rfl rfl (by first | rfl | omega) (by omega)) rfl ?_
       refine r_store ti5 rfl rfl rfl rfl (by exact ha3) ?_
       refine wo_pv (pv_aindex1 Tryz.underlying44 ti9 rfl rfl rfl (by first | rfl | omega) (by omega)) rfl ?_
       refine r_store ti9 rfl rfl rfl rfl (by exact ha3) ?_
       refine Wn (Yb (Ya (Zr (k:=Qv (k:=Vv (k:=Wn ?_))))))
       exact zb4next0
      ·
       refine J0 (k:=J0 (k:=I0 (k:=?_)))
       refine wo_pv (pv_aindex1 Tryz.underlying42 ti3 rfl rfl rfl (by first | rfl | omega) (by omega)) rfl ?_
       refine I0 (k:=?_)
       refine r_load Tryz.underlying3 rfl rfl (show (bd3 o)[at_]? = some (vI (bdV (o at_))) from get_3 (f := fun i => vI (bdV (o i))) ha3) rfl ?_
       refine J0 (k:=J0 (k:=Gi 11 (t:=fun h90 => ?_) (f:=fun h90 => ?_)))
       ·
        refine J1 (k:=J1 (k:=I1 (k:=?_)))
        refine wo_pv (pv_aindex1 Tryz.underlying44 ti9 rfl rfl rfl (by first | rfl | omega) (by omega)) rfl ?_
        refine I1 (k:=?_)
        refine r_load Tryz.underlying9 rfl rfl (show (bs3 o)[at_]? = some (vS (bsV (o at_))) from get_3 (f := fun i => vS (bsV (o i))) ha3) rfl ?_
        refine J1 (k:=I0 (k:=P1 (k:=P0 (k:=Wq (Zi (t:=fun h97 => ?_) (f:=fun h97 => ?_))))))
        ·
         refine Zr (k:=Qv (k:=Qv (k:=Qv (k:=?_))))
         refine wo_pv (pv_aindex1 Tryz.underlying42 ti3 rfl rfl rfl (by first | rfl | omega) (by omega)) rfl ?_
         refine r_store ti3 rfl rfl rfl rfl (by exact ha3) ?_
         refine wo_pv (pv_aindex1 Tryz.underlying43 ti5 rfl rfl rfl (by first | rfl | omega) (by omega)) rfl ?_
         refine r_store ti5 rfl rfl rfl rfl (by exact ha3) ?_
         refine wo_pv (pv_aindex1 Tryz.underlying44 ti9 rfl rfl rfl (by first | rfl | omega) (by omega)) rfl ?_
         refine r_store ti9 rfl rfl rfl rfl (by exact ha3) ?_
         refine Wn (Yb (Ya (Zr (k:=Qv (k:=Vv (k:=Wn ?_))))))
         exact zb4next0
        ·
         refine Zk (k:=Yb (Ya (Zr (k:=Qv (k:=Vv (k:=Wn ?_))))))
         exact zb4next0
       ·
        refine O0 (k:=O0 (k:=O0 (k:=O0 (k:=O0 (k:=I0 (k:=P0 (k:=P0 (k:=Wq (Z0 (k:=Zk (k:=Yb ?_)))))))))))
        refine Ya (Zr (k:=Qv (k:=Vv (k:=Wn ?_))))
        exact zb4next0
     ·
      refine Dw [Ce bl 9 x3] (k:=?_)
      refine Dv 0 (k:=Dv 1 (k:=Dv 2 (k:=Dv 3 (k:=?_))))
      refine d_first 4 rfl rfl rfl (by kernel_rfl) (by kernel_rfl) (tl_elemAddr (m := at_) (sz := 1) Tryz.underlying23 ti9 rfl rfl rfl rfl (by omega) (by simp [x3]) (Nat.mul_one _)) ?_
      refine d_first 5 rfl rfl rfl (by kernel_rfl) (by kernel_rfl) (tl_eload Tryz.underlying9 rfl rfl (get_3 (f := fun i => vS (xN i)) ha3)) ?_
      refine Di 6 (t:=Ux (Ps [_, _, _, vS []])) (k:=Dv 9 (k:=Dv 10 (k:=?_)))
      refine d_next2 7 8 (by kernel_rfl) rfl rfl ?_ ?_
      ·
       refine Nl [_] (cs := [_, _, _, _]) (k:=fun b66 => Dn 8 (k:=Nl [_, _] (cs := [_, _]) (k:=fun b67 => Dn 11 (k:=?_))))
       refine an_elemAddr (m := u) (sz := 1) Tryz.underlying23 ti9 rfl rfl rfl (by omega) (by omega) (by simp) (Nat.mul_one _) rfl ?_
       refine Dn 12 (k:=?_)
       refine an_eload Tryz.underlying9 rfl rfl (uB_get hu2) rfl ?_
       refine Di 13 (t:=Ux (Ps [_, _, _])) (k:=Dn 14 (k:=?_))
       refine an_call1 (hCt b66) rfl rfl rfl ?_
       refine Dv 15 (k:=Dd (k:=?_))
       exact zb4join14
      ·
       refine Nl [_, _] (cs := [_, _]) (k:=fun b67 => ?_)
       refine d_next2 7 11 (by kernel_rfl) rfl rfl ?_ ?_
       ·
        refine Nl [_] (cs := [_, _, _, _]) (k:=fun b66 => Dn 11 (k:=?_))
        refine an_elemAddr (m := u) (sz := 1) Tryz.underlying23 ti9 rfl rfl rfl (by omega) (by omega) (by simp) (Nat.mul_one _) rfl ?_
        refine Dn 12 (k:=?_)
        refine an_eload Tryz.underlying9 rfl rfl (uB_get hu2) rfl ?_
        refine Di 13 (t:=Ux (Ps [_, _, _])) (k:=Dn 14 (k:=?_))
        refine an_call1 (hCt b66) rfl rfl rfl ?_
        refine Dv 15 (k:=Dd (k:=?_))
        exact zb4join14
       ·
        refine an_elemAddr (m := u) (sz := 1) Tryz.underlying23 ti9 rfl rfl rfl (by omega) (by omega) (by simp) (Nat.mul_one _) rfl ?_
        refine d_next2 7 12 (by kernel_rfl) rfl rfl ?_ ?_
        ·
         refine Nl [_] (cs := [_, _, _, _]) (k:=fun b66 => Dn 12 (k:=?_))
         refine an_eload Tryz.underlying9 rfl rfl (uB_get hu2) rfl ?_
         refine Di 13 (t:=Ux (Ps [_, _, _])) (k:=Dn 14 (k:=?_))
         refine an_call1 (hCt b66) rfl rfl rfl ?_
         refine Dv 15 (k:=Dd (k:=?_))
         exact zb4join14
        ·
         refine an_eload Tryz.underlying9 rfl rfl (uB_get hu2) rfl ?_
         refine Dn 7 (k:=Nl [_] (cs := [_, _, _, _]) (k:=fun b66 => Di 13 (t:=Ux (Ps [_, _, _])) (k:=Dn 14 (k:=?_))))
         refine an_call1 (hCt b66) rfl rfl rfl ?_
         refine Dv 15 (k:=Dd (k:=?_))
         exact zb4join14
    ·
     refine Qc (k:=Qv (k:=Qv (k:=Wq (Zi (t:=fun h41 => ?_) (f:=fun h41 => ?_)))))
     ·
      refine Zr (k:=Qv (k:=Ye 1 (k:=?_)))
      refine r_eload Tryz.underlying3 rfl rfl (get_map (m := i) (by omega)) rfl ?_
      refine r_callF (book_Within_sp _ 0 5 (by omega) (by omega) (by omega)) rfl rfl rfl ?_
      refine Vv (k:=Wn ?_)
      exact zb4join11
     ·
      refine Zk (k:=?_)
      exact zb4join11
   ·
    refine Ze (k:=Xa (Xi (Xb ?_)))
    exact to_inv ⟨⟨i, K, cs, o⟩, ⟨hi, hi8, ci, hcl, be⟩⟩ trivial ⟨rfl, rfl, rfl, rfl, trivial⟩ ent_pick
  ·
   refine O0 (k:=O0 (k:=P0 (k:=Wq (Z0 (k:=Ze (k:=Xa (Xi (Xb ?_))))))))
   exact to_inv ⟨⟨i, K, cs, o⟩, ⟨hi, hi8, ci, hcl, be⟩⟩ trivial ⟨rfl, rfl, rfl, rfl, trivial⟩ ent_pick
end
end Go.Proofs.YtomgdbanbpjedaaGreat
