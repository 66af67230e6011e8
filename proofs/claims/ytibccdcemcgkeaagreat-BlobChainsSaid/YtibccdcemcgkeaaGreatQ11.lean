/- Texts of this proof, put together: SDel3, PDel3, SMaps, SStore1, SStore2. -/
import Derived.Sort.Row
import Derived.Test.YtibccdcemcgkeaaGreatQ10
set_option linter.unusedVariables false
set_option linter.unusedSimpArgs false
namespace Go.Proofs.YtibccdcemcgkeaaGreat
section
set_option maxRecDepth 100000
/-- How many bytes two texts begin with alike. -/
def lcpN : Bs → Bs → Nat
 | a :: s, b :: t => if a = b then lcpN s t + 1 else 0
 | _, _ => 0
theorem lcp_le : ∀ (s t : Bs), lcpN s t ≤ s.length ∧ lcpN s t ≤ t.length := by
 intro s
 induction s with
 | nil => intro t; simp [lcpN]
 | cons a s ih =>
   intro t
   cases t with
   | nil => simp [lcpN]
   | cons b t =>
     have := ih t
     simp only [lcpN, List.length_cons]
     split <;> omega
theorem lcp_ne : ∀ (s t : Bs) (n : Nat), s.getD n 0 ≠ t.getD n 0 → lcpN s t ≤ n := by
 intro s
 induction s with
 | nil => intro t n _; simp [lcpN]
 | cons a s ih =>
   intro t n h
   cases t with
   | nil => simp [lcpN]
   | cons b t =>
     simp only [lcpN]
     split
     · cases n with
       | zero => rename_i e; exact absurd e (by simpa using h)
       | succ n => have := ih t n (by simpa using h); omega
     · omega
theorem lcp_step {s t : Bs} (hs : s ≠ []) (ht : t ≠ []) (h : s.getD 0 0 = t.getD 0 0) : lcpN s t = 1 + lcpN (s.drop 1) (t.drop 1) := by
 cases s with
 | nil => exact absurd rfl hs
 | cons a s =>
   cases t with
   | nil => exact absurd rfl ht
   | cons b t => simp only [List.getD_cons_zero] at h; simp [lcpN, h, Nat.add_comm]
theorem lcp_take : ∀ (s t : Bs), s.take (lcpN s t) = t.take (lcpN s t) := by
 intro s
 induction s with
 | nil => intro t; simp [lcpN]
 | cons a s ih =>
   intro t
   cases t with
   | nil => simp [lcpN]
   | cons b t =>
     simp only [lcpN]
     split
     · rename_i e; rw [e, List.take_succ_cons, List.take_succ_cons, ih]
     · rfl
def lonS (src rest : Bs) (p : Nat × Nat) (i : Nat) : Nat × Nat := if p.2 < lcpN (src.drop i) rest then (i, lcpN (src.drop i) rest) else p
def lonF (src rest : Bs) : Nat → Nat × Nat
 | 0 => (0, 0)
 | j + 1 => lonS src rest (lonF src rest j) j
def lonB (src rest : Bs) : Nat × Nat := lonF src rest src.length
theorem lonF_ok (src rest : Bs) : ∀ j, j ≤ src.length → (lonF src rest j).1 ≤ src.length ∧ (lonF src rest j).2 = lcpN (src.drop (lonF src rest j).1) rest ∨ (lonF src rest j) = (0, 0) := by
 intro j
 induction j with
 | zero => intro _; exact .inr rfl
 | succ j ih =>
   intro h
   simp only [lonF, lonS]
   split
   · left; exact ⟨by dsimp only; omega, rfl⟩
   · exact ih (by omega)
theorem lonF_le (src rest : Bs) {j : Nat} (h : j ≤ src.length) : (lonF src rest j).1 + (lonF src rest j).2 ≤ src.length ∧ (lonF src rest j).2 ≤ rest.length ∧ (src.drop (lonF src rest j).1).take (lonF src rest j).2 = rest.take (lonF src rest j).2 := by
 rcases lonF_ok src rest j h with ⟨h1, h2⟩ | h1
 · have h3 := lcp_le (src.drop (lonF src rest j).1) rest
   rw [List.length_drop, ← h2] at h3
   refine ⟨by omega, h3.2, ?_⟩
   have h4 := lcp_take (src.drop (lonF src rest j).1) rest
   rwa [← h2] at h4
 · rw [h1]; simp
theorem lonF_stop {src rest : Bs} {j : Nat} (h : rest.length ≤ (lonF src rest j).2) : ∀ k, lonF src rest (j + k) = lonF src rest j := by
 intro k
 induction k with
 | zero => rfl
 | succ k ih =>
   rw [← Nat.add_assoc, lonF, ih, lonS, if_neg]
   have := (lcp_le (src.drop (j + k)) rest).2
   omega
theorem zb143join14 {G : Prop} (h : G := by
    first
    | (have hjs : j = src.length := by omega
       exact to_inv ⟨(f, n), by rw [hp, hjs]; rfl⟩ trivial ⟨rfl, rfl, trivial⟩ ent_nil)
    | (refine to_inv ⟨(f, n), ?_⟩ trivial ⟨rfl, rfl, trivial⟩ ent_nil
       have h3 := lonF_stop (src := src) (rest := rest) (j := j) (by rw [← hp]; dsimp only; omega) (src.length - j)
       rw [show j + (src.length - j) = src.length by omega] at h3
       rw [hp, lonB, h3])) : G := h
theorem zb143next0 {G : Prop} (h : G := by
    first
    | exact to_inv ⟨(j + 1, (j, k)), by dsimp only; omega, by dsimp only; rw [hsu, if_pos (by omega), hk]⟩ (by dsimp only; omega) ⟨rfl, rfl, rfl, rfl, rfl, rfl, trivial⟩ ent_nil
    | (refine to_inv ⟨(j + 1, (f, n)), by dsimp only; omega, ?_⟩ (by dsimp only; omega) ⟨rfl, rfl, rfl, rfl, rfl, rfl, trivial⟩ ent_nil
       dsimp only
       rw [hsu, if_neg]
       first
       | omega
       | (have h5 := lcp_ne (src.drop j) rest n (by
            have hd3 : (src.drop j).getD n 0 = src.getD (j + n) 0 := by simp [List.getD_eq_getElem?_getD, List.getElem?_drop]
            rw [hd3]
            intro e
            exact h34 (by rw [e]))
          omega))) : G := h
theorem zb143join11 {G : Prop} (h : G := by
    first
    | exact to_inv ⟨k, hlk.symm⟩ trivial ⟨rfl, rfl, rfl, rfl, rfl, rfl, rfl, rfl, trivial⟩ ent_nil
    | (refine to_inv ⟨k, ?_⟩ trivial ⟨rfl, rfl, rfl, rfl, rfl, rfl, rfl, rfl, trivial⟩ ent_nil
       have h4 := lcp_le (src.drop (j + k)) (rest.drop k)
       rw [List.length_drop, List.length_drop] at h4
       omega)) : G := h
set_option maxHeartbeats 4000000 in
theorem delta_longest_sp (src rest : Bs) (hs : src.length ≤ 1073741824) (hr : rest.length ≤ 1073741824) : SpF Tryz.prog 143 [vS src, vS rest] (.tuple #[vI (lonB src rest).1, vI (lonB src rest).2]) := by
 refine Sp.body (n := 69) Tryz.call143 Tryz.func143 rfl rfl rfl ?_
 refine Qc (k:=Qv (k:=Wq (Zs (k:=Za (k:=Zl (k:=Ya ?_))))))
 refine p_cut (fun (i : { p : Nat × Nat // p = lonB src rest }) => [(4, vI i.1.1), (5, vI i.1.2)]) (fun (i : { p : Nat × Nat // p = lonB src rest }) => []) rfl (fun i => ?_) ?_
 ·
  obtain ⟨⟨f, n⟩, hp⟩ := i
  dsimp only
  try dsimp only
  refine Qc (k:=Qv (k:=Qv (k:=Wq (Zt (k:=Vs ?_)))))
  refine fin_ret () (vs := [_, _]) (Cs := []) rfl (.tmp rfl (.tmp rfl .nil)) ?_ trivial ent_nil
  rw [← hp]; rfl
 ·
  refine Qc (k:=Qv (k:=Vv (k:=?_)))
  rw [show min (src.length : Int) 1073741824 = (src.length : Int) by omega]
  refine Vv (k:=Wq (Zb (k:=?_)))
  refine p_loop (fun (i : { x : Nat × (Nat × Nat) // x.1 ≤ src.length ∧ x.2 = lonF src rest x.1 }) => [(0, vS src), (1, vS rest), (4, vI i.1.2.1), (5, vI i.1.2.2), (10, vI src.length), (11, vI i.1.1)]) (fun (i : { x : Nat × (Nat × Nat) // x.1 ≤ src.length ∧ x.2 = lonF src rest x.1 }) => []) (fun (i : { x : Nat × (Nat × Nat) // x.1 ≤ src.length ∧ x.2 = lonF src rest x.1 }) => src.length - i.1.1) rfl (⟨(0, (0, 0)), Nat.zero_le _, rfl⟩) ?_ ?_ (fun i => ?_)
  · exact ⟨rfl, rfl, rfl, rfl, rfl, rfl, trivial⟩
  ·
   exact ent_pick
  obtain ⟨⟨j, f, n⟩, hj, hp⟩ := i
  dsimp only at hj hp ⊢
  have hle := lonF_le src rest hj
  have hsu : lonF src rest (j + 1) = lonS src rest (f, n) j := by rw [lonF, ← hp]
  have hll := lcp_le (src.drop j) rest
  rw [← hp] at hle
  rw [List.length_drop] at hll
  dsimp only at hle
  simp only [lonS] at hsu
  try dsimp only
  refine Qc (k:=Vv (k:=Wq (Za (k:=Zi (t:=fun h12 => ?_) (f:=fun h12 => ?_)))))
  ·
   refine Zk (k:=Ya (Za (k:=Zb (k:=Qc (k:=Qv (k:=Wq (Za (k:=Qc (k:=?_)))))))))
   refine Qv (k:=Qv (k:=Wq (Zi (t:=fun h17 => ?_) (f:=fun h17 => ?_))))
   ·
    refine Ze (k:=Xa (Xo (k:=Xa (Xi (Xb ?_)))))
    exact zb143join14
   ·
    refine Zk (k:=Ya (Za (k:=Za (k:=Dw [] (k:=?_)))))
    refine Dv 0 (k:=Dv 1 (k:=Dv 2 (k:=Dv 3 (k:=Dv 4 (k:=Dv 5 (k:=Dv 6 (k:=Gd 6 (t:=fun h24 => ?_) (f:=fun h24 => ?_))))))))
    ·
     refine D1 7 (k:=D1 8 (k:=D1 9 (k:=D1 10 (k:=D1 11 (k:=D1 12 (k:=D1 13 (k:=D1 14 (k:=D1 15 (k:=DP1 16 (k:=Dd (k:=Ya ?_)))))))))))
     refine Z1 (k:=Ze (k:=Xa (Xb (Ya (Zr (k:=Qv (k:=Wn ?_)))))))
     exact zb143next0
    ·
     refine Di 7 (t:=U0 (h:=Uv)) (k:=Di 8 (t:=U0 (h:=Uv)) (k:=Di 9 (t:=U0 (h:=Uv)) (k:=Di 10 (t:=U0 (h:=Uv)) (k:=?_))))
     refine d_first 11 rfl rfl rfl (by kernel_rfl) (by kernel_rfl) (tl_in (b := false) rfl (tl_pv (pv_indexm (m := j + n) Tryz.underlying9 rfl rfl rfl (by omega)))) ?_
     refine Di 12 (t:=U0 (h:=Uv)) (k:=Di 13 (t:=U0 (h:=Uv)) (k:=?_))
     refine d_first 14 rfl rfl rfl (by kernel_rfl) (by kernel_rfl) (tl_in (b := false) rfl (tl_pv (pv_indexm (m := n) Tryz.underlying9 rfl rfl rfl (by omega)))) ?_
     refine Di 15 (t:=U0 (h:=Uv)) (k:=DP0 16 (k:=Dd (k:=Ya (Zi (t:=fun h34 => ?_) (f:=fun h34 => ?_)))))
     ·
      refine Ze (k:=Xa (Xb (Ya (Zr (k:=Qv (k:=Wn ?_))))))
      exact zb143next0
     ·
      refine Zk (k:=Ya (Qc (k:=Vv (k:=Wq ?_))))
      refine p_cut (fun (i : { k : Nat // k = lcpN (src.drop j) rest }) => [(0, vS src), (1, vS rest), (4, vI f), (5, vI n), (6, vI j), (7, vI i.1), (10, vI src.length), (11, vI j)]) (fun (i : { k : Nat // k = lcpN (src.drop j) rest }) => []) rfl (fun i => ?_) ?_
      ·
       obtain ⟨k, hk⟩ := i
       dsimp only
       try dsimp only
       refine Qc (k:=Qv (k:=Vv (k:=Wq (Zi (t:=fun h63 => ?_) (f:=fun h63 => ?_)))))
       ·
        refine Zr (k:=Qv (k:=Qv (k:=Wn (Yb (Ya (Zr (k:=Qv (k:=Wn ?_))))))))
        exact zb143next0
       ·
        refine Zk (k:=Yb (Ya (Zr (k:=Qv (k:=Wn ?_)))))
        exact zb143next0
      ·
       refine Zb (k:=?_)
       refine p_loop (fun (i : { k : Nat // k ≤ rest.length ∧ j + k ≤ src.length ∧ lcpN (src.drop j) rest = k + lcpN (src.drop (j + k)) (rest.drop k) }) => [(0, vS src), (1, vS rest), (4, vI f), (5, vI n), (6, vI j), (7, vI i.1), (10, vI src.length), (11, vI j)]) (fun (i : { k : Nat // k ≤ rest.length ∧ j + k ≤ src.length ∧ lcpN (src.drop j) rest = k + lcpN (src.drop (j + k)) (rest.drop k) }) => []) (fun (i : { k : Nat // k ≤ rest.length ∧ j + k ≤ src.length ∧ lcpN (src.drop j) rest = k + lcpN (src.drop (j + k)) (rest.drop k) }) => rest.length - i.1) rfl (⟨0, Nat.zero_le _, by omega, by simp⟩) ?_ ?_ (fun i => ?_)
       · exact ⟨rfl, rfl, rfl, rfl, rfl, rfl, rfl, rfl, trivial⟩
       ·
        exact ent_pick
       obtain ⟨k, hk1, hk2, hk3⟩ := i
       dsimp only
       have hd1 : (src.drop (j + k)).getD 0 0 = src.getD (j + k) 0 := by simp [List.getD_eq_getElem?_getD, List.getElem?_drop]
       have hd2 : (rest.drop k).getD 0 0 = rest.getD k 0 := by simp [List.getD_eq_getElem?_getD, List.getElem?_drop]
       have hcc : ((src.getD (j + k) 0).toNat : Int) = ((rest.getD k 0).toNat : Int) → src.getD (j + k) 0 = rest.getD k 0 := fun h => UInt8.toNat_inj.1 (by omega)
       try dsimp only
       refine Za (k:=Qc (k:=Qv (k:=Qv (k:=Vv (k:=Gi 4 (t:=fun h39 => ?_) (f:=fun h39 => ?_))))))
       ·
        refine J1 (k:=J1 (k:=J1 (k:=J1 (k:=J1 (k:=J1 (k:=?_))))))
        refine P1 (k:=Wq (Zi (t:=fun h46 => ?_) (f:=fun h46 => ?_)))
        ·
         refine Zk (k:=Ya (Zb (k:=Za (k:=Za (k:=Dw [] (k:=?_))))))
         refine Dv 0 (k:=Dv 1 (k:=Dv 2 (k:=Dv 3 (k:=?_))))
         refine d_first 4 rfl rfl rfl (by kernel_rfl) (by kernel_rfl) (tl_pv (pv_indexm (m := j + k) Tryz.underlying9 rfl rfl rfl (by omega))) ?_
         refine Dv 5 (k:=Dv 6 (k:=?_))
         refine d_first 7 rfl rfl rfl (by kernel_rfl) (by kernel_rfl) (tl_pv (pv_indexm (m := k) Tryz.underlying9 rfl rfl rfl (by omega))) ?_
         refine Dv 8 (k:=Dd (k:=Ya (Zi (t:=fun h55 => ?_) (f:=fun h55 => ?_))))
         ·
          have hlk : lcpN (src.drop j) rest = k := by
           have := lcp_ne (src.drop (j + k)) (rest.drop k) 0 (by rw [hd1, hd2]; exact fun e => h55 (by rw [e]))
           omega
          refine Za (k:=Qc (k:=Qv (k:=Vv (k:=Wq (Zi (t:=fun h58 => ?_) (f:=fun h58 => ?_))))))
          ·
           refine Ze (k:=Xa (Xa (Xo (k:=Xi (Xo (k:=Xi (Xb (Ya (Zr (k:=Qv (k:=?_)))))))))))
           refine Wn ?_
           exact zb143next0
          ·
           refine Zk (k:=Ya (Ze (k:=Xa (Xo (k:=Xi (Xb ?_))))))
           exact zb143join11
         ·
          refine Zk (k:=Ya (Zr (k:=Qv (k:=Vv (k:=Wn (Yb ?_))))))
          refine to_inv ⟨k + 1, by omega, by omega, ?_⟩ (by dsimp only; omega) ⟨rfl, rfl, rfl, rfl, rfl, rfl, rfl, rfl, trivial⟩ ent_nil
          have h3 := lcp_step (s := src.drop (j + k)) (t := rest.drop k) (fun e => by have := congrArg List.length e; rw [List.length_drop] at this; simp at this; omega) (fun e => by have := congrArg List.length e; rw [List.length_drop] at this; simp at this; omega) (by rw [hd1, hd2]; exact hcc (Classical.not_not.1 h55))
          rw [hk3, h3, List.drop_drop, List.drop_drop]
          rw [show j + (k + 1) = j + k + 1 by omega]
          omega
        ·
         refine Ze (k:=Xa (Xi (Xb ?_)))
         exact zb143join11
       ·
        refine O0 (k:=O0 (k:=O0 (k:=O0 (k:=O0 (k:=O0 (k:=P0 (k:=Wq (Z0 (k:=Ze (k:=Xa (Xi ?_)))))))))))
        refine Xb ?_
        exact zb143join11
  ·
   refine Ze (k:=Xa (Xi (Xb ?_)))
   exact zb143join14
/-- A command that puts a text. -/
def plainB (s : Bs) : Bs := if s = [] then [] else putN s.length ++ [58] ++ s
theorem delta_plain_sp (s : Bs) (hs : s.length ≤ 1073741824) : SpF Tryz.prog 144 [vS s] (vS (plainB s)) := by
 have hp := putN_len hs
 refine Sp.body (n := 11) Tryz.call144 Tryz.func144 rfl rfl rfl ?_
 refine Qc (k:=Vv (k:=Wq (Za (k:=Qc (k:=Qv (k:=Wq (Zi (t:=fun h4 => ?_) (f:=fun h4 => ?_))))))))
 ·
  refine Qc (k:=Vv (k:=Wq (Zt (k:=Va ?_))))
  refine fin_ret () (vs := [_]) (Cs := []) rfl (.tmp rfl .nil) ?_ trivial ent_nil
  rw [plainB, if_pos h4]; rfl
 ·
  refine Zk (k:=Ya (Qc (k:=Qv (k:=?_))))
  refine r_callF (digit_Put_sp s.length hs) rfl rfl rfl ?_
  refine wo_pv (pv_cat rfl rfl (by simp only [List.length_singleton]; omega)) rfl ?_
  refine Vv (k:=?_)
  refine wo_pv (pv_cat rfl rfl (by simp only [List.length_append, List.length_singleton]; omega)) rfl ?_
  refine Vv (k:=Wq (Zt (k:=?_)))
  refine fin_ret () (vs := [_]) (Cs := []) rfl (.tmp rfl .nil) ?_ trivial ent_nil
  rw [plainB, if_neg h4]; rfl
theorem plainB_len {s : Bs} (h : s.length ≤ 1073741824) : (plainB s).length ≤ s.length + 7 := by
 have := putN_len h
 unfold plainB
 split
 · simp
 · simp only [List.length_append, List.length_singleton]; omega
/-! Making a delta. -/
def copyB (n f : Nat) (p : Bs) : Bs := p ++ putN n ++ [64] ++ putN f ++ [44]
def mkF (src tgt : Bs) : Nat → Nat → Nat → Bs → Bs
 | 0, _, done, out => out ++ plainB (tgt.drop done) ++ putN (chkB tgt) ++ [59]
 | k + 1, i, done, out => if tgt.length ≤ i then out ++ plainB (tgt.drop done) ++ putN (chkB tgt) ++ [59]
   else if (lonB src (tgt.drop i)).2 < 16 then mkF src tgt k (i + 1) done out
   else mkF src tgt k (i + (lonB src (tgt.drop i)).2) (i + (lonB src (tgt.drop i)).2) (out ++ copyB (lonB src (tgt.drop i)).2 (lonB src (tgt.drop i)).1 (plainB ((tgt.drop done).take (i - done))))
theorem mkF_more (src tgt : Bs) : ∀ (k g i done : Nat) (out : Bs), tgt.length ≤ i + k → tgt.length ≤ i + g → mkF src tgt k i done out = mkF src tgt g i done out := by
 intro k
 induction k with
 | zero =>
   intro g i done out h1 h2
   cases g with
   | zero => rfl
   | succ g => rw [mkF, mkF, if_pos (by omega)]
 | succ k ih =>
   intro g i done out h1 h2
   cases g with
   | zero => rw [mkF, mkF, if_pos (by omega)]
   | succ g =>
     rw [mkF, mkF]
     split
     · rfl
     · split
       · exact ih g _ _ _ (by omega) (by omega)
       · exact ih g _ _ _ (by omega) (by omega)
def makeB (src tgt : Bs) : Bs := if 300 < tgt.length then [] else mkF src tgt tgt.length 0 0 (putN tgt.length ++ [10])
theorem mkF_step (src tgt : Bs) {i : Nat} (h : i < tgt.length) (done : Nat) (out : Bs) : mkF src tgt tgt.length i done out = if (lonB src (tgt.drop i)).2 < 16 then mkF src tgt tgt.length (i + 1) done out
    else mkF src tgt tgt.length (i + (lonB src (tgt.drop i)).2) (i + (lonB src (tgt.drop i)).2) (out ++ copyB (lonB src (tgt.drop i)).2 (lonB src (tgt.drop i)).1 (plainB ((tgt.drop done).take (i - done)))) := by
 obtain ⟨k, hk⟩ : ∃ k, tgt.length = k + 1 := ⟨tgt.length - 1, by omega⟩
 conv => lhs; rw [hk, mkF, if_neg (by omega)]
 split
 · exact mkF_more _ _ _ _ _ _ _ (by omega) (by omega)
 · exact mkF_more _ _ _ _ _ _ _ (by omega) (by omega)
theorem mkF_end (src tgt : Bs) {i : Nat} (h : tgt.length ≤ i) (done : Nat) (out : Bs) : mkF src tgt tgt.length i done out = out ++ plainB (tgt.drop done) ++ putN (chkB tgt) ++ [59] := by
 rw [mkF_more src tgt tgt.length 0 i done out (by omega) (by omega)]; rfl
theorem zb96next0 {G : Prop} (h : G := by
    first
    | exact to_inv ⟨(i + 1, done, out), by dsimp only; omega, by dsimp only; omega, ho, hm⟩ (by dsimp only; omega) ⟨rfl, rfl, rfl, rfl, rfl, trivial⟩ ent_nil
    | exact to_inv ⟨(i + n, i + n, out ++ copyB n f (plainB ((tgt.drop done).take (i - done)))), by dsimp only; omega, by dsimp only; omega, by dsimp only [copyB]; simp only [List.length_append, List.length_singleton]; omega, hm⟩ (by dsimp only; omega) ⟨rfl, rfl, rfl, rfl, rfl, trivial⟩ ent_nil) : G := h
set_option maxHeartbeats 4000000 in
theorem delta_Make_sp (src tgt : Bs) (hs : src.length ≤ 1073741824) (ht : tgt.length ≤ 1073741824) : SpF Tryz.prog 96 [vS src, vS tgt] (vS (makeB src tgt)) := by
 refine Sp.body (n := 63) Tryz.call96 Tryz.func96 rfl rfl rfl ?_
 refine Qc (k:=Vv (k:=Wq (Za (k:=Qc (k:=Qv (k:=Vv (k:=Wq (Zi (t:=fun h12 => ?_) (f:=fun h12 => ?_)))))))))
 ·
  refine Qc (k:=Vv (k:=Wq (Zt (k:=Va ?_))))
  refine fin_ret () (vs := [_]) (Cs := []) rfl (.tmp rfl .nil) ?_ trivial ent_nil
  rw [makeB, if_pos (by omega)]; rfl
 ·
  have h300 : tgt.length ≤ 300 := by omega
  have hpl := putN_len (n := tgt.length) (by omega)
  have hmk : makeB src tgt = mkF src tgt tgt.length 0 0 (putN tgt.length ++ [10]) := by rw [makeB, if_neg (by omega)]
  rw [hmk]
  clear hmk
  refine Zk (k:=Ya (Qc (k:=Qv (k:=?_))))
  refine r_callF (digit_Put_sp tgt.length (by omega)) rfl rfl rfl ?_
  refine wo_pv (pv_cat rfl rfl (by simp only [List.length_singleton]; omega)) rfl ?_
  refine Vv (k:=Wq (Qc (k:=Vv (k:=Wq (Za (k:=Qc (k:=Vv (k:=Wq (Zb (k:=?_))))))))))
  refine p_loop (fun (i : { x : Nat × Nat × Bs // x.2.1 ≤ x.1 ∧ x.1 ≤ tgt.length ∧ x.2.2.length ≤ 7 + 30 * x.2.1 ∧ mkF src tgt tgt.length 0 0 (putN tgt.length ++ [10]) = mkF src tgt tgt.length x.1 x.2.1 x.2.2 }) => [(0, vS src), (1, vS tgt), (5, vS i.1.2.2), (6, vI i.1.2.1), (7, vI i.1.1)]) (fun (i : { x : Nat × Nat × Bs // x.2.1 ≤ x.1 ∧ x.1 ≤ tgt.length ∧ x.2.2.length ≤ 7 + 30 * x.2.1 ∧ mkF src tgt tgt.length 0 0 (putN tgt.length ++ [10]) = mkF src tgt tgt.length x.1 x.2.1 x.2.2 }) => []) (fun (i : { x : Nat × Nat × Bs // x.2.1 ≤ x.1 ∧ x.1 ≤ tgt.length ∧ x.2.2.length ≤ 7 + 30 * x.2.1 ∧ mkF src tgt tgt.length 0 0 (putN tgt.length ++ [10]) = mkF src tgt tgt.length x.1 x.2.1 x.2.2 }) => tgt.length - i.1.1) rfl (⟨(0, 0, putN tgt.length ++ [10]), Nat.le_refl _, Nat.zero_le _, by dsimp only; rw [List.length_append, List.length_singleton]; omega, rfl⟩) ?_ ?_ (fun i => ?_)
  · exact ⟨rfl, rfl, rfl, rfl, rfl, trivial⟩
  ·
   exact ent_pick
  obtain ⟨⟨i, done, out⟩, hdi, hi, ho, hm⟩ := i
  dsimp only at hdi hi ho hm ⊢
  try dsimp only
  refine Za (k:=Qc (k:=Qv (k:=Qv (k:=Wq (Zi (t:=fun h20 => ?_) (f:=fun h20 => ?_))))))
  ·
   refine Zk (k:=Ya (Zb (k:=Za (k:=?_))))
   have hil : i < tgt.length := by omega
   rw [mkF_step src tgt hil] at hm
   have hrl : (tgt.drop i).length = tgt.length - i := List.length_drop
   have hle := lonF_le src (tgt.drop i) (Nat.le_refl src.length)
   change (lonB src (tgt.drop i)).1 + (lonB src (tgt.drop i)).2 ≤ _ ∧ (lonB src (tgt.drop i)).2 ≤ _ ∧ _ at hle
   have hL := delta_longest_sp src (tgt.drop i) hs (by omega)
   obtain ⟨f, n, hfn⟩ : ∃ f n, lonB src (tgt.drop i) = (f, n) := ⟨_, _, rfl⟩
   rw [hfn] at hm hle hL
   dsimp only at hm hle hL
   rw [hrl] at hle
   refine Zr (k:=Qv (k:=Qv (k:=?_)))
   refine r_callF hL rfl rfl rfl ?_
   refine Vv (k:=?_)
   refine wo_pv (pv_extract (v := vI f) rfl rfl) rfl ?_
   refine wo_pv (pv_extract (v := vI n) rfl rfl) rfl ?_
   refine Qv (k:=Wq (Za (k:=Qc (k:=Qv (k:=Wq (Zi (t:=fun h30 => ?_) (f:=fun h30 => ?_)))))))
   ·
    rw [if_pos (by omega)] at hm
    refine Qc (k:=Qv (k:=Vv (k:=Wq (Ze (k:=Xa (Xb ?_))))))
    exact zb96next0
   ·
    rw [if_neg (by omega)] at hm
    have hpt : ((tgt.drop done).take (i - done)).length = i - done := by rw [List.length_take, List.length_drop]; omega
    have hpp := plainB_len (s := (tgt.drop done).take (i - done)) (by omega)
    have hpn := putN_len (n := n) (by omega)
    have hpf := putN_len (n := f) (by omega)
    refine Zk (k:=Ya (Qc (k:=Qv (k:=Qv (k:=?_)))))
    refine wo_pv (pv_slice_inm (m := done) (o := i) Tryz.underlying9 rfl rfl rfl rfl rfl (by omega) (by omega)) rfl ?_
    refine r_callF (delta_plain_sp _ (by omega)) rfl rfl rfl ?_
    refine Vv (k:=?_)
    refine r_callF (digit_Put_sp n (by omega)) rfl rfl rfl ?_
    refine wo_pv (pv_cat rfl rfl (by omega)) rfl ?_
    refine wo_pv (pv_cat rfl rfl (by simp only [List.length_append, List.length_singleton]; omega)) rfl ?_
    refine Vv (k:=?_)
    refine r_callF (digit_Put_sp f (by omega)) rfl rfl rfl ?_
    refine wo_pv (pv_cat rfl rfl (by simp only [List.length_append, List.length_singleton]; omega)) rfl ?_
    refine wo_pv (pv_cat rfl rfl (by simp only [List.length_append, List.length_singleton]; omega)) rfl ?_
    refine wo_pv (pv_cat rfl rfl (by simp only [List.length_append, List.length_singleton]; omega)) rfl ?_
    refine Vv (k:=Wq (Qc (k:=Qv (k:=Qv (k:=Wq (Zr (k:=Qv (k:=?_))))))))
    refine Wn (Yb ?_)
    exact zb96next0
  ·
   refine Ze (k:=Xa (Xi (Xb (Ya (Za (k:=?_))))))
   rw [hm, mkF_end src tgt (by omega)]
   have hpd : (tgt.drop done).length = tgt.length - done := List.length_drop
   have hpp := plainB_len (s := tgt.drop done) (by omega)
   have hpc := putN_len (chkB_lt tgt)
   refine Zr (k:=Qv (k:=Qv (k:=?_)))
   refine r_callF (delta_plain_sp _ (by omega)) rfl rfl rfl ?_
   refine wo_pv (pv_cat rfl rfl (by omega)) rfl ?_
   refine Vv (k:=?_)
   refine r_callF (delta_Check_sp tgt (by omega)) rfl rfl rfl ?_
   refine r_callF (digit_Put_sp (chkB tgt) (chkB_lt tgt)) rfl rfl rfl ?_
   refine wo_pv (pv_cat rfl rfl (by simp only [List.length_append]; omega)) rfl ?_
   refine wo_pv (pv_cat rfl rfl (by simp only [List.length_append, List.length_singleton]; omega)) rfl ?_
   refine Vv (k:=Wq (Zt (k:=?_)))
   exact fin_ret () (vs := [_]) (Cs := []) rfl (.tmp rfl .nil) rfl trivial ent_nil
end
theorem getD_mid (p : Bs) (c : UInt8) (r : Bs) : (p ++ c :: r).getD p.length 0 = c := by simp
/-- The end of a delta. -/
theorem go_end {src d p tgt : Bs} (hd : d = p ++ (putN (chkB tgt) ++ [59])) : goB src d tgt.length (d.length + 1) p.length tgt = some tgt := by
 have hr := rdN_put (chkB_lt tgt) p 59 [] (by decide)
 have hl : d.length = p.length + (putN (chkB tgt)).length + 1 := by rw [hd]; simp; omega
 rw [goB_step (by omega), hd, hr, ← hd]
 dsimp only
 have hg : d.getD (p.length + (putN (chkB tgt)).length) 0 = 59 := by
  have := getD_mid (p ++ putN (chkB tgt)) 59 []
  rw [List.length_append, List.append_assoc, ← hd] at this
  exact this
 rw [if_neg (by omega), if_pos hg, if_pos ⟨by omega, rfl, rfl⟩]
theorem go_plain {src d p s rest out : Bs} {size : Nat} (hd : d = p ++ (putN s.length ++ [58] ++ s ++ rest)) (h0 : s ≠ []) (hn : s.length ≤ 1073741824) (ho : out.length + s.length ≤ size) :
    goB src d size (d.length + 1) p.length out = goB src d size (d.length + 1) (p ++ (putN s.length ++ [58] ++ s)).length (out ++ s) := by
 have hd2 : d = p ++ (putN s.length ++ 58 :: (s ++ rest)) := by rw [hd]; simp
 have hr := rdN_put hn p 58 (s ++ rest) (by decide)
 have hl : d.length = p.length + (putN s.length).length + 1 + s.length + rest.length := by rw [hd2]; simp; omega
 rw [← hd2] at hr
 rw [goB_step (by omega), hr]
 dsimp only
 have hg : d.getD (p.length + (putN s.length).length) 0 = 58 := by
  have := getD_mid (p ++ putN s.length) 58 (s ++ rest)
  rw [List.length_append, List.append_assoc, ← hd2] at this
  exact this
 have hs0 : 0 < s.length := List.length_pos_iff.2 h0
 rw [if_neg (by omega), if_neg (by rw [hg]; decide), cmdB_58 (by omega) hg, if_neg (by omega), if_pos (by omega)]
 dsimp only
 have ht : (d.drop (p.length + (putN s.length).length + 1)).take s.length = s := by
  have e : p.length + (putN s.length).length + 1 = (p ++ (putN s.length ++ [58])).length := by simp; omega
  rw [e, show d = (p ++ (putN s.length ++ [58])) ++ (s ++ rest) by rw [hd]; simp, List.drop_left, List.take_left]
 rw [ht, if_neg (by omega)]
 congr 1
 simp; omega
theorem go_copy {src d p rest out : Bs} {n f size : Nat} (hd : d = p ++ (putN n ++ [64] ++ putN f ++ [44] ++ rest)) (h0 : 0 < n) (hn : n ≤ 1073741824) (hf : f ≤ 1073741824) (hs : f + n ≤ src.length) (ho : out.length + n ≤ size) :
    goB src d size (d.length + 1) p.length out = goB src d size (d.length + 1) (p ++ (putN n ++ [64] ++ putN f ++ [44])).length (out ++ (src.drop f).take n) := by
 have hd2 : d = p ++ (putN n ++ 64 :: (putN f ++ 44 :: rest)) := by rw [hd]; simp
 have hd3 : d = (p ++ (putN n ++ [64])) ++ (putN f ++ 44 :: rest) := by rw [hd]; simp
 have hr := rdN_put hn p 64 (putN f ++ 44 :: rest) (by decide)
 have hr2 := rdN_put hf (p ++ (putN n ++ [64])) 44 rest (by decide)
 have hl : d.length = p.length + (putN n).length + 1 + (putN f).length + 1 + rest.length := by rw [hd2]; simp; omega
 rw [← hd2] at hr
 rw [← hd3] at hr2
 have hpl : (p ++ (putN n ++ [64])).length = p.length + (putN n).length + 1 := by simp; omega
 rw [hpl] at hr2
 rw [goB_step (by omega), hr]
 dsimp only
 have hg : d.getD (p.length + (putN n).length) 0 = 64 := by
  have := getD_mid (p ++ putN n) 64 (putN f ++ 44 :: rest)
  rw [List.length_append, List.append_assoc, ← hd2] at this
  exact this
 have hg2 : d.getD (p.length + (putN n).length + 1 + (putN f).length) 0 = 44 := by
  have := getD_mid (p ++ (putN n ++ [64]) ++ putN f) 44 rest
  rw [List.length_append, hpl, List.append_assoc, ← hd3] at this
  exact this
 rw [if_neg (by omega), if_neg (by rw [hg]; decide), cmdB_64 (by omega) hg, if_neg (by omega), hr2]
 dsimp only
 rw [if_pos ⟨by omega, hg2, by omega, by omega⟩]
 dsimp only
 rw [if_neg (by rw [List.length_take, List.length_drop]; omega)]
 congr 1
 simp; omega
theorem mkF_out (src tgt : Bs) : ∀ (k i done : Nat) (out : Bs), mkF src tgt k i done out = out ++ mkF src tgt k i done [] := by
 intro k
 induction k with
 | zero => intro i done out; simp [mkF]
 | succ k ih =>
   intro i done out
   simp only [mkF]
   split
   · simp
   · split
     · exact ih _ _ _
     · rw [ih _ _ (out ++ _), ih _ _ ([] ++ _)]; simp
theorem go_pl {src d p s rest out : Bs} {size : Nat} (hd : d = p ++ (plainB s ++ rest)) (hn : s.length ≤ 1073741824) (ho : out.length + s.length ≤ size) :
    goB src d size (d.length + 1) p.length out = goB src d size (d.length + 1) (p ++ plainB s).length (out ++ s) := by
 by_cases e : s = []
 · subst e; simp [plainB]
 · have hp : plainB s = putN s.length ++ [58] ++ s := by rw [plainB, if_neg e]
   rw [hp] at hd ⊢
   exact go_plain hd e hn ho
theorem take_more (t : Bs) {a b : Nat} (h : a ≤ b) : t.take a ++ (t.drop a).take (b - a) = t.take b := by
 have := List.take_add (l := t) (i := a) (j := b - a)
 rw [show a + (b - a) = b by omega] at this
 exact this.symm
theorem lonB_le (src rest : Bs) : (lonB src rest).1 + (lonB src rest).2 ≤ src.length ∧ (lonB src rest).2 ≤ rest.length ∧ (src.drop (lonB src rest).1).take (lonB src rest).2 = rest.take (lonB src rest).2 := lonF_le src rest (Nat.le_refl src.length)
theorem go_made {src tgt d : Bs} (ht : tgt.length ≤ 300) (hs : src.length ≤ 1073741824) : ∀ (k i done : Nat) (p : Bs), done ≤ i → i ≤ tgt.length → tgt.length ≤ i + k → d = p ++ mkF src tgt k i done [] → goB src d tgt.length (d.length + 1) p.length (tgt.take done) = some tgt := by
 have fin : ∀ (done : Nat) (p : Bs), done ≤ tgt.length → d = p ++ ([] ++ plainB (tgt.drop done) ++ putN (chkB tgt) ++ [59]) → goB src d tgt.length (d.length + 1) p.length (tgt.take done) = some tgt := by
  intro done p hdl hd
  have hd1 : d = p ++ (plainB (tgt.drop done) ++ (putN (chkB tgt) ++ [59])) := by rw [hd]; simp
  rw [go_pl hd1 (by rw [List.length_drop]; omega) (by rw [List.length_take, List.length_drop]; omega), List.take_append_drop]
  exact go_end (by rw [hd1]; simp)
 intro k
 induction k with
 | zero =>
   intro i done p h1 h2 h3 hd
   exact fin done p (by omega) hd
 | succ k ih =>
   intro i done p h1 h2 h3 hd
   simp only [mkF] at hd
   split at hd
   · exact fin done p (by omega) hd
   · rename_i hil
     have hle := lonB_le src (tgt.drop i)
     generalize lonB src (tgt.drop i) = fn at hd hle
     obtain ⟨f, n⟩ := fn
     dsimp only at hd hle
     rw [List.length_drop] at hle
     split at hd
     · exact ih (i + 1) done p (by omega) (by omega) (by omega) hd
     · rename_i hn
       rw [mkF_out] at hd
       have hpt : ((tgt.drop done).take (i - done)).length = i - done := by rw [List.length_take, List.length_drop]; omega
       have hd1 : d = p ++ (plainB ((tgt.drop done).take (i - done)) ++ (putN n ++ [64] ++ putN f ++ [44] ++ mkF src tgt k (i + n) (i + n) [])) := by rw [hd]; simp [copyB]
       rw [go_pl hd1 (by omega) (by rw [List.length_take, hpt]; omega), take_more tgt h1]
       have hd2 : d = (p ++ plainB ((tgt.drop done).take (i - done))) ++ (putN n ++ [64] ++ putN f ++ [44] ++ mkF src tgt k (i + n) (i + n) []) := by rw [hd1]; simp
       rw [go_copy hd2 (by omega) (by omega) (by omega) (by omega) (by rw [List.length_take]; omega), hle.2.2]
       have htk : tgt.take i ++ (tgt.drop i).take n = tgt.take (i + n) := by
        have := take_more tgt (a := i) (b := i + n) (by omega)
        rwa [show i + n - i = n by omega] at this
       rw [htk]
       exact ih (i + n) (i + n) _ (Nat.le_refl _) (by omega) (by omega) (by rw [hd2]; simp)
theorem apply_make {src tgt : Bs} (ht : tgt.length ≤ 300) (hs : src.length ≤ 1073741824) : applyB src (makeB src tgt) = some tgt := by
 have hm : makeB src tgt = putN tgt.length ++ [10] ++ mkF src tgt tgt.length 0 0 [] := by rw [makeB, if_neg (by omega), mkF_out]
 have hr := rdN_put (n := tgt.length) (by omega) [] 10 (mkF src tgt tgt.length 0 0 []) (by decide)
 have hm2 : makeB src tgt = [] ++ (putN tgt.length ++ 10 :: mkF src tgt tgt.length 0 0 []) := by rw [hm]; simp
 rw [← hm2] at hr
 have hl : (makeB src tgt).length = (putN tgt.length).length + 1 + (mkF src tgt tgt.length 0 0 []).length := by rw [hm2]; simp; omega
 rw [applyB, show (0 : Nat) = ([] : Bs).length from rfl, hr]
 dsimp only
 simp only [List.length_nil, Nat.zero_add]
 have hg : (makeB src tgt).getD (putN tgt.length).length 0 = 10 := by rw [hm2]; exact getD_mid (putN tgt.length) 10 _
 rw [if_neg (by rintro (h | h | h); omega; exact h hg; omega)]
 have := go_made (d := makeB src tgt) ht hs tgt.length 0 0 (putN tgt.length ++ [10]) (Nat.le_refl _) (Nat.zero_le _) (by omega) hm
 rwa [List.length_append, List.length_singleton, List.take_zero] at this
theorem makeB_ne {src tgt : Bs} (ht : tgt.length ≤ 300) : makeB src tgt ≠ [] := by
 have hm : makeB src tgt = putN tgt.length ++ [10] ++ mkF src tgt tgt.length 0 0 [] := by rw [makeB, if_neg (by omega), mkF_out]
 rw [hm]; simp
/-- A text that another one goes on from is copied whole. -/
theorem lcp_pre (s t : Bs) : lcpN s (s ++ t) = s.length := by
 induction s with
 | nil => simp [lcpN]
 | cons a s ih => simp [lcpN, ih]
theorem lon_pre {s : Bs} (h : s ≠ []) (t : Bs) : lonB s (s ++ t) = (0, s.length) := by
 have h0 : 0 < s.length := List.length_pos_iff.2 h
 have key : ∀ j, 0 < j → j ≤ s.length → lonF s (s ++ t) j = (0, s.length) := by
  intro j
  induction j with
  | zero => intro h; omega
  | succ j ih =>
    intro _ hj
    rcases Nat.eq_zero_or_pos j with e | e
    · subst e
      simp only [lonF, lonS, List.drop_zero, lcp_pre]
      rw [if_pos h0]
    · rw [lonF, ih e (by omega), lonS, if_neg]
      have := (lcp_le (s.drop j) (s ++ t)).1
      rw [List.length_drop] at this
      dsimp only; omega
 exact key s.length h0 (Nat.le_refl _)
/-- The delta of a text that goes on by a few bytes. -/
theorem make_pre {s t : Bs} (hs : 16 ≤ s.length) (ht : t.length < 16) (h : s.length + t.length ≤ 300) :
    makeB s (s ++ t) = putN (s.length + t.length) ++ [10] ++ copyB s.length 0 [] ++ plainB t ++ putN (chkB (s ++ t)) ++ [59] := by
 have hne : s ≠ [] := fun e => by rw [e] at hs; simp at hs
 have hl : (s ++ t).length = s.length + t.length := List.length_append
 rw [makeB, if_neg (by omega), mkF_step s (s ++ t) (by omega), List.drop_zero, lon_pre hne]
 dsimp only
 rw [if_neg (by omega), Nat.zero_add]
 have key : ∀ k i done out, s.length ≤ i → (s ++ t).length ≤ i + k → mkF s (s ++ t) k i done out = out ++ plainB ((s ++ t).drop done) ++ putN (chkB (s ++ t)) ++ [59] := by
  intro k
  induction k with
  | zero => intro i done out _ _; rfl
  | succ k ih =>
    intro i done out h1 h2
    rw [mkF]
    split
    · rfl
    · have h3 := lonB_le s ((s ++ t).drop i)
      rw [List.length_drop] at h3
      rw [if_pos (by omega)]
      exact ih (i + 1) done out (by omega) (by omega)
 rw [key _ _ _ _ (Nat.le_refl _) (by omega), List.drop_left, hl]
 simp [copyB, plainB]
section
set_option maxRecDepth 100000
section
variable {r : Option Nat} {P : Program} {n : Nat} {ops : Array Oper} {A : List HP} {L : Loc} {Hs : List HP} {ty : TypeId} {d : Nat} {pos : String} {after : Array Edge}
theorem opt_mapsClone {dst : Option Tmp} {t : TypeId} {x : Operand} {g b : Nat} {ks : Ks} {ts : Array TypeId} (hg : ∀ (args : Array Value) (w : World), (callFunc g args).run P w = ((Extern.MapsClone.clone args).run P w).andThen fun v w' => .ok (.value v) w') (hx : ev L x = some (.iface t (.map (some b)))) :
    OpT r P n ⟨dst, .call ⟨.value (.func g), #[x], ts⟩, ty, pos, after, none⟩ A L [MapS b ks] (fun i : Nat => .iface t (.map (some i))) (fun _ => True) (fun i => [Al [MapS b ks, MapS i ks]]) := by
 refine opt_turnX (fun a f w M h1 hf dj tt hm => ?_)
 obtain ⟨es, clock, e1, g'⟩ := hm
 subst e1
 have hb : w.heap[b]? = some (.map es clock) := tt.ow _ _ (by simp [Res.add, Res.one])
 obtain ⟨f1, f2⟩ := fresh_none tt
 have t2 := tt.alloc (.map es clock)
 have hd2 : (Res.one w.heap.size (.map es clock)).dj ((Res.one b (.map es clock)).add hf) := one_dj f2
 obtain ⟨d1, d2⟩ := Res.dj_add_right.1 hd2
 refine ⟨w.heap.size, w.alloc (.map es clock), (Res.one b (.map es clock)).add (Res.one w.heap.size (.map es clock)), trivial, Res.dj_add_left.2 ⟨dj, d2⟩, ?_, ⟨Res.one b (.map es clock), Res.one w.heap.size (.map es clock), Res.dj_comm d1, rfl, ⟨es, clock, rfl, g'⟩, Res.one w.heap.size (.map es clock), Res.emp, Res.dj_emp _, (Res.add_emp _).symm, ⟨es, clock, rfl, g'⟩, trivial⟩, ?_⟩
 · rw [Res.add_comm (Res.dj_comm d1), Res.add_assoc]; exact t2
 · have hc := run_maps_clone_sl (P := P) w t hb
   have hfv : a.eval (.func g) = .func (.func g) #[] #[] := rfl
   have hargs : #[x].map a.eval = #[.iface t (.map (some b))] := by simp [f.ev hx]
   simp only [execOp, resolve, hfv, Deferred.ofValue, hargs, Sem.run_bind, Sem.run_pure, Result.andThen_ok, invoke]
   simp [hg, hc]
theorem pv_mkIface2 {t k e : TypeId} {x : Operand} {v : Value} (hx : ev L x = some v) (ht : P.underlying t = some (.map k e)) : PV P n L (.makeInterface t x) ty (.iface t v) :=
 ⟨by intro c; simp, fun a f w _ _ _ _ => by simp [execOp, f.ev hx, run_makeInterface (P := P) (w := w) t v (by simp [Program.concrete, ht])]⟩
theorem pv_assertMap {x : Operand} {xT t k e : TypeId} {v : Value} (ht : P.underlying t = some (.map k e)) (hx : ev L x = some (.iface t v)) : PV P n L (.typeAssert x xT t false) ty v :=
 ⟨by intro c; simp, fun a f w _ _ _ _ => by simp only [execOp, f.ev hx, Sem.run_bind, run_typeAssert_map_sl w t xT k e v ht, Result.andThen_ok, Sem.run_pure]⟩
end
set_option maxHeartbeats 2000000 in
theorem maps_Clone_sp (b : Nat) (ks : Ks) : Sp Tryz.prog 151 [.map (some b)] [MapS b ks] (X := Nat) (fun i => .map (some i)) (fun _ => True) (fun i => [MapS b ks, MapS i ks]) := by
 refine Sp.body (n := 9) Tryz.call151 Tryz.func151 rfl rfl rfl ?_
 refine Qc (k:=Vv (k:=Wq (Za (k:=Qc (k:=Vv (k:=?_))))))
 refine wo_pv (pv_meql_nil Tryz.underlying93 rfl rfl) rfl ?_
 refine Wq (Zi (t:=fun h4 => ?_) (f:=fun h4 => ?_))
 ·
  simp at h4
  --done
 ·
  refine Zk (k:=Ya (Qc (k:=Vv (k:=?_))))
  refine wo_pv (pv_mkIface2 rfl Tryz.underlying93) rfl ?_
  refine wo_opT (by intro c; simp) (opt_mapsClone (b := b) (ks := ks) (fun args w => run_callFunc_extern Tryz.func186 (by kernel_rfl) (by kernel_rfl) (by kernel_rfl) (e := Extern.MapsClone.clone) (by kernel_rfl) args w) rfl) rfl (fun i _ => ?_)
  refine wo_al ?_
  refine wo_pv (pv_assertMap Tryz.underlying93 rfl) rfl ?_
  refine Vv (k:=Wq (Zt (k:=?_)))
  refine fin_ret i (vs := [_]) (Cs := []) rfl (.tmp rfl .nil) rfl trivial ?_
  exact ent_pick
theorem maps_Keys_sp (m : Option Nat) : Sp Tryz.prog 153 [.map m] [] (X := Nat) (fun b => .func (.func 188) #[] #[.pointer (some ⟨b, 0, none⟩)]) (fun _ => True) (fun b => [Ce b 93 [.map m]]) := by
 refine Sp.body (n := 4) Tryz.call153 Tryz.func153 rfl rfl rfl ?_
 refine Qc (k:=Zx [_] (k:=fun b1 => Vv (k:=Wq (Qc (k:=Qv (k:=Wq (Zt (k:=?_))))))))
 refine fin_ret b1 (vs := [_]) (Cs := []) rfl (.tmp rfl .nil) rfl trivial ?_
 exact ent_pick
abbrev okK (ks : Ks) : List Bs → Bs → Prop := fun pre k => k ∈ ks.map (·.1) ∧ k ∉ pre ∧ pre.length < ks.length
theorem maps_Keys_it (c b : Nat) (ks : Ks) : IterU Tryz.prog 188 [.pointer (some ⟨c, 0, none⟩)] (fun k : Bs => [vS k]) (okK ks) (fun _ => True)
    [Ce c 93 [.map (some b)], MapS b ks] [Ce c 93 [.map (some b)], MapS b ks] (fun l => l.Perm (ks.map (·.1))) (fun _ => .tuple #[]) := by
 intro y J Jx ys
 refine Sp.body (n := 14) Tryz.call188 Tryz.func188 rfl rfl rfl ?_
 refine Qc (k:=Zd (k:=?_))
 refine r_range Tryz.underlying93 rfl rfl (fun b5 => ?_)
 refine Wq (Zb (k:=?_))
 refine p_loop (fun (i : List Bs) => [(0, y), (5, .pointer (some ⟨b5, 0, none⟩))]) (fun (i : List Bs) => [J i, Ce c 93 [.map (some b)], MapIt b b5 ks i]) (fun (i : List Bs) => ks.length - i.length) rfl ([]) ?_ ?_ (fun i => ?_)
 · exact ⟨rfl, rfl, trivial⟩
 ·
  exact ent_pick
 refine wc_know (A := MapIt b b5 ks i) (.there (.there .here)) mapit_len (fun hlen => ?_)
 try dsimp only
 refine Qc (k:=?_)
 refine r_next rfl rfl (fun o6 ho6 => ?_)
 refine wo_pv (pv_nx0 rfl) rfl ?_
 refine Wq (Za (k:=Zi (t:=fun h7 => ?_) (f:=fun h7 => ?_)))
 ·
  obtain ⟨⟨k, v⟩, rfl⟩ := Option.isSome_iff_exists.1 h7
  obtain ⟨hm, hk⟩ := ho6
  have hk1 : k ∈ ks.map (·.1) := List.mem_map_of_mem (f := fun p : Bs × Value => p.1) hm
  have hl2 : i.length < ks.length := by
   have := nodup_len (l := i ++ [k]) (m := ks.map (·.1)) (by rw [List.nodup_append]; exact ⟨hlen.2.1, by simp, fun a ha c hc e => by simp only [List.mem_singleton] at hc; subst hc; subst e; exact hk ha⟩) (fun x hx => by rcases List.mem_append.1 hx with h | h; exact hlen.2.2 x h; simp only [List.mem_singleton] at h; subst h; exact hk1)
   rw [List.length_append, List.length_singleton, List.length_map] at this
   omega
  dsimp only [nxD]
  refine Zk (k:=Ya (Zb (k:=Qc (k:=?_))))
  refine r_entry (b := b) (ks := ks) (done := i) (k := k) (v := v) hm rfl rfl ?_
  refine Qv (k:=Wq (Qc (k:=Qv (k:=?_))))
  refine r_yield ys i k ⟨hk1, hk, hl2⟩ rfl rfl rfl ?_ ?_
  ·
   refine Vv (k:=Wq (Z0 (k:=Zk (k:=Yb ?_))))
   refine to_inv (i ++ [k]) ?_ ⟨rfl, rfl, trivial⟩ ?_
   · rw [List.length_append, List.length_singleton]; omega
   · exact ent_pick
  ·
   refine Vv (k:=Wq (Z1 (k:=Zt (k:=Vb (Vi (Vb ?_))))))
   refine fin_ret (some (i ++ [k]), []) (vs := []) (Cs := []) rfl .nil rfl ⟨fun pre e => trivial, fun e => by cases e⟩ ?_
   simp only [endsAt]
   refine ent_cons (ent_cons ?_)
   refine (mapit_done (i := b5)).trans ?_
   exact ent_pick
 ·
  have hnone : o6 = none := by cases o6 with
   | none => rfl
   | some p => simp at h7
  subst hnone
  dsimp only [nxD]
  refine Ze (k:=Xa (Xi (Xb ?_)))
  refine tw_know (A := MapIt b b5 ks i) .here (fun x => mapit_perm x ho6) (fun hperm => ?_)
  refine fin_end (none, i) (vs := []) (Cs := []) rfl .nil rfl ⟨(fun pre e => by cases e), fun _ => hperm⟩ ?_
  simp only [endsAt]
  refine ent_cons (ent_cons ?_)
  refine (mapit_done (i := b5)).trans ?_
  exact ent_pick
/-- slices.AppendSeq, to nothing, of what is walked to its end. -/
theorem slices_AppendSeq_sp {g : Nat} {lb : List Value} {ok : List Bs → Bs → Prop} {stopped : List Bs → Prop} {As Bs' : List HP} {fin : List Bs → Prop} {val : Option (List Bs) → Value}
    (it : IterU Tryz.prog g lb (fun k : Bs => [vS k]) ok stopped As Bs' fin val) (N : Nat) (hN : N ≤ 4398046511104) (hlim : ∀ pre x, ok pre x → pre.length < N) [hp : PicksC As As []] :
    Sp Tryz.prog 205 [.slice none 0 0, .func (.func g) #[] lb.toArray] As (X := (Option Addr × Nat) × List Bs) (fun x => .slice x.1.1 x.2.length x.1.2) (fun x => fin x.2) (fun x => Row 9 1 (.slice x.1.1 x.2.length x.1.2) x.2.length (x.2.map vS) :: Bs') := by
 refine Sp.body (n := 13) Tryz.call205 Tryz.func205 rfl rfl rfl ?_
 refine Qc (k:=Zx [_] (k:=fun b2 => Vv (k:=Wq (Za (k:=Qc (k:=Vv (k:=Wq (Zb (k:=?_)))))))))
 refine p_rangeFuncU (fun pre => [Ex fun s : Option Addr × Nat => Al [Ce b2 27 [.slice s.1 pre.length s.2], Row 9 1 (.slice s.1 pre.length s.2) pre.length (pre.map vS)]]) (fun j pre => [Pu False]) rfl it rfl (fun _ => by rfl) rfl ?_ (fun l pre k hok => ?_) (fun all hfin => ?_) (fun j pre hs => ?_)
 · (refine ent_app ?_; refine ent_ex (none, 0) (ent_al ?_); exact ent_cons (ent_step row_nil ent_pick))
 ·
  have hpl := hlim pre k hok
  refine wc_exi fun s => wc_al ?_
  refine Zr (k:=Vv (k:=Wg (Zb (k:=Zr (k:=Zd (k:=Vv (k:=Zv [_] (cs := [_]) (k:=fun b10 => ?_))))))))
  refine r_append1 (sz := 1) (bytes := 16) Tryz.underlying27 ti9 rfl rfl rfl rfl rfl rfl rfl (by rfl) (by rfl) (by omega) (by simp only [maxLen]; omega) rfl (fun a11 c11 => ?_)
  refine Zo (k:=Wn (Yb ?_))
  refine to_round ?_
  refine ent_ex (a11, c11) (ent_al ?_)
  simp only [List.length_append, List.length_singleton, List.map_append, List.map_cons, List.map_nil]
  exact ent_pick
 ·
  simp only [List.singleton_append]
  refine Yb (Ya (Za (k:=?_)))
  refine wc_exi fun s => wc_al ?_
  refine Zr (k:=Zd (k:=Vv (k:=Wq (Zt (k:=?_)))))
  refine fin_ret ((s.1, s.2), all) (vs := [_]) (Cs := []) rfl (.tmp rfl .nil) rfl hfin ?_
  rw [List.append_nil]
  exact ent_cons ent_tail
 ·
  exact wc_no (fun s => by obtain ⟨_, _, _, _, a, _⟩ := s; exact a)
theorem slices_Collect_sp {g : Nat} {lb : List Value} {ok : List Bs → Bs → Prop} {stopped : List Bs → Prop} {As Bs' : List HP} {fin : List Bs → Prop} {val : Option (List Bs) → Value}
    (it : IterU Tryz.prog g lb (fun k : Bs => [vS k]) ok stopped As Bs' fin val) (N : Nat) (hN : N ≤ 4398046511104) (hlim : ∀ pre x, ok pre x → pre.length < N) [hp : PicksC As As []] :
    Sp Tryz.prog 187 [.func (.func g) #[] lb.toArray] As (X := (Option Addr × Nat) × List Bs) (fun x => .slice x.1.1 x.2.length x.1.2) (fun x => fin x.2) (fun x => Row 9 1 (.slice x.1.1 x.2.length x.1.2) x.2.length (x.2.map vS) :: Bs') := by
 refine Sp.body (n := 5) Tryz.call187 Tryz.func187 rfl rfl rfl ?_
 refine Qc (k:=Vv (k:=Wq (Qc (k:=Vv (k:=?_)))))
 refine r_callX (slices_AppendSeq_sp it N hN hlim) rfl rfl rfl (fun x hx => ?_)
 refine Vv (k:=Wq (Zt (k:=?_)))
 refine fin_ret x (vs := [_]) (Cs := []) rfl (.tmp rfl .nil) rfl hx ?_
 simp only [List.append_nil]
 exact Ent.refl _
/-! Sorting texts. -/
theorem bits_Len_zero : SpF Tryz.prog 105 [.int .u64 0] (vI 0) := SpF.of_same Tryz.call105 fun w => (Tryz.bits_Len 0 w (by omega) (by omega)).mono fun e w' ⟨h1, h2⟩ => ⟨by rw [h1]; rfl, h2⟩
theorem insertionSort_nil : SpF Tryz.prog 156 [.slice none 0 0, vI 0, vI 0] (.tuple #[]) := by
 refine Sp.body (n := 49) Tryz.call156 Tryz.func156 rfl rfl rfl ?_
 refine Qc (k:=Qv (k:=Vv (k:=Wq (Zb (k:=?_)))))
 refine p_loop (fun (i : Unit) => [(0, .slice none 0 0), (1, vI 0), (2, vI 0), (6, vI 1)]) (fun (i : Unit) => []) (fun (i : Unit) => 0) rfl (()) ?_ ?_ (fun i => ?_)
 · exact ⟨rfl, rfl, rfl, rfl, trivial⟩
 ·
  exact Ent.refl _
 try dsimp only
 refine Za (k:=Qc (k:=Qv (k:=Vv (k:=Wq (Zi (t:=fun h12 => ?_) (f:=fun h12 => ?_))))))
 ·
  simp at h12
  --done
 ·
  refine Ze (k:=Xa (Xi (Xb ?_)))
  exact fin_end () (vs := []) (Cs := []) rfl .nil rfl trivial ent_nil
theorem pdqsort_nil : SpF Tryz.prog 104 [.slice none 0 0, vI 0, vI 0, vI 0] (.tuple #[]) := by
 refine Sp.body (n := 134) Tryz.call104 Tryz.func104 rfl rfl rfl ?_
 refine Qc (k:=Vv (k:=Wq (Qc (k:=Vv (k:=Wq (Zb (k:=?_)))))))
 refine p_loop (fun (i : Unit) => [(0, .slice none 0 0), (1, vI 0), (2, vI 0), (3, vI 0)]) (fun (i : Unit) => []) (fun (i : Unit) => 0) rfl (()) ?_ ?_ (fun i => ?_)
 · exact ⟨rfl, rfl, rfl, rfl, trivial⟩
 ·
  exact Ent.refl _
 try dsimp only
 refine Zb (k:=Qc (k:=Qv (k:=Qv (k:=Wq (Za (k:=Qc (k:=Vv (k:=?_))))))))
 refine Vv (k:=Wq (Zi (t:=fun h23 => ?_) (f:=fun h23 => ?_)))
 ·
  refine Qc (k:=Qv (k:=Vv (k:=?_)))
  refine r_callF insertionSort_nil rfl rfl rfl ?_
  refine Wq (Zt (k:=Va (Vb (Vi (Vb ?_)))))
  exact fin_ret () (vs := []) (Cs := []) rfl .nil rfl trivial ent_nil
 ·
  simp at h23
  --done
theorem slices_Sort_nil : SpF Tryz.prog 55 [.slice none 0 0] (.tuple #[]) := by
 refine Sp.body (n := 11) Tryz.call55 Tryz.func55 rfl rfl rfl ?_
 refine Qc (k:=Qv (k:=Vv (k:=Wq (Zr (k:=Qv (k:=Vv (k:=?_)))))))
 refine wo_pv (pv_conv_in (i := 0) rfl Tryz.underlying3 Tryz.underlying105 (by decide)) rfl ?_
 refine r_callF bits_Len_zero rfl rfl rfl ?_
 refine r_callF pdqsort_nil rfl rfl rfl ?_
 refine Wn ?_
 exact fin_end () (vs := []) (Cs := []) rfl .nil rfl trivial ent_nil
theorem sat_grow {w : World} {M : Kn} {h : Res} (t : Sat w M h) (os : Array Obj) : Sat (Go.Sort.grow w os) M h := by
 have old : ∀ i o, w.heap[i]? = some o → (Go.Sort.grow w os).heap[i]? = some o := fun i o e => by
  rw [Go.Sort.heap_grow_old w os (Array.getElem?_eq_some_iff.1 e).1]; exact e
 exact ⟨fun i o e => old i o (t.im i o e), fun i o e => old i o (t.ow i o e), t.dj, t.env.trans ⟨rfl, rfl, rfl, by simp⟩⟩
def sortB (l : List Bs) : List Bs := l.mergeSort fun x y => decide (x ≤ y)
theorem sortB_len (l : List Bs) : (sortB l).length = l.length := by simp [sortB]
theorem slices_Sort_sp (a : Option Addr) (n c : Nat) (l : List Bs) (hn : l.length = n) (hb : n < 4611686018427387904) :
    Sp1 Tryz.prog 55 [.slice a n c] [Row 9 1 (.slice a n c) n (l.map vS)] (.tuple #[]) [Row 9 1 (.slice a n c) n ((sortB l).map vS)] := by
 subst hn
 refine ⟨Tryz.call55, fun w M h hf d t s => ?_⟩
 obtain ⟨h1, h2, d12, e, hr, _⟩ := s
 subst e
 rcases hr with ⟨hv, hl, hx⟩ | ⟨g, cap, cur, hv, hnc, hcm, hcl, hxl, htk, hh⟩
 · have hl0 : l = [] := List.eq_nil_of_length_eq_zero hl
   subst hl0
   cases hv
   refine (slices_Sort_nil.calls w M (h1.add h2) hf d t trivial).mono ?_
   rintro ee w' ⟨x, M', h', rfl, _, le, dj, t', _⟩
   exact ⟨(), M', h', rfl, trivial, le, dj, t', Res.emp, h', Res.emp_dj _, rfl, .inl ⟨rfl, rfl, by simp [sortB]⟩, trivial⟩
 · cases hv
   subst hh
   rw [Nat.mul_one] at hcl htk
   obtain ⟨d1, d2⟩ := Res.dj_add_left.1 d
   have hg : w.heap[g]? = some (.cells cur.toArray 9 (0, 0)) := t.ow _ _ (by simp [Res.add, Res.one])
   have hlt : g < w.heap.size := (Array.getElem?_eq_some_iff.1 hg).1
   have hH : Go.Sort.Holds encStr w g 0 l.toArray := by
    intro j hj
    have hj' : j < l.length := by simpa using hj
    have hc : cur[j]? = some (vS l[j]) := by
     have := congrArg (fun q => q[j]?) htk
     simp only [List.getElem?_take, hj', if_true, List.getElem?_map, List.getElem?_eq_getElem hj', Option.map_some] at this
     exact this
    refine ⟨?_, ?_⟩
    · simp only [World.cell?, Nat.zero_add, hg]
      simp [hc, hj', encStr]
    · simp [World.frozen?, hg]
   have hcall := Tryz.slices_Sort_string g 0 c l w hH hlt hb
   refine CallsIn.mono (callsIn_wide.2 hcall) ?_
   rintro ee w' ⟨rfl, k, os, rfl⟩
   have hs : (l.mergeSort fun x y => decide (x ≤ y)) = sortB l := rfl
   rw [hs]
   have hsl := sortB_len l
   generalize hq : sortB l = q at hsl ⊢
   have hput : (Go.Sort.putRow encStr (Go.Sort.ahead w k) g 0 q.toArray).heap[g]? = some (.cells (q.map vS ++ cur.drop q.length).toArray 9 (0, 0)) := by
    have h0 : (Go.Sort.ahead w k).heap[g]? = some (.cells cur.toArray 9 (0, 0)) := hg
    simp only [Go.Sort.putRow, Go.Sort.mapBlock, Array.getElem?_modify, if_true, h0, Option.map_some, Go.Sort.onCells]
    congr 2
    apply Array.ext'
    simp only [Go.Sort.putCells, Array.toList_mapIdx]
    apply List.ext_getElem?
    intro j
    simp only [List.getElem?_mapIdx, Nat.zero_le, true_and, Nat.zero_add, List.size_toArray, Nat.sub_zero]
    by_cases hj : j < q.length
    · have hjc : j < cur.length := by have := congrArg List.length htk; simp at this; omega
      rw [List.getElem?_append_left (by simpa using hj)]
      simp [hj, hjc, encStr]
    · rw [List.getElem?_append_right (by simpa using Nat.le_of_not_lt hj)]
      simp only [List.length_map, List.getElem?_drop]
      have e : q.length + (j - q.length) = j := by omega
      rw [e]
      cases hc : cur[j]? with
      | none => simp [hc]
      | some v => simp [hc, hj]
   have hoth : ∀ i, i ≠ g → (Go.Sort.putRow encStr (Go.Sort.ahead w k) g 0 q.toArray).heap[i]? = w.heap[i]? := by
    intro i hi
    simp only [Go.Sort.putRow, Go.Sort.mapBlock, Array.getElem?_modify, Ne.symm hi, if_false]
    rfl
   have t1 : Sat w M ((Res.one g (.cells cur.toArray 9 (0, 0))).add (h2.add hf)) := by rw [← Res.add_assoc]; exact t
   have t2 := Sat.setBlk (Res.dj_add_right.2 ⟨d12, d1⟩) t1 hput hoth ⟨rfl, rfl, rfl, by simp⟩
   have dn : (Res.one g (.cells (q.map vS ++ cur.drop q.length).toArray 9 (0, 0))).dj (h2.add hf) := dj_one_any (Res.dj_add_right.2 ⟨d12, d1⟩)
   obtain ⟨dn1, dn2⟩ := Res.dj_add_right.1 dn
   refine ⟨(), M, (Res.one g (.cells (q.map vS ++ cur.drop q.length).toArray 9 (0, 0))).add h2, rfl, trivial, Kn.le_refl _, Res.dj_add_left.2 ⟨dn2, d2⟩, ?_, Res.one g _, h2, dn1, rfl, .inr ⟨g, c, q.map vS ++ cur.drop q.length, rfl, hnc, hcm, ?_, ?_, ?_, rfl⟩, trivial⟩
   · rw [Res.add_assoc]; exact sat_grow t2 os
   · simp; omega
   · simp; omega
   · rw [Nat.mul_one, ← hsl, List.take_left' (by simp)]
end
section
set_option maxRecDepth 100000
def rowG (o : Option (Rw × Bs)) : Rw := (o.map (·.1)).getD ⟨[], [], false⟩
def rowT (o : Option (Rw × Bs)) : Bs := (o.map (·.2)).getD []
theorem rowV_eq (o : Option (Rw × Bs)) : rowV o = .tuple #[.agg #[vS (rowG o).key, vS (rowG o).val, vB (rowG o).gone], vS (rowT o), vB o.isSome] := by
 cases o with
 | none => rfl
 | some p => obtain ⟨r, t⟩ := p; rfl
theorem store_Read_sp (s : List UInt8) (h : s.length ≤ 1099511627776) : Sp Tryz.prog 88 [vS s] [] (X := Option Addr × Nat) (fun x => .tuple #[.slice x.1 ((readR s).getD []).length x.2, vB (readR s).isSome]) (fun _ => True)
    (fun x => [Row 77 3 (.slice x.1 ((readR s).getD []).length x.2) ((readR s).getD []).length (((readR s).getD []).flatMap rowC)]) := by
 refine Sp.body (n := 24) Tryz.call88 Tryz.func88 rfl rfl rfl ?_
 refine Qc (k:=Qv (k:=Wq (Qc (k:=Vv (k:=Wq (Za (k:=Zb (k:=?_))))))))
 refine p_loop (fun (i : { p : (Option Addr × Nat) × List Rw × Bs // readR s = (readR p.2.2).map (p.2.1 ++ ·) ∧ p.2.1.length + p.2.2.length ≤ s.length }) => [(0, vS i.1.2.2), (4, .slice i.1.1.1 i.1.2.1.length i.1.1.2)]) (fun (i : { p : (Option Addr × Nat) × List Rw × Bs // readR s = (readR p.2.2).map (p.2.1 ++ ·) ∧ p.2.1.length + p.2.2.length ≤ s.length }) => [Row 77 3 (.slice i.1.1.1 i.1.2.1.length i.1.1.2) i.1.2.1.length (i.1.2.1.flatMap rowC)]) (fun (i : { p : (Option Addr × Nat) × List Rw × Bs // readR s = (readR p.2.2).map (p.2.1 ++ ·) ∧ p.2.1.length + p.2.2.length ≤ s.length }) => i.1.2.2.length) rfl (⟨((none, 0), [], s), by cases readR s <;> simp, by simp⟩) ?_ ?_ (fun i => ?_)
 · exact ⟨rfl, rfl, trivial⟩
 ·
  exact row_nil
 obtain ⟨⟨⟨a, c⟩, out, rs⟩, hi, hl⟩ := i
 dsimp only at hi hl
 try dsimp only
 refine Za (k:=Qc (k:=Qv (k:=Wq (Zi (t:=fun h9 => ?_) (f:=fun h9 => ?_)))))
 ·
  refine Zk (k:=Ya (Zb (k:=Za (k:=?_))))
  have hrow := store_row_sp rs (by omega)
  rw [rowV_eq] at hrow
  refine Zr (k:=Vv (k:=?_))
  refine r_callF hrow rfl rfl rfl ?_
  refine Qv (k:=Qv (k:=Zc [vS [], vS [], .bool false] (k:=fun b5 => Zp (k:=Qv (k:=Wq (Za (k:=Qc (k:=?_))))))))
  refine Qv (k:=Wq (Zi (t:=fun h17 => ?_) (f:=fun h17 => ?_)))
  ·
   refine Qc (k:=Qv (k:=Wq (Zt (k:=Va (Vb (Vi (Vb (Va ?_))))))))
   have hn : rowR rs = none := by cases e : rowR rs with
    | none => rfl
    | some q => rw [e] at h17; simp at h17
   have hi2 := readR_none h9 hn
   rw [hi2] at hi
   have hi3 : readR s = none := hi
   rw [hi3]
   refine fin_ret (none, 0) (vs := [_, _]) (Cs := []) rfl (.tmp rfl (.tmp rfl .nil)) rfl trivial ?_
   exact ent_step row_nil ent_nil
  ·
   refine Zk (k:=Ya (Zr (k:=Vv (k:=Zm [_, _, _] (k:=Zv [_] (cs := [_, _, _]) (k:=fun b20 => ?_))))))
   refine r_append1 (sz := 3) (bytes := 40) Tryz.underlying81 ti77 rfl rfl rfl rfl rfl rfl rfl (by rfl) (by rfl) (by omega) (by simp only [maxLen]; omega) rfl (fun a21 c21 => ?_)
   refine Qv (k:=Vv (k:=Wn (Yb ?_)))
   obtain ⟨q, hq⟩ : ∃ q, rowR rs = some q := by cases e : rowR rs with
    | none => rw [e] at h17; simp at h17
    | some q => exact ⟨q, rfl⟩
   obtain ⟨r, t⟩ := q
   have hlt := rowR_lt hq
   have hi2 := readR_some h9 hq
   rw [hq]
   refine to_inv ⟨((a21, c21), out ++ [r], t), ?_, ?_⟩ ?_ ⟨rfl, sl_eq (by simp), trivial⟩ ?_
   · rw [hi, hi2]; cases readR t <;> simp
   · simp only [List.length_append, List.length_singleton]; omega
   · exact hlt
   · simp only [List.flatMap_append, List.length_append, List.length_singleton]
     exact row_norm1 (by rfl) (by rfl)
 ·
  refine Ze (k:=Xa (Xi (Xb (Ya (Qc (k:=Qv (k:=Vv (k:=Wq (Zt (k:=?_))))))))))
  have hrs : rs = [] := by simpa using h9
  subst hrs
  rw [readR_nil] at hi
  have hi3 : readR s = some out := by rw [hi]; simp
  rw [hi3]
  refine fin_ret (a, c) (vs := [_, _]) (Cs := []) rfl (.tmp rfl (.tmp rfl .nil)) rfl trivial ?_
  simp only [Option.getD_some]
  exact ent_pick
end
section
set_option maxRecDepth 100000
theorem fold_newB {p T : Nat} {v0 v1 : Value} {Hs Rs : List HP} [q : OwnC p T [v0, v1] Hs Rs] (hT : T = 174) (h0 : v0 = .pointer none) (h1 : v1 = .slice none 0 0) : Ent Hs (IsB p [] :: Rs) := by
 subst hT; subst h0; subst h1
 refine ent_ex (.pointer none) ?_
 refine ent_ex (.slice none 0 0) ?_
 refine ent_al (ent_pu ⟨.inl rfl, fun _ => rfl⟩ ?_)
 exact ent_step (ent_pick1 q.get) row_nil
theorem textOf_split {l : List Rw} {j : Nat} (h : j < l.length) : textOf l = textOf (l.take j) ++ (rowText l[j] ++ textOf (l.drop (j + 1))) := by
 have e : l = l.take j ++ (l[j] :: l.drop (j + 1)) := by rw [← List.drop_eq_getElem_cons h, List.take_append_drop]
 unfold textOf
 conv => lhs; rw [e]
 rw [List.flatMap_append, List.flatMap_cons]
theorem textOf_succ {l : List Rw} {j : Nat} (h : j < l.length) : textOf (l.take (j + 1)) = textOf (l.take j) ++ rowText l[j] := by
 unfold textOf
 rw [List.take_succ_eq_append_getElem h, List.flatMap_append, List.flatMap_cons, List.flatMap_nil, List.append_nil]
theorem zb94next0 {G : Prop} (h : G := by
    refine to_inv ⟨j + 1, by omega⟩ (by dsimp only; omega) ⟨rfl, rfl, rfl, rfl, trivial⟩ ?_
    dsimp only
    rw [hsu, rowText, h19]
    simp only [List.append_assoc, if_true, Bool.false_eq_true, if_false]
    exact ent_pick) : G := h
theorem store_Text_sp {B : HP} {a : Option Addr} (n c : Nat) (l : List Rw) (sh : SlA B a (l.flatMap rowC)) (hn : l.length = n) (hb : n ≤ 140737488355328) (hk : ∀ r ∈ l, r.key.length ≤ 1073741824 ∧ r.val.length ≤ 1073741824) (ht : (textOf l).length ≤ 4398046511104) :
    Sp1 Tryz.prog 94 [.slice a n c] [B] (vS (textOf l)) [B] := by
 subst hn
 haveI : RdSl a (l.flatMap rowC) [B] := ⟨⟨B, sh, .here⟩⟩
 refine Sp.body (n := 38) Tryz.call94 Tryz.func94 rfl rfl rfl ?_
 refine Qc (k:=Vv (k:=Wq (Qc (k:=Zc [.pointer none, .slice none 0 0] (k:=fun b3 => ?_)))))
 refine wo_ent' (fold_newB (p := b3) (by rfl) (by rfl) (by rfl)) ?_
 refine Wq (Za (k:=Qc (k:=Qv (k:=Vv (k:=Wq (Zb (k:=?_)))))))
 refine p_loop (fun (i : { j : Nat // j ≤ l.length }) => [(3, .pointer (some ⟨b3, 0, none⟩)), (6, .slice a l.length c), (7, vI l.length), (8, vI i.1)]) (fun (i : { j : Nat // j ≤ l.length }) => [IsB b3 (textOf (l.take i.1)), B]) (fun (i : { j : Nat // j ≤ l.length }) => l.length - i.1) rfl (⟨0, Nat.zero_le _⟩) ?_ ?_ (fun i => ?_)
 · exact ⟨rfl, rfl, rfl, rfl, trivial⟩
 ·
  exact Ent.refl _
 obtain ⟨j, hj⟩ := i
 try dsimp only
 refine Qc (k:=Vv (k:=Wq (Za (k:=Zi (t:=fun h9 => ?_) (f:=fun h9 => ?_)))))
 ·
  refine Zk (k:=Ya (Za (k:=Zb (k:=Za (k:=?_)))))
  have hjl : j < l.length := by omega
  have hsp := congrArg List.length (textOf_split hjl)
  obtain ⟨hk1, hk2⟩ := hk l[j] (List.getElem_mem _)
  have hsu := textOf_succ hjl
  rw [List.length_append, List.length_append] at hsp
  have hrl : (rowText l[j]).length = (decN l[j].key.length).length + 1 + (if l[j].gone then 1 + l[j].key.length else (decN l[j].val.length).length + 1 + l[j].key.length + l[j].val.length) := by
   unfold rowText; split <;> simp [*] <;> omega
  refine Zr (k:=Ye 3 (k:=?_))
  refine r_eloada (vs := [_, _, _]) (sz := 3) Tryz.underlying77 rfl ti77 rfl rfl (by rw [flat_len (sz := 3) (fun _ => rfl)]; omega) rfl (by refine get_flat (fun x => ?_) ?_ <;> first | rfl | omega) rfl ?_
  refine Zc [vS [], vS [], .bool false] (k:=fun b5 => Zp (k:=Wq (Qc (k:=Qx 0 9 (k:=Vv (k:=?_))))))
  refine r_callF (digit_Dec_sp l[j].key.length hk1) rfl rfl rfl ?_
  refine Vv (k:=?_)
  refine r_call1 (WriteString_sp b3 (textOf (l.take j)) (decN l[j].key.length ++ [32]) (by simp only [List.length_append, List.length_singleton]; omega)) rfl rfl rfl ?_
  refine Wq (Za (k:=Qc (k:=Qx 2 4 (k:=Wq (Zi (t:=fun h19 => ?_) (f:=fun h19 => ?_))))))
  ·
   refine Za (k:=?_)
   rw [if_pos h19] at hrl
   refine Zr (k:=Qx 0 9 (k:=Vv (k:=?_)))
   refine r_call1 (WriteString_sp b3 (textOf (l.take j) ++ (decN l[j].key.length ++ [32])) ([45] ++ l[j].key) (by simp only [List.length_append, List.length_singleton]; omega)) rfl rfl rfl ?_
   refine Wq (Ze (k:=Xa (Xb (Ya (Zr (k:=Qv (k:=Wn ?_)))))))
   exact zb94next0
  ·
   refine Zk (k:=Ya ?_)
   rw [if_neg (by rw [h19]; simp)] at hrl
   refine Dw [Ce b5 77 [vS l[j].key, vS l[j].val, vB l[j].gone]] (k:=?_)
   refine Di 0 (t:=Uf 1 9) (k:=Di 1 (t:=Ul) (k:=Dv 2 (k:=Di 5 (t:=Uf 0 9) (k:=Di 6 (t:=Ul) (k:=Di 8 (t:=Uf 1 9) (k:=Di 9 (t:=Ul) (k:=Dn 3 (k:=?_))))))))
   refine an_callF (digit_Dec_sp l[j].val.length hk2) rfl rfl rfl ?_
   refine Dv 4 (k:=Dv 7 (k:=Dv 10 (k:=Dn 11 (k:=?_))))
   refine an_call1 (WriteString_sp b3 (textOf (l.take j) ++ (decN l[j].key.length ++ [32])) (decN l[j].val.length ++ [32] ++ l[j].key ++ l[j].val) (by simp only [List.length_append, List.length_singleton]; omega)) rfl rfl rfl ?_
   refine Dd (k:=Yb (Ya (Zr (k:=Qv (k:=Wn ?_)))))
   exact zb94next0
 ·
  refine Ze (k:=Xa (Xi (Xb (Ya (Za (k:=?_))))))
  have hjl : j = l.length := by omega
  subst hjl
  rw [List.take_length]
  refine Zr (k:=?_)
  refine r_call1 (String_sp b3 (textOf l) (by omega)) rfl rfl rfl ?_
  refine Vv (k:=Wq (Zt (k:=?_)))
  refine fin_ret () (vs := [_]) (Cs := []) rfl (.tmp rfl .nil) rfl trivial ?_
  exact ent_pick
end
end Go.Proofs.YtibccdcemcgkeaaGreat
