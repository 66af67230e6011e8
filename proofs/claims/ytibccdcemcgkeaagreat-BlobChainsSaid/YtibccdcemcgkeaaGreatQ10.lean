/- Texts of this proof, put together: PDel, SDig, SDel, SDel2. -/
import Derived.Test.YtibccdcemcgkeaaGreatQ09
set_option linter.unusedVariables false
set_option linter.unusedSimpArgs false
namespace Go.Proofs.YtibccdcemcgkeaaGreat
/-! The check of a text. -/
def sumB : Bs → Nat → Nat
 | [], _ => 0
 | c :: r, i => c.toNat * 256 ^ (3 - i % 4) + sumB r (i + 1)
def chkB (s : Bs) : Nat := sumB s 0 % 1073741824
theorem chkB_lt (s : Bs) : chkB s ≤ 1073741824 := by unfold chkB; omega
theorem sumB_snoc (s : Bs) : ∀ (c : UInt8) (i : Nat), sumB (s ++ [c]) i = sumB s i + c.toNat * 256 ^ (3 - (i + s.length) % 4) := by
 induction s with
 | nil => intro c i; simp [sumB]
 | cons a r ih =>
   intro c i
   have := ih c (i + 1)
   simp only [List.cons_append, sumB, this, List.length_cons, Nat.add_assoc, Nat.add_comm 1]
theorem sumB_take (s : Bs) (j : Nat) : sumB (s.take (j + 1)) 0 = sumB (s.take j) 0 + (s.getD j 0).toNat * 256 ^ (3 - j % 4) := by
 by_cases h : j < s.length
 · rw [List.take_succ_eq_append_getElem h, sumB_snoc, List.length_take]
   rw [show min j s.length = j by omega]
   simp [h]
 · rw [List.take_of_length_le (by omega), List.take_of_length_le (by omega)]
   simp [Nat.le_of_not_lt h]
theorem w_ofNat (n : Nat) : (UInt32.ofNat n).toNat = n % 4294967296 := by rw [UInt32.toNat_ofNat']
theorem w_add (a b : Nat) : UInt32.ofNat a + UInt32.ofNat b = UInt32.ofNat (a + b) := by
 apply UInt32.toNat_inj.1
 rw [UInt32.toNat_add, w_ofNat, w_ofNat, w_ofNat]; omega
theorem w_byte (c : UInt8) {k : Nat} (h : k < 4) : c.toUInt32 <<< UInt32.ofNat (8 * k) = UInt32.ofNat (c.toNat * 256 ^ k) := by
 apply UInt32.toNat_inj.1
 have h1 : (UInt32.ofNat (8 * k)).toNat % 32 = 8 * k := by rw [w_ofNat]; omega
 rw [UInt32.toNat_shiftLeft, h1, UInt8.toNat_toUInt32, w_ofNat, Nat.shiftLeft_eq, show (256 : Nat) = 2 ^ 8 from rfl, ← Nat.pow_mul]
theorem w_mask (n : Nat) : ((UInt32.ofNat n &&& 1073741823).toNat : Int) = ((n % 1073741824 : Nat) : Int) := by
 rw [UInt32.toNat_and, w_ofNat, show (1073741823 : UInt32).toNat = 2 ^ 30 - 1 from rfl, Nat.and_two_pow_sub_one_eq_mod]
 congr 1
 omega
/-! A command; a delta. -/
def cmdB (src d : Bs) (n i : Nat) : Option (Bs × Nat) :=
 if n = 0 ∨ d.length ≤ i then none
 else if d.getD i 0 = 58 then if n ≤ d.length - (i + 1) then some ((d.drop (i + 1)).take n, i + 1 + n) else none
 else if d.getD i 0 = 64 then match rdN d (i + 1) with
  | none => none
  | some (f, j) => if j < d.length ∧ d.getD j 0 = 44 ∧ f ≤ src.length ∧ n ≤ src.length - f then some ((src.drop f).take n, j + 1) else none
 else none
theorem cmdB_le {src d : Bs} {n i j : Nat} {s : Bs} (h : cmdB src d n i = some (s, j)) : i < j ∧ j ≤ d.length ∧ s.length = n ∧ 0 < n := by
 unfold cmdB at h
 split at h
 · cases h
 · rename_i h1
   split at h
   · split at h
     · cases h; simp; omega
     · cases h
   · split at h
     · split at h
       · cases h
       · rename_i f j' e
         have := rdN_le e
         split at h
         · cases h; simp; omega
         · cases h
     · cases h
def goB (src d : Bs) (size : Nat) : Nat → Nat → Bs → Option Bs
 | 0, _, _ => none
 | f + 1, i, out => match rdN d i with
   | none => none
   | some (n, j) => if d.length ≤ j then none
     else if d.getD j 0 = 59 then if j + 1 = d.length ∧ out.length = size ∧ n = chkB out then some out else none
     else match cmdB src d n j with
      | none => none
      | some (s, b) => if (size : Int) - out.length < s.length then none else goB src d size f b (out ++ s)
theorem goB_more {src d : Bs} {size : Nat} : ∀ (f g i : Nat) (out : Bs), d.length < i + f → d.length < i + g → goB src d size f i out = goB src d size g i out := by
 intro f
 induction f with
 | zero =>
   intro g i out h _
   cases g with
   | zero => rfl
   | succ g =>
     simp only [goB]
     rw [rdN_end (by omega)]
 | succ f ih =>
   intro g i out h1 h2
   cases g with
   | zero =>
     simp only [goB]
     rw [rdN_end (by omega)]
   | succ g =>
     simp only [goB]
     cases e : rdN d i with
     | none => rfl
     | some x =>
       obtain ⟨n, j⟩ := x
       dsimp only
       have hj := rdN_le e
       split
       · rfl
       · split
         · rfl
         · cases e2 : cmdB src d n j with
           | none => rfl
           | some y =>
             obtain ⟨s, b⟩ := y
             dsimp only
             have hb := cmdB_le e2
             split
             · rfl
             · exact ih g b (out ++ s) (by omega) (by omega)
/-- A delta put to a text. -/
def applyB (src d : Bs) : Option Bs := match rdN d 0 with
 | none => none
 | some (size, j) => if d.length ≤ j ∨ d.getD j 0 ≠ 10 ∨ 300 < size then none else goB src d size (d.length + 1) (j + 1) []
theorem goB_step {src d : Bs} {size i : Nat} {out : Bs} (h : i ≤ d.length) : goB src d size (d.length + 1) i out = match rdN d i with
    | none => none
    | some (n, j) => if d.length ≤ j then none
      else if d.getD j 0 = 59 then if j + 1 = d.length ∧ out.length = size ∧ n = chkB out then some out else none
      else match cmdB src d n j with
       | none => none
       | some (s, b) => if (size : Int) - out.length < s.length then none else goB src d size (d.length + 1) b (out ++ s) := by
 conv => lhs; rw [goB]
 cases e : rdN d i with
 | none => rfl
 | some x =>
   obtain ⟨n, j⟩ := x
   dsimp only
   have hj := rdN_le e
   split
   · rfl
   · split
     · rfl
     · cases e2 : cmdB src d n j with
       | none => rfl
       | some y =>
         obtain ⟨s, b⟩ := y
         dsimp only
         have hb := cmdB_le e2
         split
         · rfl
         · exact goB_more _ _ b (out ++ s) (by omega) (by omega)
theorem goB_len {src d : Bs} {size : Nat} : ∀ (f i : Nat) (out t : Bs), goB src d size f i out = some t → t.length = size := by
 intro f
 induction f with
 | zero => intro i out t h; cases h
 | succ f ih =>
   intro i out t h
   simp only [goB] at h
   split at h
   · cases h
   · split at h
     · cases h
     · split at h
       · split at h
         · rename_i h1; cases h; exact h1.2.1
         · cases h
       · split at h
         · cases h
         · split at h
           · cases h
           · exact ih _ _ _ h
theorem applyB_len {src d t : Bs} (h : applyB src d = some t) : t.length ≤ 300 := by
 unfold applyB at h
 split at h
 · cases h
 · split at h
   · cases h
   · rename_i h1
     have := goB_len _ _ _ _ h
     omega
section
set_option maxRecDepth 100000
theorem dg_slice (k : Nat) : (digL.drop (k % 64)).take (k % 64 + 1 - k % 64) = [dg k] := by
 have h : k % 64 < digL.length := by rw [digL_len]; omega
 rw [show k % 64 + 1 - k % 64 = 1 by omega, List.drop_eq_getElem_cons h, List.take_succ_cons, List.take_zero, dg]
 simp [h]
theorem c48 (c : UInt8) : ((c.toNat : Int) = 48) ↔ c = 48 := ⟨fun h => UInt8.toNat_inj.1 (by show c.toNat = 48; omega), fun h => by rw [h]; rfl⟩
def pre64 (m : Nat) : Bs := if m = 0 then [] else putN m
theorem pre64_pos {m : Nat} (h : 0 < m) : pre64 m = pre64 (m / 64) ++ [dg m] := by
 unfold pre64
 rw [if_neg (by omega), putN]
 split
 · rw [if_pos (by omega)]; rfl
 · rw [if_neg (by omega)]
theorem putN_split (n : Nat) : putN n = pre64 (n / 64) ++ [dg n] := by
 by_cases h : 0 < n
 · rw [← pre64_pos h, pre64, if_neg (by omega)]
 · have : n = 0 := by omega
   subst this; rw [putN]; rfl
theorem fdiv64 (n : Nat) : Int.fdiv (n : Int) (2 ^ min 6 IntKind.i64.bits) = ((n / 64 : Nat) : Int) := by
 have e : min 6 IntKind.i64.bits = 6 := by decide
 rw [e, Int.fdiv_eq_ediv_of_nonneg _ (by decide)]
 show (n : Int) / 64 = _
 omega
theorem and63 (n : Nat) : bits .and .i64 (n : Int) 63 = ((n % 64 : Nat) : Int) := by rw [i64_and63]; omega
theorem shl6 (n : Nat) (h : n ≤ 1073741824) : IntKind.i64.wrap ((n : Int) * 2 ^ min 6 IntKind.i64.bits) = ((n * 64 : Nat) : Int) := by
 have e : min 6 IntKind.i64.bits = 6 := by decide
 rw [e, show ((2 : Int) ^ 6) = 64 from rfl, i64_in' (by omega)]; omega
set_option maxHeartbeats 1000000 in
theorem digit_Put_sp (n : Nat) (h : n ≤ 1073741824) : SpF Tryz.prog 142 [vI n] (vS (putN n)) := by
 refine Sp.body (n := 28) Tryz.call142 Tryz.func142 rfl rfl rfl ?_
 refine Qc (k:=Vv (k:=Wq (Za (k:=Qc (k:=Vv (k:=?_))))))
 refine r_callF (digit_may_sp n) rfl rfl rfl ?_
 refine Vv (k:=Wq (Zi (t:=fun h6 => ?_) (f:=fun h6 => ?_)))
 ·
  exfalso; exact h6 ⟨by omega, by omega⟩
  --done
 ·
  refine Zk (k:=Ya (Qc (k:=Vv (k:=?_))))
  refine wo_pv (pv_and rfl rfl) rfl ?_
  rw [and63]
  refine Vv (k:=?_)
  refine wo_pv (pv_and rfl rfl) rfl ?_
  rw [and63]
  refine Vv (k:=?_)
  refine wo_pv (pv_slice_inm (m := n % 64) (o := n % 64 + 1) Tryz.underlying9 rfl rfl rfl rfl (by exact Int.natCast_succ _) (by omega) (by show n % 64 + 1 ≤ 64; omega)) rfl ?_
  change wo _ _ _ _ _ ((12, vS ((digL.drop (n % 64)).take (n % 64 + 1 - n % 64))) :: _) _ _
  rw [dg_slice]
  refine Vv (k:=Wq (Za (k:=Qc (k:=Vv (k:=?_)))))
  refine wo_pv (pv_shr (m := 6) rfl rfl) rfl ?_
  rw [fdiv64]
  refine Vv (k:=Wq (Zb (k:=?_)))
  refine p_loop (fun (i : { p : Nat × Bs // pre64 p.1 ++ p.2 = putN n ∧ p.1 ≤ n }) => [(0, vI i.1.1), (3, vS i.1.2)]) (fun (i : { p : Nat × Bs // pre64 p.1 ++ p.2 = putN n ∧ p.1 ≤ n }) => []) (fun (i : { p : Nat × Bs // pre64 p.1 ++ p.2 = putN n ∧ p.1 ≤ n }) => i.1.1) rfl (⟨(n / 64, [dg n]), (putN_split n).symm, by dsimp only; omega⟩) ?_ ?_ (fun i => ?_)
  · exact ⟨rfl, rfl, trivial⟩
  ·
   exact ent_pick
  obtain ⟨⟨m, out⟩, hi, hm⟩ := i
  have hlen := (putN_len h).2
  rw [← hi, List.length_append] at hlen
  dsimp only at hi hm hlen ⊢
  try dsimp only
  refine Za (k:=Qc (k:=Qv (k:=Wq (Zi (t:=fun h16 => ?_) (f:=fun h16 => ?_)))))
  ·
   refine Zk (k:=Ya (Za (k:=Zb (k:=Zr (k:=Vv (k:=?_))))))
   refine wo_pv (pv_and rfl rfl) rfl ?_
   rw [and63]
   refine Vv (k:=?_)
   refine wo_pv (pv_and rfl rfl) rfl ?_
   rw [and63]
   refine Vv (k:=?_)
   refine wo_pv (pv_slice_inm (m := m % 64) (o := m % 64 + 1) Tryz.underlying9 rfl rfl rfl rfl (by exact Int.natCast_succ _) (by omega) (by show m % 64 + 1 ≤ 64; omega)) rfl ?_
   change wo _ _ _ _ _ ((24, vS ((digL.drop (m % 64)).take (m % 64 + 1 - m % 64))) :: _) _ _
   rw [dg_slice]
   refine Qv (k:=Vv (k:=Wn (Yb (Ya (Zr (k:=Vv (k:=?_)))))))
   refine wo_pv (pv_shr (m := 6) rfl rfl) rfl ?_
   rw [fdiv64]
   refine Vv (k:=Wn ?_)
   refine to_inv ⟨(m / 64, dg m :: out), ?_, ?_⟩ ?_ ⟨rfl, rfl, trivial⟩ ent_nil
   · rw [← hi, pre64_pos (m := m) (by omega)]; simp
   · dsimp only; omega
   · dsimp only; omega
  ·
   refine Ze (k:=Xa (Xi (Xb (Ya (Qc (k:=Qv (k:=Wq (Zt (k:=?_)))))))))
   have hm0 : m = 0 := by omega
   subst hm0
   refine fin_ret () (vs := [_]) rfl (.tmp rfl .nil) ?_ trivial ent_nil
   rw [← hi]; rfl
/-- What reading answers. -/
def rdV (x : Option (Nat × Nat)) : Value := .tuple #[vI ((x.getD (0, 0)).1 : Nat), vI ((x.getD (0, 0)).2 : Nat), vB x.isSome]
theorem u8_back (c : UInt8) : ((c.toNat : Int).toNat).toUInt8 = c := by simp
theorem zb148ret2 {G : Prop} (h : G := by
    refine fin_ret () (vs := [_, _, _]) (Cs := []) rfl (.tmp rfl (.tmp rfl (.tmp rfl .nil))) ?_ trivial ent_nil
    rw [rdN_end (by omega)]; rfl) : G := h
theorem zb148join11 {G : Prop} (h : G := by
    first
    | exact to_inv ⟨(n, j), hj1, hj2, hr.symm⟩ trivial ⟨rfl, rfl, rfl, rfl, trivial⟩ ent_nil
    | (have hjl : j = s.length := by omega
       rw [List.drop_eq_nil_of_le (by omega)] at hr
       exact to_inv ⟨(n, j), hj1, hj2, hr.symm⟩ trivial ⟨rfl, rfl, rfl, rfl, trivial⟩ ent_nil)) : G := h
theorem zb148ret10 {G : Prop} (h : G := by
    refine fin_ret () (vs := [_, _, _]) (Cs := []) rfl (.tmp rfl (.tmp rfl (.tmp rfl .nil))) ?_ trivial ent_nil
    have : rdN s k = none := by
     rw [rdN, ← hr, if_pos]
     · rfl
     · first
       | (left; omega)
       | (right; exact ⟨by omega, decide_eq_true ((c48 _).1 (by assumption))⟩)
    rw [this]; rfl) : G := h
theorem zb148next0 {G : Prop} (h : G := by
    refine to_inv ⟨(n * 64 + d, j + 1), by dsimp only; omega, by dsimp only; omega, by dsimp only; omega, ?_⟩ (by dsimp only; omega) ⟨rfl, rfl, rfl, rfl, trivial⟩ ent_nil
    dsimp only
    rw [← hr, if_neg, show j + 1 - k = j - k + 1 by omega]
    rintro (h1 | ⟨h1, h2⟩)
    · omega
    · have h3 := of_decide_eq_true h2
      first
      | omega
      | exact absurd ((c48 _).2 h3) (by assumption)) : G := h
set_option maxHeartbeats 1000000 in
theorem digit_Read_sp (s : Bs) (k : Nat) (hs : s.length ≤ 140737488355328) (hk : k ≤ 140737488355328) : SpF Tryz.prog 148 [vS s, vI k] (rdV (rdN s k)) := by
 refine Sp.body (n := 51) Tryz.call148 Tryz.func148 rfl rfl rfl ?_
 refine Qc (k:=Qv (k:=Vv (k:=Wq (Za (k:=Qc (k:=Qv (k:=Vv (k:=?_))))))))
 refine Gi 2 (t:=fun h10 => ?_) (f:=fun h10 => ?_)
 ·
  refine O1 (k:=O1 (k:=O1 (k:=O1 (k:=P1 (k:=Wq (Z1 (k:=Qc (k:=Qv (k:=Vv (k:=?_))))))))))
  refine Wq (Zt (k:=Va ?_))
  exact zb148ret2
 ·
  refine J0 (k:=J0 (k:=J0 (k:=J0 (k:=P0 (k:=Wq (Zi (t:=fun h15 => ?_) (f:=fun h15 => ?_)))))))
  ·
   refine Qc (k:=Qv (k:=Vv (k:=Wq (Zt (k:=Va ?_)))))
   exact zb148ret2
  ·
   refine Zk (k:=Ya ?_)
   refine p_cut (fun (i : { p : Nat × Nat // k ≤ p.2 ∧ p.2 ≤ s.length ∧ (rdF (decide (s.getD k 0 = 48)) (s.drop k) 0 0 = if p.2 - k = 0 then none else some (p.1, p.2 - k)) }) => [(0, vS s), (1, vI k), (4, vI i.1.1), (5, vI i.1.2)]) (fun (i : { p : Nat × Nat // k ≤ p.2 ∧ p.2 ≤ s.length ∧ (rdF (decide (s.getD k 0 = 48)) (s.drop k) 0 0 = if p.2 - k = 0 then none else some (p.1, p.2 - k)) }) => []) rfl (fun i => ?_) ?_
   ·
    obtain ⟨⟨n, j⟩, hj1, hj2, hr⟩ := i
    dsimp only at hj1 hj2 hr ⊢
    try dsimp only
    refine Za (k:=Qc (k:=Qv (k:=Vv (k:=Wq (Zi (t:=fun h48 => ?_) (f:=fun h48 => ?_))))))
    ·
     refine Qc (k:=Qv (k:=Vv (k:=Wq (Zt (k:=Va ?_)))))
     refine fin_ret () (vs := [_, _, _]) (Cs := []) rfl (.tmp rfl (.tmp rfl (.tmp rfl .nil))) ?_ trivial ent_nil
     rw [rdN, hr, if_pos (by omega)]; rfl
    ·
     refine Zk (k:=Ya (Qc (k:=Qv (k:=Qv (k:=Vv (k:=Wq (Zt (k:=?_))))))))
     refine fin_ret () (vs := [_, _, _]) (Cs := []) rfl (.tmp rfl (.tmp rfl (.tmp rfl .nil))) ?_ trivial ent_nil
     rw [rdN, hr, if_neg (by omega)]
     show _ = rdV (some (n, k + (j - k)))
     rw [show k + (j - k) = j by omega]; rfl
   ·
    refine Qc (k:=Qv (k:=Wq (Zb (k:=?_))))
    refine p_loop (fun (i : { p : Nat × Nat // k ≤ p.2 ∧ p.2 ≤ s.length ∧ p.1 ≤ 1073741824 ∧ rdF (decide (s.getD k 0 = 48)) (s.drop p.2) p.1 (p.2 - k) = rdF (decide (s.getD k 0 = 48)) (s.drop k) 0 0 }) => [(0, vS s), (1, vI k), (4, vI i.1.1), (5, vI i.1.2)]) (fun (i : { p : Nat × Nat // k ≤ p.2 ∧ p.2 ≤ s.length ∧ p.1 ≤ 1073741824 ∧ rdF (decide (s.getD k 0 = 48)) (s.drop p.2) p.1 (p.2 - k) = rdF (decide (s.getD k 0 = 48)) (s.drop k) 0 0 }) => []) (fun (i : { p : Nat × Nat // k ≤ p.2 ∧ p.2 ≤ s.length ∧ p.1 ≤ 1073741824 ∧ rdF (decide (s.getD k 0 = 48)) (s.drop p.2) p.1 (p.2 - k) = rdF (decide (s.getD k 0 = 48)) (s.drop k) 0 0 }) => s.length - i.1.2) rfl (⟨(0, k), Nat.le_refl _, by dsimp only; omega, Nat.zero_le _, by dsimp only; rw [Nat.sub_self]⟩) ?_ ?_ (fun i => ?_)
    · exact ⟨rfl, rfl, rfl, rfl, trivial⟩
    ·
     exact ent_pick
    obtain ⟨⟨n, j⟩, hj1, hj2, hn, hr⟩ := i
    dsimp only at hj1 hj2 hn hr ⊢
    try dsimp only
    refine Za (k:=Qc (k:=Qv (k:=Qv (k:=Wq (Zi (t:=fun h20 => ?_) (f:=fun h20 => ?_))))))
    ·
     refine Zk (k:=Ya (Za (k:=Zb (k:=Za (k:=?_)))))
     have hjl : j < s.length := by omega
     obtain ⟨c, hc⟩ : ∃ c, c = s.getD j 0 := ⟨_, rfl⟩
     have hd : s.drop j = c :: s.drop (j + 1) := by rw [List.drop_eq_getElem_cons hjl, hc]; simp [hjl]
     rw [hd] at hr
     simp only [rdF] at hr
     refine Zr (k:=Qv (k:=Vv (k:=?_)))
     rw [← hc]
     refine r_callF (IndexByte_sp digL (c.toNat : Int)) rfl rfl rfl ?_
     rw [u8_back, index_dv]
     refine Vv (k:=Wq (Za (k:=Qc (k:=Qv (k:=Wq (Zi (t:=fun h28 => ?_) (f:=fun h28 => ?_)))))))
     ·
      have hdn : dv c = none := by
       cases e : dv c with
       | none => rfl
       | some d => rw [e] at h28; exact absurd h28 (Int.not_lt.2 (Int.natCast_nonneg d))
      rw [hdn] at hr
      dsimp only at hr
      refine Ze (k:=Xa (Xo (k:=Xa (Xi (Xb ?_)))))
      exact zb148join11
     ·
      obtain ⟨d, hdd⟩ : ∃ d, dv c = some d := by
       cases e : dv c with
       | none => rw [e] at h28; exact absurd (by decide) h28
       | some d => exact ⟨d, rfl⟩
      have hd64 := dv_lt hdd
      rw [hdd] at hr h28 ⊢
      dsimp only at hr ⊢
      refine Zk (k:=Ya (Qc (k:=Vv (k:=?_))))
      refine wo_pv (pv_shl (m := 6) rfl rfl) rfl ?_
      rw [shl6 n hn]
      refine Vv (k:=?_)
      refine wo_pv (pv_or rfl rfl) rfl ?_
      rw [i64_orj 6 (by omega) (by omega) (by omega)]
      refine Vv (k:=Wq (Qc (k:=Qv (k:=Vv (k:=Gi 2 (t:=fun h35 => ?_) (f:=fun h35 => ?_))))))
      ·
       refine O1 (k:=O1 (k:=O1 (k:=O1 (k:=Ou (k:=Ou (k:=Ou (k:=Ou (k:=O1 (k:=P1 (k:=Wq (Z1 (k:=?_))))))))))))
       refine Qc (k:=Qv (k:=Vv (k:=Wq (Zt (k:=Vb (Va (Vi (Vb (Vi ?_)))))))))
       exact zb148ret10
      ·
       refine J0 (k:=J0 (k:=J0 (k:=J0 (k:=Gi 6 (t:=fun h39 => ?_) (f:=fun h39 => ?_)))))
       ·
        refine J1 (k:=J1 (k:=I1 (k:=?_)))
        refine wo_pv (pv_indexm (m := k) Tryz.underlying9 rfl rfl rfl (by omega)) rfl ?_
        refine J1 (k:=I0 (k:=P1 (k:=P0 (k:=Wq (Zi (t:=fun h45 => ?_) (f:=fun h45 => ?_))))))
        ·
         refine Qc (k:=Qv (k:=Vv (k:=Wq (Zt (k:=Vb (Va (Vi (Vb (Vi ?_)))))))))
         exact zb148ret10
        ·
         refine Zk (k:=Yb (Ya (Zr (k:=Qv (k:=Vv (k:=Wn ?_))))))
         exact zb148next0
       ·
        refine O0 (k:=O0 (k:=O0 (k:=O0 (k:=I0 (k:=P0 (k:=P0 (k:=Wq (Z0 (k:=Zk (k:=Yb (Ya ?_)))))))))))
        refine Zr (k:=Qv (k:=Vv (k:=Wn ?_)))
        exact zb148next0
    ·
     refine Ze (k:=Xa (Xi (Xb ?_)))
     exact zb148join11
/-! The document's own. -/
end
section
set_option maxRecDepth 100000
set_option maxHeartbeats 1000000 in
theorem delta_Check_sp (s : Bs) (hs : s.length ≤ 140737488355328) : SpF Tryz.prog 145 [vS s] (vI (chkB s)) := by
 refine Sp.body (n := 25) Tryz.call145 Tryz.func145 rfl rfl rfl ?_
 refine Qc (k:=Vv (k:=Wq (Qc (k:=Vv (k:=Wq (Za (k:=Qc (k:=Vv (k:=?_)))))))))
 refine Qv (k:=Wq (Zb (k:=?_)))
 refine p_loop (fun (i : { j : Nat // j ≤ s.length }) => [(0, vS s), (3, vW (UInt32.ofNat (sumB (s.take i.1) 0))), (6, vI s.length), (7, vI i.1)]) (fun (i : { j : Nat // j ≤ s.length }) => []) (fun (i : { j : Nat // j ≤ s.length }) => s.length - i.1) rfl (⟨0, Nat.zero_le _⟩) ?_ ?_ (fun i => ?_)
 · exact ⟨rfl, rfl, rfl, rfl, trivial⟩
 ·
  exact ent_pick
 obtain ⟨j, hj⟩ := i
 dsimp only
 try dsimp only
 refine Qc (k:=Vv (k:=Wq (Za (k:=Zi (t:=fun h8 => ?_) (f:=fun h8 => ?_)))))
 ·
  refine Zk (k:=Ya (Za (k:=Zb (k:=Qc (k:=Qv (k:=Wq ?_))))))
  have hjl : j < s.length := by omega
  have hst := sumB_take s j
  refine Zr (k:=Qv (k:=Qv (k:=?_)))
  refine wo_pv (pv_convW rfl Tryz.underlying5 Tryz.underlying102) rfl ?_
  refine Qv (k:=?_)
  rw [show (j : Int) % 4 = ((j % 4 : Nat) : Int) by omega]
  refine Qv (k:=?_)
  rw [show (8 : Int) * (3 - ((j % 4 : Nat) : Int)) = ((8 * (3 - j % 4) : Nat) : Int) by omega]
  refine wo_pv (pv_shlW (m := 8 * (3 - j % 4)) rfl rfl rfl (by omega)) rfl ?_
  rw [w_byte _ (by omega)]
  refine wo_pv (pv_addW rfl rfl) rfl ?_
  rw [w_add, ← hst]
  refine Vv (k:=Wn (Yb (Ya (Zr (k:=Qv (k:=Wn ?_))))))
  exact to_inv ⟨j + 1, by omega⟩ (by dsimp only; omega) ⟨rfl, rfl, rfl, rfl, trivial⟩ ent_nil
 ·
  refine Ze (k:=Xa (Xi (Xb (Ya (Qc (k:=Vv (k:=?_)))))))
  refine wo_pv (pv_andW (b := 1073741823) rfl rfl) rfl ?_
  refine wo_pv (pv_conv_in (i := ((UInt32.ofNat (sumB (s.take j) 0) &&& 1073741823).toNat : Int)) rfl Tryz.underlying102 Tryz.underlying3 (i64_in' (by rw [w_mask]; omega))) rfl ?_
  refine Vv (k:=Wq (Zt (k:=?_)))
  refine fin_ret () (vs := [_]) (Cs := []) rfl (.tmp rfl .nil) ?_ trivial ent_nil
  rw [w_mask, List.take_of_length_le (by omega)]; rfl
/-- The size that a delta says. -/
def sizeB (d : Bs) : Option (Nat × Nat) := match rdN d 0 with
 | none => none
 | some (n, j) => if d.length ≤ j ∨ d.getD j 0 ≠ 10 then none else some (n, j)
def sizeV (x : Option (Nat × Nat)) : Value := .tuple #[vI ((x.getD (0, 0)).1 : Nat), vB x.isSome]
theorem u8_eq (c : UInt8) (k : Nat) (hk : k < 256) : ((c.toNat : Int) = (k : Int)) ↔ c = UInt8.ofNat k := by
 constructor
 · intro h
   apply UInt8.toNat_inj.1
   rw [UInt8.toNat_ofNat']; omega
 · intro h
   rw [h, UInt8.toNat_ofNat']; omega
theorem zb146ret3 {G : Prop} (h : G := by
    refine fin_ret () (vs := [_, _]) (Cs := []) rfl (.tmp rfl (.tmp rfl .nil)) ?_ trivial ent_nil
    first
    | rfl
    | (try dsimp only
       rw [if_pos]
       · rfl
       · first
         | (left; omega)
         | (right; intro h; exact absurd ((e10 _).2 h) (by assumption)))) : G := h
theorem delta_Size_sp (d : Bs) (hd : d.length ≤ 1099511627776) : SpF Tryz.prog 146 [vS d] (sizeV (sizeB d)) := by
 have hR := digit_Read_sp d 0 (by omega) (Nat.zero_le _)
 have e10 : ∀ c : UInt8, ((c.toNat : Int) = 10) ↔ c = 10 := fun c => u8_eq c 10 (by decide)
 unfold sizeB
 obtain ⟨x, hx⟩ : ∃ x, x = rdN d 0 := ⟨_, rfl⟩
 rw [← hx] at hR ⊢
 have hj : ∀ n j, x = some (n, j) → j ≤ d.length := fun n j e => by rw [hx] at e; have := rdN_le e; omega
 refine Sp.body (n := 28) Tryz.call146 Tryz.func146 rfl rfl rfl ?_
 refine Qc (k:=Qv (k:=Wq (Qc (k:=Vv (k:=?_)))))
 refine r_callF hR rfl rfl rfl ?_
 refine Vv (k:=?_)
 refine wo_pv (pv_extract (v := vI ((x.getD (0, 0)).1 : Nat)) rfl rfl) rfl ?_
 refine wo_pv (pv_extract (v := vI ((x.getD (0, 0)).2 : Nat)) rfl rfl) rfl ?_
 refine wo_pv (pv_extract (v := vB x.isSome) rfl rfl) rfl ?_
 refine Qv (k:=Vv (k:=Wq (Za (k:=Qc (k:=Qv (k:=Vv (k:=Gi 2 (t:=fun h15 => ?_) (f:=fun h15 => ?_))))))))
 ·
  obtain rfl : x = none := by cases x with | none => rfl | some y => simp at h15
  refine O1 (k:=O1 (k:=O1 (k:=O1 (k:=P1 (k:=Vv (k:=O1 (k:=O1 (k:=O1 (k:=O1 (k:=P1 (k:=Wq ?_)))))))))))
  refine Z1 (k:=Qc (k:=Qv (k:=Wq (Zt (k:=Va ?_)))))
  exact zb146ret3
 ·
  obtain ⟨⟨n, j⟩, rfl⟩ : ∃ y, x = some y := by cases x with | none => simp at h15 | some y => exact ⟨y, rfl⟩
  have hjl := hj n j rfl
  dsimp only [Option.getD_some]
  refine J0 (k:=J0 (k:=J0 (k:=J0 (k:=P0 (k:=Vv (k:=Gi 8 (t:=fun h21 => ?_) (f:=fun h21 => ?_)))))))
  ·
   refine O1 (k:=O1 (k:=O1 (k:=O1 (k:=P1 (k:=Wq (Z1 (k:=Qc (k:=Qv (k:=Wq ?_)))))))))
   refine Zt (k:=Va ?_)
   exact zb146ret3
  ·
   refine J0 (k:=J0 (k:=I0 (k:=?_)))
   refine wo_pv (pv_indexm (m := j) Tryz.underlying9 rfl rfl rfl (by omega)) rfl ?_
   refine J0 (k:=P0 (k:=Wq (Zi (t:=fun h26 => ?_) (f:=fun h26 => ?_))))
   ·
    refine Qc (k:=Qv (k:=Wq (Zt (k:=Va ?_))))
    exact zb146ret3
   ·
    refine Zk (k:=Ya (Qc (k:=Qv (k:=Vv (k:=Wq (Zt (k:=?_)))))))
    refine fin_ret () (vs := [_, _]) (Cs := []) rfl (.tmp rfl (.tmp rfl .nil)) ?_ trivial ent_nil
    try dsimp only
    rw [if_neg]
    · rfl
    · rintro (h | h)
      · omega
      · exact h ((e10 _).1 (by first | assumption | (apply Classical.not_not.1; assumption)))
def cmdV (x : Option (Bs × Nat)) : Value := .tuple #[vS (x.getD ([], 0)).1, vI ((x.getD ([], 0)).2 : Nat), vB x.isSome]
theorem zb149ret2 {G : Prop} (h : G := by
    refine fin_ret () (vs := [_, _, _]) (Cs := []) rfl (.tmp rfl (.tmp rfl (.tmp rfl .nil))) ?_ trivial ent_nil
    rw [if_pos (by omega)]; rfl) : G := h
theorem zb149ret12 {G : Prop} (h : G := by
    refine fin_ret () (vs := [_, _, _]) (Cs := []) rfl (.tmp rfl (.tmp rfl (.tmp rfl .nil))) ?_ trivial ent_nil
    first
    | rfl
    | (rw [if_neg (by omega)]; rfl)
    | (try dsimp only
       rw [if_neg]
       · rfl
       · rintro ⟨r1, r2, r3, r4⟩
         first
         | omega
         | exact absurd ((e44 _).2 r2) (by assumption))
    | (rw [if_neg (show ¬ (n = 0 ∨ d.length ≤ i) by omega), if_neg (fun h => absurd ((e58 _).2 h) (by assumption)), if_neg (fun h => absurd ((e64 _).2 h) (by assumption))]; rfl)) : G := h
set_option maxHeartbeats 1000000 in
theorem delta_command_sp (src d : Bs) (n i : Nat) (hs : src.length ≤ 1099511627776) (hd : d.length ≤ 1099511627776) (hn : n ≤ 1073741824) (hi : i ≤ 1099511627776) : SpF Tryz.prog 149 [vS src, vS d, vI n, vI i] (cmdV (cmdB src d n i)) := by
 have hR := digit_Read_sp d (i + 1) (by omega) (by omega)
 have e58 : ∀ c : UInt8, ((c.toNat : Int) = 58) ↔ c = 58 := fun c => u8_eq c 58 (by decide)
 have e64 : ∀ c : UInt8, ((c.toNat : Int) = 64) ↔ c = 64 := fun c => u8_eq c 64 (by decide)
 have e44 : ∀ c : UInt8, ((c.toNat : Int) = 44) ↔ c = 44 := fun c => u8_eq c 44 (by decide)
 obtain ⟨x, hx⟩ : ∃ x, x = rdN d (i + 1) := ⟨_, rfl⟩
 have hj : ∀ n j, x = some (n, j) → n ≤ 1073741824 ∧ j ≤ d.length := fun n j e => by rw [hx] at e; have := rdN_le e; omega
 unfold cmdB
 rw [← hx] at hR ⊢
 refine Sp.body (n := 89) Tryz.call149 Tryz.func149 rfl rfl rfl ?_
 refine Qc (k:=Qv (k:=Vv (k:=Wq (Za (k:=Qc (k:=Qv (k:=Vv (k:=?_))))))))
 refine Gi 2 (t:=fun h16 => ?_) (f:=fun h16 => ?_)
 ·
  refine O1 (k:=O1 (k:=O1 (k:=O1 (k:=P1 (k:=Wq (Z1 (k:=Qc (k:=Qv (k:=Vv (k:=?_))))))))))
  refine Wq (Zt (k:=Va ?_))
  exact zb149ret2
 ·
  refine J0 (k:=J0 (k:=J0 (k:=J0 (k:=P0 (k:=Wq (Zi (t:=fun h21 => ?_) (f:=fun h21 => ?_)))))))
  ·
   refine Qc (k:=Qv (k:=Vv (k:=Wq (Zt (k:=Va ?_)))))
   exact zb149ret2
  ·
   refine Zk (k:=Ya (Za (k:=Qc (k:=Qv (k:=?_)))))
   refine wo_pv (pv_indexm (m := i) Tryz.underlying9 rfl rfl rfl (by omega)) rfl ?_
   refine Wq (Zb (k:=Qc (k:=Qv (k:=Wq (Zi (t:=fun h25 => ?_) (f:=fun h25 => ?_))))))
   ·
    refine Za (k:=?_)
    rw [if_neg (show ¬ (n = 0 ∨ d.length ≤ i) by omega), if_pos ((e58 _).1 (by assumption))]
    refine Zr (k:=Qv (k:=Vv (k:=Wq (Qc (k:=Qv (k:=Qv (k:=Vv (k:=?_))))))))
    refine Vv (k:=Wq (Zi (t:=fun h34 => ?_) (f:=fun h34 => ?_)))
    ·
     refine Qc (k:=Qv (k:=Qv (k:=Vv (k:=?_))))
     refine wo_pv (pv_slice_inm (m := i + 1) (o := i + 1 + n) Tryz.underlying9 rfl rfl rfl (by omega) (by omega) (by omega) (by omega)) rfl ?_
     rw [show i + 1 + n - (i + 1) = n by omega]
     refine Qv (k:=Qv (k:=Qv (k:=Wq (Zt (k:=Vb (Va ?_))))))
     refine fin_ret () (vs := [_, _, _]) (Cs := []) rfl (.tmp rfl (.tmp rfl (.tmp rfl .nil))) ?_ trivial ent_nil
     rw [if_pos (by omega)]
     show Value.tuple #[_, _, _] = Value.tuple #[_, _, _]
     simp only [Option.getD_some]
     rw [show (i : Int) + 1 + n = ((i + 1 + n : Nat) : Int) by omega]; rfl
    ·
     refine Zk (k:=Yb (Ya (Qc (k:=Qv (k:=Vv (k:=Wq (Zt (k:=?_))))))))
     exact zb149ret12
   ·
    refine Qc (k:=Qv (k:=Wq (Zi (t:=fun h44 => ?_) (f:=fun h44 => ?_))))
    ·
     refine Za (k:=?_)
     rw [if_neg (show ¬ (n = 0 ∨ d.length ≤ i) by omega), if_neg (fun h => absurd ((e58 _).2 h) (by assumption)), if_pos ((e64 _).1 (by assumption))]
     refine Zr (k:=Qv (k:=Vv (k:=?_)))
     refine r_callF hR rfl rfl rfl ?_
     refine Vv (k:=?_)
     refine wo_pv (pv_extract (v := vI ((x.getD (0, 0)).1 : Nat)) rfl rfl) rfl ?_
     refine wo_pv (pv_extract (v := vI ((x.getD (0, 0)).2 : Nat)) rfl rfl) rfl ?_
     refine wo_pv (pv_extract (v := vB x.isSome) rfl rfl) rfl ?_
     refine Qv (k:=Vv (k:=Wq (Qc (k:=Qv (k:=Gi 1 (t:=fun h55 => ?_) (f:=fun h55 => ?_))))))
     ·
      obtain ⟨⟨f, j⟩, rfl⟩ : ∃ y, x = some y := by cases x with | none => simp at h55 | some y => exact ⟨y, rfl⟩
      have hjl := hj f j rfl
      dsimp only [Option.getD_some]
      refine J1 (k:=J1 (k:=J1 (k:=J1 (k:=P1 (k:=Vv (k:=Gi 7 (t:=fun h61 => ?_) (f:=fun h61 => ?_)))))))
      ·
       refine J1 (k:=J1 (k:=I1 (k:=?_)))
       refine wo_pv (pv_indexm (m := j) Tryz.underlying9 rfl rfl rfl (by omega)) rfl ?_
       refine J1 (k:=P1 (k:=Vv (k:=Gi 13 (t:=fun h67 => ?_) (f:=fun h67 => ?_))))
       ·
        refine J1 (k:=J1 (k:=J1 (k:=J1 (k:=P1 (k:=Vv (k:=Gi 19 (t:=fun h73 => ?_) (f:=fun h73 => ?_)))))))
        ·
         refine J1 (k:=J1 (k:=J1 (k:=J1 (k:=J1 (k:=J1 (k:=?_))))))
         refine P1 (k:=Wq (Zi (t:=fun h80 => ?_) (f:=fun h80 => ?_)))
         ·
          refine Qc (k:=Qv (k:=Qv (k:=Vv (k:=?_))))
          refine wo_pv (pv_slice_inm (m := f) (o := f + n) Tryz.underlying9 rfl rfl rfl rfl (by omega) (by omega) (by omega)) rfl ?_
          rw [show f + n - f = n by omega]
          refine Qv (k:=Qv (k:=Vv (k:=Wq (Zt (k:=Vb (Va ?_))))))
          refine fin_ret () (vs := [_, _, _]) (Cs := []) rfl (.tmp rfl (.tmp rfl (.tmp rfl .nil))) ?_ trivial ent_nil
          try dsimp only
          rw [if_pos ⟨by omega, (e44 _).1 (by assumption), by omega, by omega⟩]; rfl
         ·
          refine Zk (k:=Yb (Ya (Qc (k:=Qv (k:=Vv (k:=Wq (Zt (k:=?_))))))))
          exact zb149ret12
        ·
         refine O0 (k:=O0 (k:=O0 (k:=O0 (k:=O0 (k:=O0 (k:=P0 (k:=Wq (Z0 (k:=Zk (k:=Yb (Ya ?_)))))))))))
         refine Qc (k:=Qv (k:=Vv (k:=Wq (Zt (k:=?_)))))
         exact zb149ret12
       ·
        refine O0 (k:=O0 (k:=O0 (k:=O0 (k:=P0 (k:=Vv (k:=O0 (k:=O0 (k:=O0 (k:=O0 (k:=O0 (k:=O0 (k:=?_))))))))))))
        refine P0 (k:=Wq (Z0 (k:=Zk (k:=Yb (Ya (Qc (k:=Qv (k:=Vv (k:=Wq ?_)))))))))
        refine Zt (k:=?_)
        exact zb149ret12
      ·
       refine O0 (k:=O0 (k:=O0 (k:=O0 (k:=P0 (k:=Vv (k:=O0 (k:=O0 (k:=O0 (k:=O0 (k:=P0 (k:=Vv (k:=?_))))))))))))
       refine O0 (k:=O0 (k:=O0 (k:=O0 (k:=O0 (k:=O0 (k:=P0 (k:=Wq (Z0 (k:=Zk (k:=Yb (Ya ?_)))))))))))
       refine Qc (k:=Qv (k:=Vv (k:=Wq (Zt (k:=?_)))))
       exact zb149ret12
     ·
      obtain rfl : x = none := by cases x with | none => rfl | some y => simp at h55
      refine O0 (k:=O0 (k:=O0 (k:=O0 (k:=P0 (k:=Vv (k:=O0 (k:=O0 (k:=O0 (k:=O0 (k:=P0 (k:=Vv (k:=?_))))))))))))
      refine O0 (k:=O0 (k:=O0 (k:=O0 (k:=P0 (k:=Vv (k:=O0 (k:=O0 (k:=O0 (k:=O0 (k:=O0 (k:=O0 (k:=?_))))))))))))
      refine P0 (k:=Wq (Z0 (k:=Zk (k:=Yb (Ya (Qc (k:=Qv (k:=Vv (k:=Wq ?_)))))))))
      refine Zt (k:=?_)
      exact zb149ret12
    ·
     refine Zk (k:=Yb (Ya (Qc (k:=Qv (k:=Vv (k:=Wq (Zt (k:=?_))))))))
     exact zb149ret12
end
section
set_option maxRecDepth 100000
theorem rdF_digs {z : Bool} : ∀ {s : Bs} {n k m j : Nat}, rdF z s n k = some (m, j) → ∀ i, i < j - k → dv (s.getD i 0) ≠ none := by
 intro s
 induction s with
 | nil =>
   intro n k m j h i hi
   simp only [rdF] at h
   split at h
   · cases h
   · cases h; omega
 | cons c r ih =>
   intro n k m j h i hi
   simp only [rdF] at h
   split at h
   · split at h
     · cases h
     · cases h; omega
   · rename_i d hd
     split at h
     · cases h
     · cases i with
       | zero => rw [List.getD_cons_zero, hd]; exact fun h => by cases h
       | succ i => rw [List.getD_cons_succ]; exact ih h i (by omega)
theorem rdN_nl {d : Bs} {n j : Nat} (h : rdN d 0 = some (n, j)) (hj : j < d.length) (h10 : d.getD j 0 = 10) : Lib.indexByte d 10 = (j : Int) := by
 unfold rdN at h
 rw [List.drop_zero] at h
 cases e : rdF (decide (d.getD 0 0 = 48)) d 0 0 with
 | none => rw [e] at h; cases h
 | some x =>
   rw [e] at h
   have hx : x = (n, j) := by cases h; simp
   rw [hx] at e
   have hd := rdF_digs e
   have hf : d.findIdx? (· == 10) = some j := by
    rw [List.findIdx?_eq_some_iff_getElem]
    refine ⟨hj, ?_, fun i hi => ?_⟩
    · have : d[j] = d.getD j 0 := by simp [hj]
      rw [this, h10]; rfl
    · have : d[i] = d.getD i 0 := by simp [show i < d.length by omega]
      rw [this]
      have h2 := hd i (by omega)
      intro h3
      rw [eq_of_beq h3] at h2
      exact h2 (by decide)
   rw [indexByte_find, hf]
theorem applyB_size (src d : Bs) : applyB src d = match sizeB d with
    | none => none
    | some (n, j) => if 300 < n then none else goB src d n (d.length + 1) (j + 1) [] := by
 unfold applyB sizeB
 cases rdN d 0 with
 | none => rfl
 | some x =>
   obtain ⟨n, j⟩ := x
   dsimp only
   by_cases h : d.length ≤ j ∨ d.getD j 0 ≠ 10
   · rw [if_pos h, if_pos (h.elim (fun e => .inl e) (fun e => .inr (.inl e)))]
   · rw [if_neg h]
     dsimp only
     by_cases h3 : 300 < n
     · rw [if_pos (.inr (.inr h3)), if_pos h3]
     · rw [if_neg h3, if_neg (by rintro (e | e | e); exact h (.inl e); exact h (.inr e); exact h3 e)]
theorem sizeB_some {d : Bs} {n j : Nat} (h : sizeB d = some (n, j)) : rdN d 0 = some (n, j) ∧ j < d.length ∧ d.getD j 0 = 10 := by
 unfold sizeB at h
 cases e : rdN d 0 with
 | none => rw [e] at h; cases h
 | some x =>
   rw [e] at h
   dsimp only at h
   split at h
   · cases h
   · rename_i h2
     cases h
     exact ⟨rfl, by omega, Classical.not_not.1 fun h => h2 (.inr h)⟩
def apV (x : Option Bs) : Value := .tuple #[vS (x.getD []), vB x.isSome]
theorem zb98ret3 {G : Prop} (h : G := by
    refine fin_ret () (vs := [_, _]) (Cs := []) rfl (.tmp rfl (.tmp rfl .nil)) ?_ trivial ent_nil
    first
    | rfl
    | (try dsimp only
       rw [if_pos (by omega)]; rfl)) : G := h
theorem zb98ret8 {G : Prop} (h : G := by
    refine fin_ret () (vs := [_, _]) (Cs := []) rfl (.tmp rfl (.tmp rfl .nil)) ?_ trivial ent_nil
    try dsimp only
    rw [if_neg (by omega), hst]
    first
    | rfl
    | (rw [if_pos (by omega)]; rfl)) : G := h
theorem zb98ret11 {G : Prop} (h : G := by
    refine fin_ret () (vs := [_, _]) (Cs := []) rfl (.tmp rfl (.tmp rfl .nil)) ?_ trivial ent_nil
    try dsimp only
    rw [if_neg (by omega), hst, if_neg (by omega)]; rfl) : G := h
theorem zb98ret15 {G : Prop} (h : G := by
    refine fin_ret () (vs := [_, _]) (Cs := []) rfl (.tmp rfl (.tmp rfl .nil)) ?_ trivial ent_nil
    try dsimp only
    rw [if_neg (by omega), hst]
    first
    | rfl
    | (rw [if_pos (by omega)]; rfl)) : G := h
set_option maxHeartbeats 4000000 in
theorem delta_Apply_sp (src d : Bs) (hs : src.length ≤ 1099511627776) (hd : d.length ≤ 1099511627775) : SpF Tryz.prog 98 [vS src, vS d] (apV (applyB src d)) := by
 have e59 : ∀ c : UInt8, ((c.toNat : Int) = 59) ↔ c = 59 := fun c => u8_eq c 59 (by decide)
 rw [applyB_size]
 obtain ⟨x, hx⟩ : ∃ x, x = sizeB d := ⟨_, rfl⟩
 have hSz := delta_Size_sp d (by omega)
 rw [← hx] at hSz ⊢
 refine Sp.body (n := 90) Tryz.call98 Tryz.func98 rfl rfl rfl ?_
 refine Qc (k:=Qv (k:=Wq (Qc (k:=Vv (k:=?_)))))
 refine r_callF hSz rfl rfl rfl ?_
 refine Vv (k:=?_)
 refine wo_pv (pv_extract (v := vI ((x.getD (0, 0)).1 : Nat)) rfl rfl) rfl ?_
 refine wo_pv (pv_extract (v := vB x.isSome) rfl rfl) rfl ?_
 refine Qv (k:=Wq (Za (k:=Qc (k:=Qv (k:=Vv (k:=Gi 2 (t:=fun h22 => ?_) (f:=fun h22 => ?_)))))))
 ·
  obtain rfl : x = none := by cases x with | none => rfl | some y => simp at h22
  refine O1 (k:=O1 (k:=P1 (k:=Wq (Z1 (k:=Qc (k:=Qv (k:=Wq (Zt (k:=Va ?_)))))))))
  exact zb98ret3
 ·
  obtain ⟨⟨size, j0⟩, rfl⟩ : ∃ y, x = some y := by cases x with | none => simp at h22 | some y => exact ⟨y, rfl⟩
  dsimp only [Option.getD_some]
  obtain ⟨hr0, hj0, h10⟩ := sizeB_some hx.symm
  refine J0 (k:=J0 (k:=P0 (k:=Wq (Zi (t:=fun h25 => ?_) (f:=fun h25 => ?_)))))
  ·
   refine Qc (k:=Qv (k:=Wq (Zt (k:=Va ?_))))
   exact zb98ret3
  ·
   refine Zk (k:=Ya (Qc (k:=Vv (k:=Wq (Qc (k:=Vv (k:=?_)))))))
   refine r_callF (IndexByte_sp d 10) rfl rfl rfl ?_
   rw [show (10 : Int).toNat.toUInt8 = 10 from rfl, rdN_nl hr0 hj0 h10]
   refine Qv (k:=Wq (Zb (k:=?_)))
   refine p_loop (fun (i : { p : Nat × Bs // p.1 ≤ d.length ∧ p.2.length ≤ 300 ∧ goB src d size (d.length + 1) (j0 + 1) [] = goB src d size (d.length + 1) p.1 p.2 }) => [(0, vS src), (1, vS d), (6, vI size), (8, vS i.1.2), (9, vI i.1.1)]) (fun (i : { p : Nat × Bs // p.1 ≤ d.length ∧ p.2.length ≤ 300 ∧ goB src d size (d.length + 1) (j0 + 1) [] = goB src d size (d.length + 1) p.1 p.2 }) => []) (fun (i : { p : Nat × Bs // p.1 ≤ d.length ∧ p.2.length ≤ 300 ∧ goB src d size (d.length + 1) (j0 + 1) [] = goB src d size (d.length + 1) p.1 p.2 }) => d.length - i.1.1) rfl (⟨(j0 + 1, []), by dsimp only; omega, by simp, rfl⟩) ?_ ?_ (fun i => ?_)
   · exact ⟨rfl, rfl, rfl, rfl, rfl, trivial⟩
   ·
    exact ent_pick
   obtain ⟨⟨i, out⟩, hi, ho, hg⟩ := i
   dsimp only at hi ho hg ⊢
   have hst := goB_step (src := src) (size := size) (out := out) hi
   rw [← hg] at hst
   obtain ⟨y, hy⟩ : ∃ y, y = rdN d i := ⟨_, rfl⟩
   have hR := digit_Read_sp d i (by omega) (by omega)
   have hyl : ∀ n j, y = some (n, j) → n ≤ 1073741824 ∧ i < j ∧ j ≤ d.length := fun n j e => by rw [hy] at e; have := rdN_le e; omega
   rw [← hy] at hR hst
   clear hg
   try dsimp only
   refine Zb (k:=Qc (k:=Qv (k:=?_)))
   refine r_callF hR rfl rfl rfl ?_
   refine Vv (k:=?_)
   refine wo_pv (pv_extract (v := vI ((y.getD (0, 0)).1 : Nat)) rfl rfl) rfl ?_
   refine wo_pv (pv_extract (v := vI ((y.getD (0, 0)).2 : Nat)) rfl rfl) rfl ?_
   refine wo_pv (pv_extract (v := vB y.isSome) rfl rfl) rfl ?_
   refine Qv (k:=Vv (k:=Wq (Za (k:=Qc (k:=Qv (k:=Vv (k:=Gi 2 (t:=fun h38 => ?_) (f:=fun h38 => ?_))))))))
   ·
    obtain rfl : y = none := by cases y with | none => rfl | some y => simp at h38
    refine O1 (k:=O1 (k:=O1 (k:=O1 (k:=P1 (k:=Wq (Z1 (k:=Qc (k:=Qv (k:=Wq ?_)))))))))
    refine Zt (k:=Va (Vb (Vi (Vb ?_))))
    exact zb98ret8
   ·
    obtain ⟨⟨n, j⟩, rfl⟩ : ∃ w, y = some w := by cases y with | none => simp at h38 | some w => exact ⟨w, rfl⟩
    obtain ⟨hn, hij, hjl⟩ := hyl n j rfl
    dsimp only [Option.getD_some] at hst ⊢
    refine J0 (k:=J0 (k:=J0 (k:=J0 (k:=P0 (k:=Wq (Zi (t:=fun h43 => ?_) (f:=fun h43 => ?_)))))))
    ·
     refine Qc (k:=Qv (k:=Wq (Zt (k:=Va (Vb (Vi (Vb ?_)))))))
     exact zb98ret8
    ·
     refine Zk (k:=Ya (Za (k:=Za (k:=?_))))
     have hjl2 : j < d.length := by omega
     rw [if_neg (by omega)] at hst
     refine Zr (k:=Qv (k:=?_))
     refine wo_pv (pv_indexm (m := j) Tryz.underlying9 rfl rfl rfl (by omega)) rfl ?_
     refine Vv (k:=Wq (Zi (t:=fun h47 => ?_) (f:=fun h47 => ?_)))
     ·
      rw [if_pos ((e59 _).1 h47)] at hst
      refine Za (k:=Qc (k:=Qv (k:=Qv (k:=Qv (k:=Gi 5 (t:=fun h53 => ?_) (f:=fun h53 => ?_))))))
      ·
       refine O1 (k:=O1 (k:=O1 (k:=O1 (k:=P1 (k:=Vv (k:=O1 (k:=O1 (k:=O1 (k:=O1 (k:=P1 (k:=Wq ?_)))))))))))
       refine Z1 (k:=Qc (k:=Qv (k:=Wq (Zt (k:=Va (Va (Vb (Vi (Vb ?_)))))))))
       exact zb98ret11
      ·
       refine J0 (k:=J0 (k:=J0 (k:=J0 (k:=P0 (k:=Vv (k:=Gi 11 (t:=fun h59 => ?_) (f:=fun h59 => ?_)))))))
       ·
        refine O1 (k:=O1 (k:=O1 (k:=O1 (k:=P1 (k:=Wq (Z1 (k:=Qc (k:=Qv (k:=Wq ?_)))))))))
        refine Zt (k:=Va (Va (Vb (Vi (Vb ?_)))))
        exact zb98ret11
       ·
        refine J0 (k:=J0 (k:=I0 (k:=?_)))
        refine r_callF (delta_Check_sp out (by omega)) rfl rfl rfl ?_
        refine J0 (k:=P0 (k:=Wq (Zi (t:=fun h64 => ?_) (f:=fun h64 => ?_))))
        ·
         refine Qc (k:=Qv (k:=Wq (Zt (k:=Va (Va (Vb (Vi (Vb ?_))))))))
         exact zb98ret11
        ·
         refine Zk (k:=Ya (Qc (k:=Qv (k:=Vv (k:=Wq (Zt (k:=Va (Vb (Vi ?_)))))))))
         refine Vb ?_
         refine fin_ret () (vs := [_, _]) (Cs := []) rfl (.tmp rfl (.tmp rfl .nil)) ?_ trivial ent_nil
         try dsimp only
         rw [if_neg (by omega), hst, if_pos (by omega)]; rfl
     ·
      rw [if_neg (fun h => h47 ((e59 _).2 h))] at hst
      obtain ⟨w, hw⟩ : ∃ w, w = cmdB src d n j := ⟨_, rfl⟩
      have hC := delta_command_sp src d n j hs (by omega) hn (by omega)
      have hwl : ∀ s b, w = some (s, b) → j < b ∧ b ≤ d.length := fun s b e => by rw [hw] at e; have := cmdB_le e; omega
      rw [← hw] at hC hst
      refine Zk (k:=Ya (Qc (k:=Qv (k:=Qv (k:=?_)))))
      refine r_callF hC rfl rfl rfl ?_
      refine Vv (k:=?_)
      refine wo_pv (pv_extract (v := vS (w.getD ([], 0)).1) rfl rfl) rfl ?_
      refine wo_pv (pv_extract (v := vI ((w.getD ([], 0)).2 : Nat)) rfl rfl) rfl ?_
      refine wo_pv (pv_extract (v := vB w.isSome) rfl rfl) rfl ?_
      refine Qv (k:=Vv (k:=Wq (Za (k:=Qc (k:=Qv (k:=Vv (k:=Gi 2 (t:=fun h77 => ?_) (f:=fun h77 => ?_))))))))
      ·
       obtain rfl : w = none := by cases w with | none => rfl | some y => simp at h77
       refine O1 (k:=O1 (k:=O1 (k:=O1 (k:=O1 (k:=O1 (k:=O1 (k:=P1 (k:=Wq (Z1 (k:=Qc (k:=?_)))))))))))
       refine Qv (k:=Wq (Zt (k:=Va (Vb (Vi (Vb ?_))))))
       exact zb98ret15
      ·
       obtain ⟨⟨t, b⟩, rfl⟩ : ∃ v, w = some v := by cases w with | none => simp at h77 | some v => exact ⟨v, rfl⟩
       obtain ⟨hjb, hbl⟩ := hwl t b rfl
       dsimp only [Option.getD_some] at hst ⊢
       refine J0 (k:=J0 (k:=J0 (k:=J0 (k:=J0 (k:=J0 (k:=?_))))))
       refine J0 (k:=P0 (k:=Wq (Zi (t:=fun h85 => ?_) (f:=fun h85 => ?_))))
       ·
        refine Qc (k:=Qv (k:=Wq (Zt (k:=Va (Vb (Vi (Vb ?_)))))))
        exact zb98ret15
       ·
        refine Zk (k:=Ya ?_)
        rw [if_neg (by omega)] at hst
        refine Zr (k:=Qv (k:=?_))
        refine wo_pv (pv_cat rfl rfl (by omega)) rfl ?_
        refine Qv (k:=Vv (k:=Wn (Yb ?_)))
        refine to_inv ⟨(b, out ++ t), by dsimp only; omega, by dsimp only; rw [List.length_append]; omega, hst⟩ (by dsimp only; omega) ⟨rfl, rfl, rfl, rfl, rfl, trivial⟩ ent_nil
theorem cmdB_58 {src d : Bs} {n i : Nat} (h : i < d.length) (hc : d.getD i 0 = 58) : cmdB src d n i = if n = 0 then none else if n ≤ d.length - (i + 1) then some ((d.drop (i + 1)).take n, i + 1 + n) else none := by
 unfold cmdB
 by_cases e : n = 0
 · rw [if_pos (.inl e), if_pos e]
 · rw [if_neg (by omega), if_neg e, if_pos hc]
theorem cmdB_64 {src d : Bs} {n i : Nat} (h : i < d.length) (hc : d.getD i 0 = 64) : cmdB src d n i = if n = 0 then none else match rdN d (i + 1) with
    | none => none
    | some (f, j) => if j < d.length ∧ d.getD j 0 = 44 ∧ f ≤ src.length ∧ n ≤ src.length - f then some ((src.drop f).take n, j + 1) else none := by
 unfold cmdB
 by_cases e : n = 0
 · rw [if_pos (.inl e), if_pos e]
 · rw [if_neg (by omega), if_neg e, if_neg (by rw [hc]; decide), if_pos hc]
   all_goals (cases rdN d (i + 1) <;> rfl)
end
end Go.Proofs.YtibccdcemcgkeaaGreat
