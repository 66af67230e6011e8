/- Texts of this proof, put together: PDel, SDig, SDel. -/
import Derived.Test.YtibccdcemcgkeaaGreatQ09
set_option linter.unusedVariables false
set_option linter.unusedSimpArgs false
namespace Go.Proofs.YtibccdcemcgkeaaGreat
/-! The check of a text. -/
def sumB : Bs → Nat → Nat
 | [], _ => 0
 | c :: r, i => c.toNat * 256 ^ (3 - i % 4) + sumB r (i + 1)
def chkB (s : Bs) : Nat := sumB s 0 % 1073741824
theorem chkB_lt (s : Bs) : chkB s ≤ 1073741824 := by unfold chkB; omega
theorem sumB_snoc (s : Bs) : ∀ (c : UInt8) (i : Nat), sumB (s ++ [c]) i = sumB s i + c.toNat * 256 ^ (3 - (i + s.length) % 4) := by
 induction s with
 | nil => intro c i; simp [sumB]
 | cons a r ih =>
   intro c i
   have := ih c (i + 1)
   simp only [List.cons_append, sumB, this, List.length_cons, Nat.add_assoc, Nat.add_comm 1]
theorem sumB_take (s : Bs) (j : Nat) : sumB (s.take (j + 1)) 0 = sumB (s.take j) 0 + (s.getD j 0).toNat * 256 ^ (3 - j % 4) := by
 by_cases h : j < s.length
 · rw [List.take_succ_eq_append_getElem h, sumB_snoc, List.length_take]
   rw [show min j s.length = j by omega]
   simp [h]
 · rw [List.take_of_length_le (by omega), List.take_of_length_le (by omega)]
   simp [Nat.le_of_not_lt h]
theorem w_ofNat (n : Nat) : (UInt32.ofNat n).toNat = n % 4294967296 := by rw [UInt32.toNat_ofNat']
theorem w_add (a b : Nat) : UInt32.ofNat a + UInt32.ofNat b = UInt32.ofNat (a + b) := by
 apply UInt32.toNat_inj.1
 rw [UInt32.toNat_add, w_ofNat, w_ofNat, w_ofNat]; omega
theorem w_byte (c : UInt8) {k : Nat} (h : k < 4) : c.toUInt32 <<< UInt32.ofNat (8 * k) = UInt32.ofNat (c.toNat * 256 ^ k) := by
 apply UInt32.toNat_inj.1
 have h1 : (UInt32.ofNat (8 * k)).toNat % 32 = 8 * k := by rw [w_ofNat]; omega
 rw [UInt32.toNat_shiftLeft, h1, UInt8.toNat_toUInt32, w_ofNat, Nat.shiftLeft_eq, show (256 : Nat) = 2 ^ 8 from rfl, ← Nat.pow_mul]
theorem w_mask (n : Nat) : ((UInt32.ofNat n &&& 1073741823).toNat : Int) = ((n % 1073741824 : Nat) : Int) := by
 rw [UInt32.toNat_and, w_ofNat, show (1073741823 : UInt32).toNat = 2 ^ 30 - 1 from rfl, Nat.and_two_pow_sub_one_eq_mod]
 congr 1
 omega
def wordB (s : Bs) (i : Nat) : Nat → Nat
 | 0 => 0
 | k + 1 => wordB s i k * 256 + (s.getD (i + k) 0).toNat
theorem wordB_lt (s : Bs) (i k : Nat) : wordB s i k < 256 ^ k := by
 induction k with
 | zero => simp [wordB]
 | succ k ih =>
   have := (s.getD (i + k) 0).toNat_lt
   rw [wordB, Nat.pow_succ]; omega
theorem wordB_sum (s : Bs) (i : Nat) (h : i % 4 = 0) : sumB (s.take (i + 4)) 0 = sumB (s.take i) 0 + wordB s i 4 := by
 have e0 := sumB_take s i
 have e1 : sumB (s.take (i + 2)) 0 = sumB (s.take (i + 1)) 0 + (s.getD (i + 1) 0).toNat * 256 ^ (3 - (i + 1) % 4) := sumB_take s (i + 1)
 have e2 : sumB (s.take (i + 3)) 0 = sumB (s.take (i + 2)) 0 + (s.getD (i + 2) 0).toNat * 256 ^ (3 - (i + 2) % 4) := sumB_take s (i + 2)
 have e3 : sumB (s.take (i + 4)) 0 = sumB (s.take (i + 3)) 0 + (s.getD (i + 3) 0).toNat * 256 ^ (3 - (i + 3) % 4) := sumB_take s (i + 3)
 rw [show (3 - i % 4) = 3 by omega] at e0
 rw [show (3 - (i + 1) % 4) = 2 by omega] at e1
 rw [show (3 - (i + 2) % 4) = 1 by omega] at e2
 rw [show (3 - (i + 3) % 4) = 0 by omega] at e3
 simp only [wordB, Nat.add_zero]
 omega
theorem w_or8 {n : Nat} (h : n < 16777216) (c : UInt8) : (UInt32.ofNat n <<< UInt32.ofNat 8) ||| c.toUInt32 = UInt32.ofNat (n * 256 + c.toNat) := by
 apply UInt32.toNat_inj.1
 have hc := c.toNat_lt
 rw [UInt32.toNat_or, UInt32.toNat_shiftLeft, w_ofNat, w_ofNat, w_ofNat, UInt8.toNat_toUInt32, show 8 % 4294967296 % 32 = 8 from rfl, Nat.shiftLeft_eq]
 rw [show n % 4294967296 * 2 ^ 8 % 2 ^ 32 = 2 ^ 8 * n by omega, ← Nat.two_pow_add_eq_or_of_lt (by omega)]
 omega
theorem w_shl8 {n : Nat} (h : n < 16777216) : (UInt32.ofNat n <<< UInt32.ofNat 8) = UInt32.ofNat (n * 256) := by
 have := w_or8 h 0
 rw [show (0 : UInt8).toUInt32 = 0 from rfl] at this
 rw [show (0 : UInt8).toNat = 0 from rfl, Nat.add_zero] at this
 rw [← this]; simp
/-! A command; a delta. -/
def cmdB (src d : Bs) (n i : Nat) : Option (Bs × Nat) :=
 if n = 0 ∨ d.length ≤ i then none
 else if d.getD i 0 = 58 then if n ≤ d.length - (i + 1) then some ((d.drop (i + 1)).take n, i + 1 + n) else none
 else if d.getD i 0 = 64 then match rdN d (i + 1) with
  | none => none
  | some (f, j) => if j < d.length ∧ d.getD j 0 = 44 ∧ f ≤ src.length ∧ n ≤ src.length - f then some ((src.drop f).take n, j + 1) else none
 else none
theorem cmdB_le {src d : Bs} {n i j : Nat} {s : Bs} (h : cmdB src d n i = some (s, j)) : i < j ∧ j ≤ d.length ∧ s.length = n ∧ 0 < n := by
 unfold cmdB at h
 split at h
 · cases h
 · rename_i h1
   split at h
   · split at h
     · cases h; simp; omega
     · cases h
   · split at h
     · split at h
       · cases h
       · rename_i f j' e
         have := rdN_le e
         split at h
         · cases h; simp; omega
         · cases h
     · cases h
def goB (src d : Bs) (size : Nat) : Nat → Nat → Bs → Option Bs
 | 0, _, _ => none
 | f + 1, i, out => match rdN d i with
   | none => none
   | some (n, j) => if d.length ≤ j then none
     else if d.getD j 0 = 59 then if j + 1 = d.length ∧ out.length = size ∧ n = chkB out then some out else none
     else match cmdB src d n j with
      | none => none
      | some (s, b) => if (size : Int) - out.length < s.length then none else goB src d size f b (out ++ s)
theorem goB_more {src d : Bs} {size : Nat} : ∀ (f g i : Nat) (out : Bs), d.length < i + f → d.length < i + g → goB src d size f i out = goB src d size g i out := by
 intro f
 induction f with
 | zero =>
   intro g i out h _
   cases g with
   | zero => rfl
   | succ g =>
     simp only [goB]
     rw [rdN_end (by omega)]
 | succ f ih =>
   intro g i out h1 h2
   cases g with
   | zero =>
     simp only [goB]
     rw [rdN_end (by omega)]
   | succ g =>
     simp only [goB]
     cases e : rdN d i with
     | none => rfl
     | some x =>
       obtain ⟨n, j⟩ := x
       dsimp only
       have hj := rdN_le e
       split
       · rfl
       · split
         · rfl
         · cases e2 : cmdB src d n j with
           | none => rfl
           | some y =>
             obtain ⟨s, b⟩ := y
             dsimp only
             have hb := cmdB_le e2
             split
             · rfl
             · exact ih g b (out ++ s) (by omega) (by omega)
/-- A delta put to a text. -/
def applyB (src d : Bs) : Option Bs := match rdN d 0 with
 | none => none
 | some (size, j) => if d.length ≤ j ∨ d.getD j 0 ≠ 10 ∨ 300 < size then none else goB src d size (d.length + 1) (j + 1) []
theorem goB_step {src d : Bs} {size i : Nat} {out : Bs} (h : i ≤ d.length) : goB src d size (d.length + 1) i out = match rdN d i with
    | none => none
    | some (n, j) => if d.length ≤ j then none
      else if d.getD j 0 = 59 then if j + 1 = d.length ∧ out.length = size ∧ n = chkB out then some out else none
      else match cmdB src d n j with
       | none => none
       | some (s, b) => if (size : Int) - out.length < s.length then none else goB src d size (d.length + 1) b (out ++ s) := by
 conv => lhs; rw [goB]
 cases e : rdN d i with
 | none => rfl
 | some x =>
   obtain ⟨n, j⟩ := x
   dsimp only
   have hj := rdN_le e
   split
   · rfl
   · split
     · rfl
     · cases e2 : cmdB src d n j with
       | none => rfl
       | some y =>
         obtain ⟨s, b⟩ := y
         dsimp only
         have hb := cmdB_le e2
         split
         · rfl
         · exact goB_more _ _ b (out ++ s) (by omega) (by omega)
theorem goB_len {src d : Bs} {size : Nat} : ∀ (f i : Nat) (out t : Bs), goB src d size f i out = some t → t.length = size := by
 intro f
 induction f with
 | zero => intro i out t h; cases h
 | succ f ih =>
   intro i out t h
   simp only [goB] at h
   split at h
   · cases h
   · split at h
     · cases h
     · split at h
       · split at h
         · rename_i h1; cases h; exact h1.2.1
         · cases h
       · split at h
         · cases h
         · split at h
           · cases h
           · exact ih _ _ _ h
theorem applyB_len {src d t : Bs} (h : applyB src d = some t) : t.length ≤ 300 := by
 unfold applyB at h
 split at h
 · cases h
 · split at h
   · cases h
   · rename_i h1
     have := goB_len _ _ _ _ h
     omega
section
set_option maxRecDepth 100000
theorem dg_slice (k : Nat) : (digL.drop (k % 64)).take (k % 64 + 1 - k % 64) = [dg k] := by
 have h : k % 64 < digL.length := by rw [digL_len]; omega
 rw [show k % 64 + 1 - k % 64 = 1 by omega, List.drop_eq_getElem_cons h, List.take_succ_cons, List.take_zero, dg]
 simp [h]
theorem c48 (c : UInt8) : ((c.toNat : Int) = 48) ↔ c = 48 := ⟨fun h => UInt8.toNat_inj.1 (by show c.toNat = 48; omega), fun h => by rw [h]; rfl⟩
def pre64 (m : Nat) : Bs := if m = 0 then [] else putN m
theorem pre64_pos {m : Nat} (h : 0 < m) : pre64 m = pre64 (m / 64) ++ [dg m] := by
 unfold pre64
 rw [if_neg (by omega), putN]
 split
 · rw [if_pos (by omega)]; rfl
 · rw [if_neg (by omega)]
theorem putN_split (n : Nat) : putN n = pre64 (n / 64) ++ [dg n] := by
 by_cases h : 0 < n
 · rw [← pre64_pos h, pre64, if_neg (by omega)]
 · have : n = 0 := by omega
   subst this; rw [putN]; rfl
theorem fdiv64 (n : Nat) : Int.fdiv (n : Int) (2 ^ min 6 IntKind.i64.bits) = ((n / 64 : Nat) : Int) := by
 have e : min 6 IntKind.i64.bits = 6 := by decide
 rw [e, Int.fdiv_eq_ediv_of_nonneg _ (by decide)]
 show (n : Int) / 64 = _
 omega
theorem and63 (n : Nat) : bits .and .i64 (n : Int) 63 = ((n % 64 : Nat) : Int) := by rw [i64_and63]; omega
theorem shl6 (n : Nat) (h : n ≤ 1073741824) : IntKind.i64.wrap ((n : Int) * 2 ^ min 6 IntKind.i64.bits) = ((n * 64 : Nat) : Int) := by
 have e : min 6 IntKind.i64.bits = 6 := by decide
 rw [e, show ((2 : Int) ^ 6) = 64 from rfl, i64_in' (by omega)]; omega
set_option maxHeartbeats 1000000 in
theorem digit_Put_sp (n : Nat) (h : n ≤ 1073741824) : SpF Tryz.prog 142 [vI n] (vS (putN n)) := by
 refine Sp.body (n := 28) Tryz.call142 Tryz.func142 rfl rfl rfl ?_
 refine Qc (k:=Vv (k:=Wq (Za (k:=Qc (k:=Vv (k:=?_))))))
 refine r_callF (digit_may_sp n) rfl rfl rfl ?_
 refine Vv (k:=Wq (Zi (t:=fun h6 => ?_) (f:=fun h6 => ?_)))
 ·
  exfalso; exact h6 ⟨by omega, by omega⟩
  --done
 ·
  refine Zk (k:=Ya (Qc (k:=Vv (k:=?_))))
  refine wo_pv (pv_and rfl rfl) rfl ?_
  rw [and63]
  refine Vv (k:=?_)
  refine wo_pv (pv_and rfl rfl) rfl ?_
  rw [and63]
  refine Vv (k:=?_)
  refine wo_pv (pv_slice_inm (m := n % 64) (o := n % 64 + 1) Tryz.underlying9 rfl rfl rfl rfl (by exact Int.natCast_succ _) (by omega) (by show n % 64 + 1 ≤ 64; omega)) rfl ?_
  change wo _ _ _ _ _ ((12, vS ((digL.drop (n % 64)).take (n % 64 + 1 - n % 64))) :: _) _ _
  rw [dg_slice]
  refine Vv (k:=Wq (Za (k:=Qc (k:=Vv (k:=?_)))))
  refine wo_pv (pv_shr (m := 6) rfl rfl) rfl ?_
  rw [fdiv64]
  refine Vv (k:=Wq (Zb (k:=?_)))
  refine p_loop (fun (i : { p : Nat × Bs // pre64 p.1 ++ p.2 = putN n ∧ p.1 ≤ n }) => [(0, vI i.1.1), (3, vS i.1.2)]) (fun (i : { p : Nat × Bs // pre64 p.1 ++ p.2 = putN n ∧ p.1 ≤ n }) => []) (fun (i : { p : Nat × Bs // pre64 p.1 ++ p.2 = putN n ∧ p.1 ≤ n }) => i.1.1) rfl (⟨(n / 64, [dg n]), (putN_split n).symm, by dsimp only; omega⟩) ?_ ?_ (fun i => ?_)
  · exact ⟨rfl, rfl, trivial⟩
  ·
   exact ent_pick
  obtain ⟨⟨m, out⟩, hi, hm⟩ := i
  have hlen := (putN_len h).2
  rw [← hi, List.length_append] at hlen
  dsimp only at hi hm hlen ⊢
  try dsimp only
  refine Za (k:=Qc (k:=Qv (k:=Wq (Zi (t:=fun h16 => ?_) (f:=fun h16 => ?_)))))
  ·
   refine Zk (k:=Ya (Za (k:=Zb (k:=Zr (k:=Vv (k:=?_))))))
   refine wo_pv (pv_and rfl rfl) rfl ?_
   rw [and63]
   refine Vv (k:=?_)
   refine wo_pv (pv_and rfl rfl) rfl ?_
   rw [and63]
   refine Vv (k:=?_)
   refine wo_pv (pv_slice_inm (m := m % 64) (o := m % 64 + 1) Tryz.underlying9 rfl rfl rfl rfl (by exact Int.natCast_succ _) (by omega) (by show m % 64 + 1 ≤ 64; omega)) rfl ?_
   change wo _ _ _ _ _ ((24, vS ((digL.drop (m % 64)).take (m % 64 + 1 - m % 64))) :: _) _ _
   rw [dg_slice]
   refine Qv (k:=Vv (k:=Wn (Yb (Ya (Zr (k:=Vv (k:=?_)))))))
   refine wo_pv (pv_shr (m := 6) rfl rfl) rfl ?_
   rw [fdiv64]
   refine Vv (k:=Wn ?_)
   refine to_inv ⟨(m / 64, dg m :: out), ?_, ?_⟩ ?_ ⟨rfl, rfl, trivial⟩ ent_nil
   · rw [← hi, pre64_pos (m := m) (by omega)]; simp
   · dsimp only; omega
   · dsimp only; omega
  ·
   refine Ze (k:=Xa (Xi (Xb (Ya (Qc (k:=Qv (k:=Wq (Zt (k:=?_)))))))))
   have hm0 : m = 0 := by omega
   subst hm0
   refine fin_ret () (vs := [_]) rfl (.tmp rfl .nil) ?_ trivial ent_nil
   rw [← hi]; rfl
/-- What reading answers. -/
def rdV (x : Option (Nat × Nat)) : Value := .tuple #[vI ((x.getD (0, 0)).1 : Nat), vI ((x.getD (0, 0)).2 : Nat), vB x.isSome]
theorem u8_back (c : UInt8) : ((c.toNat : Int).toNat).toUInt8 = c := by simp
theorem zb148ret2 {G : Prop} (h : G := by
    refine fin_ret () (vs := [_, _, _]) (Cs := []) rfl (.tmp rfl (.tmp rfl (.tmp rfl .nil))) ?_ trivial ent_nil
    rw [rdN_end (by omega)]; rfl) : G := h
theorem zb148join11 {G : Prop} (h : G := by
    first
    | exact to_inv ⟨(n, j), hj1, hj2, hr.symm⟩ trivial ⟨rfl, rfl, rfl, rfl, trivial⟩ ent_nil
    | (have hjl : j = s.length := by omega
       rw [List.drop_eq_nil_of_le (by omega)] at hr
       exact to_inv ⟨(n, j), hj1, hj2, hr.symm⟩ trivial ⟨rfl, rfl, rfl, rfl, trivial⟩ ent_nil)) : G := h
theorem zb148ret10 {G : Prop} (h : G := by
    refine fin_ret () (vs := [_, _, _]) (Cs := []) rfl (.tmp rfl (.tmp rfl (.tmp rfl .nil))) ?_ trivial ent_nil
    have : rdN s k = none := by
     rw [rdN, ← hr, if_pos]
     · rfl
     · first
       | (left; omega)
       | (right; exact ⟨by omega, decide_eq_true ((c48 _).1 (by assumption))⟩)
    rw [this]; rfl) : G := h
theorem zb148next0 {G : Prop} (h : G := by
    refine to_inv ⟨(n * 64 + d, j + 1), by dsimp only; omega, by dsimp only; omega, by dsimp only; omega, ?_⟩ (by dsimp only; omega) ⟨rfl, rfl, rfl, rfl, trivial⟩ ent_nil
    dsimp only
    rw [← hr, if_neg, show j + 1 - k = j - k + 1 by omega]
    rintro (h1 | ⟨h1, h2⟩)
    · omega
    · have h3 := of_decide_eq_true h2
      first
      | omega
      | exact absurd ((c48 _).2 h3) (by assumption)) : G := h
set_option maxHeartbeats 1000000 in
theorem digit_Read_sp (s : Bs) (k : Nat) (hs : s.length ≤ 140737488355328) (hk : k ≤ 140737488355328) : SpF Tryz.prog 148 [vS s, vI k] (rdV (rdN s k)) := by
 refine Sp.body (n := 51) Tryz.call148 Tryz.func148 rfl rfl rfl ?_
 refine Qc (k:=Qv (k:=Vv (k:=Wq (Za (k:=Qc (k:=Qv (k:=Vv (k:=?_))))))))
 refine Gi 2 (t:=fun h10 => ?_) (f:=fun h10 => ?_)
 ·
  refine O1 (k:=O1 (k:=O1 (k:=O1 (k:=P1 (k:=Wq (Z1 (k:=Qc (k:=Qv (k:=Vv (k:=?_))))))))))
  refine Wq (Zt (k:=Va ?_))
  exact zb148ret2
 ·
  refine J0 (k:=J0 (k:=J0 (k:=J0 (k:=P0 (k:=Wq (Zi (t:=fun h15 => ?_) (f:=fun h15 => ?_)))))))
  ·
   refine Qc (k:=Qv (k:=Vv (k:=Wq (Zt (k:=Va ?_)))))
   exact zb148ret2
  ·
   refine Zk (k:=Ya ?_)
   refine p_cut (fun (i : { p : Nat × Nat // k ≤ p.2 ∧ p.2 ≤ s.length ∧ (rdF (decide (s.getD k 0 = 48)) (s.drop k) 0 0 = if p.2 - k = 0 then none else some (p.1, p.2 - k)) }) => [(0, vS s), (1, vI k), (4, vI i.1.1), (5, vI i.1.2)]) (fun (i : { p : Nat × Nat // k ≤ p.2 ∧ p.2 ≤ s.length ∧ (rdF (decide (s.getD k 0 = 48)) (s.drop k) 0 0 = if p.2 - k = 0 then none else some (p.1, p.2 - k)) }) => []) rfl (fun i => ?_) ?_
   ·
    obtain ⟨⟨n, j⟩, hj1, hj2, hr⟩ := i
    dsimp only at hj1 hj2 hr ⊢
    try dsimp only
    refine Za (k:=Qc (k:=Qv (k:=Vv (k:=Wq (Zi (t:=fun h48 => ?_) (f:=fun h48 => ?_))))))
    ·
     refine Qc (k:=Qv (k:=Vv (k:=Wq (Zt (k:=Va ?_)))))
     refine fin_ret () (vs := [_, _, _]) (Cs := []) rfl (.tmp rfl (.tmp rfl (.tmp rfl .nil))) ?_ trivial ent_nil
     rw [rdN, hr, if_pos (by omega)]; rfl
    ·
     refine Zk (k:=Ya (Qc (k:=Qv (k:=Qv (k:=Vv (k:=Wq (Zt (k:=?_))))))))
     refine fin_ret () (vs := [_, _, _]) (Cs := []) rfl (.tmp rfl (.tmp rfl (.tmp rfl .nil))) ?_ trivial ent_nil
     rw [rdN, hr, if_neg (by omega)]
     show _ = rdV (some (n, k + (j - k)))
     rw [show k + (j - k) = j by omega]; rfl
   ·
    refine Qc (k:=Qv (k:=Wq (Zb (k:=?_))))
    refine p_loop (fun (i : { p : Nat × Nat // k ≤ p.2 ∧ p.2 ≤ s.length ∧ p.1 ≤ 1073741824 ∧ rdF (decide (s.getD k 0 = 48)) (s.drop p.2) p.1 (p.2 - k) = rdF (decide (s.getD k 0 = 48)) (s.drop k) 0 0 }) => [(0, vS s), (1, vI k), (4, vI i.1.1), (5, vI i.1.2)]) (fun (i : { p : Nat × Nat // k ≤ p.2 ∧ p.2 ≤ s.length ∧ p.1 ≤ 1073741824 ∧ rdF (decide (s.getD k 0 = 48)) (s.drop p.2) p.1 (p.2 - k) = rdF (decide (s.getD k 0 = 48)) (s.drop k) 0 0 }) => []) (fun (i : { p : Nat × Nat // k ≤ p.2 ∧ p.2 ≤ s.length ∧ p.1 ≤ 1073741824 ∧ rdF (decide (s.getD k 0 = 48)) (s.drop p.2) p.1 (p.2 - k) = rdF (decide (s.getD k 0 = 48)) (s.drop k) 0 0 }) => s.length - i.1.2) rfl (⟨(0, k), Nat.le_refl _, by dsimp only; omega, Nat.zero_le _, by dsimp only; rw [Nat.sub_self]⟩) ?_ ?_ (fun i => ?_)
    · exact ⟨rfl, rfl, rfl, rfl, trivial⟩
    ·
     exact ent_pick
    obtain ⟨⟨n, j⟩, hj1, hj2, hn, hr⟩ := i
    dsimp only at hj1 hj2 hn hr ⊢
    try dsimp only
    refine Za (k:=Qc (k:=Qv (k:=Qv (k:=Wq (Zi (t:=fun h20 => ?_) (f:=fun h20 => ?_))))))
    ·
     refine Zk (k:=Ya (Za (k:=Zb (k:=Za (k:=?_)))))
     have hjl : j < s.length := by omega
     obtain ⟨c, hc⟩ : ∃ c, c = s.getD j 0 := ⟨_, rfl⟩
     have hd : s.drop j = c :: s.drop (j + 1) := by rw [List.drop_eq_getElem_cons hjl, hc]; simp [hjl]
     rw [hd] at hr
     simp only [rdF] at hr
     refine Zr (k:=Qv (k:=Vv (k:=?_)))
     rw [← hc]
     refine r_callF (IndexByte_sp digL (c.toNat : Int)) rfl rfl rfl ?_
     rw [u8_back, index_dv]
     refine Vv (k:=Wq (Za (k:=Qc (k:=Qv (k:=Wq (Zi (t:=fun h28 => ?_) (f:=fun h28 => ?_)))))))
     ·
      have hdn : dv c = none := by
       cases e : dv c with
       | none => rfl
       | some d => rw [e] at h28; exact absurd h28 (Int.not_lt.2 (Int.natCast_nonneg d))
      rw [hdn] at hr
      dsimp only at hr
      refine Ze (k:=Xa (Xo (k:=Xa (Xi (Xb ?_)))))
      exact zb148join11
     ·
      obtain ⟨d, hdd⟩ : ∃ d, dv c = some d := by
       cases e : dv c with
       | none => rw [e] at h28; exact absurd (by decide) h28
       | some d => exact ⟨d, rfl⟩
      have hd64 := dv_lt hdd
      rw [hdd] at hr h28 ⊢
      dsimp only at hr ⊢
      refine Zk (k:=Ya (Qc (k:=Vv (k:=?_))))
      refine wo_pv (pv_shl (m := 6) rfl rfl) rfl ?_
      rw [shl6 n hn]
      refine Vv (k:=?_)
      refine wo_pv (pv_or rfl rfl) rfl ?_
      rw [i64_orj 6 (by omega) (by omega) (by omega)]
      refine Vv (k:=Wq (Qc (k:=Qv (k:=Vv (k:=Gi 2 (t:=fun h35 => ?_) (f:=fun h35 => ?_))))))
      ·
       refine O1 (k:=O1 (k:=O1 (k:=O1 (k:=Ou (k:=Ou (k:=Ou (k:=Ou (k:=O1 (k:=P1 (k:=Wq (Z1 (k:=?_))))))))))))
       refine Qc (k:=Qv (k:=Vv (k:=Wq (Zt (k:=Vb (Va (Vi (Vb (Vi ?_)))))))))
       exact zb148ret10
      ·
       refine J0 (k:=J0 (k:=J0 (k:=J0 (k:=Gi 6 (t:=fun h39 => ?_) (f:=fun h39 => ?_)))))
       ·
        refine J1 (k:=J1 (k:=I1 (k:=?_)))
        refine wo_pv (pv_indexm (m := k) Tryz.underlying9 rfl rfl rfl (by omega)) rfl ?_
        refine J1 (k:=I0 (k:=P1 (k:=P0 (k:=Wq (Zi (t:=fun h45 => ?_) (f:=fun h45 => ?_))))))
        ·
         refine Qc (k:=Qv (k:=Vv (k:=Wq (Zt (k:=Vb (Va (Vi (Vb (Vi ?_)))))))))
         exact zb148ret10
        ·
         refine Zk (k:=Yb (Ya (Zr (k:=Qv (k:=Vv (k:=Wn ?_))))))
         exact zb148next0
       ·
        refine O0 (k:=O0 (k:=O0 (k:=O0 (k:=I0 (k:=P0 (k:=P0 (k:=Wq (Z0 (k:=Zk (k:=Yb (Ya ?_)))))))))))
        refine Zr (k:=Qv (k:=Vv (k:=Wn ?_)))
        exact zb148next0
    ·
     refine Ze (k:=Xa (Xi (Xb ?_)))
     exact zb148join11
/-! The document's own. -/
def dvI (c : UInt8) : Int := match dv c with | none => -1 | some d => (d : Int)
theorem ref1_digit_sp (c : UInt8) : SpF Tryz.prog 206 [vU c.toNat] (vI (dvI c)) := by
 refine Sp.body (n := 13) Tryz.call206 Tryz.func206 rfl rfl rfl ?_
 refine Qc (k:=Vv (k:=Wq (Za (k:=Qc (k:=Vv (k:=Wq (Zb (k:=?_))))))))
 refine p_loop (fun (i : { j : Nat // j ≤ 64 ∧ ∀ i, i < j → digL.getD i 0 ≠ c }) => [(0, vU c.toNat), (4, vI i.1)]) (fun (i : { j : Nat // j ≤ 64 ∧ ∀ i, i < j → digL.getD i 0 ≠ c }) => []) (fun (i : { j : Nat // j ≤ 64 ∧ ∀ i, i < j → digL.getD i 0 ≠ c }) => 64 - i.1) rfl (⟨0, Nat.zero_le _, fun i h => by omega⟩) ?_ ?_ (fun i => ?_)
 · exact ⟨rfl, rfl, trivial⟩
 ·
  exact ent_pick
 obtain ⟨j, hj, hno⟩ := i
 dsimp only
 try dsimp only
 refine Qc (k:=Vv (k:=Wq (Za (k:=Zi (t:=fun h5 => ?_) (f:=fun h5 => ?_)))))
 ·
  refine Zk (k:=Ya (Za (k:=Zb (k:=Qc (k:=Qv (k:=Wq (Qc (k:=Vv (k:=?_)))))))))
  refine wo_pv (pv_indexm (l := digL) (m := j) Tryz.underlying9 rfl rfl rfl (by rw [digL_len]; omega)) rfl ?_
  refine Qv (k:=Wq (Zi (t:=fun h10 => ?_) (f:=fun h10 => ?_)))
  ·
   refine Qc (k:=Qv (k:=Wq (Zt (k:=Vb (Va (Vi (Vb (Va ?_))))))))
   refine fin_ret () (vs := [_]) (Cs := []) rfl (.tmp rfl .nil) ?_ trivial ent_nil
   have he : digL.getD j 0 = c := UInt8.toNat_inj.1 (by omega)
   have hdv : dv c = some j := by
    rw [dv, List.findIdx?_eq_some_iff_getElem]
    refine ⟨by rw [digL_len]; omega, ?_, fun i hi => ?_⟩
    · have : digL[j]'(by rw [digL_len]; omega) = digL.getD j 0 := by simp [show j < digL.length by rw [digL_len]; omega]
      rw [this, he]; simp
    · have : digL[i]'(by rw [digL_len]; omega) = digL.getD i 0 := by simp [show i < digL.length by rw [digL_len]; omega]
      rw [this]; simpa using hno i hi
   rw [dvI, hdv]; rfl
  ·
   refine Zk (k:=Yb (Ya (Zr (k:=Qv (k:=Wn ?_)))))
   refine to_inv ⟨j + 1, by omega, fun i hi => ?_⟩ (by dsimp only; omega) ⟨rfl, rfl, trivial⟩ ent_nil
   by_cases e : i = j
   · rw [e]; exact fun h => h10 (by rw [h])
   · exact hno i (by omega)
 ·
  refine Ze (k:=Xa (Xi (Xb (Ya (Qc (k:=Vv (k:=Wq (Zt (k:=?_)))))))))
  refine fin_ret () (vs := [_]) (Cs := []) rfl (.tmp rfl .nil) ?_ trivial ent_nil
  have hj64 : j = 64 := by omega
  have hdv : dv c = none := by
   rw [dv, List.findIdx?_eq_none_iff]
   intro x hx
   obtain ⟨i, hi, rfl⟩ := List.getElem_of_mem hx
   have : digL[i] = digL.getD i 0 := by simp [hi]
   rw [this]
   rw [digL_len] at hi
   simpa using hno i (by omega)
  rw [dvI, hdv]; rfl
/-- The place behind a number; -1: there is none. -/
def rdJ (x : Option (Nat × Nat)) : Int := match x with | none => -1 | some y => (y.2 : Int)
def rdW (x : Option (Nat × Nat)) : Value := .tuple #[vI ((x.getD (0, 0)).1 : Nat), vI (rdJ x)]
theorem zb189ret8 {G : Prop} (h : G := by
    refine fin_ret () (vs := [_, _]) (Cs := []) rfl (.tmp rfl (.tmp rfl .nil)) ?_ trivial ent_nil
    have : rdN s k = none := by
     rw [rdN, hG, if_pos]
     · rfl
     · first
       | (left; omega)
       | (right; exact ⟨by omega, decide_eq_true ((c48 _).1 (by assumption))⟩)
    rw [this]; rfl) : G := h
theorem zb189ret9 {G : Prop} (h : G := by
    refine fin_ret () (vs := [_, _]) (Cs := []) rfl (.tmp rfl (.tmp rfl .nil)) ?_ trivial ent_nil
    have : rdN s k = some (n, j) := by
     rw [rdN, hG, if_neg]
     · show some (n, k + (j - k)) = _
       rw [show k + (j - k) = j by omega]
     · rintro (h1 | ⟨h1, h2⟩)
       · omega
       · have h3 := of_decide_eq_true h2
         first
         | omega
         | exact absurd ((c48 _).2 h3) (by assumption)
    rw [this]; rfl) : G := h
theorem zb189join7 {G : Prop} (h : G := by
    first
    | (have hdn : dv c = none := by
         cases e : dv c with
         | none => rfl
         | some d => rw [dvI, e] at h19; dsimp only at h19; omega
       rw [hd (by omega)] at hr
       simp only [rdG, hdn] at hr
       exact to_inv ⟨(n, j), hj1, hj2, hr.symm⟩ trivial ⟨rfl, rfl, rfl, rfl, trivial⟩ ent_nil)
    | (rw [List.drop_eq_nil_of_le (by omega)] at hr
       exact to_inv ⟨(n, j), hj1, hj2, hr.symm⟩ trivial ⟨rfl, rfl, rfl, rfl, trivial⟩ ent_nil)) : G := h
set_option maxHeartbeats 1000000 in
theorem ref1_Read_sp (s : Bs) (k : Nat) (hs : s.length ≤ 140737488355328) (hk : k ≤ 140737488355328) : SpF Tryz.prog 189 [vS s, vI k] (rdW (rdN s k)) := by
 have hG := rdG_rdF (decide (s.getD k 0 = 48)) (s.drop k) 0 0 (.inl (Nat.zero_le _))
 refine Sp.body (n := 48) Tryz.call189 Tryz.func189 rfl rfl rfl ?_
 refine Qc (k:=Qv (k:=Wq (Qc (k:=Qv (k:=Vv (k:=Wq ?_))))))
 refine p_cut (fun (i : { p : Nat × Nat // k ≤ p.2 ∧ (p.2 ≤ s.length ∨ p.2 = k) ∧ rdG (s.drop k) 0 0 = some (p.1, p.2 - k) }) => [(0, vS s), (1, vI k), (6, vI i.1.1), (7, vI i.1.2)]) (fun (i : { p : Nat × Nat // k ≤ p.2 ∧ (p.2 ≤ s.length ∨ p.2 = k) ∧ rdG (s.drop k) 0 0 = some (p.1, p.2 - k) }) => []) rfl (fun i => ?_) ?_
 ·
  obtain ⟨⟨n, j⟩, hj1, hj2, hr⟩ := i
  dsimp only at hj1 hj2 hr ⊢
  rw [hr, Option.bind_some] at hG
  dsimp only at hG
  try dsimp only
  refine Za (k:=Qc (k:=Qv (k:=Qv (k:=Gi 3 (t:=fun h34 => ?_) (f:=fun h34 => ?_)))))
  ·
   refine O1 (k:=O1 (k:=O1 (k:=O1 (k:=O1 (k:=Ou (k:=Ou (k:=Ou (k:=Ou (k:=O1 (k:=P1 (k:=Wq ?_)))))))))))
   refine Z1 (k:=Qc (k:=Qv (k:=Wq (Zt (k:=Va ?_)))))
   exact zb189ret8
  ·
   refine J0 (k:=J0 (k:=J0 (k:=J0 (k:=J0 (k:=Gi 8 (t:=fun h39 => ?_) (f:=fun h39 => ?_))))))
   ·
    refine J1 (k:=J1 (k:=I1 (k:=?_)))
    refine wo_pv (pv_indexm (m := k) Tryz.underlying9 rfl rfl rfl (by omega)) rfl ?_
    refine J1 (k:=I0 (k:=P1 (k:=P0 (k:=Wq (Zi (t:=fun h45 => ?_) (f:=fun h45 => ?_))))))
    ·
     refine Qc (k:=Qv (k:=Wq (Zt (k:=Va ?_))))
     exact zb189ret8
    ·
     refine Zk (k:=Ya (Qc (k:=Qv (k:=Qv (k:=Wq (Zt (k:=?_)))))))
     exact zb189ret9
   ·
    refine O0 (k:=O0 (k:=O0 (k:=O0 (k:=I0 (k:=P0 (k:=P0 (k:=Wq (Z0 (k:=Zk (k:=Ya (Za (k:=?_))))))))))))
    refine Zr (k:=Qv (k:=Qv (k:=Wq (Zt (k:=?_)))))
    exact zb189ret9
 ·
  refine Zb (k:=?_)
  refine p_loop (fun (i : { p : Nat × Nat // k ≤ p.2 ∧ (p.2 ≤ s.length ∨ p.2 = k) ∧ p.1 ≤ 1073741824 ∧ rdG (s.drop p.2) p.1 (p.2 - k) = rdG (s.drop k) 0 0 }) => [(0, vS s), (1, vI k), (6, vI i.1.1), (7, vI i.1.2)]) (fun (i : { p : Nat × Nat // k ≤ p.2 ∧ (p.2 ≤ s.length ∨ p.2 = k) ∧ p.1 ≤ 1073741824 ∧ rdG (s.drop p.2) p.1 (p.2 - k) = rdG (s.drop k) 0 0 }) => []) (fun (i : { p : Nat × Nat // k ≤ p.2 ∧ (p.2 ≤ s.length ∨ p.2 = k) ∧ p.1 ≤ 1073741824 ∧ rdG (s.drop p.2) p.1 (p.2 - k) = rdG (s.drop k) 0 0 }) => s.length - i.1.2) rfl (⟨(0, k), Nat.le_refl _, .inr rfl, Nat.zero_le _, by dsimp only; rw [Nat.sub_self]⟩) ?_ ?_ (fun i => ?_)
  · exact ⟨rfl, rfl, rfl, rfl, trivial⟩
  ·
   exact ent_pick
  obtain ⟨⟨n, j⟩, hj1, hj2, hn, hr⟩ := i
  dsimp only at hj1 hj2 hn hr ⊢
  obtain ⟨c, hc⟩ : ∃ c, c = s.getD j 0 := ⟨_, rfl⟩
  have hd : j < s.length → s.drop j = c :: s.drop (j + 1) := fun hjl => by rw [List.drop_eq_getElem_cons hjl, hc]; simp [hjl]
  try dsimp only
  refine Za (k:=Qc (k:=Qv (k:=Qv (k:=Vv (k:=Gi 4 (t:=fun h13 => ?_) (f:=fun h13 => ?_))))))
  ·
   refine J1 (k:=J1 (k:=J1 (k:=?_)))
   rw [← hc]
   refine I1 (k:=?_)
   refine r_callF (ref1_digit_sp c) rfl rfl rfl ?_
   refine J1 (k:=P1 (k:=Wq (Zi (t:=fun h19 => ?_) (f:=fun h19 => ?_))))
   ·
    refine Zk (k:=Ya (Zb (k:=Za (k:=?_))))
    have hjl : j < s.length := by omega
    rw [hd hjl] at hr
    simp only [rdG] at hr
    obtain ⟨d, hdd⟩ : ∃ d, dv c = some d := by
     cases e : dv c with
     | none => rw [dvI, e] at h19; exact absurd h19 (by decide)
     | some d => exact ⟨d, rfl⟩
    have hd64 := dv_lt hdd
    have hdi : dvI c = (d : Int) := by rw [dvI, hdd]
    rw [hdd] at hr
    dsimp only at hr
    refine Zr (k:=Qv (k:=Qv (k:=Vv (k:=?_))))
    rw [← hc]
    refine r_callF (ref1_digit_sp c) rfl rfl rfl ?_
    rw [hdi]
    refine Vv (k:=?_)
    rw [show (n : Int) * 64 + (d : Int) = ((n * 64 + d : Nat) : Int) by omega]
    refine Vv (k:=Wq (Qc (k:=Qv (k:=Vv (k:=Wq (Qc (k:=Qv (k:=?_))))))))
    refine Wq (Zi (t:=fun h30 => ?_) (f:=fun h30 => ?_))
    ·
     refine Qc (k:=Qv (k:=Wq (Zt (k:=Vb (Vi (Vb (Vi ?_)))))))
     refine fin_ret () (vs := [_, _]) (Cs := []) rfl (.tmp rfl (.tmp rfl .nil)) ?_ trivial ent_nil
     rw [if_pos (by omega)] at hr
     have : rdN s k = none := by rw [rdN, hG, ← hr]; rfl
     rw [this]; rfl
    ·
     refine Zk (k:=Yb ?_)
     refine to_inv ⟨(n * 64 + d, j + 1), by dsimp only; omega, by dsimp only; omega, by dsimp only; omega, ?_⟩ (by dsimp only; omega) ⟨rfl, rfl, rfl, rfl, trivial⟩ ent_nil
     dsimp only
     rw [← hr, if_neg (by omega), show j + 1 - k = j - k + 1 by omega]
   ·
    refine Ze (k:=Xa (Xi (Xb ?_)))
    exact zb189join7
  ·
   refine O0 (k:=O0 (k:=O0 (k:=O0 (k:=O0 (k:=P0 (k:=Wq (Z0 (k:=Ze (k:=Xa (Xi (Xb ?_)))))))))))
   exact zb189join7
end
section
set_option maxRecDepth 100000
set_option maxHeartbeats 1000000 in
theorem delta_Check_sp (s : Bs) (hs : s.length ≤ 140737488355328) : SpF Tryz.prog 145 [vS s] (vI (chkB s)) := by
 refine Sp.body (n := 25) Tryz.call145 Tryz.func145 rfl rfl rfl ?_
 refine Qc (k:=Vv (k:=Wq (Qc (k:=Vv (k:=Wq (Za (k:=Qc (k:=Vv (k:=?_)))))))))
 refine Qv (k:=Wq (Zb (k:=?_)))
 refine p_loop (fun (i : { j : Nat // j ≤ s.length }) => [(0, vS s), (3, vW (UInt32.ofNat (sumB (s.take i.1) 0))), (6, vI s.length), (7, vI i.1)]) (fun (i : { j : Nat // j ≤ s.length }) => []) (fun (i : { j : Nat // j ≤ s.length }) => s.length - i.1) rfl (⟨0, Nat.zero_le _⟩) ?_ ?_ (fun i => ?_)
 · exact ⟨rfl, rfl, rfl, rfl, trivial⟩
 ·
  exact ent_pick
 obtain ⟨j, hj⟩ := i
 dsimp only
 try dsimp only
 refine Qc (k:=Vv (k:=Wq (Za (k:=Zi (t:=fun h8 => ?_) (f:=fun h8 => ?_)))))
 ·
  refine Zk (k:=Ya (Za (k:=Zb (k:=Qc (k:=Qv (k:=Wq ?_))))))
  have hjl : j < s.length := by omega
  have hst := sumB_take s j
  refine Zr (k:=Qv (k:=Qv (k:=?_)))
  refine wo_pv (pv_convW rfl Tryz.underlying5 Tryz.underlying102) rfl ?_
  refine Qv (k:=?_)
  rw [show (j : Int) % 4 = ((j % 4 : Nat) : Int) by omega]
  refine Qv (k:=?_)
  rw [show (8 : Int) * (3 - ((j % 4 : Nat) : Int)) = ((8 * (3 - j % 4) : Nat) : Int) by omega]
  refine wo_pv (pv_shlW (m := 8 * (3 - j % 4)) rfl rfl rfl (by omega)) rfl ?_
  rw [w_byte _ (by omega)]
  refine wo_pv (pv_addW rfl rfl) rfl ?_
  rw [w_add, ← hst]
  refine Vv (k:=Wn (Yb (Ya (Zr (k:=Qv (k:=Wn ?_))))))
  exact to_inv ⟨j + 1, by omega⟩ (by dsimp only; omega) ⟨rfl, rfl, rfl, rfl, trivial⟩ ent_nil
 ·
  refine Ze (k:=Xa (Xi (Xb (Ya (Qc (k:=Vv (k:=?_)))))))
  refine wo_pv (pv_andW (b := 1073741823) rfl rfl) rfl ?_
  refine wo_pv (pv_conv_in (i := ((UInt32.ofNat (sumB (s.take j) 0) &&& 1073741823).toNat : Int)) rfl Tryz.underlying102 Tryz.underlying3 (i64_in' (by rw [w_mask]; omega))) rfl ?_
  refine Vv (k:=Wq (Zt (k:=?_)))
  refine fin_ret () (vs := [_]) (Cs := []) rfl (.tmp rfl .nil) ?_ trivial ent_nil
  rw [w_mask, List.take_of_length_le (by omega)]; rfl
theorem zb190next1 {G : Prop} (h : G := by
    first
    | exact to_inv ⟨k + 1, by omega⟩ (by dsimp only; omega) ⟨rfl, rfl, rfl, rfl, rfl, trivial⟩ ent_nil
    | (have hz : s.getD (j + k) 0 = 0 := by
         have : s.length ≤ j + k := by omega
         simp [this]
       refine to_inv ⟨k + 1, by omega⟩ (by dsimp only; omega) ⟨rfl, rfl, rfl, ?_, rfl, trivial⟩ ent_nil
       dsimp only
       rw [wordB, hz, show (0 : UInt8).toNat = 0 from rfl, Nat.add_zero, ← w_shl8 hw24]; rfl)) : G := h
set_option maxHeartbeats 1000000 in
theorem ref1_Check_sp (s : Bs) (hs : s.length ≤ 140737488355328) : SpF Tryz.prog 190 [vS s] (vI (chkB s)) := by
 refine Sp.body (n := 39) Tryz.call190 Tryz.func190 rfl rfl rfl ?_
 refine Qc (k:=Vv (k:=Wq (Qc (k:=Vv (k:=Wq (Za (k:=Qc (k:=Vv (k:=?_)))))))))
 refine Wq (Zb (k:=?_))
 refine p_loop (fun (i : { j : Nat // j % 4 = 0 ∧ j ≤ s.length + 3 }) => [(0, vS s), (3, vW (UInt32.ofNat (sumB (s.take i.1) 0))), (4, vI i.1)]) (fun (i : { j : Nat // j % 4 = 0 ∧ j ≤ s.length + 3 }) => []) (fun (i : { j : Nat // j % 4 = 0 ∧ j ≤ s.length + 3 }) => s.length + 4 - i.1) rfl (⟨0, rfl, Nat.zero_le _⟩) ?_ ?_ (fun i => ?_)
 · exact ⟨rfl, rfl, rfl, trivial⟩
 ·
  exact ent_pick
 obtain ⟨j, hj4, hj⟩ := i
 dsimp only
 try dsimp only
 refine Za (k:=Qc (k:=Qv (k:=Qv (k:=Wq (Zi (t:=fun h10 => ?_) (f:=fun h10 => ?_))))))
 ·
  refine Zk (k:=Ya (Za (k:=Zb (k:=Za (k:=?_)))))
  have hjl : j < s.length := by omega
  have hst := wordB_sum s j hj4
  refine Zr (k:=Vv (k:=Wq (Za (k:=Qc (k:=Vv (k:=Wq (Zb (k:=?_))))))))
  refine p_loop (fun (i : { k : Nat // k ≤ 4 }) => [(0, vS s), (3, vW (UInt32.ofNat (sumB (s.take j) 0))), (4, vI j), (5, vW (UInt32.ofNat (wordB s j i.1))), (13, vI i.1)]) (fun (i : { k : Nat // k ≤ 4 }) => []) (fun (i : { k : Nat // k ≤ 4 }) => 4 - i.1) rfl (⟨0, Nat.zero_le _⟩) ?_ ?_ (fun i => ?_)
  · exact ⟨rfl, rfl, rfl, rfl, rfl, trivial⟩
  ·
   exact ent_pick
  obtain ⟨k, hk⟩ := i
  have hwl := wordB_lt s j k
  dsimp only
  try dsimp only
  refine Qc (k:=Vv (k:=Wq (Za (k:=Zi (t:=fun h14 => ?_) (f:=fun h14 => ?_)))))
  ·
   refine Zk (k:=Ya (Za (k:=Zb (k:=Qc (k:=Qv (k:=Wq (Za (k:=?_))))))))
   have hk4 : k < 4 := by omega
   have hw24 : wordB s j k < 16777216 := Nat.lt_of_lt_of_le hwl (by
    have := Nat.pow_le_pow_right (n := 256) (by decide) (show k ≤ 3 by omega)
    omega)
   refine Zr (k:=Vv (k:=?_))
   refine wo_pv (pv_shlW (m := 8) rfl rfl rfl (by omega)) rfl ?_
   refine Vv (k:=Wq (Qc (k:=Qv (k:=Qv (k:=Qv (k:=Wq (Zi (t:=fun h23 => ?_) (f:=fun h23 => ?_))))))))
   ·
    refine Zr (k:=Qv (k:=Qv (k:=Vv (k:=?_))))
    refine wo_pv (pv_indexm (m := j + k) Tryz.underlying9 rfl rfl rfl (by omega)) rfl ?_
    refine wo_pv (pv_convW rfl Tryz.underlying5 Tryz.underlying102) rfl ?_
    refine wo_pv (pv_orW rfl rfl) rfl ?_
    rw [w_or8 hw24]
    refine Vv (k:=Wn (Yb (Ya (Zr (k:=Qv (k:=Wn ?_))))))
    exact zb190next1
   ·
    refine Zk (k:=Yb (Ya (Zr (k:=Qv (k:=Wn ?_)))))
    exact zb190next1
  ·
   refine Ze (k:=Xa (Xi (Xb (Ya ?_))))
   have hk4 : k = 4 := by omega
   subst hk4
   refine Zr (k:=Qv (k:=?_))
   refine wo_pv (pv_addW rfl rfl) rfl ?_
   rw [w_add, ← hst]
   refine Vv (k:=Wn (Yb (Ya (Zr (k:=Qv (k:=Vv (k:=Wn ?_)))))))
   exact to_inv ⟨j + 4, by omega, by omega⟩ (by dsimp only; omega) ⟨rfl, rfl, rfl, trivial⟩ ent_nil
 ·
  refine Ze (k:=Xa (Xi (Xb (Ya (Qc (k:=Vv (k:=?_)))))))
  refine wo_pv (pv_andW (b := 1073741823) rfl rfl) rfl ?_
  refine wo_pv (pv_conv_in (i := ((UInt32.ofNat (sumB (s.take j) 0) &&& 1073741823).toNat : Int)) rfl Tryz.underlying102 Tryz.underlying3 (i64_in' (by rw [w_mask]; omega))) rfl ?_
  refine Vv (k:=Wq (Zt (k:=?_)))
  refine fin_ret () (vs := [_]) (Cs := []) rfl (.tmp rfl .nil) ?_ trivial ent_nil
  rw [w_mask, List.take_of_length_le (by omega)]; rfl
/-- The size that a delta says. -/
def sizeB (d : Bs) : Option (Nat × Nat) := match rdN d 0 with
 | none => none
 | some (n, j) => if d.length ≤ j ∨ d.getD j 0 ≠ 10 then none else some (n, j)
def sizeV (x : Option (Nat × Nat)) : Value := .tuple #[vI ((x.getD (0, 0)).1 : Nat), vB x.isSome]
theorem u8_eq (c : UInt8) (k : Nat) (hk : k < 256) : ((c.toNat : Int) = (k : Int)) ↔ c = UInt8.ofNat k := by
 constructor
 · intro h
   apply UInt8.toNat_inj.1
   rw [UInt8.toNat_ofNat']; omega
 · intro h
   rw [h, UInt8.toNat_ofNat']; omega
theorem zb146ret3 {G : Prop} (h : G := by
    refine fin_ret () (vs := [_, _]) (Cs := []) rfl (.tmp rfl (.tmp rfl .nil)) ?_ trivial ent_nil
    first
    | rfl
    | (try dsimp only
       rw [if_pos]
       · rfl
       · first
         | (left; omega)
         | (right; intro h; exact absurd ((e10 _).2 h) (by assumption)))) : G := h
theorem delta_Size_sp (d : Bs) (hd : d.length ≤ 1099511627776) : SpF Tryz.prog 146 [vS d] (sizeV (sizeB d)) := by
 have hR := digit_Read_sp d 0 (by omega) (Nat.zero_le _)
 have e10 : ∀ c : UInt8, ((c.toNat : Int) = 10) ↔ c = 10 := fun c => u8_eq c 10 (by decide)
 unfold sizeB
 obtain ⟨x, hx⟩ : ∃ x, x = rdN d 0 := ⟨_, rfl⟩
 rw [← hx] at hR ⊢
 have hj : ∀ n j, x = some (n, j) → j ≤ d.length := fun n j e => by rw [hx] at e; have := rdN_le e; omega
 refine Sp.body (n := 28) Tryz.call146 Tryz.func146 rfl rfl rfl ?_
 refine Qc (k:=Qv (k:=Wq (Qc (k:=Vv (k:=?_)))))
 refine r_callF hR rfl rfl rfl ?_
 refine Vv (k:=?_)
 refine wo_pv (pv_extract (v := vI ((x.getD (0, 0)).1 : Nat)) rfl rfl) rfl ?_
 refine wo_pv (pv_extract (v := vI ((x.getD (0, 0)).2 : Nat)) rfl rfl) rfl ?_
 refine wo_pv (pv_extract (v := vB x.isSome) rfl rfl) rfl ?_
 refine Qv (k:=Vv (k:=Wq (Za (k:=Qc (k:=Qv (k:=Vv (k:=Gi 2 (t:=fun h15 => ?_) (f:=fun h15 => ?_))))))))
 ·
  obtain rfl : x = none := by cases x with | none => rfl | some y => simp at h15
  refine O1 (k:=O1 (k:=O1 (k:=O1 (k:=P1 (k:=Vv (k:=O1 (k:=O1 (k:=O1 (k:=O1 (k:=P1 (k:=Wq ?_)))))))))))
  refine Z1 (k:=Qc (k:=Qv (k:=Wq (Zt (k:=Va ?_)))))
  exact zb146ret3
 ·
  obtain ⟨⟨n, j⟩, rfl⟩ : ∃ y, x = some y := by cases x with | none => simp at h15 | some y => exact ⟨y, rfl⟩
  have hjl := hj n j rfl
  dsimp only [Option.getD_some]
  refine J0 (k:=J0 (k:=J0 (k:=J0 (k:=P0 (k:=Vv (k:=Gi 8 (t:=fun h21 => ?_) (f:=fun h21 => ?_)))))))
  ·
   refine O1 (k:=O1 (k:=O1 (k:=O1 (k:=P1 (k:=Wq (Z1 (k:=Qc (k:=Qv (k:=Wq ?_)))))))))
   refine Zt (k:=Va ?_)
   exact zb146ret3
  ·
   refine J0 (k:=J0 (k:=I0 (k:=?_)))
   refine wo_pv (pv_indexm (m := j) Tryz.underlying9 rfl rfl rfl (by omega)) rfl ?_
   refine J0 (k:=P0 (k:=Wq (Zi (t:=fun h26 => ?_) (f:=fun h26 => ?_))))
   ·
    refine Qc (k:=Qv (k:=Wq (Zt (k:=Va ?_))))
    exact zb146ret3
   ·
    refine Zk (k:=Ya (Qc (k:=Qv (k:=Vv (k:=Wq (Zt (k:=?_)))))))
    refine fin_ret () (vs := [_, _]) (Cs := []) rfl (.tmp rfl (.tmp rfl .nil)) ?_ trivial ent_nil
    try dsimp only
    rw [if_neg]
    · rfl
    · rintro (h | h)
      · omega
      · exact h ((e10 _).1 (by first | assumption | (apply Classical.not_not.1; assumption)))
def cmdV (x : Option (Bs × Nat)) : Value := .tuple #[vS (x.getD ([], 0)).1, vI ((x.getD ([], 0)).2 : Nat), vB x.isSome]
theorem zb149ret2 {G : Prop} (h : G := by
    refine fin_ret () (vs := [_, _, _]) (Cs := []) rfl (.tmp rfl (.tmp rfl (.tmp rfl .nil))) ?_ trivial ent_nil
    rw [if_pos (by omega)]; rfl) : G := h
theorem zb149ret12 {G : Prop} (h : G := by
    refine fin_ret () (vs := [_, _, _]) (Cs := []) rfl (.tmp rfl (.tmp rfl (.tmp rfl .nil))) ?_ trivial ent_nil
    first
    | rfl
    | (rw [if_neg (by omega)]; rfl)
    | (try dsimp only
       rw [if_neg]
       · rfl
       · rintro ⟨r1, r2, r3, r4⟩
         first
         | omega
         | exact absurd ((e44 _).2 r2) (by assumption))
    | (rw [if_neg (show ¬ (n = 0 ∨ d.length ≤ i) by omega), if_neg (fun h => absurd ((e58 _).2 h) (by assumption)), if_neg (fun h => absurd ((e64 _).2 h) (by assumption))]; rfl)) : G := h
set_option maxHeartbeats 1000000 in
theorem delta_command_sp (src d : Bs) (n i : Nat) (hs : src.length ≤ 1099511627776) (hd : d.length ≤ 1099511627776) (hn : n ≤ 1073741824) (hi : i ≤ 1099511627776) : SpF Tryz.prog 149 [vS src, vS d, vI n, vI i] (cmdV (cmdB src d n i)) := by
 have hR := digit_Read_sp d (i + 1) (by omega) (by omega)
 have e58 : ∀ c : UInt8, ((c.toNat : Int) = 58) ↔ c = 58 := fun c => u8_eq c 58 (by decide)
 have e64 : ∀ c : UInt8, ((c.toNat : Int) = 64) ↔ c = 64 := fun c => u8_eq c 64 (by decide)
 have e44 : ∀ c : UInt8, ((c.toNat : Int) = 44) ↔ c = 44 := fun c => u8_eq c 44 (by decide)
 obtain ⟨x, hx⟩ : ∃ x, x = rdN d (i + 1) := ⟨_, rfl⟩
 have hj : ∀ n j, x = some (n, j) → n ≤ 1073741824 ∧ j ≤ d.length := fun n j e => by rw [hx] at e; have := rdN_le e; omega
 unfold cmdB
 rw [← hx] at hR ⊢
 refine Sp.body (n := 89) Tryz.call149 Tryz.func149 rfl rfl rfl ?_
 refine Qc (k:=Qv (k:=Vv (k:=Wq (Za (k:=Qc (k:=Qv (k:=Vv (k:=?_))))))))
 refine Gi 2 (t:=fun h16 => ?_) (f:=fun h16 => ?_)
 ·
  refine O1 (k:=O1 (k:=O1 (k:=O1 (k:=P1 (k:=Wq (Z1 (k:=Qc (k:=Qv (k:=Vv (k:=?_))))))))))
  refine Wq (Zt (k:=Va ?_))
  exact zb149ret2
 ·
  refine J0 (k:=J0 (k:=J0 (k:=J0 (k:=P0 (k:=Wq (Zi (t:=fun h21 => ?_) (f:=fun h21 => ?_)))))))
  ·
   refine Qc (k:=Qv (k:=Vv (k:=Wq (Zt (k:=Va ?_)))))
   exact zb149ret2
  ·
   refine Zk (k:=Ya (Za (k:=Qc (k:=Qv (k:=?_)))))
   refine wo_pv (pv_indexm (m := i) Tryz.underlying9 rfl rfl rfl (by omega)) rfl ?_
   refine Wq (Zb (k:=Qc (k:=Qv (k:=Wq (Zi (t:=fun h25 => ?_) (f:=fun h25 => ?_))))))
   ·
    refine Za (k:=?_)
    rw [if_neg (show ¬ (n = 0 ∨ d.length ≤ i) by omega), if_pos ((e58 _).1 (by assumption))]
    refine Zr (k:=Qv (k:=Vv (k:=Wq (Qc (k:=Qv (k:=Qv (k:=Vv (k:=?_))))))))
    refine Vv (k:=Wq (Zi (t:=fun h34 => ?_) (f:=fun h34 => ?_)))
    ·
     refine Qc (k:=Qv (k:=Qv (k:=Vv (k:=?_))))
     refine wo_pv (pv_slice_inm (m := i + 1) (o := i + 1 + n) Tryz.underlying9 rfl rfl rfl (by omega) (by omega) (by omega) (by omega)) rfl ?_
     rw [show i + 1 + n - (i + 1) = n by omega]
     refine Qv (k:=Qv (k:=Qv (k:=Wq (Zt (k:=Vb (Va ?_))))))
     refine fin_ret () (vs := [_, _, _]) (Cs := []) rfl (.tmp rfl (.tmp rfl (.tmp rfl .nil))) ?_ trivial ent_nil
     rw [if_pos (by omega)]
     show Value.tuple #[_, _, _] = Value.tuple #[_, _, _]
     simp only [Option.getD_some]
     rw [show (i : Int) + 1 + n = ((i + 1 + n : Nat) : Int) by omega]; rfl
    ·
     refine Zk (k:=Yb (Ya (Qc (k:=Qv (k:=Vv (k:=Wq (Zt (k:=?_))))))))
     exact zb149ret12
   ·
    refine Qc (k:=Qv (k:=Wq (Zi (t:=fun h44 => ?_) (f:=fun h44 => ?_))))
    ·
     refine Za (k:=?_)
     rw [if_neg (show ¬ (n = 0 ∨ d.length ≤ i) by omega), if_neg (fun h => absurd ((e58 _).2 h) (by assumption)), if_pos ((e64 _).1 (by assumption))]
     refine Zr (k:=Qv (k:=Vv (k:=?_)))
     refine r_callF hR rfl rfl rfl ?_
     refine Vv (k:=?_)
     refine wo_pv (pv_extract (v := vI ((x.getD (0, 0)).1 : Nat)) rfl rfl) rfl ?_
     refine wo_pv (pv_extract (v := vI ((x.getD (0, 0)).2 : Nat)) rfl rfl) rfl ?_
     refine wo_pv (pv_extract (v := vB x.isSome) rfl rfl) rfl ?_
     refine Qv (k:=Vv (k:=Wq (Qc (k:=Qv (k:=Gi 1 (t:=fun h55 => ?_) (f:=fun h55 => ?_))))))
     ·
      obtain ⟨⟨f, j⟩, rfl⟩ : ∃ y, x = some y := by cases x with | none => simp at h55 | some y => exact ⟨y, rfl⟩
      have hjl := hj f j rfl
      dsimp only [Option.getD_some]
      refine J1 (k:=J1 (k:=J1 (k:=J1 (k:=P1 (k:=Vv (k:=Gi 7 (t:=fun h61 => ?_) (f:=fun h61 => ?_)))))))
      ·
       refine J1 (k:=J1 (k:=I1 (k:=?_)))
       refine wo_pv (pv_indexm (m := j) Tryz.underlying9 rfl rfl rfl (by omega)) rfl ?_
       refine J1 (k:=P1 (k:=Vv (k:=Gi 13 (t:=fun h67 => ?_) (f:=fun h67 => ?_))))
       ·
        refine J1 (k:=J1 (k:=J1 (k:=J1 (k:=P1 (k:=Vv (k:=Gi 19 (t:=fun h73 => ?_) (f:=fun h73 => ?_)))))))
        ·
         refine J1 (k:=J1 (k:=J1 (k:=J1 (k:=J1 (k:=J1 (k:=?_))))))
         refine P1 (k:=Wq (Zi (t:=fun h80 => ?_) (f:=fun h80 => ?_)))
         ·
          refine Qc (k:=Qv (k:=Qv (k:=Vv (k:=?_))))
          refine wo_pv (pv_slice_inm (m := f) (o := f + n) Tryz.underlying9 rfl rfl rfl rfl (by omega) (by omega) (by omega)) rfl ?_
          rw [show f + n - f = n by omega]
          refine Qv (k:=Qv (k:=Vv (k:=Wq (Zt (k:=Vb (Va ?_))))))
          refine fin_ret () (vs := [_, _, _]) (Cs := []) rfl (.tmp rfl (.tmp rfl (.tmp rfl .nil))) ?_ trivial ent_nil
          try dsimp only
          rw [if_pos ⟨by omega, (e44 _).1 (by assumption), by omega, by omega⟩]; rfl
         ·
          refine Zk (k:=Yb (Ya (Qc (k:=Qv (k:=Vv (k:=Wq (Zt (k:=?_))))))))
          exact zb149ret12
        ·
         refine O0 (k:=O0 (k:=O0 (k:=O0 (k:=O0 (k:=O0 (k:=P0 (k:=Wq (Z0 (k:=Zk (k:=Yb (Ya ?_)))))))))))
         refine Qc (k:=Qv (k:=Vv (k:=Wq (Zt (k:=?_)))))
         exact zb149ret12
       ·
        refine O0 (k:=O0 (k:=O0 (k:=O0 (k:=P0 (k:=Vv (k:=O0 (k:=O0 (k:=O0 (k:=O0 (k:=O0 (k:=O0 (k:=?_))))))))))))
        refine P0 (k:=Wq (Z0 (k:=Zk (k:=Yb (Ya (Qc (k:=Qv (k:=Vv (k:=Wq ?_)))))))))
        refine Zt (k:=?_)
        exact zb149ret12
      ·
       refine O0 (k:=O0 (k:=O0 (k:=O0 (k:=P0 (k:=Vv (k:=O0 (k:=O0 (k:=O0 (k:=O0 (k:=P0 (k:=Vv (k:=?_))))))))))))
       refine O0 (k:=O0 (k:=O0 (k:=O0 (k:=O0 (k:=O0 (k:=P0 (k:=Wq (Z0 (k:=Zk (k:=Yb (Ya ?_)))))))))))
       refine Qc (k:=Qv (k:=Vv (k:=Wq (Zt (k:=?_)))))
       exact zb149ret12
     ·
      obtain rfl : x = none := by cases x with | none => rfl | some y => simp at h55
      refine O0 (k:=O0 (k:=O0 (k:=O0 (k:=P0 (k:=Vv (k:=O0 (k:=O0 (k:=O0 (k:=O0 (k:=P0 (k:=Vv (k:=?_))))))))))))
      refine O0 (k:=O0 (k:=O0 (k:=O0 (k:=P0 (k:=Vv (k:=O0 (k:=O0 (k:=O0 (k:=O0 (k:=O0 (k:=O0 (k:=?_))))))))))))
      refine P0 (k:=Wq (Z0 (k:=Zk (k:=Yb (Ya (Qc (k:=Qv (k:=Vv (k:=Wq ?_)))))))))
      refine Zt (k:=?_)
      exact zb149ret12
    ·
     refine Zk (k:=Yb (Ya (Qc (k:=Qv (k:=Vv (k:=Wq (Zt (k:=?_))))))))
     exact zb149ret12
end
end Go.Proofs.YtibccdcemcgkeaaGreat
