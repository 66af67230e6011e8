/- Texts of this proof, put together: PCard, PEsc, Digit, Digit2, LibS, SlFn, SStore0, SStore2, SHash. -/
import Derived.Test.YtdnoacgopfcpbaaGreatQ07
set_option linter.unusedVariables false
set_option linter.unusedSimpArgs false
namespace Go.Proofs.YtdnoacgopfcpbaaGreat
section
structure Cd where
 l : UInt8
 args : List Bs
 deriving DecidableEq, Repr
def argsB (l : List Bs) : Bs := l.flatMap (fun a => 32 :: a)
def lineB (c : Cd) : Bs := c.l :: argsB c.args
def cardB (c : Cd) : Bs := lineB c ++ [10]
def bodyB (l : List Cd) : Bs := l.flatMap cardB
def sealB (s : Bs) : Bs := s ++ [90, 32] ++ shaB s ++ [10]
def printB (l : List Cd) : Bs := sealB (bodyB l)
def argOk (a : Bs) : Prop := a ≠ [] ∧ 32 ∉ a ∧ 10 ∉ a
instance (a : Bs) : Decidable (argOk a) := inferInstanceAs (Decidable (_ ∧ _ ∧ _))
def cd0 : Cd := ⟨0, []⟩
structure OkC (l : List Cd) (i : Nat) : Prop where
 lo : 65 ≤ (l.getD i cd0).l.toNat
 hi : (l.getD i cd0).l.toNat ≤ 89
 rise : 0 < i → (l.getD (i - 1) cd0).l.toNat ≤ (l.getD i cd0).l.toNat
 args : ∀ a ∈ (l.getD i cd0).args, argOk a
structure RightC (l : List Cd) : Prop where
 ne : l ≠ []
 ok : ∀ i, i < l.length → OkC l i
instance (l : List Cd) (i : Nat) : Decidable (OkC l i) := decidable_of_iff (65 ≤ (l.getD i cd0).l.toNat ∧ (l.getD i cd0).l.toNat ≤ 89 ∧ (0 < i → (l.getD (i - 1) cd0).l.toNat ≤ (l.getD i cd0).l.toNat) ∧ ∀ a ∈ (l.getD i cd0).args, argOk a) ⟨fun ⟨a, b, c, d⟩ => ⟨a, b, c, d⟩, fun ⟨a, b, c, d⟩ => ⟨a, b, c, d⟩⟩
instance (l : List Cd) : Decidable (RightC l) := decidable_of_iff (l ≠ [] ∧ ∀ i, i < l.length → OkC l i) ⟨fun ⟨a, b⟩ => ⟨a, b⟩, fun ⟨a, b⟩ => ⟨a, b⟩⟩
theorem right_not {l : List Cd} {i : Nat} (h : i < l.length) (hn : ¬ OkC l i) : ¬ RightC l := fun r => hn (r.ok i h)
theorem sealB_len (s : Bs) : (sealB s).length = s.length + 43 := by simp [sealB, shaB_len]
theorem sealB_inj {s t : Bs} (h : sealB s = sealB t) : s = t := by
 have hl : s.length = t.length := by have := congrArg List.length h; rw [sealB_len, sealB_len] at this; omega
 simp only [sealB, List.append_assoc] at h
 exact (List.append_inj h hl).1
theorem mem_getD {α : Type} {l : List α} {d x : α} (h : x ∈ l) : ∃ i, i < l.length ∧ l.getD i d = x := by
 obtain ⟨i, hi, rfl⟩ := List.getElem_of_mem h
 exact ⟨i, hi, by simp [hi]⟩
theorem RightC.lets {l : List Cd} (r : RightC l) : ∀ c ∈ l, 65 ≤ c.l.toNat ∧ c.l.toNat ≤ 89 := by
 intro c hc
 obtain ⟨i, hi, rfl⟩ := mem_getD (d := cd0) hc
 exact ⟨(r.ok i hi).lo, (r.ok i hi).hi⟩
theorem RightC.args {l : List Cd} (r : RightC l) : ∀ c ∈ l, ∀ a ∈ c.args, argOk a := by
 intro c hc
 obtain ⟨i, hi, rfl⟩ := mem_getD (d := cd0) hc
 exact (r.ok i hi).args
theorem RightC.mk' {l : List Cd} (ne : l ≠ []) (lets : ∀ c ∈ l, 65 ≤ c.l.toNat ∧ c.l.toNat ≤ 89) (args : ∀ c ∈ l, ∀ a ∈ c.args, argOk a) (rise : l.Pairwise (fun a b => a.l.toNat ≤ b.l.toNat)) : RightC l := by
 refine ⟨ne, fun i hi => ?_⟩
 have e : ∀ j, j < l.length → l.getD j cd0 ∈ l := fun j hj => by simp [hj]
 refine ⟨(lets _ (e i hi)).1, (lets _ (e i hi)).2, fun h0 => ?_, args _ (e i hi)⟩
 have := List.pairwise_iff_getElem.1 rise (i - 1) i (by omega) hi (by omega)
 simpa [hi, show i - 1 < l.length by omega] using this
theorem RightC.rise {l : List Cd} (r : RightC l) : l.Pairwise (fun a b => a.l.toNat ≤ b.l.toNat) := by
 rw [List.pairwise_iff_getElem]
 have key : ∀ d i (h : i + d < l.length), (l[i]'(by omega)).l.toNat ≤ (l[i + d]).l.toNat := by
  intro d
  induction d with
  | zero => intros; simp
  | succ d ih =>
    intro i h
    have h1 := ih i (by omega)
    have h2 := (r.ok (i + d + 1) (by omega)).rise (by omega)
    simp [show i + d < l.length by omega, show i + d + 1 < l.length by omega] at h2
    exact Nat.le_trans h1 h2
 intro i j hi hj hij
 have := key (j - i) i (by omega)
 simpa [show i + (j - i) = j by omega] using this
/-! Parts of a text between marks. -/
theorem cut_uniq {d : UInt8} : ∀ {x y r r' : Bs}, d ∉ x → d ∉ y → x ++ d :: r = y ++ d :: r' → x = y ∧ r = r' := by
 intro x
 induction x with
 | nil =>
   intro y r r' _ hy h
   cases y with
   | nil => simp at h; exact ⟨rfl, h⟩
   | cons c y => simp at h hy; exact absurd h.1 hy.1
 | cons c x ih =>
   intro y r r' hx hy h
   cases y with
   | nil => simp at h hx; exact absurd h.1.symm hx.1
   | cons c' y =>
     simp only [List.cons_append, List.cons.injEq] at h
     simp only [List.mem_cons, not_or] at hx hy
     obtain ⟨e1, e2⟩ := ih hx.2 hy.2 h.2
     exact ⟨by rw [h.1, e1], e2⟩
theorem argsB_nil : argsB [] = [] := rfl
theorem argsB_cons (a : Bs) (l : List Bs) : argsB (a :: l) = 32 :: (a ++ argsB l) := by simp [argsB]
theorem argsB_app (l m : List Bs) : argsB (l ++ m) = argsB l ++ argsB m := by simp [argsB]
/-- Parts between blanks. -/
def splitB (d : UInt8) : Bs → List Bs
 | [] => [[]]
 | c :: r => if c = d then [] :: splitB d r else match splitB d r with
   | [] => [[c]]
   | w :: ws => (c :: w) :: ws
theorem splitB_ne (d : UInt8) (s : Bs) : splitB d s ≠ [] := by
 cases s with
 | nil => simp [splitB]
 | cons c r =>
   simp only [splitB]
   split
   · simp
   · split <;> simp
theorem splitB_one {d : UInt8} : ∀ {x : Bs}, d ∉ x → splitB d x = [x] := by
 intro x
 induction x with
 | nil => intro _; rfl
 | cons c x ih =>
   intro h
   simp only [List.mem_cons, not_or] at h
   simp only [splitB, if_neg (Ne.symm h.1), ih h.2]
theorem splitB_cut {d : UInt8} : ∀ {x r : Bs}, d ∉ x → splitB d (x ++ d :: r) = x :: splitB d r := by
 intro x
 induction x with
 | nil => intro r _; simp [splitB]
 | cons c x ih =>
   intro r h
   simp only [List.mem_cons, not_or] at h
   simp only [List.cons_append, splitB, if_neg (Ne.symm h.1), ih h.2]
theorem splitB_args {x : Bs} {l : List Bs} (hx : 32 ∉ x) (hl : ∀ a ∈ l, 32 ∉ a) : splitB 32 (x ++ argsB l) = x :: l := by
 induction l generalizing x with
 | nil => rw [argsB_nil, List.append_nil, splitB_one hx]
 | cons a l ih =>
   rw [argsB_cons, splitB_cut hx, ih (hl a (by simp)) (fun b hb => hl b (by simp [hb]))]
theorem splitB_join (s : Bs) : argsB (splitB 32 s) = 32 :: s := by
 induction s with
 | nil => rfl
 | cons c s ih =>
   simp only [splitB]
   split
   · rename_i h
     rw [argsB_cons, ih, h]; rfl
   · split
     · rename_i e; exact absurd e (splitB_ne _ _)
     · rename_i w ws e
       rw [e, argsB_cons] at ih
       rw [argsB_cons]
       simp only [List.cons.injEq, true_and] at ih
       simp [ih]
theorem no32 {c : UInt8} (h : 65 ≤ c.toNat) : (32 : UInt8) ∉ ([c] : Bs) := by
 simp only [List.mem_singleton]; rintro rfl; revert h; decide
theorem no10 {c : UInt8} (h : 65 ≤ c.toNat) : c ≠ 10 := by rintro rfl; revert h; decide
theorem argsB_no10 : ∀ {l : List Bs}, (∀ a ∈ l, argOk a) → (10 : UInt8) ∉ argsB l := by
 intro l
 induction l with
 | nil => simp [argsB]
 | cons a l ih =>
   intro h
   rw [argsB_cons]
   simp only [List.mem_cons, List.mem_append, not_or]
   exact ⟨by decide, (h a (by simp)).2.2, ih fun b hb => h b (by simp [hb])⟩
theorem lineB_no10 {c : Cd} (h : 65 ≤ c.l.toNat) (ha : ∀ a ∈ c.args, argOk a) : (10 : UInt8) ∉ lineB c := by
 simp only [lineB, List.mem_cons, not_or]
 exact ⟨fun e => no10 h e.symm, argsB_no10 ha⟩
theorem lineB_split {c : Cd} (h : 65 ≤ c.l.toNat) (ha : ∀ a ∈ c.args, argOk a) : splitB 32 (lineB c) = [c.l] :: c.args :=
 splitB_args (x := [c.l]) (no32 h) fun a hx => (ha a hx).2.1
theorem lineB_inj {c c' : Cd} (h : 65 ≤ c.l.toNat) (ha : ∀ a ∈ c.args, argOk a) (h' : 65 ≤ c'.l.toNat) (ha' : ∀ a ∈ c'.args, argOk a) (e : lineB c = lineB c') : c = c' := by
 have e1 := lineB_split h ha
 rw [e, lineB_split h' ha'] at e1
 cases c; cases c'
 simp at e1
 simp [e1.1, e1.2]
theorem bodyB_cons (c : Cd) (l : List Cd) : bodyB (c :: l) = lineB c ++ 10 :: bodyB l := by simp [bodyB, cardB]
theorem bodyB_app (l m : List Cd) : bodyB (l ++ m) = bodyB l ++ bodyB m := by simp [bodyB]
theorem bodyB_inj : ∀ {l m : List Cd}, (∀ c ∈ l, 65 ≤ c.l.toNat ∧ ∀ a ∈ c.args, argOk a) → (∀ c ∈ m, 65 ≤ c.l.toNat ∧ ∀ a ∈ c.args, argOk a) → bodyB l = bodyB m → l = m := by
 intro l
 induction l with
 | nil =>
   intro m _ _ e
   cases m with
   | nil => rfl
   | cons c m => rw [bodyB_cons] at e; simp [bodyB] at e
 | cons c l ih =>
   intro m hl hm e
   cases m with
   | nil => rw [bodyB_cons] at e; simp [bodyB] at e
   | cons c' m =>
     rw [bodyB_cons, bodyB_cons] at e
     have h1 := hl c (by simp)
     have h2 := hm c' (by simp)
     obtain ⟨e1, e2⟩ := cut_uniq (lineB_no10 h1.1 h1.2) (lineB_no10 h2.1 h2.2) e
     rw [lineB_inj h1.1 h1.2 h2.1 h2.2 e1, ih (fun x hx => hl x (by simp [hx])) (fun x hx => hm x (by simp [hx])) e2]
/-- A text that some cards print. -/
def ReadsC (s : Bs) (l : List Cd) : Prop := RightC l ∧ printB l = s
theorem RightC.both {l : List Cd} (r : RightC l) : ∀ c ∈ l, 65 ≤ c.l.toNat ∧ ∀ a ∈ c.args, argOk a := fun c hc => ⟨(r.lets c hc).1, r.args c hc⟩
theorem ReadsC.uniq {s : Bs} {l m : List Cd} (h : ReadsC s l) (k : ReadsC s m) : l = m :=
 bodyB_inj h.1.both k.1.both (sealB_inj (h.2.trans k.2.symm))
open Classical in
noncomputable def readC (s : Bs) : Option (List Cd) := if h : ∃ l, ReadsC s l then some h.choose else none
theorem readC_iff {s : Bs} {l : List Cd} : readC s = some l ↔ ReadsC s l := by
 unfold readC
 split
 · rename_i h
   simp only [Option.some.injEq]
   exact ⟨fun e => e ▸ h.choose_spec, fun k => h.choose_spec.uniq k⟩
 · rename_i h
   simp only [reduceCtorEq, false_iff]
   exact fun k => h ⟨l, k⟩
theorem readC_none {s : Bs} : readC s = none ↔ ∀ l, ¬ ReadsC s l := by
 cases e : readC s with
 | none => simp only [true_iff]; intro l h; rw [readC_iff.2 h] at e; cases e
 | some l => simp only [reduceCtorEq, false_iff]; intro h; exact h l (readC_iff.1 e)
/-- The parts of a line, as a card, as they come. -/
def stepW (st : UInt8 × List Bs) (w : Bs) : Option (UInt8 × List Bs) := if 0 < st.1.toNat then some (st.1, st.2 ++ [w]) else if w.length = 1 then some (w.getD 0 0, st.2) else none
def foldW (l : List Bs) : Option (UInt8 × List Bs) := l.foldlM stepW (0, [])
theorem foldW_snoc (l : List Bs) (w : Bs) : foldW (l ++ [w]) = (foldW l).bind fun st => stepW st w := by
 simp [foldW, List.foldlM_append]
theorem foldlM_args (c : UInt8) (hc : 0 < c.toNat) : ∀ (l xs : List Bs), l.foldlM stepW (c, xs) = some (c, xs ++ l) := by
 intro l
 induction l with
 | nil => intro xs; simp
 | cons w l ih =>
   intro xs
   have e : stepW (c, xs) w = some (c, xs ++ [w]) := by simp only [stepW]; rw [if_pos hc]
   simp only [List.foldlM_cons, e]
   show List.foldlM stepW (c, xs ++ [w]) l = _
   rw [ih]; simp
theorem foldW_line {c : Cd} (h : 65 ≤ c.l.toNat) (ha : ∀ a ∈ c.args, argOk a) : foldW (splitB 32 (lineB c)) = some (c.l, c.args) := by
 rw [lineB_split h ha, foldW]
 have e : stepW (0, []) [c.l] = some (c.l, []) := by simp [stepW]
 simp only [List.foldlM_cons, e]
 show List.foldlM stepW (c.l, []) c.args = _
 rw [foldlM_args _ (by omega)]; simp
theorem foldW_len : ∀ (l : List Bs) (st st' : UInt8 × List Bs), l.foldlM stepW st = some st' → (argsB st'.2).length ≤ (argsB st.2).length + (argsB l).length ∧ (0 < st.1.toNat ∨ l = [] ∨ (argsB st'.2).length + 2 ≤ (argsB st.2).length + (argsB l).length) := by
 intro l
 induction l with
 | nil =>
   intro st st' h
   have : st = st' := by simpa using h
   subst this
   exact ⟨by simp [argsB], .inr (.inl rfl)⟩
 | cons w l ih =>
   intro st st' h
   simp only [List.foldlM_cons] at h
   cases e : stepW st w with
   | none => rw [e] at h; cases h
   | some s2 =>
     rw [e] at h
     have h' : List.foldlM stepW s2 l = some st' := h
     obtain ⟨i1, i2⟩ := ih s2 st' h'
     rw [argsB_cons, List.length_cons, List.length_append]
     simp only [stepW] at e
     split at e
     · rename_i hp
       cases e
       rw [argsB_app, argsB_cons, argsB_nil] at i1
       simp at i1
       exact ⟨by omega, .inl hp⟩
     · split at e
       · rename_i hw
         cases e
         dsimp only at i1
         exact ⟨by omega, .inr (.inr (by omega))⟩
       · cases e
theorem foldW_card {line : Bs} {c : UInt8} {xs : List Bs} (h : foldW (splitB 32 line) = some (c, xs)) : (cardB ⟨c, xs⟩).length ≤ line.length + 1 := by
 obtain ⟨_, h2⟩ := foldW_len _ _ _ h
 have hj := congrArg List.length (splitB_join line)
 rw [List.length_cons] at hj
 rcases h2 with h2 | h2 | h2
 · exact absurd h2 (by decide)
 · exact absurd h2 (splitB_ne _ _)
 · rw [hj] at h2
   simp only [argsB_nil, List.length_nil] at h2
   simp only [cardB, lineB, List.length_append, List.length_cons, List.length_nil]
   omega
end
theorem u8eq {c d : UInt8} : c = d ↔ c.toNat = d.toNat := UInt8.toNat_inj.symm
def escC (c : UInt8) : Bs := if c.toNat = 32 then [92, 115] else if c.toNat = 10 then [92, 110] else if c.toNat = 92 then [92, 92] else [c]
def escB (s : Bs) : Bs := s.flatMap escC
def unC (c : UInt8) : Option UInt8 := if c.toNat = 115 then some 32 else if c.toNat = 110 then some 10 else if c.toNat = 92 then some 92 else none
def unescB : Bs → Option Bs
 | [] => some []
 | c :: r => if c.toNat = 92 then (match r with
     | [] => none
     | d :: r' => match unC d with
       | none => none
       | some e => (unescB r').map (e :: ·))
   else if c.toNat = 32 ∨ c.toNat = 10 then none else (unescB r).map (c :: ·)
theorem unescB_eq (c : UInt8) (r : Bs) : unescB (c :: r) = if c.toNat = 92 then (match r with
      | [] => none
      | d :: r' => match unC d with
        | none => none
        | some e => (unescB r').map (e :: ·))
    else if c.toNat = 32 ∨ c.toNat = 10 then none else (unescB r).map (c :: ·) := by
 cases r <;> simp only [unescB]
theorem escB_cons (c : UInt8) (s : Bs) : escB (c :: s) = escC c ++ escB s := by simp [escB]
theorem escB_app (s t : Bs) : escB (s ++ t) = escB s ++ escB t := by simp [escB]
theorem unesc_esc (s : Bs) : unescB (escB s) = some s := by
 induction s with
 | nil => rfl
 | cons c s ih =>
   rw [escB_cons]
   unfold escC
   split
   · rename_i h
     have : c = 32 := u8eq.2 h
     subst this
     show unescB (92 :: 115 :: escB s) = _
     simp [unescB_eq, unC, ih]
   · split
     · rename_i h
       have : c = 10 := u8eq.2 h
       subst this
       show unescB (92 :: 110 :: escB s) = _
       simp [unescB_eq, unC, ih]
     · split
       · rename_i h
         have : c = 92 := u8eq.2 h
         subst this
         show unescB (92 :: 92 :: escB s) = _
         simp [unescB_eq, unC, ih]
       · rename_i h1 h2 h3
         show unescB (c :: escB s) = _
         simp [unescB_eq, h1, h2, h3, ih]
theorem escC_ok (c : UInt8) : (∀ d ∈ escC c, d.toNat ≠ 32 ∧ d.toNat ≠ 10) ∧ 1 ≤ (escC c).length ∧ (escC c).length ≤ 2 := by
 unfold escC
 split
 · exact ⟨by decide, by decide, by decide⟩
 · split
   · exact ⟨by decide, by decide, by decide⟩
   · split
     · exact ⟨by decide, by decide, by decide⟩
     · rename_i h1 h2 h3
       exact ⟨fun d hd => by rw [List.mem_singleton.1 hd]; exact ⟨h1, h2⟩, by simp, by simp⟩
theorem escB_ok (s : Bs) : ∀ d ∈ escB s, d.toNat ≠ 32 ∧ d.toNat ≠ 10 := by
 intro d hd
 obtain ⟨c, _, hc⟩ := List.mem_flatMap.1 hd
 exact (escC_ok c).1 d hc
theorem escB_len (s : Bs) : s.length ≤ (escB s).length ∧ (escB s).length ≤ 2 * s.length := by
 induction s with
 | nil => exact ⟨Nat.le_refl _, Nat.le_refl _⟩
 | cons c s ih =>
   have := escC_ok c
   rw [escB_cons, List.length_append, List.length_cons]; omega
theorem mem32 {a : Bs} (h : ∀ d ∈ a, d.toNat ≠ 32 ∧ d.toNat ≠ 10) : 32 ∉ a ∧ 10 ∉ a := ⟨fun e => (h _ e).1 rfl, fun e => (h _ e).2 rfl⟩
theorem argOk_iff {a : Bs} : argOk a ↔ a.length ≠ 0 ∧ ∀ d ∈ a, d.toNat ≠ 32 ∧ d.toNat ≠ 10 := by
 constructor
 · rintro ⟨h1, h2, h3⟩
   refine ⟨fun e => h1 (List.eq_nil_of_length_eq_zero e), fun d hd => ⟨fun e => h2 ?_, fun e => h3 ?_⟩⟩
   · have : d = 32 := u8eq.2 e
     exact this ▸ hd
   · have : d = 10 := u8eq.2 e
     exact this ▸ hd
 · rintro ⟨h1, h2⟩
   exact ⟨fun e => h1 (by simp [e]), mem32 h2⟩
theorem argOk_esc {s : Bs} (h : s ≠ []) : argOk (escB s) := by
 rw [argOk_iff]
 refine ⟨?_, escB_ok s⟩
 have := (escB_len s).1
 have := List.length_pos_iff.2 h
 omega
theorem drop_cons' {s : Bs} {i : Nat} (h : i < s.length) : s.drop i = s.getD i 0 :: s.drop (i + 1) := by
 rw [List.drop_eq_getElem_cons h]; simp [h]
theorem unescB_end {s : Bs} {i : Nat} (h : s.length ≤ i) : unescB (s.drop i) = some [] := by rw [List.drop_of_length_le h]; rfl
/-- A word: what may be a name. -/
def wordP (s : Bs) : Prop := (∀ c ∈ s, 32 < c.toNat ∧ c.toNat ≤ 126 ∧ c.toNat ≠ 92) ∧ 1 ≤ s.length ∧ s.length ≤ 12
instance (s : Bs) : Decidable (wordP s) := inferInstanceAs (Decidable (_ ∧ _ ∧ _))
theorem wordP_ok {s : Bs} (h : wordP s) : argOk s := argOk_iff.2 ⟨by have := h.2.1; omega, fun d hd => by have := h.1 d hd; omega⟩
theorem isN_ok {s : Bs} (h : s.length = 40) (k : ∀ c ∈ s, c ∈ hexD) : argOk s := argOk_iff.2 ⟨by omega, fun d hd => by
 have := k d hd
 revert this; revert d; intro d _ hm
 have key : ∀ d ∈ hexD, d.toNat ≠ 32 ∧ d.toNat ≠ 10 := by decide
 exact key d hm⟩
/-- A text, cut at a mark. -/
def cutP (d : UInt8) (s : Bs) : Bs × Bs × Bool := match s.findIdx? (· == d) with
 | none => (s, [], false)
 | some i => (s.take i, s.drop (i + 1), true)
theorem cutP_cases (d : UInt8) (s : Bs) : (d ∉ s ∧ cutP d s = (s, [], false)) ∨ ∃ x r, s = x ++ d :: r ∧ d ∉ x ∧ cutP d s = (x, r, true) := by
 unfold cutP
 cases h : s.findIdx? (· == d) with
 | none =>
   rw [List.findIdx?_eq_none_iff] at h
   exact .inl ⟨fun e => by simpa using h d e, rfl⟩
 | some i =>
   obtain ⟨h1, h2, h3⟩ := List.findIdx?_eq_some_iff_getElem.1 h
   refine .inr ⟨s.take i, s.drop (i + 1), ?_, ?_, rfl⟩
   · have : s[i] = d := by simpa using h2
     rw [← this, List.getElem_cons_drop, List.take_append_drop]
   · intro hm
     obtain ⟨j, hj, e⟩ := List.getElem_of_mem hm
     rw [List.length_take] at hj
     rw [List.getElem_take] at e
     have := h3 j (by omega)
     simp [e] at this
section
set_option maxRecDepth 100000
theorem digit_may_sp (n : Int) : SpF Tryz.prog 206 [vI n] (vB (decide (0 ≤ n ∧ n ≤ 1073741824))) := by
 refine Sp.body (n := 9) Tryz.call206 Tryz.func206 rfl rfl rfl ?_
 refine Qc (k:=Vv (k:=Wq (Qc (k:=Qv (k:=Vv (k:=Gi 2 (t:=fun h5 => ?_) (f:=fun h5 => ?_)))))))
 ·
  refine J1 (k:=J1 (k:=P1 (k:=Vv (k:=Wq (Zt (k:=?_))))))
  refine fin_ret () (vs := [_]) rfl (.tmp rfl .nil) ?_ trivial ent_nil
  simp [pack]; omega
 ·
  refine O0 (k:=O0 (k:=P0 (k:=Vv (k:=Wq (Zt (k:=?_))))))
  refine fin_ret () (vs := [_]) rfl (.tmp rfl .nil) ?_ trivial ent_nil
  simp [pack]; omega
theorem wrap_dgt (m : Nat) : IntKind.u8.wrap (48 + (m : Int) % 10) = ((dgt m).toNat : Int) := by
 rw [dgt_toNat, IntWalk.u8_in _ (by omega)]; omega
theorem digit_Dec_sp (n : Nat) (h : n ≤ 1073741824) : SpF Tryz.prog 159 [vI n] (vS (decN n)) := by
 refine Sp.body (n := 28) Tryz.call159 Tryz.func159 rfl rfl rfl ?_
 refine Qc (k:=Vv (k:=Wq (Za (k:=Qc (k:=Vv (k:=?_))))))
 refine r_callF (digit_may_sp n) rfl rfl rfl ?_
 refine Vv (k:=Wq (Zi (t:=fun h6 => ?_) (f:=fun h6 => ?_)))
 ·
  exfalso; exact h6 ⟨by omega, by omega⟩
  --done
 ·
  refine Zk (k:=Ya (Qc (k:=Qv (k:=Vv (k:=?_)))))
  refine wo_pv (pv_conv rfl Tryz.underlying3 Tryz.underlying5) rfl ?_
  refine Zv [_] (cs := [_]) (k:=fun b11 => ?_)
  refine r_b2s (l := [dgt n]) Tryz.underlying56 Tryz.underlying9 Tryz.underlying5 rfl (by simp [vUs, wrap_dgt]) (by simp) rfl ?_
  refine Vv (k:=Wq (Za (k:=Qc (k:=Qv (k:=Vv (k:=Wq (Zb (k:=?_))))))))
  refine p_loop (fun (i : { p : Nat × List UInt8 // preN p.1 ++ p.2 = decN n ∧ p.1 ≤ n }) => [(0, vI i.1.1), (3, vS i.1.2)]) (fun (i : { p : Nat × List UInt8 // preN p.1 ++ p.2 = decN n ∧ p.1 ≤ n }) => []) (fun (i : { p : Nat × List UInt8 // preN p.1 ++ p.2 = decN n ∧ p.1 ≤ n }) => i.1.1) rfl (⟨(n / 10, [dgt n]), (decN_split n).symm, by dsimp only; omega⟩) ?_ ?_ (fun i => ?_)
  · exact ⟨rfl, rfl, trivial⟩
  ·
   exact ent_pick
  obtain ⟨⟨m, out⟩, hi, hm⟩ := i
  have hlen := decN_len n
  rw [← hi, List.length_append] at hlen
  dsimp only at hi hm hlen
  try dsimp only
  refine Za (k:=Qc (k:=Qv (k:=Wq (Zi (t:=fun h16 => ?_) (f:=fun h16 => ?_)))))
  ·
   refine Zk (k:=Ya (Za (k:=Zb (k:=Zr (k:=Qv (k:=Vv (k:=?_)))))))
   refine wo_pv (pv_conv rfl Tryz.underlying3 Tryz.underlying5) rfl ?_
   refine Zv [_] (cs := [_]) (k:=fun b23 => ?_)
   refine r_b2s (l := [dgt m]) Tryz.underlying56 Tryz.underlying9 Tryz.underlying5 rfl (by simp [vUs, wrap_dgt]) (by simp) rfl ?_
   refine Qv (k:=Vv (k:=Wn (Yb (Ya (Zr (k:=Qv (k:=Vv (k:=Wn ?_))))))))
   refine to_inv ⟨(m / 10, dgt m :: out), ?_, ?_⟩ ?_ ⟨rfl, rfl, trivial⟩ ent_nil
   · rw [← hi, preN_pos (n := m) (by omega)]; simp
   · dsimp only; omega
   · dsimp only; omega
  ·
   refine Ze (k:=Xa (Xi (Xb (Ya (Qc (k:=Qv (k:=Wq (Zt (k:=?_)))))))))
   have hm0 : m = 0 := by omega
   subst hm0
   refine fin_ret () (vs := [_]) rfl (.tmp rfl .nil) ?_ trivial ent_nil
   rw [← hi]; simp [pack, preN]
end
section
set_option maxRecDepth 100000
theorem digit_DecP_sp (n : Nat) : SpF Tryz.prog 159 [vI n] (vS (decP n)) := by
 by_cases h : n ≤ 1073741824
 · rw [decP, if_pos h]; exact digit_Dec_sp n h
 · rw [decP, if_neg h]
   refine Sp.body (n := 28) Tryz.call159 Tryz.func159 rfl rfl rfl ?_
   refine Qc (k:=Vv (k:=Wq (Za (k:=Qc (k:=Vv (k:=?_))))))
   refine r_callF (digit_may_sp n) rfl rfl rfl ?_
   refine Vv (k:=Wq (Zi (t:=fun h6 => ?_) (f:=fun h6 => ?_)))
   ·
    refine Qc (k:=Vv (k:=Wq (Zt (k:=Va ?_))))
    exact fin_ret () (vs := [_]) rfl (.tmp rfl .nil) rfl trivial ent_nil
   ·
    exfalso; exact h6 (by omega)
    --done
theorem zb109ret6 {G : Prop} (h : G := by
    have hd := dn_step (s := s) (i := j) (by omega) n
    rw [hi, if_pos (by omega)] at hd
    refine fin_ret () (vs := [_, _]) rfl (.tmp rfl (.tmp rfl .nil)) ?_ trivial ent_nil
    simp [readDec, hd, pack]) : G := h
theorem zb109ret10 {G : Prop} (h : G := by
    have hjs : j = s.length := by omega
    subst hjs
    rw [List.drop_length, dn] at hi
    have hc : s = [] ∨ ¬ decP n = s := by first | exact .inl ‹s = []› | exact .inr ‹_›
    refine fin_ret () (vs := [_, _]) rfl (.tmp rfl (.tmp rfl .nil)) ?_ trivial ent_nil
    simp only [readDec, ← hi, if_pos hc]
    rfl) : G := h
theorem digit_ReadDec_sp (s : List UInt8) (hs : s.length ≤ 140737488355328) : SpF Tryz.prog 109 [vS s] (.tuple #[vI ((readDec s).getD 0 : Nat), vB (readDec s).isSome]) := by
 refine Sp.body (n := 43) Tryz.call109 Tryz.func109 rfl rfl rfl ?_
 refine Qc (k:=Qv (k:=Wq (Qc (k:=Vv (k:=Wq (Za (k:=Qc (k:=?_))))))))
 refine Qv (k:=Vv (k:=Wq (Zb (k:=?_))))
 refine p_loop (fun (i : { p : Nat × Nat // dn (s.drop p.1) p.2 = dn s 0 ∧ p.1 ≤ s.length ∧ p.2 ≤ 10737418249 }) => [(0, vS s), (7, vI s.length), (8, vI i.1.1), (4, vI i.1.2)]) (fun (i : { p : Nat × Nat // dn (s.drop p.1) p.2 = dn s 0 ∧ p.1 ≤ s.length ∧ p.2 ≤ 10737418249 }) => []) (fun (i : { p : Nat × Nat // dn (s.drop p.1) p.2 = dn s 0 ∧ p.1 ≤ s.length ∧ p.2 ≤ 10737418249 }) => s.length - i.1.1) rfl (⟨(0, 0), rfl, Nat.zero_le _, by omega⟩) ?_ ?_ (fun i => ?_)
 · exact ⟨rfl, rfl, rfl, rfl, trivial⟩
 ·
  exact ent_pick
 obtain ⟨⟨j, n⟩, hi, hj, hn⟩ := i
 dsimp only at hi hj hn
 try dsimp only
 refine Qc (k:=Vv (k:=Wq (Za (k:=Zi (t:=fun h9 => ?_) (f:=fun h9 => ?_)))))
 ·
  refine Zk (k:=Ya (Za (k:=Zb (k:=Qc (k:=Qv (k:=Wq (Za (k:=Qc (k:=?_)))))))))
  refine Qv (k:=Qv (k:=Vv (k:=Gi 4 (t:=fun h15 => ?_) (f:=fun h15 => ?_))))
  ·
   refine O1 (k:=O1 (k:=O1 (k:=O1 (k:=P1 (k:=Vv (k:=O1 (k:=O1 (k:=P1 (k:=Wq (Z1 (k:=Za (k:=?_))))))))))))
   refine Zr (k:=Qv (k:=Wq (Zt (k:=Va (Vb (Va (Vi (Vb (Va ?_)))))))))
   exact zb109ret6
  ·
   refine J0 (k:=J0 (k:=J0 (k:=J0 (k:=P0 (k:=Vv (k:=Gi 10 (t:=fun h21 => ?_) (f:=fun h21 => ?_)))))))
   ·
    refine O1 (k:=O1 (k:=P1 (k:=Wq (Z1 (k:=Qc (k:=Qv (k:=Wq (Zt (k:=Va ?_)))))))))
    refine Vb (Va (Vi (Vb (Va ?_))))
    exact zb109ret6
   ·
    refine J0 (k:=J0 (k:=P0 (k:=Wq (Zi (t:=fun h24 => ?_) (f:=fun h24 => ?_)))))
    ·
     refine Qc (k:=Qv (k:=Wq (Zt (k:=Va (Vb (Va (Vi (Vb (Va ?_)))))))))
     exact zb109ret6
    ·
     refine Zk (k:=Ya (Zr (k:=Qv (k:=Qv (k:=Vv (k:=?_))))))
     refine wo_pv (by first | exact pv_subu rfl rfl (by omega) | exact pv_subw rfl rfl) rfl ?_
     refine wo_pv (pv_conv_in rfl Tryz.underlying5 Tryz.underlying3 (by first | exact wrap_byte _ | exact wrap_u8 _ | exact i64_in' (by omega))) rfl ?_
     refine Qv (k:=Wn (Yb (Ya (Zr (k:=Qv (k:=Wn ?_))))))
     have hd := dn_step (s := s) (i := j) (by omega) n
     rw [hi, if_neg (by omega)] at hd
     refine to_inv ⟨(j + 1, 10 * n + ((s.getD j 0).toNat - 48)), hd.symm, ?_, ?_⟩ ?_ ⟨rfl, rfl, rfl, ?_, trivial⟩ ent_nil
     · dsimp only; omega
     · dsimp only; omega
     · dsimp only; omega
     · have e : (((10 * n + ((s.getD j 0).toNat - 48) : Nat)) : Int) = 10 * (n : Int) + (((s.getD j 0).toNat : Int) - 48) := by omega
       dsimp only; rw [e]; rfl
 ·
  refine Ze (k:=Xa (Xi (Xb (Ya (Za (k:=Qc (k:=Qv (k:=Vv (k:=Gi 2 (t:=fun h36 => ?_) (f:=fun h36 => ?_))))))))))
  ·
   refine O1 (k:=O1 (k:=O1 (k:=O1 (k:=P1 (k:=Wq (Z1 (k:=Qc (k:=Qv (k:=Wq ?_)))))))))
   refine Zt (k:=Va ?_)
   exact zb109ret10
  ·
   refine J0 (k:=I0 (k:=?_))
   refine r_callF (digit_DecP_sp n) rfl rfl rfl ?_
   refine J0 (k:=J0 (k:=P0 (k:=Wq (Zi (t:=fun h41 => ?_) (f:=fun h41 => ?_)))))
   ·
    refine Qc (k:=Qv (k:=Wq (Zt (k:=Va ?_))))
    exact zb109ret10
   ·
    refine Zk (k:=Ya (Qc (k:=Qv (k:=Vv (k:=Wq (Zt (k:=?_)))))))
    have hjs : j = s.length := by omega
    subst hjs
    rw [List.drop_length, dn] at hi
    refine fin_ret () (vs := [_, _]) rfl (.tmp rfl (.tmp rfl .nil)) ?_ trivial ent_nil
    simp_all [readDec, pack, ← hi]
end
section
set_option maxRecDepth 100000
/-- A Builder that one has, with what it holds. -/
def IsB (p : Nat) (l : List UInt8) : HP := Ex fun q1 : Value => Ex fun q2 : Value => Al [Pu ((q1 = .pointer none ∨ q1 = .pointer (some ⟨p, 0, none⟩)) ∧ (l.length = 0 → q2 = .slice none 0 0)), Ce p 225 [q1, q2], Row 5 1 q2 l.length (vUs l)]
theorem copyCheck_nil (p : Nat) (v : Value) : Sp1 Tryz.prog 204 [.pointer (some ⟨p, 0, none⟩)] [Ce p 225 [.pointer none, v]] (.tuple #[]) [Ce p 225 [.pointer (some ⟨p, 0, none⟩), v]] := by
 refine Sp.body (n := 20) Tryz.call204 Tryz.func204 rfl rfl rfl ?_
 refine Qc (k:=Qv (k:=Qx 0 223 (k:=?_)))
 refine wo_pv (pv_peql_nil Tryz.underlying223 rfl rfl) rfl ?_
 refine Wq (Zi (t:=fun h6 => ?_) (f:=fun h6 => ?_))
 ·
  refine Zr (k:=Qv (k:=?_))
  refine r_toUnsafe Tryz.underlying223 Tryz.underlying280 ti225 rfl rfl .here rfl rfl ?_
  refine wo_pv (pv_extern Tryz.func228 (by kernel_rfl) (by kernel_rfl) (by kernel_rfl) (e := Extern.AbiNoEscape.same) (by kernel_rfl) rfl (fun w => rfl)) rfl ?_
  refine r_fromUnsafe Tryz.underlying280 Tryz.underlying223 ti225 rfl (by kernel_rfl) rfl .here rfl ?_
  refine Vv (k:=Vf 0 223 (k:=Zo (k:=Wn ?_)))
  refine fin_end () (vs := []) (Cs := []) rfl .nil rfl trivial ?_
  exact ent_pick
 ·
  simp at h6
  --done
theorem copyCheck_own (p : Nat) (v : Value) : Sp1 Tryz.prog 204 [.pointer (some ⟨p, 0, none⟩)] [Ce p 225 [.pointer (some ⟨p, 0, none⟩), v]] (.tuple #[]) [Ce p 225 [.pointer (some ⟨p, 0, none⟩), v]] := by
 refine Sp.body (n := 20) Tryz.call204 Tryz.func204 rfl rfl rfl ?_
 refine Qc (k:=Qv (k:=Qx 0 223 (k:=?_)))
 refine wo_pv (pv_peql_nil Tryz.underlying223 rfl rfl) rfl ?_
 refine Wq (Zi (t:=fun h6 => ?_) (f:=fun h6 => ?_))
 ·
  simp at h6
  --done
 ·
  refine Qc (k:=Qv (k:=Qx 0 223 (k:=Vv (k:=?_))))
  refine wo_pv (pv_pneq_same Tryz.underlying223 ti225 rfl rfl) rfl ?_
  refine Wq (Zi (t:=fun h19 => ?_) (f:=fun h19 => ?_))
  ·
   cases h19
   --done
  ·
   refine Zk (k:=?_)
   refine fin_end () (vs := []) (Cs := []) rfl .nil rfl trivial ?_
   exact ent_pick
theorem copyCheck_sp (p : Nat) (q v : Value) (hq : q = .pointer none ∨ q = .pointer (some ⟨p, 0, none⟩)) : Sp1 Tryz.prog 204 [.pointer (some ⟨p, 0, none⟩)] [Ce p 225 [q, v]] (.tuple #[]) [Ce p 225 [.pointer (some ⟨p, 0, none⟩), v]] := by
 rcases hq with rfl | rfl
 · exact copyCheck_nil p v
 · exact copyCheck_own p v
theorem WriteString_sp (p : Nat) (l s : List UInt8) (h : l.length + s.length ≤ 140737488355328) : Sp1 Tryz.prog 202 [.pointer (some ⟨p, 0, none⟩), vS s] [IsB p l] (.tuple #[vI s.length, .nilIface]) [IsB p (l ++ s)] := by
 refine Sp.body (n := 19) Tryz.call202 Tryz.func202 rfl rfl rfl ?_
 refine wc_exi fun q1 => wc_exi fun q2 => wc_al (wc_pu fun hq => ?_)
 refine Qc (k:=Qv (k:=Wq (Qc (k:=Vv (k:=?_)))))
 refine r_call1 (copyCheck_sp p q1 q2 hq.1) rfl rfl rfl ?_
 refine Wq (Qc (k:=Qv (k:=Vv (k:=Qx 1 56 (k:=Vv (k:=?_))))))
 refine wo_opT (by intro c; simp) (opt_appendS Tryz.underlying56 Tryz.underlying9 ti5 rfl rfl rfl rfl rfl h (xs := vUs l)) rfl (fun x14 hx14 => ?_)
 obtain ⟨⟨a14, c14, rfl⟩, hx14⟩ := hx14
 refine Vv (k:=Vf 1 56 (k:=?_))
 refine r_store ti56 rfl rfl rfl rfl (by simp) ?_
 refine Wq (Qc (k:=Qv (k:=Qv (k:=Wq (Zt (k:=?_))))))
 refine fin_ret () (vs := [_, _]) (Cs := []) rfl (.tmp rfl (.tmp rfl .nil)) rfl trivial ?_
 refine ent_ex (.pointer (some ⟨p, 0, none⟩)) ?_
 refine ent_ex (.slice a14 (l.length + s.length) c14) ?_
 refine ent_al ?_
 have e1 : (l ++ s).length = l.length + s.length := List.length_append
 have e2 : vUs (l ++ s) = vUs l ++ vUs s := by simp [vUs]
 rw [e1, e2]
 refine ent_pu ⟨.inr rfl, fun e => hx14 e (hq.2 (by omega))⟩ ent_pick
theorem String_nil (p : Nat) (q1 : Value) : wc none Tryz.prog 14 (bodyOf Tryz.f157) (locs 0 [.pointer (some ⟨p, 0, none⟩)]) [Ce p 225 [q1, .slice none 0 0]] (finO Tryz.prog Tryz.f157 (fun _ : Unit => vS []) (fun _ => True) (fun _ => [])) := by
 refine Qc (k:=Vv (k:=Wq (Za (k:=Dw [Ce p 225 [q1, .slice none 0 0]] (k:=?_)))))
 refine Dv 0 (k:=Dv 1 (k:=Di 2 (t:=Uf 1 56) (k:=Di 3 (t:=Ul) (k:=?_))))
 refine d_first 4 rfl rfl rfl (by kernel_rfl) (by kernel_rfl) (tl_pv (pv_usd_nil rfl)) ?_
 refine Dv 5 (k:=Dv 6 (k:=Di 7 (t:=Uf 1 56) (k:=Di 8 (t:=Ul) (k:=Dv 9 (k:=?_)))))
 refine d_first 10 rfl rfl rfl (by kernel_rfl) (by kernel_rfl) (tl_pv (pv_us_none rfl rfl)) ?_
 refine Dv 11 (k:=Dd (k:=Ya (Zt (k:=?_))))
 exact fin_ret () (vs := [_]) (Cs := []) rfl (.tmp rfl .nil) rfl trivial ent_nil
theorem String_own (p : Nat) (q1 : Value) (g cap : Nat) (cur : List Value) (l : List UInt8) (h0 : l ≠ []) (hc : l.length ≤ cap) (hcur : cur.take l.length = vUs l) (h : l.length ≤ 140737488355328) :
    wc none Tryz.prog 14 (bodyOf Tryz.f157) (locs 0 [.pointer (some ⟨p, 0, none⟩)]) [Ce g 5 cur, Ce p 225 [q1, .slice (some ⟨g, 0, none⟩) l.length cap]] (finO Tryz.prog Tryz.f157 (fun _ : Unit => vS l) (fun _ => True) (fun _ => [])) := by
 have hl0 : l.length ≠ 0 := by simpa using h0
 refine Qc (k:=Vv (k:=Wq (Za (k:=Dw [Ce p 225 [q1, .slice (some ⟨g, 0, none⟩) l.length cap]] (k:=?_)))))
 refine Dv 0 (k:=Dv 1 (k:=Di 2 (t:=Uf 1 56) (k:=Di 3 (t:=Ul) (k:=?_))))
 refine d_first 4 rfl rfl rfl (by kernel_rfl) (by kernel_rfl) (tl_pv (pv_usd_row rfl (by omega))) ?_
 refine Dv 5 (k:=Dv 6 (k:=Di 7 (t:=Uf 1 56) (k:=Di 8 (t:=Ul) (k:=Dv 9 (k:=Dn 10 (k:=?_))))))
 refine an_opT (opt_us_row Tryz.underlying263 (by kernel_rfl) rfl rfl h0 (by omega) hcur) rfl (fun _ _ => ?_)
 refine Dv 11 (k:=Dd (k:=Ya (Zt (k:=?_))))
 exact fin_ret () (vs := [_]) (Cs := []) rfl (.tmp rfl .nil) rfl trivial ent_nil
theorem String_sp (p : Nat) (l : List UInt8) (h : l.length ≤ 140737488355328) : Sp1 Tryz.prog 157 [.pointer (some ⟨p, 0, none⟩)] [IsB p l] (vS l) [] := by
 refine Sp.body (n := 14) Tryz.call157 Tryz.func157 rfl rfl rfl ?_
 refine wc_exi fun q1 => wc_exi fun q2 => wc_al (wc_pu fun hq => ?_)
 refine wc_front (Row 5 1 q2 l.length (vUs l)) (wc_row (fun e1 e2 e3 => ?_) (fun g cap cur e1 e2 e3 e4 e5 e6 => ?_))
 · subst e1
   have e4 : l = [] := List.eq_nil_of_length_eq_zero e2
   subst e4
   exact String_nil p q1
 · subst e1
   have h0 : l ≠ [] := fun x => by have := hq.2 (by rw [x]; rfl); cases this
   exact String_own p q1 g cap cur l h0 e2 (by simpa using e6) h
end
section
set_option maxRecDepth 100000
section
variable {r : Option Nat} {P : Program} {n : Nat} {ops : Array Oper} {os : List Oper} {A : List HP} {L : Loc} {Hs : List HP} {Q : Out} {c : Code}
end
theorem get_mapD {α : Type} {f : α → Value} {l : List α} {m : Nat} (d : α) (h : m < l.length) : (l.map f)[m]? = some (f (l.getD m d)) := by simp [h]
end
section
set_option maxRecDepth 100000
theorem indexByte_find (l : List UInt8) (c : UInt8) : Lib.indexByte l c = (match l.findIdx? (· == c) with | none => -1 | some i => (i : Int)) := by
 induction l with
 | nil => rfl
 | cons b l ih =>
   simp only [Lib.indexByte, List.findIdx?_cons, ih]
   by_cases h : b == c
   · simp [h]
   · simp only [h]
     cases l.findIdx? (· == c) with
     | none => rfl
     | some i => have h1 : ¬ ((i : Int) = -1) := by omega
                 simp [h1]
end
section
set_option maxRecDepth 100000
theorem fold_newB {p T : Nat} {v0 v1 : Value} {Hs Rs : List HP} [q : OwnC p T [v0, v1] Hs Rs] (hT : T = 225) (h0 : v0 = .pointer none) (h1 : v1 = .slice none 0 0) : Ent Hs (IsB p [] :: Rs) := by
 subst hT; subst h0; subst h1
 refine ent_ex (.pointer none) ?_
 refine ent_ex (.slice none 0 0) ?_
 refine ent_al (ent_pu ⟨.inl rfl, fun _ => rfl⟩ ?_)
 exact ent_step (ent_pick1 q.get) row_nil
end
section
set_option maxRecDepth 100000
theorem RotateLeft32_sp (x : UInt32) (k : Nat) (hk : k = 1 ∨ k = 5 ∨ k = 30) : SpF Tryz.prog 236 [vW x, vI k] (vW (rotl x k)) := by
 rcases hk with rfl | rfl | rfl
 · skip
   refine Sp.body (n := 17) Tryz.call236 Tryz.func236 rfl rfl rfl ?_
   refine Qc (k:=Vv (k:=Wq (Qc (k:=Vv (k:=?_)))))
   refine wo_pv (pv_conv rfl Tryz.underlying3 Tryz.underlying97) rfl ?_
   refine wo_pv (pv_and rfl rfl) rfl ?_
   refine Vv (k:=Wq (Qc (k:=Qv (k:=?_))))
   refine wo_pv (pv_shlW (m := 1) rfl rfl (by decide) (by omega)) rfl ?_
   refine Qv (k:=?_)
   refine wo_pv (pv_subw rfl rfl) rfl ?_
   refine wo_pv (pv_shrW (m := 31) rfl rfl (by decide) (by omega)) rfl ?_
   refine wo_pv (pv_orW rfl rfl) rfl ?_
   refine Vv (k:=Wq (Zt (k:=?_)))
   exact fin_ret () (vs := [_]) (Cs := []) rfl (.tmp rfl .nil) rfl trivial ent_nil
 · skip
   refine Sp.body (n := 17) Tryz.call236 Tryz.func236 rfl rfl rfl ?_
   refine Qc (k:=Vv (k:=Wq (Qc (k:=Vv (k:=?_)))))
   refine wo_pv (pv_conv rfl Tryz.underlying3 Tryz.underlying97) rfl ?_
   refine wo_pv (pv_and rfl rfl) rfl ?_
   refine Vv (k:=Wq (Qc (k:=Qv (k:=?_))))
   refine wo_pv (pv_shlW (m := 5) rfl rfl (by decide) (by omega)) rfl ?_
   refine Qv (k:=?_)
   refine wo_pv (pv_subw rfl rfl) rfl ?_
   refine wo_pv (pv_shrW (m := 27) rfl rfl (by decide) (by omega)) rfl ?_
   refine wo_pv (pv_orW rfl rfl) rfl ?_
   refine Vv (k:=Wq (Zt (k:=?_)))
   exact fin_ret () (vs := [_]) (Cs := []) rfl (.tmp rfl .nil) rfl trivial ent_nil
 · skip
   refine Sp.body (n := 17) Tryz.call236 Tryz.func236 rfl rfl rfl ?_
   refine Qc (k:=Vv (k:=Wq (Qc (k:=Vv (k:=?_)))))
   refine wo_pv (pv_conv rfl Tryz.underlying3 Tryz.underlying97) rfl ?_
   refine wo_pv (pv_and rfl rfl) rfl ?_
   refine Vv (k:=Wq (Qc (k:=Qv (k:=?_))))
   refine wo_pv (pv_shlW (m := 30) rfl rfl (by decide) (by omega)) rfl ?_
   refine Qv (k:=?_)
   refine wo_pv (pv_subw rfl rfl) rfl ?_
   refine wo_pv (pv_shrW (m := 2) rfl rfl (by decide) (by omega)) rfl ?_
   refine wo_pv (pv_orW rfl rfl) rfl ?_
   refine Vv (k:=Wq (Zt (k:=?_)))
   exact fin_ret () (vs := [_]) (Cs := []) rfl (.tmp rfl .nil) rfl trivial ent_nil
theorem hash_mixed_sp (i : Nat) (b c d : UInt32) (hi : i < 80) : SpF Tryz.prog 235 [vI i, vW b, vW c, vW d] (.tuple #[vW (mixW i b c d).1, vW (mixW i b c d).2]) := by
 have hm : mixW i b c d = if i / 20 = 0 then ((b &&& c) ||| (~~~b &&& d), 0x5a827999) else if i / 20 = 1 then (b ^^^ c ^^^ d, 0x6ed9eba1) else if i / 20 = 2 then ((b &&& c) ||| (b &&& d) ||| (c &&& d), 0x8f1bbcdc) else (b ^^^ c ^^^ d, 0xca62c1d6) := rfl
 refine Sp.body (n := 47) Tryz.call235 Tryz.func235 rfl rfl rfl ?_
 refine Qc (k:=Qv (k:=Wq (Za (k:=Qc (k:=Qv (k:=Wq (Zb (k:=?_))))))))
 refine Qc (k:=Qv (k:=Wq (Zi (t:=fun h12 => ?_) (f:=fun h12 => ?_))))
 ·
  refine Qc (k:=Qv (k:=?_))
  refine wo_pv (pv_andW rfl rfl) rfl ?_
  refine Vv (k:=?_)
  refine wo_pv (pv_notW rfl) rfl ?_
  refine Vv (k:=?_)
  refine wo_pv (pv_andW rfl rfl) rfl ?_
  refine wo_pv (pv_orW rfl rfl) rfl ?_
  refine Qv (k:=Wq (Zt (k:=Vb (Va ?_))))
  rw [if_pos (by omega)] at hm
  rw [hm]
  exact fin_ret () (vs := [_, _]) (Cs := []) rfl (.tmp rfl (.tmp rfl .nil)) rfl trivial ent_nil
 ·
  refine Qc (k:=Qv (k:=Wq (Zi (t:=fun h22 => ?_) (f:=fun h22 => ?_))))
  ·
   refine Qc (k:=Qv (k:=?_))
   refine wo_pv (pv_xorW rfl rfl) rfl ?_
   refine Vv (k:=?_)
   refine wo_pv (pv_xorW rfl rfl) rfl ?_
   refine Qv (k:=Wq (Zt (k:=Vb (Va ?_))))
   rw [if_neg (by omega), if_pos (by omega)] at hm
   rw [hm]
   exact fin_ret () (vs := [_, _]) (Cs := []) rfl (.tmp rfl (.tmp rfl .nil)) rfl trivial ent_nil
  ·
   refine Qc (k:=Qv (k:=Wq (Zi (t:=fun h29 => ?_) (f:=fun h29 => ?_))))
   ·
    refine Qc (k:=Qv (k:=?_))
    refine wo_pv (pv_andW rfl rfl) rfl ?_
    refine Qv (k:=?_)
    refine wo_pv (pv_andW rfl rfl) rfl ?_
    refine wo_pv (pv_orW rfl rfl) rfl ?_
    refine Qv (k:=?_)
    refine wo_pv (pv_andW rfl rfl) rfl ?_
    refine wo_pv (pv_orW rfl rfl) rfl ?_
    refine Qv (k:=Wq (Zt (k:=Vb (Va ?_))))
    rw [if_neg (by omega), if_neg (by omega), if_pos (by omega)] at hm
    rw [hm]
    exact fin_ret () (vs := [_, _]) (Cs := []) rfl (.tmp rfl (.tmp rfl .nil)) rfl trivial ent_nil
   ·
    refine Zk (k:=Yb (Ya (Qc (k:=Qv (k:=?_)))))
    refine wo_pv (pv_xorW rfl rfl) rfl ?_
    refine Vv (k:=?_)
    refine wo_pv (pv_xorW rfl rfl) rfl ?_
    refine Qv (k:=Wq (Zt (k:=?_)))
    rw [if_neg (by omega), if_neg (by omega), if_neg (by omega)] at hm
    rw [hm]
    exact fin_ret () (vs := [_, _]) (Cs := []) rfl (.tmp rfl (.tmp rfl .nil)) rfl trivial ent_nil
theorem vW_getD {l : List UInt32} {m : Nat} (h : m < l.length) : (l.map vW)[m]? = some (vW (l.getD m 0)) := by simp [h]
theorem sp_set {b : Bs} {j : Nat} (hj : j < 80) (x : UInt32) (hx : x = if j < 16 then blkW b j else nextW (spreadL b j) j) : (spreadL b j ++ List.replicate (80 - j) 0).set j x = spreadL b (j + 1) ++ List.replicate (80 - (j + 1)) 0 := by
 have e : List.replicate (80 - j) (0 : UInt32) = 0 :: List.replicate (80 - (j + 1)) 0 := by
  rw [← List.replicate_succ]; congr 1; omega
 rw [e, List.set_append_right _ _ (by rw [spreadL_len]; omega), spreadL_len, Nat.sub_self, List.set_cons_zero, spreadL, hx]
 simp
theorem sp_get {b : Bs} {j m : Nat} (h : m < j) (hj : j ≤ 80) : (spreadL b j ++ List.replicate (80 - j) (0 : UInt32)).getD m 0 = (spreadL b j).getD m 0 := by
 have := spreadL_len b j
 simp [List.getD_eq_getElem?_getD, List.getElem?_append_left, this, h]
theorem vUs_get {l : Bs} {m : Nat} (h : m < l.length) : (vUs l)[m]? = some (vU (l.getD m 0).toNat) := by simp [vUs, h]
theorem hash_spread_sp {B : HP} {a : Option Addr} (c : Nat) (b : Bs) (hb : b.length = 64) (sh : SlA B a (vUs b)) : Sp1 Tryz.prog 234 [.slice a 64 c] [B] (.agg ((spreadL b 80).map vW).toArray) [B] := by
 haveI : RdSl a (vUs b) [B] := ⟨⟨B, sh, .here⟩⟩
 have hvl : (vUs b).length = 64 := by simp [vUs, hb]
 refine Sp.body (n := 72) Tryz.call234 Tryz.func234 rfl rfl rfl ?_
 refine Qc (k:=Zc [.int .u32 0, .int .u32 0, .int .u32 0, .int .u32 0, .int .u32 0, .int .u32 0, .int .u32 0, .int .u32 0, .int .u32 0, .int .u32 0, .int .u32 0, .int .u32 0, .int .u32 0, .int .u32 0, .int .u32 0, .int .u32 0, .int .u32 0, .int .u32 0, .int .u32 0, .int .u32 0, .int .u32 0, .int .u32 0, .int .u32 0, .int .u32 0, .int .u32 0, .int .u32 0, .int .u32 0, .int .u32 0, .int .u32 0, .int .u32 0, .int .u32 0, .int .u32 0, .int .u32 0, .int .u32 0, .int .u32 0, .int .u32 0, .int .u32 0, .int .u32 0, .int .u32 0, .int .u32 0, .int .u32 0, .int .u32 0, .int .u32 0, .int .u32 0, .int .u32 0, .int .u32 0, .int .u32 0, .int .u32 0, .int .u32 0, .int .u32 0, .int .u32 0, .int .u32 0, .int .u32 0, .int .u32 0, .int .u32 0, .int .u32 0, .int .u32 0, .int .u32 0, .int .u32 0, .int .u32 0, .int .u32 0, .int .u32 0, .int .u32 0, .int .u32 0, .int .u32 0, .int .u32 0, .int .u32 0, .int .u32 0, .int .u32 0, .int .u32 0, .int .u32 0, .int .u32 0, .int .u32 0, .int .u32 0, .int .u32 0, .int .u32 0, .int .u32 0, .int .u32 0, .int .u32 0, .int .u32 0] (k:=fun b2 => Wq (Qc (k:=Zc [.int .u32 0, .int .u32 0, .int .u32 0, .int .u32 0, .int .u32 0, .int .u32 0, .int .u32 0, .int .u32 0, .int .u32 0, .int .u32 0, .int .u32 0, .int .u32 0, .int .u32 0, .int .u32 0, .int .u32 0, .int .u32 0, .int .u32 0, .int .u32 0, .int .u32 0, .int .u32 0, .int .u32 0, .int .u32 0, .int .u32 0, .int .u32 0, .int .u32 0, .int .u32 0, .int .u32 0, .int .u32 0, .int .u32 0, .int .u32 0, .int .u32 0, .int .u32 0, .int .u32 0, .int .u32 0, .int .u32 0, .int .u32 0, .int .u32 0, .int .u32 0, .int .u32 0, .int .u32 0, .int .u32 0, .int .u32 0, .int .u32 0, .int .u32 0, .int .u32 0, .int .u32 0, .int .u32 0, .int .u32 0, .int .u32 0, .int .u32 0, .int .u32 0, .int .u32 0, .int .u32 0, .int .u32 0, .int .u32 0, .int .u32 0, .int .u32 0, .int .u32 0, .int .u32 0, .int .u32 0, .int .u32 0, .int .u32 0, .int .u32 0, .int .u32 0, .int .u32 0, .int .u32 0, .int .u32 0, .int .u32 0, .int .u32 0, .int .u32 0, .int .u32 0, .int .u32 0, .int .u32 0, .int .u32 0, .int .u32 0, .int .u32 0, .int .u32 0, .int .u32 0, .int .u32 0, .int .u32 0] (k:=fun b3 => Wq (Za (k:=Qc (k:=Vv (k:=?_)))))))))
 refine Wq (Zb (k:=?_))
 refine p_loop (fun (i : { j : Nat // j ≤ 16 }) => [(0, .slice a 64 c), (2, .pointer (some ⟨b2, 0, none⟩)), (3, .pointer (some ⟨b3, 0, none⟩)), (6, vI i.1)]) (fun (i : { j : Nat // j ≤ 16 }) => [Ce b3 162 ((spreadL b i.1 ++ List.replicate (80 - i.1) 0).map vW), Ce b2 162 ((List.replicate 80 (0 : UInt32)).map vW), B]) (fun (i : { j : Nat // j ≤ 16 }) => 16 - i.1) rfl (⟨0, Nat.zero_le _⟩) ?_ ?_ (fun i => ?_)
 · exact ⟨rfl, rfl, rfl, rfl, trivial⟩
 ·
  exact ent_step (ce_norm (by rfl) (by rfl)) (ent_step (ce_norm (by rfl) (by rfl)) ent_pick)
 obtain ⟨j, hj⟩ := i
 dsimp only
 have hsp := spreadL_len b j
 try dsimp only
 refine Qc (k:=Vv (k:=Wq (Za (k:=Zi (t:=fun h7 => ?_) (f:=fun h7 => ?_)))))
 ·
  refine Zk (k:=Ya (Za (k:=Zb (k:=Qc (k:=Qv (k:=Wq (Dw [B] (k:=?_))))))))
  refine Dv 0 (k:=Dv 1 (k:=Dv 2 (k:=Dv 3 (k:=?_))))
  refine d_first 4 rfl rfl rfl (by kernel_rfl) (by kernel_rfl) (tl_elemAddr (sz := 1) (m := 4 * j) Tryz.underlying56 ti5 rfl rfl rfl (by omega) (by omega) (by omega) (Nat.mul_one _)) ?_
  refine d_first 5 rfl rfl rfl (by kernel_rfl) (by kernel_rfl) (tl_eload Tryz.underlying5 rfl rfl (vUs_get (by omega))) ?_
  refine d_first 6 rfl rfl rfl (by kernel_rfl) (by kernel_rfl) (tl_pv (pv_convW rfl Tryz.underlying5 Tryz.underlying94)) ?_
  refine d_first 7 rfl rfl rfl (by kernel_rfl) (by kernel_rfl) (tl_pv (pv_shlW (m := 24) rfl rfl rfl (by omega))) ?_
  refine Dv 8 (k:=Dv 9 (k:=Dv 10 (k:=Dv 11 (k:=?_))))
  refine d_first 12 rfl rfl rfl (by kernel_rfl) (by kernel_rfl) (tl_elemAddr (sz := 1) (m := 4 * j + 1) Tryz.underlying56 ti5 rfl rfl rfl (by omega) (by omega) (by omega) (Nat.mul_one _)) ?_
  refine d_first 13 rfl rfl rfl (by kernel_rfl) (by kernel_rfl) (tl_eload Tryz.underlying5 rfl rfl (vUs_get (by omega))) ?_
  refine d_first 14 rfl rfl rfl (by kernel_rfl) (by kernel_rfl) (tl_pv (pv_convW rfl Tryz.underlying5 Tryz.underlying94)) ?_
  refine d_first 15 rfl rfl rfl (by kernel_rfl) (by kernel_rfl) (tl_pv (pv_shlW (m := 16) rfl rfl rfl (by omega))) ?_
  refine d_first 16 rfl rfl rfl (by kernel_rfl) (by kernel_rfl) (tl_pv (pv_orW rfl rfl)) ?_
  refine Dv 17 (k:=Dv 18 (k:=Dv 19 (k:=Dv 20 (k:=?_))))
  refine d_first 21 rfl rfl rfl (by kernel_rfl) (by kernel_rfl) (tl_elemAddr (sz := 1) (m := 4 * j + 2) Tryz.underlying56 ti5 rfl rfl rfl (by omega) (by omega) (by omega) (Nat.mul_one _)) ?_
  refine d_first 22 rfl rfl rfl (by kernel_rfl) (by kernel_rfl) (tl_eload Tryz.underlying5 rfl rfl (vUs_get (by omega))) ?_
  refine d_first 23 rfl rfl rfl (by kernel_rfl) (by kernel_rfl) (tl_pv (pv_convW rfl Tryz.underlying5 Tryz.underlying94)) ?_
  refine d_first 24 rfl rfl rfl (by kernel_rfl) (by kernel_rfl) (tl_pv (pv_shlW (m := 8) rfl rfl rfl (by omega))) ?_
  refine d_first 25 rfl rfl rfl (by kernel_rfl) (by kernel_rfl) (tl_pv (pv_orW rfl rfl)) ?_
  refine Dv 26 (k:=Dv 27 (k:=Dv 28 (k:=Dv 29 (k:=?_))))
  refine d_first 30 rfl rfl rfl (by kernel_rfl) (by kernel_rfl) (tl_elemAddr (sz := 1) (m := 4 * j + 3) Tryz.underlying56 ti5 rfl rfl rfl (by omega) (by omega) (by omega) (Nat.mul_one _)) ?_
  refine d_first 31 rfl rfl rfl (by kernel_rfl) (by kernel_rfl) (tl_eload Tryz.underlying5 rfl rfl (vUs_get (by omega))) ?_
  refine d_first 32 rfl rfl rfl (by kernel_rfl) (by kernel_rfl) (tl_pv (pv_convW rfl Tryz.underlying5 Tryz.underlying94)) ?_
  refine d_first 33 rfl rfl rfl (by kernel_rfl) (by kernel_rfl) (tl_pv (pv_orW rfl rfl)) ?_
  refine d_first 34 rfl rfl rfl (by kernel_rfl) (by kernel_rfl) (tl_pv (pv_aindex1 Tryz.underlying162 ti94 rfl rfl rfl (by first | rfl | omega) (by omega))) ?_
  refine Dn 35 (k:=No (k:=Dd (k:=Yb (Ya (Zr (k:=Qv (k:=Wn ?_)))))))
  refine to_inv ⟨j + 1, by omega⟩ (by dsimp only; omega) ⟨rfl, rfl, rfl, rfl, trivial⟩ ?_
  dsimp only
  rw [← sp_set (b := b) (j := j) (by omega) (blkW b j) (by rw [if_pos (by omega)])]
  exact ent_step (ce_norm (by rfl) (by rw [List.map_set]; rfl)) ent_pick
 ·
  refine Ze (k:=Xa (Xi (Xb (Ya (Za (k:=Qc (k:=Vv (k:=Wq (Zb (k:=?_))))))))))
  refine p_loop (fun (i : { j : Nat // 16 ≤ j ∧ j ≤ 80 }) => [(2, .pointer (some ⟨b2, 0, none⟩)), (3, .pointer (some ⟨b3, 0, none⟩)), (5, vI i.1)]) (fun (i : { j : Nat // 16 ≤ j ∧ j ≤ 80 }) => [Ce b3 162 ((spreadL b i.1 ++ List.replicate (80 - i.1) 0).map vW), Ce b2 162 ((List.replicate 80 (0 : UInt32)).map vW), B]) (fun (i : { j : Nat // 16 ≤ j ∧ j ≤ 80 }) => 80 - i.1) rfl (⟨16, by omega, by omega⟩) ?_ ?_ (fun i => ?_)
  · exact ⟨rfl, rfl, rfl, trivial⟩
  ·
   have hj16 : j = 16 := by omega
   subst hj16
   exact ent_pick
  obtain ⟨m, hm1, hm2⟩ := i
  dsimp only
  have hsl : (spreadL b m ++ List.replicate (80 - m) (0 : UInt32)).length = 80 := by rw [List.length_append, spreadL_len, List.length_replicate]; omega
  have hsp := spreadL_len b m
  try dsimp only
  refine Za (k:=Qc (k:=Qv (k:=Wq (Zi (t:=fun h46 => ?_) (f:=fun h46 => ?_)))))
  ·
   refine Zk (k:=Ya (Za (k:=Zb (k:=Dw [Ce b3 162 ((spreadL b m ++ List.replicate (80 - m) 0).map vW)] (k:=?_)))))
   refine Dv 0 (k:=Dv 1 (k:=Dv 2 (k:=?_)))
   refine d_first 3 rfl rfl rfl (by kernel_rfl) (by kernel_rfl) (tl_pv (pv_aindex1 (m := m - 3) Tryz.underlying162 ti94 rfl rfl rfl (by omega) (by omega))) ?_
   refine d_first 4 rfl rfl rfl (by kernel_rfl) (by kernel_rfl) (tl_load Tryz.underlying94 rfl rfl ((vW_getD (m := m - 3) (by omega)).trans (by rw [sp_get (by omega) (by omega)]))) ?_
   refine Dv 5 (k:=Dv 6 (k:=?_))
   refine d_first 7 rfl rfl rfl (by kernel_rfl) (by kernel_rfl) (tl_pv (pv_aindex1 (m := m - 8) Tryz.underlying162 ti94 rfl rfl rfl (by omega) (by omega))) ?_
   refine d_first 8 rfl rfl rfl (by kernel_rfl) (by kernel_rfl) (tl_load Tryz.underlying94 rfl rfl ((vW_getD (m := m - 8) (by omega)).trans (by rw [sp_get (by omega) (by omega)]))) ?_
   refine d_first 9 rfl rfl rfl (by kernel_rfl) (by kernel_rfl) (tl_pv (pv_xorW rfl rfl)) ?_
   refine Dv 10 (k:=Dv 11 (k:=?_))
   refine d_first 12 rfl rfl rfl (by kernel_rfl) (by kernel_rfl) (tl_pv (pv_aindex1 (m := m - 14) Tryz.underlying162 ti94 rfl rfl rfl (by omega) (by omega))) ?_
   refine d_first 13 rfl rfl rfl (by kernel_rfl) (by kernel_rfl) (tl_load Tryz.underlying94 rfl rfl ((vW_getD (m := m - 14) (by omega)).trans (by rw [sp_get (by omega) (by omega)]))) ?_
   refine d_first 14 rfl rfl rfl (by kernel_rfl) (by kernel_rfl) (tl_pv (pv_xorW rfl rfl)) ?_
   refine Dv 15 (k:=Dv 16 (k:=?_))
   refine d_first 17 rfl rfl rfl (by kernel_rfl) (by kernel_rfl) (tl_pv (pv_aindex1 (m := m - 16) Tryz.underlying162 ti94 rfl rfl rfl (by omega) (by omega))) ?_
   refine d_first 18 rfl rfl rfl (by kernel_rfl) (by kernel_rfl) (tl_load Tryz.underlying94 rfl rfl ((vW_getD (m := m - 16) (by omega)).trans (by rw [sp_get (by omega) (by omega)]))) ?_
   refine d_first 19 rfl rfl rfl (by kernel_rfl) (by kernel_rfl) (tl_pv (pv_xorW rfl rfl)) ?_
   refine Dn 20 (k:=?_)
   refine an_callF (RotateLeft32_sp _ 1 (.inl rfl)) rfl rfl rfl ?_
   refine d_first 21 rfl rfl rfl (by kernel_rfl) (by kernel_rfl) (tl_pv (pv_aindex1 Tryz.underlying162 ti94 rfl rfl rfl (by first | rfl | omega) (by omega))) ?_
   refine d_last 22 (by kernel_rfl) rfl (by kernel_rfl) (by kernel_rfl) ?_
   refine No (k:=Yb (Ya (Zr (k:=Qv (k:=Vv (k:=Wn ?_))))))
   refine to_inv ⟨m + 1, by omega, by omega⟩ (by dsimp only; omega) ⟨rfl, rfl, rfl, trivial⟩ ?_
   dsimp only
   rw [← sp_set (b := b) (j := m) (by omega) (nextW (spreadL b m) m) (by rw [if_neg (by omega)])]
   exact ent_step (ce_norm (by rfl) (by rw [List.map_set]; rfl)) ent_pick
  ·
   refine Ze (k:=Xa (Xi (Xb (Ya (Za (k:=?_))))))
   have hm80 : m = 80 := by omega
   subst hm80
   rw [Nat.sub_self, List.replicate_zero, List.append_nil]
   have hsl2 : ((spreadL b 80).map vW).length = 80 := by rw [List.length_map, hsp]
   have hoc : ((spreadL b 80).map vW).all oneCell = true := by simp [oneCell]
   generalize (spreadL b 80).map vW = ws at hsl2 hoc ⊢
   refine Zr (k:=?_)
   refine r_loada (vs := ws) Tryz.underlying162 rfl ti162 rfl (show 0 + 80 ≤ _ by omega) (show (ws.drop 0).take 80 = ws by rw [List.drop_zero]; exact List.take_of_length_le (by omega)) rfl ?_
   refine r_storea (vs := ws) ti162 (show Nat.beq 80 ws.length = true by rw [hsl2]; rfl) rfl rfl hoc (show 0 + ws.length ≤ _ by rw [hsl2]; simp) ?_
   refine Wq (Zt (k:=?_))
   have hfull : setAt ((List.replicate 80 (0 : UInt32)).map vW) 0 ws = ws := by
    have := setAt_mid ws [] ((List.replicate 80 (0 : UInt32)).map vW) [] (by rw [hsl2]; simp)
    simpa using this
   rw [hfull]
   refine fin_ret () (vs := [_]) (Cs := [Ce b2 162 ws]) rfl (.cell (l := ws) (us := ws) rfl (shows_ce (T := 162)) Tryz.underlying162 rfl ti162 (show 80 ≤ ws.length by omega) (show ws.take 80 = ws from List.take_of_length_le (by omega)) .nil) rfl trivial ?_
   exact ent_pick
end
end Go.Proofs.YtdnoacgopfcpbaaGreat
