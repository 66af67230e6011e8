/- Texts of this proof, put together: MDec, MStore, MDisk, Fuel, PDec, PRows, PJour, PScan. -/
set_option linter.unusedVariables false
set_option linter.unusedSimpArgs false
/- Decimals. -/
namespace Go.Proofs.Ytimafngkifakfaa

/-- The last digit of a number, as a byte. -/
def dgt (n : Nat) : UInt8 := UInt8.ofNat (48 + n % 10)
def decN (n : Nat) : List UInt8 := if n < 10 then [dgt n] else decN (n / 10) ++ [dgt n]
termination_by n
/-- What stands ahead of the last digits. -/
def preN (n : Nat) : List UInt8 := if n = 0 then [] else decN n
theorem dgt_toNat (n : Nat) : (dgt n).toNat = 48 + n % 10 := by
  have : 48 + n % 10 < 256 := by omega
  simp [dgt, UInt8.toNat_ofNat, Nat.mod_eq_of_lt this]
theorem decN_split (n : Nat) : decN n = preN (n / 10) ++ [dgt n] := by
  rw [decN, preN]
  by_cases h : n < 10
  · have : n / 10 = 0 := by omega
    simp [h, this]
  · have : ¬ (n / 10 = 0) := by omega
    simp [h, this]
theorem preN_pos {n : Nat} (h : 0 < n) : preN n = preN (n / 10) ++ [dgt n] := by
  rw [preN, if_neg (by omega)]; exact decN_split n
theorem decN_len (n : Nat) : (decN n).length ≤ n + 1 := by
  induction n using Nat.strongRecOn with
  | _ n ih =>
    rw [decN]
    split
    · simp
    · have := ih (n / 10) (by omega)
      simp only [List.length_append, List.length_singleton]
      omega
end Go.Proofs.Ytimafngkifakfaa

/- Chapter 7's texts, as functions on lists. -/
namespace Go.Proofs.Ytimafngkifakfaa
abbrev Bs := List UInt8

/-- Decimals, read on. -/
def dn : Bs → Nat → Option Nat
  | [], n => some n
  | c :: r, n => if c.toNat < 48 ∨ 57 < c.toNat ∨ 1073741824 < n then none else dn r (10 * n + (c.toNat - 48))
def decP (n : Nat) : Bs := if n ≤ 1073741824 then decN n else []
def readDec (s : Bs) : Option Nat := match dn s 0 with
  | none => none
  | some n => if s = [] ∨ ¬ decP n = s then none else some n
theorem dn_le : ∀ (s : Bs) (n m : Nat), dn s n = some m → n ≤ 10737418249 → m ≤ 10737418249 := by
  intro s
  induction s with
  | nil => intro n m h hn; simp [dn] at h; omega
  | cons c r ih =>
    intro n m h hn
    simp only [dn] at h
    split at h
    · cases h
    · rename_i hc
      exact ih _ _ h (by omega)
theorem dn_step {s : Bs} {i : Nat} (h : i < s.length) (n : Nat) : dn (s.drop i) n = if (s.getD i 0).toNat < 48 ∨ 57 < (s.getD i 0).toNat ∨ 1073741824 < n then none else dn (s.drop (i + 1)) (10 * n + ((s.getD i 0).toNat - 48)) := by
  have e : s.drop i = s.getD i 0 :: s.drop (i + 1) := by
    rw [List.drop_eq_getElem_cons h]; simp [h]
  rw [e, dn]

structure Rw where
  key : Bs
  val : Bs
  gone : Bool
  deriving DecidableEq, Repr
def rowText (r : Rw) : Bs := decN r.key.length ++ [32] ++ (if r.gone then [45] ++ r.key else decN r.val.length ++ [32] ++ r.key ++ r.val)
def textOf (l : List Rw) : Bs := l.flatMap rowText
/-- Where a byte stands. -/
def numR (s : Bs) : Nat × Bs × Bool := match s.findIdx? (· == 32) with
  | none => (0, [], false)
  | some i => match readDec (s.take i) with
    | none => (0, s.drop (i + 1), false)
    | some n => (n, s.drop (i + 1), true)
def rowR (s : Bs) : Option (Rw × Bs) :=
  match numR s with
  | (_, _, false) => none
  | (k, s, true) =>
    if k < 1 ∨ 60 < k then none else
    if s.take 1 = [45] then
      (if (s.drop 1).length < k then none else some (⟨(s.drop 1).take k, [], true⟩, (s.drop 1).drop k))
    else match numR s with
      | (_, _, false) => none
      | (v, s, true) => if s.length < k ∨ s.length - k < v then none else some (⟨s.take k, (s.drop k).take v, false⟩, s.drop (k + v))
theorem numR_len (s : Bs) : (numR s).2.1.length ≤ s.length := by
  simp only [numR]
  split
  · simp
  · split <;> simp
theorem numR_lt (s : Bs) : s ≠ [] → (numR s).2.1.length < s.length := by
  intro h
  have hp := List.length_pos_iff.2 h
  simp only [numR]
  split
  · simpa using hp
  · rename_i i hi
    have := (List.findIdx?_eq_some_iff_getElem.1 hi).1
    split <;> simp <;> omega
theorem rowR_lt {s : Bs} {r : Rw} {t : Bs} (h : rowR s = some (r, t)) : t.length < s.length := by
  have hs : s ≠ [] := by
    intro e; subst e
    simp [rowR, numR] at h
  have h1 := numR_lt s hs
  simp only [rowR] at h
  split at h
  · cases h
  · rename_i k s1 e1
    rw [e1] at h1
    split at h
    · cases h
    · split at h
      · split at h
        · cases h
        · simp only [Option.some.injEq, Prod.mk.injEq] at h
          obtain ⟨_, rfl⟩ := h
          simp at h1 ⊢; omega
      · have h2 := numR_len s1
        split at h
        · cases h
        · rename_i v s2 e2
          rw [e2] at h2
          split at h
          · cases h
          · simp only [Option.some.injEq, Prod.mk.injEq] at h
            obtain ⟨_, rfl⟩ := h
            simp at h1 h2 ⊢; omega
def readR (s : Bs) : Option (List Rw) :=
  if s = [] then some [] else match h : rowR s with
    | none => none
    | some (r, t) => have := rowR_lt h; match readR t with
      | none => none
      | some l => some (r :: l)
termination_by s.length
theorem readR_nil : readR [] = some [] := by rw [readR]; simp
theorem readR_none {s : Bs} (h : s ≠ []) (hr : rowR s = none) : readR s = none := by
  rw [readR, if_neg h]
  split
  · rfl
  · rename_i r t e; rw [hr] at e; cases e
theorem readR_some {s t : Bs} {r : Rw} (h : s ≠ []) (hr : rowR s = some (r, t)) : readR s = (readR t).map (r :: ·) := by
  rw [readR, if_neg h]
  split
  · rename_i e; rw [hr] at e; cases e
  · rename_i r' t' e
    rw [hr] at e
    simp only [Option.some.injEq, Prod.mk.injEq] at e
    obtain ⟨rfl, rfl⟩ := e
    split <;> simp_all
end Go.Proofs.Ytimafngkifakfaa

/- Chapters 5, 6: disks and journals, as functions. -/
namespace Go.Proofs.Ytimafngkifakfaa
def zeros (n : Nat) : Bs := List.replicate n 0
def wholeS (s : Bs) : Bs := s ++ zeros (32 - s.length)
/-- A disk: its sectors, whether it is armed, how many writes go well yet, how much of the one that is torn is kept, whether it is down. -/
structure Dk where
  secs : List Bs
  armed : Bool
  left : Int
  keep : Nat
  down : Bool
structure Dk.Ok (D : Dk) : Prop where
  secs : ∀ s ∈ D.secs, s.length = 32
  keep : D.keep ≤ 32
  many : D.secs.length ≤ 2000
def newD (n : Int) : Dk := ⟨List.replicate (max 1 (min n 2000)).toNat (wholeS []), false, 0, 0, false⟩
def Dk.write (D : Dk) (i : Int) (s : Bs) : Dk × Bool :=
  if D.down = true ∨ i < 0 ∨ (D.secs.length : Int) ≤ i ∨ 32 < s.length then (D, false)
  else if D.armed = true ∧ D.left = 0 then
    ({ D with secs := D.secs.set i.toNat ((wholeS s).take D.keep ++ (D.secs.getD i.toNat []).drop D.keep), down := true, armed := false }, false)
  else ({ D with secs := D.secs.set i.toNat (wholeS s), left := D.left - 1 }, true)
def Dk.arm (D : Dk) (w k : Int) : Dk := { D with armed := true, left := max w 0, keep := (max 0 (min k 32)).toNat }
def Dk.revive (D : Dk) : Dk := { D with down := false }
theorem wholeS_len {s : Bs} (h : s.length ≤ 32) : (wholeS s).length = 32 := by simp [wholeS, zeros]; omega

/-- A transaction's sectors. -/
def pieceS (s : Bs) (mark : UInt8) : Bs := [UInt8.ofNat s.length] ++ s ++ zeros (30 - s.length) ++ [mark]
def piecesS (s : Bs) : List Bs := if 30 < s.length then pieceS (s.take 30) 1 :: piecesS (s.drop 30) else [pieceS s 2]
termination_by s.length
decreasing_by simp; omega
/-- What an opened journal holds: its texts, the place behind the last one; on the way the text that is under way. -/
def scanS : List Bs → Nat → Bs → List Bs → Nat → List Bs × Nat
  | [], _, _, l, e => (l, e)
  | s :: r, i, t, l, e =>
    if 30 < (s.getD 0 0).toNat then (l, e)
    else if s.getD 31 0 = 1 then scanS r (i + 1) (t ++ (s.drop 1).take (s.getD 0 0).toNat) l e
    else if s.getD 31 0 = 2 then scanS r (i + 1) [] (l ++ [t ++ (s.drop 1).take (s.getD 0 0).toNat]) (i + 1)
    else (l, e)
theorem piecesS_more {s : Bs} (h : 30 < s.length) : piecesS s = pieceS (s.take 30) 1 :: piecesS (s.drop 30) := by rw [piecesS, if_pos h]
theorem piecesS_last {s : Bs} (h : ¬ 30 < s.length) : piecesS s = [pieceS s 2] := by rw [piecesS, if_neg h]
theorem piecesS_len (s : Bs) : 0 < (piecesS s).length ∧ (piecesS s).length ≤ s.length + 1 := by
  induction h : s.length using Nat.strongRecOn generalizing s with
  | _ n ih =>
    by_cases hs : 30 < s.length
    · rw [piecesS_more hs]
      have := ih (s.drop 30).length (by simp; omega) (s.drop 30) rfl
      simp only [List.length_cons, List.length_drop] at *
      omega
    · rw [piecesS_last hs]; simp
theorem pieceS_len {s : Bs} (h : s.length ≤ 30) (m : UInt8) : (pieceS s m).length = 32 := by simp [pieceS, zeros]; omega
theorem piecesS_mem {s p : Bs} (hp : p ∈ piecesS s) : p.length = 32 := by
  induction h : s.length using Nat.strongRecOn generalizing s with
  | _ n ih =>
    by_cases hs : 30 < s.length
    · rw [piecesS_more hs] at hp
      rcases List.mem_cons.1 hp with rfl | hp
      · exact pieceS_len (by simp; omega) _
      · exact ih (s.drop 30).length (by simp; omega) hp rfl
    · rw [piecesS_last hs] at hp
      simp at hp; subst hp
      exact pieceS_len (by omega) _

def scanD (D : Dk) : List Bs × Nat := scanS D.secs 0 [] [] 0
theorem scanS_len : ∀ (ss : List Bs) (i : Nat) (t : Bs) (l : List Bs) (e N : Nat), t.length + 30 * ss.length ≤ N → (∀ s ∈ l, s.length ≤ N) → ∀ s ∈ (scanS ss i t l e).1, s.length ≤ N := by
  intro ss
  induction ss with
  | nil => intro i t l e N h hl s hs; exact hl s hs
  | cons x r ih =>
    intro i t l e N h hl s hs
    simp only [List.length_cons] at h
    simp only [scanS] at hs
    split at hs
    · exact hl s hs
    · have hx : ((x.drop 1).take (x.getD 0 0).toNat).length ≤ 30 := by rw [List.length_take]; omega
      split at hs
      · exact ih _ _ _ _ N (by rw [List.length_append]; omega) hl s hs
      · split at hs
        · refine ih _ _ _ _ N (by rw [List.length_nil]; omega) (fun u hu => ?_) s hs
          rcases List.mem_append.1 hu with hu | hu
          · exact hl u hu
          · simp only [List.mem_singleton] at hu
            subst hu; rw [List.length_append]; omega
        · exact hl s hs
theorem scanS_end : ∀ (ss : List Bs) (i : Nat) (t : Bs) (l : List Bs) (e : Nat), l.length ≤ e → e ≤ i → (scanS ss i t l e).1.length ≤ (scanS ss i t l e).2 ∧ (scanS ss i t l e).2 ≤ i + ss.length := by
  intro ss
  induction ss with
  | nil => intro i t l e h1 h2; simp only [scanS, List.length_nil]; omega
  | cons x r ih =>
    intro i t l e h1 h2
    simp only [scanS, List.length_cons]
    split
    · dsimp only; omega
    · split
      · have := ih (i + 1) (t ++ (x.drop 1).take (x.getD 0 0).toNat) l e h1 (by omega); omega
      · split
        · have := ih (i + 1) [] (l ++ [t ++ (x.drop 1).take (x.getD 0 0).toNat]) (i + 1) (by rw [List.length_append, List.length_singleton]; omega) (Nat.le_refl _); omega
        · dsimp only; omega
theorem scanS_step {ss : List Bs} {i : Nat} (h : i < ss.length) (t : Bs) (l : List Bs) (e : Nat) : scanS (ss.drop i) i t l e =
    (if 30 < ((ss.getD i []).getD 0 0).toNat then (l, e)
    else if (ss.getD i []).getD 31 0 = 1 then scanS (ss.drop (i + 1)) (i + 1) (t ++ ((ss.getD i []).drop 1).take ((ss.getD i []).getD 0 0).toNat) l e
    else if (ss.getD i []).getD 31 0 = 2 then scanS (ss.drop (i + 1)) (i + 1) [] (l ++ [t ++ ((ss.getD i []).drop 1).take ((ss.getD i []).getD 0 0).toNat]) (i + 1)
    else (l, e)) := by
  have e1 : ss.drop i = ss.getD i [] :: ss.drop (i + 1) := by
    rw [List.drop_eq_getElem_cons h]; simp [h]
  rw [e1, scanS]

/-- A journal: its texts, the place behind the last one, whether the disk went down under it. -/
structure Jn where
  l : List Bs
  e : Nat
  down : Bool
def openJ (D : Dk) : Jn := ⟨(scanD D).1, (scanD D).2, false⟩
/-- Sectors written one behind the other: the disk, whether all were written. -/
def Dk.writes : Dk → Nat → List Bs → Dk × Bool
  | D, _, [] => (D, true)
  | D, i, p :: r => match D.write i p with
    | (D', true) => D'.writes (i + 1) r
    | (D', false) => (D', false)
/-- A commit: the journal, the disk, the answer (0: done; 6: full; 9: down). -/
def commitJ (J : Jn) (D : Dk) (s : Bs) : Jn × Dk × Nat :=
  if J.down = true then (J, D, 9)
  else if (D.secs.length : Int) - J.e < (piecesS s).length then (J, D, 6)
  else match D.writes J.e (piecesS s) with
    | (D', true) => (⟨J.l ++ [s], J.e + (piecesS s).length, false⟩, D', 0)
    | (D', false) => (⟨J.l, J.e, true⟩, D', 9)
end Go.Proofs.Ytimafngkifakfaa

/- The recursions with fuel, so that the kernel can count. -/
namespace Go.Proofs.Ytimafngkifakfaa
def decF : Nat → Nat → List UInt8
  | 0, n => []
  | f + 1, n => if n < 10 then [dgt n] else decF f (n / 10) ++ [dgt n]
theorem decF_eq : ∀ (f n : Nat), n < f → decN n = decF f n := by
  intro f
  induction f with
  | zero => intro n h; omega
  | succ f ih =>
    intro n h
    rw [decN, decF]
    split
    · rfl
    · rw [ih (n / 10) (by omega)]
def piecesF : Nat → Bs → List Bs
  | 0, _ => []
  | f + 1, s => if 30 < s.length then pieceS (s.take 30) 1 :: piecesF f (s.drop 30) else [pieceS s 2]
theorem piecesF_eq : ∀ (f : Nat) (s : Bs), s.length < f → piecesS s = piecesF f s := by
  intro f
  induction f with
  | zero => intro s h; omega
  | succ f ih =>
    intro s h
    rw [piecesS, piecesF]
    split
    · rw [ih _ (by rw [List.length_drop]; omega)]
    · rfl
def readF : Nat → Bs → Option (List Rw)
  | 0, _ => none
  | f + 1, s => if s = [] then some [] else match rowR s with
    | none => none
    | some (r, t) => match readF f t with
      | none => none
      | some l => some (r :: l)
theorem readF_eq : ∀ (f : Nat) (s : Bs), s.length < f → readR s = readF f s := by
  intro f
  induction f with
  | zero => intro s h; omega
  | succ f ih =>
    intro s h
    by_cases hs : s = []
    · subst hs; rw [readR_nil, readF, if_pos rfl]
    · rw [readF, if_neg hs]
      cases hr : rowR s with
      | none => rw [readR_none hs hr]
      | some q =>
        obtain ⟨r, t⟩ := q
        rw [readR_some hs hr, ih t (by have := rowR_lt hr; omega)]
        dsimp only
        cases readF f t <;> rfl
end Go.Proofs.Ytimafngkifakfaa

/- Decimals, read as the document's own answer reads them: plain laws. -/
namespace Go.Proofs.Ytimafngkifakfaa
def dn2 : Bs → Nat → Option Nat
  | [], n => some n
  | c :: r, n => if c.toNat < 48 ∨ 57 < c.toNat then none else if 1073741824 < 10 * n + (c.toNat - 48) then none else dn2 r (10 * n + (c.toNat - 48))
theorem dn2_step {s : Bs} {i : Nat} (h : i < s.length) (n : Nat) : dn2 (s.drop i) n = if (s.getD i 0).toNat < 48 ∨ 57 < (s.getD i 0).toNat then none else if 1073741824 < 10 * n + ((s.getD i 0).toNat - 48) then none else dn2 (s.drop (i + 1)) (10 * n + ((s.getD i 0).toNat - 48)) := by
  have e : s.drop i = s.getD i 0 :: s.drop (i + 1) := by
    rw [List.drop_eq_getElem_cons h]; simp [h]
  rw [e, dn2]
theorem dn_ge : ∀ (s : Bs) (n m : Nat), dn s n = some m → n ≤ m := by
  intro s
  induction s with
  | nil => intro n m h; simp [dn] at h; omega
  | cons c r ih =>
    intro n m h
    simp only [dn] at h
    split at h
    · cases h
    · have := ih _ _ h; omega
theorem dn2_dn : ∀ (s : Bs) (n m : Nat), n ≤ 1073741824 → (dn2 s n = some m ↔ dn s n = some m ∧ m ≤ 1073741824) := by
  intro s
  induction s with
  | nil => intro n m h; simp [dn, dn2]; omega
  | cons c r ih =>
    intro n m h
    simp only [dn, dn2]
    by_cases h1 : c.toNat < 48 ∨ 57 < c.toNat
    · rw [if_pos h1, if_pos (by omega)]; simp
    · rw [if_neg h1, if_neg (show ¬ (c.toNat < 48 ∨ 57 < c.toNat ∨ 1073741824 < n) by omega)]
      by_cases h2 : 1073741824 < 10 * n + (c.toNat - 48)
      · rw [if_pos h2]
        constructor
        · intro e; cases e
        · rintro ⟨e, e2⟩
          have := dn_ge _ _ _ e
          omega
      · rw [if_neg h2]
        exact ih _ _ (by omega)
theorem dn2_le {s : Bs} {n m : Nat} (hn : n ≤ 1073741824) (h : dn2 s n = some m) : m ≤ 1073741824 := ((dn2_dn s n m hn).1 h).2
theorem dgt_of {c : UInt8} {n : Nat} (h : ¬ (c.toNat < 48 ∨ 57 < c.toNat)) : dgt (10 * n + (c.toNat - 48)) = c := by
  apply UInt8.toNat_inj.1
  rw [dgt_toNat]; omega
theorem dn2_decN : ∀ (s : Bs) (n m : Nat), 0 < n → dn2 s n = some m → decN m = decN n ++ s := by
  intro s
  induction s with
  | nil => intro n m _ h; simp [dn2] at h; simp [h]
  | cons c r ih =>
    intro n m hn h
    simp only [dn2] at h
    split at h
    · cases h
    · rename_i h1
      split at h
      · cases h
      · rw [ih _ _ (by omega) h, decN_split (10 * n + (c.toNat - 48)), dgt_of h1]
        have e : (10 * n + (c.toNat - 48)) / 10 = n := by omega
        rw [e, preN, if_neg (by omega)]
        simp
theorem decN_head : ∀ n : Nat, 0 < n → (decN n).head? ≠ some 48 := by
  intro n
  induction n using Nat.strongRecOn with
  | _ n ih =>
    intro h
    rw [decN]
    split
    · intro e
      simp only [List.head?_cons, Option.some.injEq] at e
      have := congrArg UInt8.toNat e
      rw [dgt_toNat] at this
      simp at this; omega
    · have h2 := ih (n / 10) (by omega) (by omega)
      cases e : decN (n / 10) with
      | nil => rw [decN] at e; split at e <;> simp at e
      | cons c r => rw [e] at h2; exact h2
theorem decN_zero : decN 0 = [48] := by rw [decN]; rfl
/-- What the document's reading is. -/
def readDec2 (s : Bs) : Option Nat := match dn2 s 0 with
  | none => none
  | some n => if s.length = 0 ∨ (1 < s.length ∧ s.getD 0 0 = 48) then none else some n
theorem readDec_eq2 (s : Bs) : readDec s = readDec2 s := by
  unfold readDec readDec2
  cases s with
  | nil => simp [dn, dn2]
  | cons c r =>
    cases h2 : dn2 (c :: r) 0 with
    | none =>
      cases h1 : dn (c :: r) 0 with
      | none => rfl
      | some m =>
        dsimp only
        have hm : 1073741824 < m := by
          apply Classical.byContradiction
          intro hc
          rw [(dn2_dn (c :: r) 0 m (by omega)).2 ⟨h1, by omega⟩] at h2
          cases h2
        rw [if_pos]
        right
        rw [decP, if_neg (by omega)]
        intro e; cases e
    | some m =>
      obtain ⟨h1, hm⟩ := (dn2_dn (c :: r) 0 m (by omega)).1 h2
      rw [h1]
      dsimp only
      have key : decP m = c :: r ↔ ¬ (1 < (c :: r).length ∧ c = 48) := by
        rw [decP, if_pos hm]
        simp only [dn2] at h2
        split at h2
        · cases h2
        · rename_i hc
          split at h2
          · cases h2
          · by_cases h0 : c = 48
            · subst h0
              cases r with
              | nil =>
                simp only [dn2, Option.some.injEq] at h2
                subst h2
                simp only [List.length_cons, List.length_nil]
                constructor
                · intro _; omega
                · intro _; exact decN_zero
              | cons d r =>
                constructor
                · intro e
                  rcases Nat.eq_zero_or_pos m with hz | hp
                  · subst hz; rw [decN_zero] at e; cases e
                  · have := decN_head m hp
                    rw [e] at this
                    simp at this
                · intro e; exact absurd ⟨by simp, rfl⟩ e
            · have hpos : 0 < c.toNat - 48 := by
                have : c.toNat ≠ 48 := fun e => h0 (UInt8.toNat_inj.1 (by simpa using e))
                omega
              have := dn2_decN r _ m (by omega) h2
              rw [this]
              have e2 : decN (10 * 0 + (c.toNat - 48)) = [c] := by
                rw [decN, if_pos (by omega), dgt_of hc]
              rw [e2]
              constructor
              · intro _ ⟨_, e⟩; exact h0 e
              · intro _; rfl
      by_cases hk : 1 < (c :: r).length ∧ c = 48
      · rw [if_pos (.inr (fun e => key.1 e hk)), if_pos (.inr (by simpa using hk))]
      · rw [if_neg, if_neg]
        · rintro (e | e)
          · simp at e
          · exact hk (by simpa using e)
        · rintro (e | e)
          · cases e
          · exact e (key.2 hk)
theorem readDec_le {s : Bs} {n : Nat} (h : readDec s = some n) : n ≤ 1073741824 := by
  rw [readDec_eq2, readDec2] at h
  split at h
  · cases h
  · rename_i m hm
    split at h
    · cases h
    · simp only [Option.some.injEq] at h
      subst h
      exact dn2_le (by omega) hm
theorem readDec_decN {s : Bs} {n : Nat} (h : readDec s = some n) : decN n = s := by
  have hn := readDec_le h
  unfold readDec at h
  split at h
  · cases h
  · split at h
    · cases h
    · rename_i m _ hc
      simp only [Option.some.injEq] at h
      subst h
      have : decP m = s := Classical.byContradiction fun e => hc (.inr e)
      rw [decP, if_pos hn] at this
      exact this
theorem dn2_app : ∀ (s t : Bs) (n : Nat), dn2 (s ++ t) n = (dn2 s n).bind (dn2 t) := by
  intro s
  induction s with
  | nil => intro t n; simp [dn2]
  | cons c r ih =>
    intro t n
    simp only [List.cons_append, dn2]
    split
    · rfl
    · split
      · rfl
      · exact ih _ _
theorem dn2_of_decN : ∀ n : Nat, n ≤ 1073741824 → dn2 (decN n) 0 = some n := by
  intro n
  induction n using Nat.strongRecOn with
  | _ n ih =>
    intro h
    rw [decN]
    have h48 := dgt_toNat n
    split
    · rw [dn2, if_neg (by omega), if_neg (by omega), dn2]
      congr 1; omega
    · rw [dn2_app, ih (n / 10) (by omega) (by omega)]
      simp only [Option.bind_some]
      rw [dn2, if_neg (by omega), if_neg (by omega), dn2]
      congr 1; omega
theorem decN_ne (n : Nat) : decN n ≠ [] := by rw [decN]; split <;> simp
theorem readDec_of {n : Nat} (h : n ≤ 1073741824) : readDec (decN n) = some n := by
  have h2 := dn2_of_decN n h
  obtain ⟨h1, _⟩ := (dn2_dn (decN n) 0 n (by omega)).1 h2
  unfold readDec
  rw [h1]
  dsimp only
  rw [if_neg]
  rintro (e | e)
  · exact decN_ne n e
  · exact e (by rw [decP, if_pos h])
theorem decN_digit : ∀ (n : Nat), ∀ c ∈ decN n, 48 ≤ c.toNat ∧ c.toNat ≤ 57 := by
  intro n
  induction n using Nat.strongRecOn with
  | _ n ih =>
    intro c hc
    rw [decN] at hc
    split at hc
    · simp only [List.mem_singleton] at hc
      subst hc; rw [dgt_toNat]; omega
    · rcases List.mem_append.1 hc with hc | hc
      · exact ih (n / 10) (by omega) c hc
      · simp only [List.mem_singleton] at hc
        subst hc; rw [dgt_toNat]; omega
end Go.Proofs.Ytimafngkifakfaa

/- Rows as texts: plain laws. -/
namespace Go.Proofs.Ytimafngkifakfaa
/-- A row that may be. -/
structure Rw.Ok (r : Rw) : Prop where
  k1 : 1 ≤ r.key.length
  k2 : r.key.length ≤ 60
  v : r.val.length ≤ 1073741824
  g : r.gone = true → r.val = []
theorem numR_dec {n : Nat} (h : n ≤ 1073741824) (r : Bs) : numR (decN n ++ 32 :: r) = (n, r, true) := by
  have hf : (decN n ++ 32 :: r).findIdx? (· == 32) = some (decN n).length := by
    rw [List.findIdx?_eq_some_iff_getElem]
    refine ⟨by simp, by simp, fun j hj => ?_⟩
    rw [List.getElem_append_left hj]
    have := decN_digit n _ (List.getElem_mem hj)
    intro e
    rw [beq_iff_eq] at e
    rw [e] at this
    simp at this
  rw [numR, hf]
  dsimp only
  rw [List.take_left, readDec_of h]
  dsimp only
  have e : (decN n).length + 1 = (decN n ++ [32]).length := by simp
  rw [e, show decN n ++ 32 :: r = (decN n ++ [32]) ++ r by simp, List.drop_left]
theorem numR_canon {s r : Bs} {n : Nat} (h : numR s = (n, r, true)) : s = decN n ++ 32 :: r ∧ n ≤ 1073741824 := by
  rw [numR] at h
  split at h
  · cases h
  · rename_i i hi
    obtain ⟨hlt, h32, _⟩ := List.findIdx?_eq_some_iff_getElem.1 hi
    split at h
    · cases h
    · rename_i m hm
      simp only [Prod.mk.injEq, and_true] at h
      obtain ⟨rfl, rfl⟩ := h
      refine ⟨?_, readDec_le hm⟩
      rw [readDec_decN hm]
      have e : s[i] = 32 := by simpa using h32
      have : s = s.take i ++ (s[i] :: s.drop (i + 1)) := by rw [← List.drop_eq_getElem_cons hlt, List.take_append_drop]
      rw [e] at this
      exact this
theorem decN_dash (n : Nat) (r : Bs) : ¬ (decN n ++ r).take 1 = [45] := by
  cases e : decN n with
  | nil => exact absurd e (decN_ne n)
  | cons c l =>
    have := decN_digit n c (by rw [e]; simp)
    simp only [List.cons_append, List.take_succ_cons, List.take_zero, List.cons.injEq, and_true]
    intro x; rw [x] at this; simp at this
theorem rowR_text {r : Rw} (h : r.Ok) (t : Bs) : rowR (rowText r ++ t) = some (r, t) := by
  obtain ⟨k, v, g⟩ := r
  obtain ⟨h1, h2, h3, h4⟩ := h
  dsimp only at h1 h2 h3 h4
  cases g with
  | true =>
    have hv := h4 rfl
    subst hv
    have e : rowText ⟨k, [], true⟩ ++ t = decN k.length ++ 32 :: (45 :: (k ++ t)) := by simp [rowText]
    rw [e, rowR, numR_dec (by omega)]
    dsimp only
    rw [if_neg (by omega), if_pos (by simp)]
    simp
  | false =>
    have e : rowText ⟨k, v, false⟩ ++ t = decN k.length ++ 32 :: (decN v.length ++ 32 :: (k ++ (v ++ t))) := by simp [rowText]
    rw [e, rowR, numR_dec (by omega)]
    dsimp only
    rw [if_neg (by omega), if_neg (decN_dash _ _), numR_dec h3]
    dsimp only
    rw [if_neg (by simp)]
    simp [List.drop_append]
theorem rowR_canon {s t : Bs} {r : Rw} (h : rowR s = some (r, t)) : s = rowText r ++ t ∧ r.Ok := by
  rw [rowR] at h
  split at h
  · cases h
  · rename_i k s1 e1
    obtain ⟨c1, c2⟩ := numR_canon e1
    split at h
    · cases h
    · rename_i hk
      split at h
      · rename_i hd
        split at h
        · cases h
        · rename_i hl
          simp only [Option.some.injEq, Prod.mk.injEq] at h
          obtain ⟨rfl, rfl⟩ := h
          have hs1 : s1 = 45 :: s1.drop 1 := by
            cases s1 with
            | nil => simp at hd
            | cons c s1 => simp at hd; simp [hd]
          have hkl : ((s1.drop 1).take k).length = k := by rw [List.length_take]; omega
          refine ⟨?_, ⟨by dsimp only; omega, by dsimp only; omega, by simp, fun _ => rfl⟩⟩
          rw [c1]
          simp only [rowText, hkl, if_true]
          conv => lhs; rw [hs1]
          simp only [List.append_assoc, List.singleton_append, List.cons_append, List.nil_append, List.take_append_drop]
      · split at h
        · cases h
        · rename_i v s2 e2
          obtain ⟨c3, c4⟩ := numR_canon e2
          split at h
          · cases h
          · rename_i hl
            simp only [Option.some.injEq, Prod.mk.injEq] at h
            obtain ⟨rfl, rfl⟩ := h
            have hkl : (s2.take k).length = k := by rw [List.length_take]; omega
            have hvl : ((s2.drop k).take v).length = v := by rw [List.length_take, List.length_drop]; omega
            refine ⟨?_, ⟨by dsimp only; omega, by dsimp only; omega, by dsimp only; omega, fun e => by cases e⟩⟩
            rw [c1, c3]
            simp only [rowText, hkl, hvl, Bool.false_eq_true, if_false]
            have : s2 = s2.take k ++ ((s2.drop k).take v ++ s2.drop (k + v)) := by
              rw [← List.drop_drop, List.take_append_drop, List.take_append_drop]
            conv => lhs; rw [this]
            simp
theorem rowText_ne (r : Rw) : rowText r ≠ [] := by
  unfold rowText
  have := decN_ne r.key.length
  simp
theorem readR_textOf : ∀ (l : List Rw), (∀ r ∈ l, r.Ok) → readR (textOf l) = some l := by
  intro l
  induction l with
  | nil => intro _; exact readR_nil
  | cons r l ih =>
    intro h
    have e : textOf (r :: l) = rowText r ++ textOf l := by simp [textOf]
    rw [e, readR_some (by simp [rowText_ne r]) (rowR_text (h r (by simp)) _), ih (fun q hq => h q (by simp [hq]))]
    rfl
theorem readR_canon : ∀ (n : Nat) (s : Bs) (l : List Rw), s.length ≤ n → readR s = some l → textOf l = s ∧ ∀ r ∈ l, r.Ok := by
  intro n
  induction n with
  | zero =>
    intro s l h e
    have : s = [] := List.eq_nil_of_length_eq_zero (by omega)
    subst this
    rw [readR_nil] at e
    simp only [Option.some.injEq] at e; subst e
    exact ⟨rfl, by simp⟩
  | succ n ih =>
    intro s l h e
    by_cases hs : s = []
    · subst hs
      rw [readR_nil] at e
      simp only [Option.some.injEq] at e; subst e
      exact ⟨rfl, by simp⟩
    · cases hr : rowR s with
      | none => rw [readR_none hs hr] at e; cases e
      | some q =>
        obtain ⟨r, t⟩ := q
        rw [readR_some hs hr] at e
        obtain ⟨c, ok⟩ := rowR_canon hr
        have hlt := rowR_lt hr
        cases ht : readR t with
        | none => rw [ht] at e; simp at e
        | some m =>
          rw [ht] at e
          simp only [Option.map_some, Option.some.injEq] at e
          subst e
          obtain ⟨h1, h2⟩ := ih t m (by omega) ht
          refine ⟨?_, ?_⟩
          · rw [c, ← h1]; simp [textOf]
          · intro q hq
            rcases List.mem_cons.1 hq with rfl | hq
            · exact ok
            · exact h2 q hq
theorem textOf_inj {l m : List Rw} (hl : ∀ r ∈ l, r.Ok) (hm : ∀ r ∈ m, r.Ok) : textOf l = textOf m ↔ l = m := by
  constructor
  · intro e
    have := readR_textOf l hl
    rw [e, readR_textOf m hm] at this
    exact (Option.some.inj this).symm
  · intro e; rw [e]
theorem rowText_len (r : Rw) : r.key.length + r.val.length ≤ (rowText r).length ∨ r.gone = true := by
  cases h : r.gone with
  | true => right; rfl
  | false => left; simp [rowText, h]; omega
theorem textOf_mem {l : List Rw} {r : Rw} (h : r ∈ l) : (rowText r).length ≤ (textOf l).length := by
  induction l with
  | nil => simp at h
  | cons q l ih =>
    have e : textOf (q :: l) = rowText q ++ textOf l := by simp [textOf]
    rw [e, List.length_append]
    rcases List.mem_cons.1 h with rfl | h
    · omega
    · have := ih h; omega
theorem textOf_count (l : List Rw) : l.length ≤ (textOf l).length := by
  induction l with
  | nil => simp
  | cons q l ih =>
    have e : textOf (q :: l) = rowText q ++ textOf l := by simp [textOf]
    have := List.length_pos_iff.2 (rowText_ne q)
    rw [e, List.length_append, List.length_cons]; omega
end Go.Proofs.Ytimafngkifakfaa

/- Journals over disks that nothing tears: plain laws. -/
namespace Go.Proofs.Ytimafngkifakfaa
structure Calm (D : Dk) (n : Nat) (left : Int) : Prop where
  armed : D.armed = false
  down : D.down = false
  len : D.secs.length = n
  left : D.left = left
theorem write_calm {D : Dk} {n : Nat} {f : Int} (c : Calm D n f) {i : Nat} (h : i < n) {s : Bs} (hs : s.length ≤ 32) : ∃ D', D.write i s = (D', true) ∧ Calm D' n (f - 1) := by
  refine ⟨{ D with secs := D.secs.set i (wholeS s), left := D.left - 1 }, ?_, ⟨c.armed, c.down, by simp [c.len], by simp [c.left]⟩⟩
  have h1 : ¬ (D.down = true ∨ (i : Int) < 0 ∨ (D.secs.length : Int) ≤ i ∨ 32 < s.length) := by
    rw [c.down, c.len]; simp; omega
  have h2 : ¬ (D.armed = true ∧ D.left = 0) := by rw [c.armed]; simp
  rw [Dk.write, if_neg h1, if_neg h2]
  simp
theorem writes_calm : ∀ (ps : List Bs) {D : Dk} {n : Nat} {f : Int} (c : Calm D n f) {i : Nat} (h : i + ps.length ≤ n) (hs : ∀ p ∈ ps, p.length ≤ 32), ∃ D', D.writes i ps = (D', true) ∧ Calm D' n (f - ps.length) := by
  intro ps
  induction ps with
  | nil => intro D n f c i h hs; exact ⟨D, rfl, by simpa using c⟩
  | cons p r ih =>
    intro D n f c i h hs
    simp only [List.length_cons] at h
    obtain ⟨D1, e1, c1⟩ := write_calm c (i := i) (by omega) (hs p (by simp))
    obtain ⟨D2, e2, c2⟩ := ih c1 (i := i + 1) (by omega) (fun q hq => hs q (by simp [hq]))
    refine ⟨D2, ?_, ?_⟩
    · rw [Dk.writes, e1]; exact e2
    · have e : f - 1 - (r.length : Int) = f - ((p :: r).length : Int) := by simp only [List.length_cons]; omega
      rw [← e]; exact c2
theorem piecesS_bound (s : Bs) : 30 * (piecesS s).length ≤ s.length + 30 := by
  induction h : s.length using Nat.strongRecOn generalizing s with
  | _ n ih =>
    by_cases hs : 30 < s.length
    · rw [piecesS_more hs]
      have := ih (s.drop 30).length (by simp; omega) (s.drop 30) rfl
      simp only [List.length_cons, List.length_drop] at *
      omega
    · rw [piecesS_last hs]; simp
theorem commit_calm {J : Jn} {D : Dk} {n : Nat} {f : Int} (c : Calm D n f) (hd : J.down = false) {s : Bs} (h : J.e + (piecesS s).length ≤ n) :
    ∃ D', commitJ J D s = (⟨J.l ++ [s], J.e + (piecesS s).length, false⟩, D', 0) ∧ Calm D' n (f - (piecesS s).length) := by
  obtain ⟨D', e, c'⟩ := writes_calm (piecesS s) c (i := J.e) h (fun p hp => by rw [piecesS_mem hp]; exact Nat.le_refl _)
  refine ⟨D', ?_, c'⟩
  rw [commitJ, if_neg (by rw [hd]; simp), if_neg (by rw [c.len]; omega), e]
theorem calm_newD {n : Nat} (h1 : 1 ≤ n) (h2 : n ≤ 2000) : Calm (newD n) n 0 := ⟨rfl, rfl, by simp [newD]; omega, rfl⟩
end Go.Proofs.Ytimafngkifakfaa

/- What a scan of a disk finds behind commits, torn or not: plain laws. -/
namespace Go.Proofs.Ytimafngkifakfaa
abbrev mkb (s : Bs) : UInt8 := s.getD 31 0
theorem scan_beyond : ∀ (ss : List Bs) (i : Nat) (t : Bs) (l : List Bs) (e : Nat), (∀ s ∈ ss, mkb s ≠ 2) → scanS ss i t l e = (l, e) := by
  intro ss
  induction ss with
  | nil => intros; rfl
  | cons x r ih =>
    intro i t l e h
    simp only [scanS]
    split
    · rfl
    · split
      · exact ih _ _ _ _ (fun s hs => h s (by simp [hs]))
      · rw [if_neg (h x (by simp))]
theorem piece_head {s : Bs} (h : s.length ≤ 30) (m : UInt8) : ((pieceS s m).getD 0 0).toNat = s.length := by
  simp [pieceS]; omega
theorem piece_mk {s : Bs} (h : s.length ≤ 30) (m : UInt8) : mkb (pieceS s m) = m := by
  have hl : ([UInt8.ofNat s.length] ++ s ++ zeros (30 - s.length)).length = 31 := by simp [zeros]; omega
  have e : pieceS s m = ([UInt8.ofNat s.length] ++ s ++ zeros (30 - s.length)) ++ [m] := by simp [pieceS]
  rw [mkb, e, List.getD_eq_getElem?_getD, List.getElem?_append_right (by omega), hl]
  rfl
theorem piece_body {s : Bs} (h : s.length ≤ 30) (m : UInt8) : ((pieceS s m).drop 1).take s.length = s := by
  have e : (pieceS s m).drop 1 = s ++ (zeros (30 - s.length) ++ [m]) := by simp [pieceS]
  rw [e, List.take_left]
theorem scan_pieces : ∀ (n : Nat) (s : Bs), s.length ≤ n → ∀ (rest : List Bs) (i : Nat) (t : Bs) (l : List Bs) (e : Nat), scanS (piecesS s ++ rest) i t l e = scanS rest (i + (piecesS s).length) [] (l ++ [t ++ s]) (i + (piecesS s).length) := by
  intro n
  induction n using Nat.strongRecOn with
  | _ n ih =>
    intro s hn rest i t l e
    by_cases hs : 30 < s.length
    · rw [piecesS_more hs, List.cons_append, scanS]
      have hl : (s.take 30).length = 30 := by rw [List.length_take]; omega
      rw [piece_head (by omega), hl, if_neg (by omega), if_pos (piece_mk (by omega) 1)]
      have hb := piece_body (s := s.take 30) (by omega) 1
      rw [hl] at hb
      rw [hb, ih (s.drop 30).length (by rw [List.length_drop]; omega) (s.drop 30) (Nat.le_refl _)]
      simp only [List.length_cons, List.append_assoc, List.take_append_drop]
      have e1 : i + 1 + (piecesS (s.drop 30)).length = i + ((piecesS (s.drop 30)).length + 1) := by omega
      rw [e1]
    · rw [piecesS_last hs, List.singleton_append, scanS]
      have h2 : (pieceS s 2).getD 31 0 = 2 := piece_mk (by omega) 2
      rw [piece_head (by omega), if_neg (by omega), h2, if_neg (by decide), if_pos rfl, piece_body (by omega)]
      simp
/-- A disk whose scan ends at e, with nothing behind it that could end a transaction. -/
structure Scd (ss : List Bs) (l : List Bs) (e : Nat) : Prop where
  le : e ≤ ss.length
  pre : ∀ rest, scanS (ss.take e ++ rest) 0 [] [] 0 = scanS rest e [] l e
  mks : ∀ s ∈ ss.drop e, mkb s ≠ 2
theorem Scd.scan {ss l : List Bs} {e : Nat} (h : Scd ss l e) : scanS ss 0 [] [] 0 = (l, e) := by
  have := h.pre (ss.drop e)
  rw [List.take_append_drop] at this
  rw [this]; exact scan_beyond _ _ _ _ _ h.mks
theorem scd_new (n : Nat) : Scd (List.replicate n (wholeS [])) [] 0 := ⟨Nat.zero_le _, fun _ => rfl, fun s hs => by
  simp only [List.drop_zero, List.mem_replicate] at hs
  rw [hs.2]; decide⟩
theorem Scd.done {ss l : List Bs} {e : Nat} (h : Scd ss l e) {s : Bs} {rest : List Bs} (hr : ∀ x ∈ rest, mkb x ≠ 2) : Scd (ss.take e ++ (piecesS s ++ rest)) (l ++ [s]) (e + (piecesS s).length) := by
  have hl : (ss.take e).length = e := by rw [List.length_take]; have := h.le; omega
  have ht : (ss.take e ++ (piecesS s ++ rest)).take (e + (piecesS s).length) = ss.take e ++ piecesS s := by
    rw [← List.append_assoc, List.take_left' (by simp [hl])]
  refine ⟨by simp [hl]; try omega, fun r2 => ?_, ?_⟩
  · rw [ht, List.append_assoc, h.pre, scan_pieces s.length s (Nat.le_refl _), List.nil_append]
  · rw [← List.append_assoc, List.drop_left' (by simp [hl])]; exact hr
theorem Scd.torn {ss l : List Bs} {e : Nat} (h : Scd ss l e) {rest : List Bs} (hr : ∀ x ∈ rest, mkb x ≠ 2) : Scd (ss.take e ++ rest) l e := by
  have hl : (ss.take e).length = e := by rw [List.length_take]; have := h.le; omega
  refine ⟨by simp [hl], fun r2 => ?_, ?_⟩
  · rw [List.take_left' hl]; exact h.pre r2
  · rw [List.drop_left' hl]; exact hr
theorem wholeS_piece {p : Bs} (h : p.length = 32) : wholeS p = p := by simp [wholeS, zeros, h]
theorem mk_torn {p old : Bs} {k : Nat} (hp : p.length = 32) (hk : k ≤ 32) : mkb (p.take k ++ old.drop k) = if k = 32 then mkb p else mkb old := by
  by_cases h : k = 32
  · subst h
    rw [if_pos rfl]
    simp only [mkb, List.getD_eq_getElem?_getD]
    rw [List.getElem?_append_left (by rw [List.length_take]; omega), List.getElem?_take_of_lt (by omega)]
  · rw [if_neg h]
    simp only [mkb, List.getD_eq_getElem?_getD]
    have hl : (p.take k).length = k := by rw [List.length_take]; omega
    rw [List.getElem?_append_right (by omega), hl, List.getElem?_drop]
    congr 2; omega
theorem piecesS_marks (s : Bs) : ∀ (m : Nat) (p : Bs), (piecesS s)[m]? = some p → mkb p = if m + 1 = (piecesS s).length then 2 else 1 := by
  induction h : s.length using Nat.strongRecOn generalizing s with
  | _ n ih =>
    intro m p hp
    by_cases hs : 30 < s.length
    · rw [piecesS_more hs] at hp ⊢
      cases m with
      | zero =>
        simp only [List.getElem?_cons_zero, Option.some.injEq] at hp
        subst hp
        have := (piecesS_len (s.drop 30)).1
        rw [piece_mk (by rw [List.length_take]; omega), if_neg (by simp only [List.length_cons]; omega)]
      | succ m =>
        simp only [List.getElem?_cons_succ] at hp
        rw [ih (s.drop 30).length (by rw [List.length_drop]; omega) (s.drop 30) rfl m p hp]
        simp only [List.length_cons, Nat.add_right_cancel_iff]
    · rw [piecesS_last hs] at hp ⊢
      cases m with
      | zero =>
        simp only [List.getElem?_cons_zero, Option.some.injEq] at hp
        subst hp
        rw [piece_mk (by omega)]; rfl
      | succ m => simp at hp
/-- What writing some sectors leaves. -/
theorem writes_shape : ∀ (ps : List Bs) (D : Dk) (i : Nat) (D' : Dk) (ok : Bool), D.writes i ps = (D', ok) → D.down = false → D.keep ≤ 32 → (∀ p ∈ ps, p.length = 32) → i + ps.length ≤ D.secs.length →
    (ok = true ∧ D'.secs = D.secs.take i ++ (ps ++ D.secs.drop (i + ps.length)) ∧ D'.down = false) ∨
    (ok = false ∧ D'.down = true ∧ ∃ m p, ps[m]? = some p ∧ D'.secs = D.secs.take i ++ (ps.take m ++ (p.take D.keep ++ (D.secs.getD (i + m) []).drop D.keep) :: D.secs.drop (i + m + 1))) := by
  intro ps
  induction ps with
  | nil =>
    intro D i D' ok h hd _ _ hle
    simp only [Dk.writes, Prod.mk.injEq] at h
    obtain ⟨rfl, rfl⟩ := h
    exact .inl ⟨rfl, by simp, hd⟩
  | cons p r ih =>
    intro D i D' ok h hd hk hp hle
    simp only [List.length_cons] at hle
    have hpl := hp p (by simp)
    have h1 : ¬ (D.down = true ∨ (i : Int) < 0 ∨ (D.secs.length : Int) ≤ i ∨ 32 < p.length) := by rw [hd]; simp; omega
    have hset : ∀ x : Bs, D.secs.set i x = D.secs.take i ++ x :: D.secs.drop (i + 1) := fun x => List.set_eq_take_append_cons_drop.trans (by rw [if_pos (by omega)])
    rw [Dk.writes] at h
    by_cases ht : D.armed = true ∧ D.left = 0
    · rw [Dk.write, if_neg h1, if_pos ht] at h
      simp only [Prod.mk.injEq] at h
      obtain ⟨rfl, rfl⟩ := h
      refine .inr ⟨rfl, rfl, 0, p, rfl, ?_⟩
      simp only [Int.toNat_natCast, hset, wholeS_piece hpl, List.take_zero, List.nil_append, Nat.add_zero]
    · rw [Dk.write, if_neg h1, if_neg ht] at h
      simp only [Int.toNat_natCast, wholeS_piece hpl] at h
      have hlen : (D.secs.set i p).length = D.secs.length := by simp
      have hti : (D.secs.set i p).take (i + 1) = D.secs.take i ++ [p] := by
        rw [hset, List.take_append]
        have hl : (D.secs.take i).length = i := by rw [List.length_take]; omega
        rw [hl, List.take_of_length_le (by omega)]
        simp
      have hdi : ∀ j, (D.secs.set i p).drop (i + 1 + j) = D.secs.drop (i + 1 + j) := fun j => by
        rw [hset, List.drop_append]
        have hl : (D.secs.take i).length = i := by rw [List.length_take]; omega
        rw [hl, List.drop_eq_nil_of_le (by omega), List.nil_append]
        have e : i + 1 + j - i = j + 1 := by omega
        rw [e, List.drop_succ_cons, List.drop_drop]
      rcases ih _ (i + 1) D' ok h hd hk (fun q hq => hp q (by simp [hq])) (by dsimp only; omega) with ⟨h2, h3, h4⟩ | ⟨h2, h3, m, q, h4, h5⟩
      · refine .inl ⟨h2, ?_, h4⟩
        dsimp only at h3
        rw [h3, hti, hdi]
        have e : i + 1 + r.length = i + (p :: r).length := by simp only [List.length_cons]; omega
        rw [e]; simp
      · refine .inr ⟨h2, h3, m + 1, q, h4, ?_⟩
        dsimp only at h5
        rw [h5, hti]
        have e1 : (D.secs.set i p).getD (i + 1 + m) [] = D.secs.getD (i + (m + 1)) [] := by
          simp only [List.getD_eq_getElem?_getD]
          rw [List.getElem?_set_ne (by omega)]
          congr 2; omega
        have e2 : (D.secs.set i p).drop (i + 1 + m + 1) = D.secs.drop (i + (m + 1) + 1) := by
          have := hdi (m + 1)
          rw [← Nat.add_assoc] at this
          rw [this]; congr 1; omega
        rw [e1, e2]
        simp
/-- A commit, torn or not. -/
theorem commit_scan {D : Dk} {J : Jn} (h : Scd D.secs J.l J.e) (hj : J.down = false) (hd : D.down = false) (hk : D.keep ≤ 32) (hw32 : ∀ x ∈ D.secs, x.length = 32) (s : Bs) :
    ((commitJ J D s).2.2 = 0 ∧ (commitJ J D s).1 = ⟨J.l ++ [s], J.e + (piecesS s).length, false⟩ ∧ Scd (commitJ J D s).2.1.secs (J.l ++ [s]) (J.e + (piecesS s).length) ∧ (commitJ J D s).2.1.down = false) ∨
    ((commitJ J D s).2.2 = 6 ∧ (commitJ J D s).1 = J ∧ (commitJ J D s).2.1 = D ∧ D.secs.length < J.e + (piecesS s).length) ∨
    ((commitJ J D s).2.2 = 9 ∧ (commitJ J D s).1 = ⟨J.l, J.e, true⟩ ∧ (commitJ J D s).2.1.down = true ∧ (Scd (commitJ J D s).2.1.secs J.l J.e ∨ Scd (commitJ J D s).2.1.secs (J.l ++ [s]) (J.e + (piecesS s).length))) := by
  rw [commitJ, if_neg (by rw [hj]; simp)]
  have hle := h.le
  by_cases hf : (D.secs.length : Int) - J.e < (piecesS s).length
  · rw [if_pos hf]
    exact .inr (.inl ⟨rfl, rfl, rfl, by omega⟩)
  · rw [if_neg hf]
    cases hw : D.writes J.e (piecesS s) with
    | mk D' ok =>
      rcases writes_shape (piecesS s) D J.e D' ok hw hd hk (fun p hp => piecesS_mem hp) (by omega) with ⟨rfl, h3, h4⟩ | ⟨rfl, h3, m, p, h4, h5⟩
      · refine .inl ⟨rfl, rfl, ?_, h4⟩
        dsimp only
        rw [h3]
        exact h.done (fun x hx => h.mks x (by
          rw [← List.drop_drop] at hx
          exact List.mem_of_mem_drop hx))
      · refine .inr (.inr ⟨rfl, rfl, h3, ?_⟩)
        dsimp only
        have hm := (List.getElem?_eq_some_iff.1 h4).1
        have hpl := piecesS_mem (List.mem_of_getElem? h4)
        have hmk := piecesS_marks s m p h4
        have hold : mkb (D.secs.getD (J.e + m) []) ≠ 2 := by
          apply h.mks
          have hlt : J.e + m < D.secs.length := by omega
          have : D.secs.getD (J.e + m) [] = (D.secs.drop J.e)[m]'(by rw [List.length_drop]; omega) := by simp [hlt]
          rw [this]; exact List.getElem_mem _
        have hrest : ∀ x ∈ D.secs.drop (J.e + m + 1), mkb x ≠ 2 := fun x hx => h.mks x (by
          rw [Nat.add_assoc, ← List.drop_drop] at hx
          exact List.mem_of_mem_drop hx)
        have htk : ∀ x ∈ (piecesS s).take m, mkb x ≠ 2 := by
          intro x hx
          obtain ⟨j, hj2, rfl⟩ := List.getElem_of_mem hx
          rw [List.length_take] at hj2
          rw [List.getElem_take]
          have := piecesS_marks s j _ (List.getElem?_eq_getElem (by omega))
          rw [this, if_neg (by omega)]; decide
        by_cases hc : D.keep = 32 ∧ m + 1 = (piecesS s).length
        · right
          have e1 : p.take D.keep ++ (D.secs.getD (J.e + m) []).drop D.keep = p ++ (D.secs.getD (J.e + m) []).drop 32 := by rw [hc.1, List.take_of_length_le (by omega)]
          have hget : (piecesS s)[m] = p := (List.getElem?_eq_some_iff.1 h4).2
          have hps : (piecesS s) = (piecesS s).take m ++ [p] := by
            have := List.take_succ_eq_append_getElem hm
            rw [List.take_of_length_le (by omega), hget] at this
            exact this
          have hlt : J.e + m < D.secs.length := by omega
          have ho : (D.secs.getD (J.e + m) []).drop 32 = [] := by
            apply List.drop_eq_nil_of_le
            have : D.secs.getD (J.e + m) [] = D.secs[J.e + m] := by simp [hlt]
            rw [this, hw32 _ (List.getElem_mem _)]
            exact Nat.le_refl _
          rw [ho, List.append_nil] at e1
          rw [h5, e1]
          have e2 : (piecesS s).take m ++ p :: D.secs.drop (J.e + m + 1) = piecesS s ++ D.secs.drop (J.e + m + 1) := by
            conv => rhs; rw [hps]
            simp
          rw [e2]
          exact h.done hrest
        · left
          rw [h5]
          refine h.torn (fun x hx => ?_)
          rcases List.mem_append.1 hx with hx | hx
          · exact htk x hx
          · rcases List.mem_cons.1 hx with rfl | hx
            · rw [mk_torn hpl hk]
              split
              · rename_i h32
                rw [hmk, if_neg (fun e => hc ⟨h32, e⟩)]; decide
              · exact hold
            · exact hrest x hx
end Go.Proofs.Ytimafngkifakfaa
