/- Chapters 5, 6: disks and journals, as functions. -/
import Derived.Test.YtimafngkifakfaaMStore
set_option linter.unusedVariables false
set_option linter.unusedSimpArgs false
namespace Go.Proofs.Ytimafngkifakfaa
def zeros (n : Nat) : Bs := List.replicate n 0
def wholeS (s : Bs) : Bs := s ++ zeros (32 - s.length)
/-- A disk: its sectors, whether it is armed, how many writes go well yet, how much of the one that is torn is kept, whether it is down. -/
structure Dk where
  secs : List Bs
  armed : Bool
  left : Int
  keep : Nat
  down : Bool
structure Dk.Ok (D : Dk) : Prop where
  secs : ∀ s ∈ D.secs, s.length = 32
  keep : D.keep ≤ 32
  many : D.secs.length ≤ 2000
def newD (n : Int) : Dk := ⟨List.replicate (max 1 (min n 2000)).toNat (wholeS []), false, 0, 0, false⟩
def Dk.write (D : Dk) (i : Int) (s : Bs) : Dk × Bool :=
  if D.down = true ∨ i < 0 ∨ (D.secs.length : Int) ≤ i ∨ 32 < s.length then (D, false)
  else if D.armed = true ∧ D.left = 0 then
    ({ D with secs := D.secs.set i.toNat ((wholeS s).take D.keep ++ (D.secs.getD i.toNat []).drop D.keep), down := true, armed := false }, false)
  else ({ D with secs := D.secs.set i.toNat (wholeS s), left := D.left - 1 }, true)
def Dk.arm (D : Dk) (w k : Int) : Dk := { D with armed := true, left := max w 0, keep := (max 0 (min k 32)).toNat }
def Dk.revive (D : Dk) : Dk := { D with down := false }
theorem wholeS_len {s : Bs} (h : s.length ≤ 32) : (wholeS s).length = 32 := by simp [wholeS, zeros]; omega

/-- A transaction's sectors. -/
def pieceS (s : Bs) (mark : UInt8) : Bs := [UInt8.ofNat s.length] ++ s ++ zeros (30 - s.length) ++ [mark]
def piecesS (s : Bs) : List Bs := if 30 < s.length then pieceS (s.take 30) 1 :: piecesS (s.drop 30) else [pieceS s 2]
termination_by s.length
decreasing_by simp; omega
/-- What an opened journal holds: its texts, the place behind the last one; on the way the text that is under way. -/
def scanS : List Bs → Nat → Bs → List Bs → Nat → List Bs × Nat
  | [], _, _, l, e => (l, e)
  | s :: r, i, t, l, e =>
    if 30 < (s.getD 0 0).toNat then (l, e)
    else if s.getD 31 0 = 1 then scanS r (i + 1) (t ++ (s.drop 1).take (s.getD 0 0).toNat) l e
    else if s.getD 31 0 = 2 then scanS r (i + 1) [] (l ++ [t ++ (s.drop 1).take (s.getD 0 0).toNat]) (i + 1)
    else (l, e)
theorem piecesS_more {s : Bs} (h : 30 < s.length) : piecesS s = pieceS (s.take 30) 1 :: piecesS (s.drop 30) := by rw [piecesS, if_pos h]
theorem piecesS_last {s : Bs} (h : ¬ 30 < s.length) : piecesS s = [pieceS s 2] := by rw [piecesS, if_neg h]
theorem piecesS_len (s : Bs) : 0 < (piecesS s).length ∧ (piecesS s).length ≤ s.length + 1 := by
  induction h : s.length using Nat.strongRecOn generalizing s with
  | _ n ih =>
    by_cases hs : 30 < s.length
    · rw [piecesS_more hs]
      have := ih (s.drop 30).length (by simp; omega) (s.drop 30) rfl
      simp only [List.length_cons, List.length_drop] at *
      omega
    · rw [piecesS_last hs]; simp
theorem pieceS_len {s : Bs} (h : s.length ≤ 30) (m : UInt8) : (pieceS s m).length = 32 := by simp [pieceS, zeros]; omega
theorem piecesS_mem {s p : Bs} (hp : p ∈ piecesS s) : p.length = 32 := by
  induction h : s.length using Nat.strongRecOn generalizing s with
  | _ n ih =>
    by_cases hs : 30 < s.length
    · rw [piecesS_more hs] at hp
      rcases List.mem_cons.1 hp with rfl | hp
      · exact pieceS_len (by simp; omega) _
      · exact ih (s.drop 30).length (by simp; omega) hp rfl
    · rw [piecesS_last hs] at hp
      simp at hp; subst hp
      exact pieceS_len (by omega) _

def scanD (D : Dk) : List Bs × Nat := scanS D.secs 0 [] [] 0
theorem scanS_len : ∀ (ss : List Bs) (i : Nat) (t : Bs) (l : List Bs) (e N : Nat), t.length + 30 * ss.length ≤ N → (∀ s ∈ l, s.length ≤ N) → ∀ s ∈ (scanS ss i t l e).1, s.length ≤ N := by
  intro ss
  induction ss with
  | nil => intro i t l e N h hl s hs; exact hl s hs
  | cons x r ih =>
    intro i t l e N h hl s hs
    simp only [List.length_cons] at h
    simp only [scanS] at hs
    split at hs
    · exact hl s hs
    · have hx : ((x.drop 1).take (x.getD 0 0).toNat).length ≤ 30 := by rw [List.length_take]; omega
      split at hs
      · exact ih _ _ _ _ N (by rw [List.length_append]; omega) hl s hs
      · split at hs
        · refine ih _ _ _ _ N (by rw [List.length_nil]; omega) (fun u hu => ?_) s hs
          rcases List.mem_append.1 hu with hu | hu
          · exact hl u hu
          · simp only [List.mem_singleton] at hu
            subst hu; rw [List.length_append]; omega
        · exact hl s hs
theorem scanS_end : ∀ (ss : List Bs) (i : Nat) (t : Bs) (l : List Bs) (e : Nat), l.length ≤ e → e ≤ i → (scanS ss i t l e).1.length ≤ (scanS ss i t l e).2 ∧ (scanS ss i t l e).2 ≤ i + ss.length := by
  intro ss
  induction ss with
  | nil => intro i t l e h1 h2; simp only [scanS, List.length_nil]; omega
  | cons x r ih =>
    intro i t l e h1 h2
    simp only [scanS, List.length_cons]
    split
    · dsimp only; omega
    · split
      · have := ih (i + 1) (t ++ (x.drop 1).take (x.getD 0 0).toNat) l e h1 (by omega); omega
      · split
        · have := ih (i + 1) [] (l ++ [t ++ (x.drop 1).take (x.getD 0 0).toNat]) (i + 1) (by rw [List.length_append, List.length_singleton]; omega) (Nat.le_refl _); omega
        · dsimp only; omega
theorem scanS_step {ss : List Bs} {i : Nat} (h : i < ss.length) (t : Bs) (l : List Bs) (e : Nat) : scanS (ss.drop i) i t l e =
    (if 30 < ((ss.getD i []).getD 0 0).toNat then (l, e)
    else if (ss.getD i []).getD 31 0 = 1 then scanS (ss.drop (i + 1)) (i + 1) (t ++ ((ss.getD i []).drop 1).take ((ss.getD i []).getD 0 0).toNat) l e
    else if (ss.getD i []).getD 31 0 = 2 then scanS (ss.drop (i + 1)) (i + 1) [] (l ++ [t ++ ((ss.getD i []).drop 1).take ((ss.getD i []).getD 0 0).toNat]) (i + 1)
    else (l, e)) := by
  have e1 : ss.drop i = ss.getD i [] :: ss.drop (i + 1) := by
    rw [List.drop_eq_getElem_cons h]; simp [h]
  rw [e1, scanS]

/-- A journal: its texts, the place behind the last one, whether the disk went down under it. -/
structure Jn where
  l : List Bs
  e : Nat
  down : Bool
def openJ (D : Dk) : Jn := ⟨(scanD D).1, (scanD D).2, false⟩
/-- Sectors written one behind the other: the disk, whether all were written. -/
def Dk.writes : Dk → Nat → List Bs → Dk × Bool
  | D, _, [] => (D, true)
  | D, i, p :: r => match D.write i p with
    | (D', true) => D'.writes (i + 1) r
    | (D', false) => (D', false)
/-- A commit: the journal, the disk, the answer (0: done; 6: full; 9: down). -/
def commitJ (J : Jn) (D : Dk) (s : Bs) : Jn × Dk × Nat :=
  if J.down = true then (J, D, 9)
  else if (D.secs.length : Int) - J.e < (piecesS s).length then (J, D, 6)
  else match D.writes J.e (piecesS s) with
    | (D', true) => (⟨J.l ++ [s], J.e + (piecesS s).length, false⟩, D', 0)
    | (D', false) => (⟨J.l, J.e, true⟩, D', 9)
end Go.Proofs.Ytimafngkifakfaa
