/- Texts of this proof, put together: PFiles, P17R, P17C0. -/
import Derived.Test.YtdnoacgopfcpbaaGreatQ20
set_option linter.unusedVariables false
set_option linter.unusedSimpArgs false
namespace Go.Proofs.YtdnoacgopfcpbaaGreat
/-- A file laid into a row. -/
def putF (l : Fs) (f : Bs × Bs) : Fs :=
 l.take (l.countP fun x => decide (x.1 < f.1)) ++ (if f.2 = [] then [] else [f]) ++ (l.drop (l.countP fun x => decide (x.1 < f.1))).filter fun x => decide (x.1 ≠ f.1)
def mergeF (base own : Fs) : Fs := own.foldl putF base
noncomputable def ofF (H : Ks) (name : Bs) : Option Fs := match readK (getB H name) with
 | none => none
 | some c => if c.base = [] then some c.files else match readK (getB H c.base) with
   | none => none
   | some b => if b.base = [] then some (mergeF b.files c.files) else none
theorem putF_len (l : Fs) (f : Bs × Bs) : (putF l f).length ≤ l.length + 1 := by
 unfold putF
 have h1 := List.countP_le_length (p := fun x : Bs × Bs => decide (x.1 < f.1)) (l := l)
 have h2 := List.length_filter_le (fun x : Bs × Bs => decide (x.1 ≠ f.1)) (l.drop (l.countP fun x => decide (x.1 < f.1)))
 rw [List.length_drop] at h2
 rw [List.length_append, List.length_append, List.length_take]
 split <;> simp only [List.length_nil, List.length_singleton] <;> omega
theorem mergeF_len (own : Fs) : ∀ base : Fs, (mergeF base own).length ≤ base.length + own.length := by
 induction own with
 | nil => intro b; exact Nat.le_refl _
 | cons f own ih =>
   intro b
   have h1 := ih (putF b f)
   have h2 := putF_len b f
   unfold mergeF at *
   rw [List.foldl_cons, List.length_cons]
   omega
theorem ofF_len {H : Ks} {n : Bs} : ((ofF H n).getD []).length ≤ 24 := by
 unfold ofF
 cases e : readK (getB H n) with
 | none => exact Nat.zero_le _
 | some c =>
   have h1 := (readK_iff.1 e).1.files.len
   dsimp only
   split
   · simp only [Option.getD_some]; omega
   · cases e2 : readK (getB H c.base) with
     | none => exact Nat.zero_le _
     | some b =>
       have h2 := (readK_iff.1 e2).1.files.len
       dsimp only
       split
       · have := mergeF_len c.files b.files
         simp only [Option.getD_some]; omega
       · exact Nat.zero_le _
noncomputable def oldF (H : Ks) (c : Ck) (own : Option Fs) : Option Fs := if own.isSome = false then none else if firstB c = [] then some [] else ofF H (firstB c)
def wthC (n : Bs) (m : Ml) : Ml := ⟨n, m.name, m.old, m.new⟩
noncomputable def chgOf (H : Ks) (x : Bs × Ck) : List Ml := match oldF H x.2 (ofF H x.1) with
 | none => []
 | some old => (diffF old ((ofF H x.1).getD [])).map (wthC x.1)
noncomputable def chgF (H : Ks) (l : List (Bs × Ck)) : List Ml := l.flatMap (chgOf H)
theorem chgF_snoc (H : Ks) (l : List (Bs × Ck)) (x : Bs × Ck) : chgF H (l ++ [x]) = chgF H l ++ chgOf H x := by simp [chgF]
theorem oldF_len {H : Ks} {c : Ck} {own : Option Fs} : ((oldF H c own).getD []).length ≤ 24 := by
 unfold oldF
 split
 · exact Nat.zero_le _
 · split
   · exact Nat.zero_le _
   · exact ofF_len
theorem diffF_len (a b : Fs) : (diffF a b).length ≤ a.length + b.length := diffK_len _ _ _
theorem chgOf_len (H : Ks) (x : Bs × Ck) : (chgOf H x).length ≤ 48 := by
 unfold chgOf
 have h0 := oldF_len (H := H) (c := x.2) (own := ofF H x.1)
 cases e : oldF H x.2 (ofF H x.1) with
 | none => exact Nat.zero_le _
 | some old =>
   rw [e] at h0
   have h1 := diffF_len old ((ofF H x.1).getD [])
   have h2 := ofF_len (H := H) (n := x.1)
   simp only [Option.getD_some] at h0
   simp only [List.length_map]
   omega
theorem chgF_len (H : Ks) (l : List (Bs × Ck)) : (chgF H l).length ≤ 48 * l.length := by
 induction l with
 | nil => exact Nat.le_refl _
 | cons a l ih =>
   have := chgOf_len H a
   unfold chgF at *
   rw [List.flatMap_cons, List.length_append, List.length_cons]
   omega
/-- No check-in stands on another one's files. -/
def NoBase (H : Ks) : Prop := ∀ n c, readK (getB H n) = some c → c.base = []
def OfSp (P : Program) (f : FuncId) (b : Nat) (H : Ks) (name : Bs) : Prop :=
 Sp P f [.map (some b), vS name] [MapS b H] (X := Option Addr × Nat) (fun x => .tuple #[.slice x.1 ((ofF H name).getD []).length x.2, vB (ofF H name).isSome]) (fun x => ((ofF H name).getD []).length ≤ x.2 ∧ ∀ b, x.1 = some b → b.spot = none) (fun x => [SlI x.1 (((ofF H name).getD []).flatMap flCells), MapS b H])
section
theorem readK_noZ {s : Bs} (h : (90 : UInt8) ∉ s) : readK s = none := (readC_nk (noZ_readC h)).1
theorem readK_nil : readK [] = none := readK_noZ (by simp)
theorem getB_none {K : Ks} {n : Bs} (h : n ∉ K.map (·.1)) : getB K n = [] := by
 unfold getB
 rw [mlook_none h]
 rfl
theorem HeldP.nobase {K : Ks} {L : List (Bs × Bs)} (h : HeldP K L) (hb : ∀ p ∈ L, ∀ c, readK p.2 = some c → c.base = []) : NoBase K := fun n c hc => by
 by_cases hn : n ∈ L.map (·.1)
 · obtain ⟨p, hp, rfl⟩ := List.mem_map.1 hn
   rw [h.get hp] at hc
   exact hb p hp c hc
 · rw [getB_none (fun hm => hn (h.keys.mem_iff.1 hm)), readK_nil] at hc
   cases hc
/-- The check-ins that are held, one by one. -/
theorem HeldP.cks_eq {K : Ks} {L : List (Bs × Bs)} (h : HeldP K L) (hs : (L.map (·.1)).Pairwise (· < ·)) : cksL K = L.flatMap fun p => match readK p.2 with
    | none => []
    | some c => [(p.1, c)] := by
 have hk : keysS K = L.map (·.1) := sorted_eq (keysS_lt h.knd) hs fun k => h.mem
 unfold cksL cksF
 rw [hk, List.flatMap_map]
 have hm : ∀ p ∈ L, ckOf K p.1 = match readK p.2 with
  | none => []
  | some c => [(p.1, c)] := fun p hp => by rw [ckOf, h.get hp]; cases readK p.2 <;> rfl
 clear hk hs h
 induction L with
 | nil => rfl
 | cons a L ih => rw [List.flatMap_cons, List.flatMap_cons, hm a (by simp), ih fun p hp => hm p (by simp [hp])]
theorem ofF_plain {K : Ks} {n : Bs} {c : Ck} (h : readK (getB K n) = some c) (hb : c.base = []) : ofF K n = some c.files := by rw [ofF, h]; exact if_pos hb
theorem ofF_none {K : Ks} {n : Bs} (h : readK (getB K n) = none) : ofF K n = none := by rw [ofF, h]
theorem rightF_one {nm x : Bs} (hn : wordP nm) (hx : isN x = true) : RightF true [(nm, x)] :=
 ⟨fun i hi => by
  have : i = 0 := by simp at hi; omega
  subst this
  exact ⟨hn, fun h => by omega, .inl hx⟩, by simp⟩
theorem rightP_list {ps : List Bs} (hp : ∀ p ∈ ps, isN p = true) (hn : ps.Nodup) (hl : ps.length ≤ 3) : RightP ps 3 := (right_me (ts := []) (u := me) (d := 0) hp hn hl right_t0 me_word (by decide)).parents
theorem chlF_key (name : Bs) (pre : List CkN) : chlF name pre = ((pre.map ckKey).filter fun x => decide (name ≠ [] ∧ firstB x.2 = name)).map (·.1) := by
 unfold chlF
 induction pre with
 | nil => rfl
 | cons a l ih =>
   rw [List.map_cons, List.filter_cons, List.filter_cons, show firstB (ckKey a).2 = firstB a.2.2 from rfl]
   by_cases h : name ≠ [] ∧ firstB a.2.2 = name
   · rw [if_pos (decide_eq_true h), if_pos (decide_eq_true h), List.map_cons, List.map_cons, ih]; rfl
   · rw [if_neg (fun e => h (of_decide_eq_true e)), if_neg (fun e => h (of_decide_eq_true e)), ih]
/-! The runs. -/
def lrC (x : Bs) : Ck := ⟨[], [], 0, [([97], x)], [x], [], me⟩
def lrO (x : Bs) : Ck := ⟨[], [], 0, [([97], x)], [], [], me⟩
def lrH (x : Bs) : Ks := [([99], vS (ckB (lrC x))), ([111], vS (ckB (lrO x)))]
def lrL (x : Bs) : List (Bs × Bs) := [([99], ckB (lrC x)), ([111], ckB (lrO x))]
section
variable {x : Bs} (hx : isN x = true)
include hx
theorem lrC_right : RightK (lrC x) := ⟨.inl rfl, Nat.zero_le _, by show (0 : Int) ≤ 0 ∧ (0 : Int) ≤ 1073741824; decide, rightF_one (by decide) hx, (show RightP [x] 3 from rightP_list (by simpa using hx) (by simp) (by simp)), right_t0, me_word⟩
theorem lrO_right : RightK (lrO x) := ⟨.inl rfl, Nat.zero_le _, by show (0 : Int) ≤ 0 ∧ (0 : Int) ≤ 1073741824; decide, rightF_one (by decide) hx, (show RightP [] 3 from rightP_list (by simp) (by simp) (by simp)), right_t0, me_word⟩
theorem lr_held : HeldP (lrH x) (lrL x) := by
 refine ⟨List.Perm.refl _, by simp [lrL], fun p hp => ?_⟩
 have h1 := ckB_len (lrC_right hx)
 have h2 := ckB_len (lrO_right hx)
 simp only [lrL, List.mem_cons, List.not_mem_nil, or_false] at hp
 rcases hp with rfl | rfl <;> dsimp only <;> omega
theorem lr_cks : cksL (lrH x) = [([99], lrC x), ([111], lrO x)] := by
 rw [(lr_held hx).cks_eq (by simp only [lrL, List.map_cons, List.map_nil]; decide)]
 simp [lrL, right_read (lrC_right hx), right_read (lrO_right hx)]
theorem lr_nobase : NoBase (lrH x) := (lr_held hx).nobase fun p hp c hc => by
 simp only [lrL, List.mem_cons, List.not_mem_nil, or_false] at hp
 rcases hp with rfl | rfl
 · rw [right_read (lrC_right hx)] at hc; cases hc; rfl
 · rw [right_read (lrO_right hx)] at hc; cases hc; rfl
theorem lr_x : getB (lrH x) x = [] := getB_none (by
 have := isN_len hx
 simp only [lrH, List.map_cons, List.map_nil, List.mem_cons, List.not_mem_nil, or_false, not_or]
 exact ⟨fun e => by rw [e] at this; simp at this, fun e => by rw [e] at this; simp at this⟩)
theorem lr_ne : x ≠ [] := fun e => by have := isN_len hx; rw [e] at this; simp at this
theorem lr_pl : plF (cksL (lrH x)) = [⟨[99], x, true⟩] := by
 rw [lr_cks hx]
 simp [plF, plOf, lrC, lrO, firstB]
theorem lr_chg : chgF (lrH x) (cksL (lrH x)) = [⟨[111], [97], [], x⟩] := by
 have e1 : readK (getB (lrH x) [99]) = some (lrC x) := by rw [(lr_held hx).get (p := ([99], ckB (lrC x))) (by simp [lrL])]; exact right_read (lrC_right hx)
 have e2 : readK (getB (lrH x) [111]) = some (lrO x) := by rw [(lr_held hx).get (p := ([111], ckB (lrO x))) (by simp [lrL])]; exact right_read (lrO_right hx)
 have o1 : chgOf (lrH x) ([99], lrC x) = [] := by
  have : oldF (lrH x) (lrC x) (ofF (lrH x) [99]) = none := by
   rw [oldF, ofF_plain e1 rfl, if_neg (by simp), show firstB (lrC x) = x from rfl, if_neg (lr_ne hx), ofF_none (by rw [lr_x hx]; exact readK_nil)]
  unfold chgOf
  dsimp only
  rw [this]
 have o2 : chgOf (lrH x) ([111], lrO x) = [⟨[111], [97], [], x⟩] := by
  have h1 : oldF (lrH x) (lrO x) (ofF (lrH x) [111]) = some [] := by
   rw [oldF, ofF_plain e2 rfl, if_neg (by simp), show firstB (lrO x) = [] from rfl, if_pos rfl]
  unfold chgOf
  dsimp only
  rw [h1, ofF_plain e2 rfl]
  have hne := lr_ne hx
  simp [wthC, lrO, diffF, diffK, dM, dW, dT, dN, dO, dOl, dWl, hdF, Ne.symm hne]
 rw [lr_cks hx]
 unfold chgF
 rw [List.flatMap_cons, o1, List.flatMap_cons, o2]; rfl
theorem lr_pri : priB (lrH x) [99] = x := by
 unfold priB
 rw [(lr_held hx).get (p := ([99], ckB (lrC x))) (by simp [lrL]), right_read (lrC_right hx)]; rfl
theorem lr_chl {pre : List CkN} (h : finC (lrH x) pre) : chlF x pre = [[99]] := by
 rw [chlF_key, show pre.map ckKey = cksL (lrH x) from h, lr_cks hx]
 have hne := lr_ne hx
 simp [firstB, lrC, lrO, hne, Ne.symm hne]
end
end
def lpT (a i : Nat) : Bs := [112, UInt8.ofNat a, UInt8.ofNat i]
def lpX (a i : Nat) : Bs := shaB (lpT a i)
def lpF (a i : Nat) : Nat := sumN (lpT a i) fun w _ _ _ _ => w
def lpChk : Nat → Nat → Bool
 | 0, _ => true
 | n + 1, a => frc (lpF a 0) fun x => frc (lpF a 1) fun y => frc (lpF a 2) fun z => bif Nat.beq x y then false else bif Nat.beq x z then false else bif Nat.beq y z then false else frc (Nat.succ a) fun a => lpChk n a
structure LpD (a : Nat) : Prop where
 d01 : lpX a 0 ≠ lpX a 1
 d02 : lpX a 0 ≠ lpX a 2
 d12 : lpX a 1 ≠ lpX a 2
theorem lpChk_ok : ∀ (n a : Nat), lpChk n a = true → ∀ b, a ≤ b → b < a + n → LpD b := by
 intro n
 induction n with
 | zero => intro a _ b h1 h2; omega
 | succ n ih =>
   intro a h b h1 h2
   rw [lpChk] at h
   simp only [frc_eq] at h
   cases e1 : Nat.beq (lpF a 0) (lpF a 1) with
   | true => rw [e1] at h; cases h
   | false =>
     cases e2 : Nat.beq (lpF a 0) (lpF a 2) with
     | true => rw [e1, e2] at h; cases h
     | false =>
       cases e3 : Nat.beq (lpF a 1) (lpF a 2) with
       | true => rw [e1, e2, e3] at h; cases h
       | false =>
         rw [e1, e2, e3] at h
         by_cases hb : b = a
         · subst hb
           exact ⟨first_ne (Nat.ne_of_beq_eq_false e1), first_ne (Nat.ne_of_beq_eq_false e2), first_ne (Nat.ne_of_beq_eq_false e3)⟩
         · exact ih (a + 1) h b (by omega) (by omega)
end Go.Proofs.YtdnoacgopfcpbaaGreat
