/- Texts of this proof, put together: PCk2, SCk. -/
import Derived.Test.YtdnoacgopfcpbaaGreatQ11
set_option linter.unusedVariables false
set_option linter.unusedSimpArgs false
namespace Go.Proofs.YtdnoacgopfcpbaaGreat
section
open Classical in
noncomputable def the {α : Type} (R : α → Prop) : Option α := if h : ∃ a, R a then some h.choose else none
theorem the_iff {α : Type} {R : α → Prop} (u : ∀ a b, R a → R b → a = b) {a : α} : the R = some a ↔ R a := by
 unfold the
 split
 · rename_i h
   simp only [Option.some.injEq]
   exact ⟨fun e => e ▸ h.choose_spec, fun k => u _ _ h.choose_spec k⟩
 · rename_i h
   simp only [reduceCtorEq, false_iff]
   exact fun k => h ⟨a, k⟩
theorem the_none {α : Type} {R : α → Prop} (h : ∀ a, ¬ R a) : the R = none := by
 unfold the
 rw [dif_neg (fun ⟨a, e⟩ => h a e)]
def argsOf (x : UInt8) (l : List Cd) : List (List Bs) := (l.filter (fun c => c.l = x)).map (·.args)
theorem argsOf_app (x : UInt8) (l m : List Cd) : argsOf x (l ++ m) = argsOf x l ++ argsOf x m := by simp [argsOf]
theorem argsOf_map {α : Type} (x y : UInt8) (f : α → Cd) (h : ∀ a, (f a).l = y) (l : List α) : argsOf x (l.map f) = if y = x then l.map (fun a => (f a).args) else [] := by
 induction l with
 | nil => simp [argsOf]
 | cons a l ih =>
   simp only [argsOf, List.map_cons, List.filter_cons, h a] at ih ⊢
   by_cases e : y = x
   · rw [if_pos e] at ih ⊢; simp [e, ih]
   · rw [if_neg e] at ih ⊢; simp [e, ih]
def one1 (l : List (List Bs)) : Option Bs := match l with
 | [[a]] => some a
 | _ => none
def tgOf (xs : List Bs) : Option Tg :=
 if xs.length < 2 ∨ 3 < xs.length ∨ (xs.getD 0 []).length < 2 then none
 else if xs.length = 3 then (unescB (xs.getD 2 [])).map (fun v => ⟨(xs.getD 0 []).getD 0 0, (xs.getD 0 []).drop 1, xs.getD 1 [], v⟩)
 else some ⟨(xs.getD 0 []).getD 0 0, (xs.getD 0 []).drop 1, xs.getD 1 [], []⟩
def readT : List (List Bs) → Option (List Tg)
 | [] => some []
 | x :: r => match tgOf x with
   | none => none
   | some t => (readT r).map (t :: ·)
def flOf (xs : List Bs) : Bs × Bs := if xs.length = 2 then (xs.getD 0 [], xs.getD 1 []) else if xs.length = 1 then (xs.getD 0 [], []) else ([], [])
def prgCk (l : List Cd) : Option Ck := match one1 (argsOf 67 l), one1 (argsOf 68 l), one1 (argsOf 85 l) with
 | some said, some date, some user => match unescB (Lib.trimPrefix said [46]), readDec date, readT (argsOf 84 l) with
   | some text, some day, some tags => some ⟨(one1 (argsOf 66 l)).getD [], text, day, (argsOf 70 l).map flOf, (argsOf 80 l).headD [], tags, user⟩
   | _, _, _ => none
 | _, _, _ => none
theorem tgOf_card {own : Bool} {l : List Tg} (h : RightT own l) : ∀ t ∈ l, tgOf (tgCard t).args = some t := by
 intro t ht
 obtain ⟨i, hi, rfl⟩ := mem_getD (d := tg0) ht
 obtain ⟨o1, o2, _, _, _⟩ := h.ok i hi
 generalize l.getD i tg0 = t at o1 o2
 obtain ⟨k, n, tt, v⟩ := t
 dsimp only at o1 o2
 have hn := o2.2.1
 unfold tgCard
 dsimp only
 by_cases hv : v = []
 · subst hv
   simp only [if_true, List.append_nil, tgOf]
   rw [if_neg (by simp; omega), if_neg (by simp)]
   rfl
 · rw [if_neg hv]
   simp only [tgOf]
   rw [if_neg (by simp; omega), if_pos (by simp)]
   simp [unesc_esc]
theorem readT_map {l : List Tg} (h : ∀ t ∈ l, tgOf (tgCard t).args = some t) : readT (l.map (fun t => (tgCard t).args)) = some l := by
 induction l with
 | nil => rfl
 | cons t l ih =>
   simp only [List.map_cons, readT]
   rw [h t (by simp), ih fun x hx => h x (by simp [hx])]
   rfl
theorem flOf_card (f : Bs × Bs) : flOf (flCard f).args = f := by
 unfold flCard
 dsimp only
 split
 · rename_i h
   obtain ⟨a, b⟩ := f
   dsimp only at h
   subst h
   rfl
 · rfl
theorem trim_dot (e : Bs) : Lib.trimPrefix (46 :: e) [46] = e := by simp [Lib.trimPrefix, Lib.hasPrefix]
theorem argsOf_ck (x : UInt8) (c : Ck) : argsOf x (ckCards c) = argsOf x (bCards c.base) ++ (argsOf x [⟨67, [46 :: escB c.comment]⟩, ⟨68, [decN c.date.toNat]⟩] ++ ((if (70 : UInt8) = x then c.files.map (fun f => (flCard f).args) else []) ++ (argsOf x (pCards c.parents) ++ ((if (84 : UInt8) = x then c.tags.map (fun t => (tgCard t).args) else []) ++ argsOf x [⟨85, [c.user]⟩])))) := by
 unfold ckCards
 rw [argsOf_app, argsOf_app, argsOf_app, argsOf_app, argsOf_app, argsOf_map x 70 flCard (fun _ => rfl), argsOf_map x 84 tgCard (fun _ => rfl)]
 simp only [List.append_assoc]
theorem argsOf_b (x : UInt8) (b : Bs) : argsOf x (bCards b) = if (66 : UInt8) = x ∧ b ≠ [] then [[b]] else [] := by
 unfold bCards
 by_cases h : b = []
 · simp [h, argsOf]
 · by_cases h2 : (66 : UInt8) = x <;> simp [h, argsOf, h2]
theorem argsOf_p (x : UInt8) (l : List Bs) : argsOf x (pCards l) = if (80 : UInt8) = x ∧ l ≠ [] then [l] else [] := by
 unfold pCards
 by_cases h : l = []
 · simp [h, argsOf]
 · by_cases h2 : (80 : UInt8) = x <;> simp [h, argsOf, h2]
theorem argsOf_67 (c : Ck) : argsOf 67 (ckCards c) = [[46 :: escB c.comment]] := by rw [argsOf_ck, argsOf_b, argsOf_p]; simp [argsOf]
theorem argsOf_68 (c : Ck) : argsOf 68 (ckCards c) = [[decN c.date.toNat]] := by rw [argsOf_ck, argsOf_b, argsOf_p]; simp [argsOf]
theorem argsOf_85 (c : Ck) : argsOf 85 (ckCards c) = [[c.user]] := by rw [argsOf_ck, argsOf_b, argsOf_p]; simp [argsOf]
theorem argsOf_84 (c : Ck) : argsOf 84 (ckCards c) = c.tags.map (fun t => (tgCard t).args) := by rw [argsOf_ck, argsOf_b, argsOf_p]; simp [argsOf]
theorem argsOf_70 (c : Ck) : argsOf 70 (ckCards c) = c.files.map (fun f => (flCard f).args) := by rw [argsOf_ck, argsOf_b, argsOf_p]; simp [argsOf]
theorem argsOf_66 (c : Ck) : argsOf 66 (ckCards c) = if c.base = [] then [] else [[c.base]] := by
 rw [argsOf_ck, argsOf_b, argsOf_p]
 by_cases h : c.base = [] <;> simp [argsOf, h]
theorem argsOf_80 (c : Ck) : argsOf 80 (ckCards c) = if c.parents = [] then [] else [c.parents] := by
 rw [argsOf_ck, argsOf_b, argsOf_p]
 by_cases h : c.parents = [] <;> simp [argsOf, h]
theorem prgCk_cards {c : Ck} (h : RightK c) : prgCk (ckCards c) = some c := by
 unfold prgCk
 rw [argsOf_67, argsOf_68, argsOf_85, argsOf_84, argsOf_70, argsOf_66, argsOf_80]
 have hd := h.date
 simp only [one1]
 rw [trim_dot, unesc_esc, readDec_of (by omega), readT_map (tgOf_card h.tags)]
 simp only [List.map_map]
 have h1 : (c.files.map (flOf ∘ fun f => (flCard f).args)) = c.files := by
  have : (flOf ∘ fun f => (flCard f).args) = id := by funext f; exact flOf_card f
  rw [this, List.map_id]
 rw [h1]
 obtain ⟨b, co, d, f, p, t, u⟩ := c
 dsimp only at hd ⊢
 have h2 : ((d.toNat : Nat) : Int) = d := by omega
 rw [h2]
 by_cases hb : b = []
 · by_cases hp : p = [] <;> simp [hb, hp]
 · by_cases hp : p = [] <;> simp [hb, hp]
def ReadsK (s : Bs) (c : Ck) : Prop := RightK c ∧ ckB c = s
theorem ReadsK.reads {s : Bs} {c : Ck} (h : ReadsK s c) : ReadsC s (ckCards c) := ⟨rightK_cards h.1, h.2⟩
theorem ReadsK.uniq {s : Bs} (a b : Ck) (h : ReadsK s a) (k : ReadsK s b) : a = b := by
 have e := h.reads.uniq k.reads
 have := prgCk_cards h.1
 rw [e, prgCk_cards k.1] at this
 exact (Option.some.inj this).symm
noncomputable def readK (s : Bs) : Option Ck := the (ReadsK s)
theorem readK_iff {s : Bs} {c : Ck} : readK s = some c ↔ ReadsK s c := the_iff ReadsK.uniq
/-! As the document reads. -/
def stepR (c : Ck) (x : Cd) : Option Ck :=
 if x.l = 66 ∧ x.args.length = 1 then some { c with base := x.args.getD 0 [] }
 else if x.l = 67 ∧ x.args.length = 1 ∧ ((x.args.getD 0 []).getD 0 0) = 46 then (unescB ((x.args.getD 0 []).drop 1)).map (fun t => { c with comment := t })
 else if x.l = 68 ∧ x.args.length = 1 then some { c with date := rdI (x.args.getD 0 []) }
 else if x.l = 70 ∧ x.args.length = 1 then some { c with files := c.files ++ [(x.args.getD 0 [], [])] }
 else if x.l = 70 ∧ x.args.length = 2 then some { c with files := c.files ++ [(x.args.getD 0 [], x.args.getD 1 [])] }
 else if x.l = 80 then some { c with parents := x.args }
 else if x.l = 84 then some c
 else if x.l = 85 ∧ x.args.length = 1 then some { c with user := x.args.getD 0 [] }
 else none
/-! Sizes. -/
theorem body_bound {l : List Cd} {k : Nat} (h : ∀ c ∈ l, (cardB c).length ≤ k) : (bodyB l).length ≤ k * l.length := by
 induction l with
 | nil => simp [bodyB]
 | cons c l ih =>
   have e : bodyB (c :: l) = cardB c ++ bodyB l := by simp [bodyB]
   have h1 := h c (by simp)
   have h2 := ih fun x hx => h x (by simp [hx])
   rw [e, List.length_append, List.length_cons, Nat.mul_add]; omega
theorem card1_len (x : UInt8) (a : Bs) : (cardB ⟨x, [a]⟩).length = a.length + 3 := by simp [cardB, lineB, argsB]
theorem tg_small {own : Bool} {l : List Tg} (h : RightT own l) : ∀ t ∈ l, (cardB (tgCard t)).length ≤ 200 := by
 intro t ht
 obtain ⟨i, hi, rfl⟩ := mem_getD (d := tg0) ht
 obtain ⟨_, o2, o3, o4, _⟩ := h.ok i hi
 generalize l.getD i tg0 = t at o2 o3 o4
 have h1 := o2.2.2
 have h2 : t.target.length ≤ 40 := by
  cases own with
  | true => rw [o4.1 rfl]; decide
  | false => rw [isN_len (o4.2 rfl)]; exact Nat.le_refl _
 have h3 := (escB_len t.value).2
 unfold tgCard
 split
 · simp [cardB, lineB, argsB]; omega
 · simp [cardB, lineB, argsB]; omega
theorem ck_small {c : Ck} (h : RightK c) : (bodyB (ckCards c)).length ≤ 10000 := by
 have hb : ∀ x ∈ bCards c.base, (cardB x).length ≤ 200 := by
  unfold bCards
  split
  · simp
  · rename_i e
    intro x hx
    rw [List.mem_singleton.1 hx, card1_len, isN_len (h.base.resolve_left e)]; decide
 have hcd : ∀ x ∈ [(⟨67, [46 :: escB c.comment]⟩ : Cd), ⟨68, [decN c.date.toNat]⟩], (cardB x).length ≤ 200 := by
  intro x hx
  simp only [List.mem_cons, List.not_mem_nil, or_false] at hx
  have h1 := (escB_len c.comment).2
  have h2 := h.comment
  have h3 := decN_10 (n := c.date.toNat) (by have := h.date; omega)
  rcases hx with rfl | rfl
  · rw [card1_len, List.length_cons]; omega
  · rw [card1_len]; omega
 have hf : ∀ x ∈ c.files.map flCard, (cardB x).length ≤ 200 := by
  intro x hx
  obtain ⟨f, hf, rfl⟩ := List.mem_map.1 hx
  obtain ⟨i, hi, rfl⟩ := mem_getD (d := ([], [])) hf
  obtain ⟨o1, _, o3⟩ := h.files.ok i hi
  generalize c.files.getD i ([], []) = f at o1 o3
  have h1 := o1.2.2
  unfold flCard
  split
  · rw [card1_len]; omega
  · rename_i e
    have h2 := isN_len (o3.resolve_right fun x => e x.2)
    simp [cardB, lineB, argsB]; omega
 have hp : ∀ x ∈ pCards c.parents, (cardB x).length ≤ 200 := by
  unfold pCards
  split
  · simp
  · intro x hx
    rw [List.mem_singleton.1 hx]
    have hl := h.parents.len
    have : (argsB c.parents).length ≤ 41 * c.parents.length := by
     have hk : ∀ a ∈ c.parents, a.length = 40 := fun a ha => by
      obtain ⟨i, hi, rfl⟩ := mem_getD (d := []) ha
      exact isN_len (h.parents.ok i hi).1
     generalize c.parents = l at hk
     induction l with
     | nil => simp [argsB]
     | cons a l ih =>
       rw [argsB_cons, List.length_cons, List.length_append, List.length_cons, hk a (by simp)]
       have := ih fun x hx => hk x (by simp [hx])
       omega
    simp [cardB, lineB]; omega
 have htu : ∀ x ∈ c.tags.map tgCard ++ [(⟨85, [c.user]⟩ : Cd)], (cardB x).length ≤ 200 := by
  intro x hx
  rcases List.mem_append.1 hx with hx | hx
  · obtain ⟨t, ht, rfl⟩ := List.mem_map.1 hx
    exact tg_small h.tags t ht
  · have := h.user.2.2
    rw [List.mem_singleton.1 hx, card1_len]; omega
 have hall := body_bound (l := ckCards c) (k := 200) (by
  intro x hx
  unfold ckCards at hx
  rw [List.mem_append] at hx
  rcases hx with hx | hx
  · rw [List.mem_append] at hx
    rcases hx with hx | hx
    · rw [List.mem_append] at hx
      rcases hx with hx | hx
      · rw [List.mem_append] at hx
        rcases hx with hx | hx
        · exact hb x hx
        · exact hcd x hx
      · exact hf x hx
    · exact hp x hx
  · exact htu x hx)
 have hlen : (ckCards c).length ≤ 29 := by
  have h1 := h.files.len
  have h2 := h.tags.len
  have h3 : (bCards c.base).length ≤ 1 := by unfold bCards; split <;> simp
  have h4 : (pCards c.parents).length ≤ 1 := by unfold pCards; split <;> simp
  simp only [ckCards, List.length_append, List.length_map, List.length_cons, List.length_nil]; omega
 omega
/-! Control artifacts. -/
structure Ct where
 date : Int
 tags : List Tg
 user : Bs
 deriving DecidableEq, Repr
structure RightCt (c : Ct) : Prop where
 date : 0 ≤ c.date ∧ c.date ≤ 1073741824
 some : 0 < c.tags.length
 tags : RightT false c.tags
 user : wordP c.user
instance (c : Ct) : Decidable (RightCt c) := decidable_of_iff ((0 ≤ c.date ∧ c.date ≤ 1073741824) ∧ 0 < c.tags.length ∧ RightT false c.tags ∧ wordP c.user) ⟨fun ⟨a, b, c, d⟩ => ⟨a, b, c, d⟩, fun ⟨a, b, c, d⟩ => ⟨a, b, c, d⟩⟩
def ctCards (c : Ct) : List Cd := ⟨68, [decN c.date.toNat]⟩ :: (c.tags.map tgCard ++ [⟨85, [c.user]⟩])
def ctB (c : Ct) : Bs := printB (ctCards c)
theorem rightCt_cards {c : Ct} (h : RightCt c) : RightC (ctCards c) := by
 have htu := tu_right c.tags c.user
 have e : ctCards c = [⟨68, [decN c.date.toNat]⟩] ++ (c.tags.map tgCard ++ [⟨85, [c.user]⟩]) := rfl
 have h1 : ∀ a ∈ [(⟨68, [decN c.date.toNat]⟩ : Cd)], a.l.toNat = 68 := by simp
 refine RightC.mk' (by simp [ctCards]) ?_ ?_ ?_
 · intro a ha
   rw [e, List.mem_append] at ha
   rcases ha with ha | ha
   · rw [h1 a ha]; decide
   · have := htu.1 a ha; omega
 · intro a ha x hx
   rw [e, List.mem_append] at ha
   rcases ha with ha | ha
   · rw [List.mem_singleton.1 ha] at hx
     rw [List.mem_singleton.1 hx]; exact decN_argOk _
   · rw [List.mem_append] at ha
     rcases ha with ha | ha
     · obtain ⟨t, ht, rfl⟩ := List.mem_map.1 ha
       exact tgCard_ok h.tags t ht x hx
     · rw [List.mem_singleton.1 ha] at hx
       rw [List.mem_singleton.1 hx]; exact wordP_ok h.user
 · rw [e]
   exact pw_app (k := 68) (fun a ha => by rw [h1 a ha]; exact Nat.le_refl _) (fun a ha => by have := htu.1 a ha; omega) (pw_const h1) htu.2
theorem ct_small {c : Ct} (h : RightCt c) : (bodyB (ctCards c)).length ≤ 10000 := by
 have hall := body_bound (l := ctCards c) (k := 200) (by
  intro x hx
  unfold ctCards at hx
  rcases List.mem_cons.1 hx with rfl | hx
  · have h3 := decN_10 (n := c.date.toNat) (by have := h.date; omega)
    rw [card1_len]; omega
  · rcases List.mem_append.1 hx with hx | hx
    · obtain ⟨t, ht, rfl⟩ := List.mem_map.1 hx
      exact tg_small h.tags t ht
    · have := h.user.2.2
      rw [List.mem_singleton.1 hx, card1_len]; omega)
 have hlen : (ctCards c).length ≤ 14 := by
  have h2 := h.tags.len
  simp only [ctCards, List.length_append, List.length_map, List.length_cons, List.length_nil]; omega
 omega
theorem argsOf_ct84 (c : Ct) : argsOf 84 (ctCards c) = c.tags.map (fun t => (tgCard t).args) := by
 have e : ctCards c = [⟨68, [decN c.date.toNat]⟩] ++ (c.tags.map tgCard ++ [⟨85, [c.user]⟩]) := rfl
 rw [e, argsOf_app, argsOf_app, argsOf_map 84 84 tgCard (fun _ => rfl)]
 simp [argsOf]
/-- The cards of a control artifact but its tags, one by one. -/
def ctLoop : List Cd → Int × Bs → Int × Bs
 | [], st => st
 | x :: r, st => if x.args.length = 0 then st
   else if x.l.toNat = 68 then (match readDec (x.args.getD 0 []) with | some n => ctLoop r ((n : Int), st.2) | none => (0, st.2))
   else if x.l.toNat = 85 then ctLoop r (st.1, x.args.getD 0 []) else ctLoop r st
def prgCt (l : List Cd) : Option Ct := (readT (argsOf 84 l)).map fun t => ⟨(ctLoop l (0, [])).1, t, (ctLoop l (0, [])).2⟩
theorem ctLoop_tags (l : List Tg) (r : List Cd) (st : Int × Bs) : ctLoop (l.map tgCard ++ r) st = ctLoop r st := by
 induction l generalizing st with
 | nil => rfl
 | cons t l ih =>
   have hl : (tgCard t).l = 84 := rfl
   have h1 : (tgCard t).args.length ≠ 0 := by simp [tgCard]
   simp only [List.map_cons, List.cons_append, ctLoop]
   rw [if_neg h1, if_neg (by rw [hl]; decide), if_neg (by rw [hl]; decide), ih]
theorem prgCt_cards {c : Ct} (h : RightCt c) : prgCt (ctCards c) = some c := by
 unfold prgCt
 rw [argsOf_ct84, readT_map (tgOf_card h.tags)]
 have hd := h.date
 have e : ctLoop (ctCards c) (0, []) = (c.date, c.user) := by
  unfold ctCards
  simp only [ctLoop]
  rw [if_neg (by simp), if_pos (by decide)]
  have e1 : ([decN c.date.toNat] : List Bs).getD 0 [] = decN c.date.toNat := rfl
  rw [e1, readDec_of (by omega)]
  dsimp only
  rw [ctLoop_tags]
  simp only [ctLoop]
  rw [if_neg (by simp), if_neg (by decide), if_pos (by decide)]
  have e2 : ((c.date.toNat : Nat) : Int) = c.date := by omega
  rw [e2]; rfl
 rw [e]; rfl
def ReadsCt (s : Bs) (c : Ct) : Prop := RightCt c ∧ ctB c = s
theorem ReadsCt.reads {s : Bs} {c : Ct} (h : ReadsCt s c) : ReadsC s (ctCards c) := ⟨rightCt_cards h.1, h.2⟩
theorem ReadsCt.uniq {s : Bs} (a b : Ct) (h : ReadsCt s a) (k : ReadsCt s b) : a = b := by
 have e := h.reads.uniq k.reads
 have := prgCt_cards h.1
 rw [e, prgCt_cards k.1] at this
 exact (Option.some.inj this).symm
noncomputable def readCt (s : Bs) : Option Ct := the (ReadsCt s)
theorem readCt_iff {s : Bs} {c : Ct} : readCt s = some c ↔ ReadsCt s c := the_iff ReadsCt.uniq
/-! Clusters. -/
structure RightCl (l : List Bs) : Prop where
 ok : ∀ i, i < l.length → isN (l.getD i []) = true ∧ (0 < i → blt (l.getD (i - 1) []) (l.getD i []) = true)
 len : 1 ≤ l.length ∧ l.length ≤ 12
instance (l : List Bs) : Decidable (RightCl l) := decidable_of_iff ((∀ i, i < l.length → isN (l.getD i []) = true ∧ (0 < i → blt (l.getD (i - 1) []) (l.getD i []) = true)) ∧ (1 ≤ l.length ∧ l.length ≤ 12)) ⟨fun ⟨a, b⟩ => ⟨a, b⟩, fun ⟨a, b⟩ => ⟨a, b⟩⟩
def clCard (n : Bs) : Cd := ⟨77, [n]⟩
def clCards (l : List Bs) : List Cd := l.map clCard
def clB (l : List Bs) : Bs := printB (clCards l)
theorem clCards_let (l : List Bs) : ∀ a ∈ clCards l, a.l.toNat = 77 := by
 intro a ha; obtain ⟨f, _, rfl⟩ := List.mem_map.1 ha; rfl
theorem rightCl_cards {l : List Bs} (h : RightCl l) : RightC (clCards l) := by
 refine RightC.mk' (fun e => ?_) (fun a ha => by rw [clCards_let l a ha]; decide) ?_ (pw_const (clCards_let l))
 · have := congrArg List.length e
   have h1 := h.len.1
   simp [clCards] at this
   simp [this] at h1
 · intro a ha x hx
   obtain ⟨n, hn, rfl⟩ := List.mem_map.1 ha
   rw [show (clCard n).args = [n] from rfl] at hx
   rw [List.mem_singleton.1 hx]
   obtain ⟨i, hi, rfl⟩ := mem_getD (d := []) hn
   exact isN_argOk (h.ok i hi).1
theorem argsOf_cl (l : List Bs) : argsOf 77 (clCards l) = l.map (fun n => [n]) := by
 unfold clCards
 rw [argsOf_map 77 77 clCard (fun _ => rfl), if_pos rfl]; rfl
theorem flat_single (l : List Bs) : (l.map (fun n => [n])).flatten = l := by
 induction l with
 | nil => rfl
 | cons a l ih => simp [ih]
def ReadsCl (s : Bs) (l : List Bs) : Prop := RightCl l ∧ clB l = s
theorem ReadsCl.reads {s : Bs} {l : List Bs} (h : ReadsCl s l) : ReadsC s (clCards l) := ⟨rightCl_cards h.1, h.2⟩
theorem ReadsCl.uniq {s : Bs} (a b : List Bs) (h : ReadsCl s a) (k : ReadsCl s b) : a = b := by
 have e := h.reads.uniq k.reads
 rw [← flat_single a, ← flat_single b, ← argsOf_cl, ← argsOf_cl, e]
end
section
set_option maxRecDepth 100000
def tgCells (t : Tg) : List Value := [vU t.kind.toNat, vS t.name, vS t.target, vS t.value]
def flCells (f : Bs × Bs) : List Value := [vS f.1, vS f.2]
theorem tgget {l : List Tg} {j : Nat} (h : j < l.length) : (l.flatMap tgCells)[4 * j + 1]? = some (vS (l.getD j tg0).name) ∧ (l.flatMap tgCells)[4 * j + 2]? = some (vS (l.getD j tg0).target) := by
 have hg : l.getD j tg0 = l[j] := by simp [h]
 rw [hg]
 constructor
 · have := get_field (f := tgCells) (sz := 4) (fun _ => rfl) (k := 1) (by decide) h; rw [Nat.mul_comm]; exact this
 · have := get_field (f := tgCells) (sz := 4) (fun _ => rfl) (k := 2) (by decide) h; rw [Nat.mul_comm]; exact this
theorem flget {l : List (Bs × Bs)} {j : Nat} (h : j < l.length) : (l.flatMap flCells)[2 * j]? = some (vS (l.getD j ([], [])).1) := by
 have hg : l.getD j ([], []) = l[j] := by simp [h]
 rw [hg]
 have := get_field (f := flCells) (sz := 2) (fun _ => rfl) (k := 0) (by decide) h; rw [Nat.mul_comm]; exact this
/-- The order among neighbours, as it is asked. -/
theorem rise_bad {own : Bool} {l : List Tg} {j : Nat} (o : OkT own l j) (h0 : 0 < j) : (!(blt (l.getD (j - 1) tg0).name (l.getD j tg0).name || decide ((l.getD (j - 1) tg0).name = (l.getD j tg0).name))) = false ∧ ((l.getD (j - 1) tg0).name = (l.getD j tg0).name → (!(blt (l.getD (j - 1) tg0).target (l.getD j tg0).target)) = false) := by
 obtain ⟨h1, h2⟩ := o.rise h0
 constructor
 · rcases h1 with h1 | h1
   · rw [h1]; rfl
   · rw [decide_eq_true h1, Bool.or_true]; rfl
 · intro e; rw [h2 e]; rfl
theorem zb211ret12 {G : Prop} (h : G := by
    have hn : ¬ OkT own l j := fun o => by
     obtain ⟨_, o2, o3, ⟨o4, o5⟩, _⟩ := o
     rw [hg] at o2 o3 o4 o5
     first
     | omega
     | exact h51 (of_decide_eq_true (o5 (by simpa using h45)))
     | (cases own <;> simp_all [isN]; done)
    refine fin_ret () (vs := [_]) (Cs := []) rfl (.tmp rfl .nil) (by rw [hbad hn]; rfl) trivial ent_pick) : G := h
theorem zb211ret14 {G : Prop} (h : G := by
    have hn : ¬ OkT own l j := fun o => by
     have h0 : 0 < j := by omega
     obtain ⟨r1, r2⟩ := rise_bad o h0
     rw [hg] at r1 r2
     simp_all
    refine fin_ret () (vs := [_]) (Cs := []) rfl (.tmp rfl .nil) (by rw [hbad hn]; rfl) trivial ent_pick) : G := h
theorem zb211next0 {G : Prop} (h : G := by
    have hokj : OkT own l j := by
     refine ⟨by rw [hg]; exact hkind, by rw [hg]; exact Classical.not_not.1 h28, by rw [hg]; omega, ?_, ?_⟩
     · rw [hg]
       cases own <;> simp_all [isN]
     · intro h0
       rw [hg]
       first
       | (exfalso; omega)
       | (have e1 : blt (l.getD (j - 1) tg0).name t.name = true ∨ (l.getD (j - 1) tg0).name = t.name := by
            cases hb1 : blt (l.getD (j - 1) tg0).name t.name with
            | true => exact .inl rfl
            | false =>
              rw [hb1, Bool.false_or] at h64
              exact .inr (by simpa using h64)
          first
          | exact ⟨e1, fun e => absurd e h74⟩
          | exact ⟨e1, fun _ => by simpa using h86⟩)
    refine to_inv ⟨j + 1, by omega, fun i hi => ?_⟩ (by dsimp only; omega) ⟨rfl, rfl, rfl, rfl, rfl, trivial⟩ ent_pick
    by_cases he : i = j
    · rw [he]; exact hokj
    · exact hok i (by omega)) : G := h
theorem zb211join11 {G : Prop} (h : G := by
    first
    | exact to_inv ⟨(), .inl (by omega)⟩ trivial ⟨rfl, rfl, rfl, rfl, rfl, rfl, rfl, trivial⟩ ent_pick
    | exact to_inv ⟨(), .inr (.inl (by omega))⟩ trivial ⟨rfl, rfl, rfl, rfl, rfl, rfl, rfl, trivial⟩ ent_pick
    | exact to_inv ⟨(), .inr (.inr ⟨by omega, by simpa using h23⟩)⟩ trivial ⟨rfl, rfl, rfl, rfl, rfl, rfl, rfl, trivial⟩ ent_pick) : G := h
theorem zb211ret10 {G : Prop} (h : G := by
    have hn : ¬ OkT own l j := fun o => by
     have := o.kind
     rw [hg] at this
     rcases this with h | h | h
     · omega
     · omega
     · exact absurd h.2 (by simpa using h23)
    refine fin_ret () (vs := [_]) (Cs := []) rfl (.tmp rfl .nil) (by rw [hbad hn]; rfl) trivial ent_pick) : G := h
theorem zb211ret5 {G : Prop} (h : G := by
    have hn : ¬ OkT own l j := fun o => by
     have := o.kind
     rw [hg] at this
     omega
    refine fin_ret () (vs := [_]) (Cs := []) rfl (.tmp rfl .nil) (by rw [hbad hn]; rfl) trivial ent_pick) : G := h
set_option maxHeartbeats 2000000 in
theorem checkin_RightTags_sp {B : HP} {a : Option Addr} (own : Bool) (n cap : Nat) (l : List Tg) (sh : SlA B a (l.flatMap tgCells)) (hn : l.length = n) (hb : n ≤ 1073741824) (hz : ∀ t ∈ l, t.name.length ≤ 1099511627776 ∧ t.target.length ≤ 1099511627776 ∧ t.value.length ≤ 1099511627776) :
    Sp1 Tryz.prog 211 [vB own, .slice a n cap] [B] (vB (decide (RightT own l))) [B] := by
 subst hn
 haveI : RdSl a (l.flatMap tgCells) [B] := ⟨⟨B, sh, .here⟩⟩
 refine Sp.body (n := 91) Tryz.call211 Tryz.func211 rfl rfl rfl ?_
 refine Qc (k:=Vv (k:=Wq (Za (k:=Qc (k:=Qv (k:=Vv (k:=Wq (Zb (k:=?_)))))))))
 refine p_loop (fun (i : { j : Nat // j ≤ l.length ∧ ∀ i, i < j → OkT own l i }) => [(0, vB own), (1, .slice a l.length cap), (7, .slice a l.length cap), (8, vI l.length), (9, vI i.1)]) (fun (i : { j : Nat // j ≤ l.length ∧ ∀ i, i < j → OkT own l i }) => [B]) (fun (i : { j : Nat // j ≤ l.length ∧ ∀ i, i < j → OkT own l i }) => l.length - i.1) rfl (⟨0, Nat.zero_le _, fun i h => by omega⟩) ?_ ?_ (fun i => ?_)
 · exact ⟨rfl, rfl, rfl, rfl, rfl, trivial⟩
 ·
  exact ent_pick
 obtain ⟨j, hj, hok⟩ := i
 dsimp only
 try dsimp only
 refine Qc (k:=Vv (k:=Wq (Za (k:=Zi (t:=fun h10 => ?_) (f:=fun h10 => ?_)))))
 ·
  refine Zk (k:=Ya (Za (k:=Zb (k:=Za (k:=?_)))))
  have hjl : j < l.length := by omega
  have hg : l.getD j tg0 = l[j] := by simp [hjl]
  have hzj := hz l[j] (List.getElem_mem hjl)
  obtain ⟨t, ht⟩ : ∃ t, t = l[j] := ⟨_, rfl⟩
  rw [← ht] at hzj hg
  have hfl : (l.flatMap tgCells).length = l.length * 4 := flat_len (f := tgCells) (sz := 4) (fun _ => rfl) l
  have hbad : ∀ (h : ¬ OkT own l j), decide (RightT own l) = false := fun h => decide_eq_false (fun r => h (r.ok j hjl))
  refine Zr (k:=Vv (k:=Ye 4 (k:=?_)))
  refine r_eloada (vs := [_, _, _, _]) (sz := 4) Tryz.underlying60 rfl ti60 rfl rfl (by rw [flat_len (sz := 4) (fun _ => rfl)]; omega) rfl (by refine get_flat (fun x => ?_) ?_ <;> first | rfl | omega) rfl ?_
  rw [← ht]
  refine Zc [.int .u8 0, vS [], vS [], vS []] (k:=fun b6 => Vv (k:=Zp (k:=Wq ?_)))
  refine p_cut (fun (u : { u : Unit // t.kind.toNat = 43 ∨ t.kind.toNat = 42 ∨ (t.kind.toNat = 45 ∧ t.value = []) }) => [(0, vB own), (1, .slice a l.length cap), (5, vI j), (6, .pointer (some ⟨b6, 0, none⟩)), (7, .slice a l.length cap), (8, vI l.length), (9, vI j)]) (fun (u : { u : Unit // t.kind.toNat = 43 ∨ t.kind.toNat = 42 ∨ (t.kind.toNat = 45 ∧ t.value = []) }) => [Ce b6 60 [vU (t.kind.toNat : Int), vS t.name, vS t.target, vS t.value], B]) rfl (fun u => ?_) ?_
  ·
   obtain ⟨u, hkind⟩ := u
   try dsimp only
   refine Za (k:=Qc (k:=Qx 1 9 (k:=?_)))
   refine r_callF (escape_Word_sp t.name (by omega)) rfl rfl rfl ?_
   refine Qv (k:=Gi 4 (t:=fun h28 => ?_) (f:=fun h28 => ?_))
   ·
    refine O1 (k:=O1 (k:=O1 (k:=O1 (k:=P1 (k:=Vv (k:=O1 (k:=O1 (k:=Ou (k:=Ou (k:=Ou (k:=O1 (k:=?_))))))))))))
    refine P1 (k:=Vv (k:=O1 (k:=O1 (k:=O1 (k:=Ou (k:=Ou (k:=Ou (k:=Ou (k:=O1 (k:=P1 (k:=Wq ?_)))))))))))
    refine Z1 (k:=Qc (k:=Vv (k:=Wq (Zt (k:=Va (Vb (Va (Vi (Vb (Va ?_))))))))))
    exact zb211ret12
   ·
    refine I0 (k:=Vf 3 9 (k:=I0 (k:=Zd (k:=J0 (k:=J0 (k:=P0 (k:=Vv (k:=Gi 10 (t:=fun h34 => ?_) (f:=fun h34 => ?_)))))))))
    ·
     refine O1 (k:=O1 (k:=Ou (k:=Ou (k:=Ou (k:=O1 (k:=P1 (k:=Vv (k:=O1 (k:=O1 (k:=O1 (k:=Ou (k:=?_))))))))))))
     refine Ou (k:=Ou (k:=Ou (k:=O1 (k:=P1 (k:=Wq (Z1 (k:=Qc (k:=Vv (k:=Wq (Zt (k:=?_)))))))))))
     refine Va (Vb (Va (Vi (Vb (Va ?_)))))
     exact zb211ret12
    ·
     refine J0 (k:=J0 (k:=Gi 12 (t:=fun h36 => ?_) (f:=fun h36 => ?_)))
     ·
      refine I1 (k:=Vf 2 9 (k:=I1 (k:=Zd (k:=J1 (k:=I0 (k:=P1 (k:=P0 (k:=Vv (k:=Gi 18 (t:=fun h42 => ?_) (f:=fun h42 => ?_))))))))))
      ·
       refine O1 (k:=O1 (k:=O1 (k:=Ou (k:=Ou (k:=Ou (k:=Ou (k:=O1 (k:=P1 (k:=Wq (Z1 (k:=Za (k:=?_))))))))))))
       refine Zr (k:=Vv (k:=Wq (Zt (k:=Va (Vb (Va (Vi (Vb (Va ?_)))))))))
       exact zb211ret12
      ·
       refine J0 (k:=J0 (k:=J0 (k:=Gi 21 (t:=fun h45 => ?_) (f:=fun h45 => ?_))))
       ·
        refine I1 (k:=Vf 2 9 (k:=I1 (k:=Zd (k:=I1 (k:=?_)))))
        refine r_callF (hash_Is_sp t.target (by omega)) rfl rfl rfl ?_
        refine J1 (k:=I0 (k:=P1 (k:=P0 (k:=Wq (Zi (t:=fun h51 => ?_) (f:=fun h51 => ?_))))))
        ·
         refine Qc (k:=Vv (k:=Wq (Zt (k:=Va (Vb (Va (Vi (Vb (Va ?_)))))))))
         exact zb211ret12
        ·
         refine Zk (k:=Ya (Za (k:=Dw [Ce b6 60 [vU (t.kind.toNat : Int), vS t.name, vS t.target, vS t.value], B] (k:=?_))))
         refine Dv 0 (k:=Dv 1 (k:=Dv 2 (k:=Gd 2 (t:=fun h54 => ?_) (f:=fun h54 => ?_))))
         ·
          refine Di 3 (t:=U1 (h:=Uv)) (k:=Di 4 (t:=U1 (h:=Uv)) (k:=Di 5 (t:=U1 (h:=Uv)) (k:=?_)))
          refine d_first 6 rfl rfl rfl (by kernel_rfl) (by kernel_rfl) (tl_in (b := true) rfl (tl_elemAddr (sz := 4) (m := j - 1) (kk := 4 * (j - 1)) Tryz.underlying28 ti60 rfl rfl rfl (by omega) (by omega) (by omega) (Nat.mul_comm _ _))) ?_
          refine d_first 7 rfl rfl rfl (by kernel_rfl) (by kernel_rfl) (tl_in (b := true) rfl (tl_efield (kk := 4 * (j - 1) + 1) Tryz.underlying60 rfl ti9 rfl rfl rfl rfl (by omega))) ?_
          refine d_first 8 rfl rfl rfl (by kernel_rfl) (by kernel_rfl) (tl_in (b := true) rfl (tl_eload Tryz.underlying9 rfl rfl (tgget (j := j - 1) (by omega)).1)) ?_
          refine Di 9 (t:=U1 (h:=Uf 1 9)) (k:=Di 10 (t:=U1 (h:=Ul)) (k:=Di 11 (t:=U1 (h:=Uv)) (k:=Di 12 (t:=U1 (h:=Uv)) (k:=Gd 12 (t:=fun h64 => ?_) (f:=fun h64 => ?_)))))
          ·
           refine D1 13 (k:=D1 14 (k:=D1 15 (k:=D1 16 (k:=D1 17 (k:=D1 18 (k:=D1 19 (k:=D1 20 (k:=D1 21 (k:=D1 22 (k:=Di 23 (t:=Uu) (k:=Di 24 (t:=Uu) (k:=?_))))))))))))
           refine Di 25 (t:=Uu) (k:=Di 26 (t:=Uu) (k:=Di 27 (t:=Uu) (k:=Di 28 (t:=Uu) (k:=Di 29 (t:=Uu) (k:=Di 30 (t:=Uu) (k:=Di 31 (t:=Uu) (k:=D1 32 (k:=Di 33 (t:=U1 (h:=UP1)) (k:=DP1 34 (k:=Dd (k:=Ya ?_)))))))))))
           refine Z1 (k:=Qc (k:=Vv (k:=Wq (Zt (k:=Vb (Va (Vi (Vb (Va ?_)))))))))
           exact zb211ret14
          ·
           refine Di 13 (t:=U0 (h:=Uv)) (k:=Di 14 (t:=U0 (h:=Uv)) (k:=Di 15 (t:=U0 (h:=Uv)) (k:=?_)))
           refine d_first 16 rfl rfl rfl (by kernel_rfl) (by kernel_rfl) (tl_in (b := false) rfl (tl_elemAddr (sz := 4) (m := j - 1) (kk := 4 * (j - 1)) Tryz.underlying28 ti60 rfl rfl rfl (by omega) (by omega) (by omega) (Nat.mul_comm _ _))) ?_
           refine d_first 17 rfl rfl rfl (by kernel_rfl) (by kernel_rfl) (tl_in (b := false) rfl (tl_efield (kk := 4 * (j - 1) + 1) Tryz.underlying60 rfl ti9 rfl rfl rfl rfl (by omega))) ?_
           refine d_first 18 rfl rfl rfl (by kernel_rfl) (by kernel_rfl) (tl_in (b := false) rfl (tl_eload Tryz.underlying9 rfl rfl (tgget (j := j - 1) (by omega)).1)) ?_
           refine Di 19 (t:=U0 (h:=Uf 1 9)) (k:=Di 20 (t:=U0 (h:=Ul)) (k:=Di 21 (t:=U0 (h:=Uv)) (k:=Di 22 (t:=U0 (h:=Uv)) (k:=Gd 22 (t:=fun h74 => ?_) (f:=fun h74 => ?_)))))
           ·
            refine Di 23 (t:=U1 (h:=Uv)) (k:=Di 24 (t:=U1 (h:=Uv)) (k:=Di 25 (t:=U1 (h:=Uv)) (k:=?_)))
            refine d_first 26 rfl rfl rfl (by kernel_rfl) (by kernel_rfl) (tl_in (b := true) rfl (tl_elemAddr (sz := 4) (m := j - 1) (kk := 4 * (j - 1)) Tryz.underlying28 ti60 rfl rfl rfl (by omega) (by omega) (by omega) (Nat.mul_comm _ _))) ?_
            refine d_first 27 rfl rfl rfl (by kernel_rfl) (by kernel_rfl) (tl_in (b := true) rfl (tl_efield (kk := 4 * (j - 1) + 2) Tryz.underlying60 rfl ti9 rfl rfl rfl rfl (by omega))) ?_
            refine d_first 28 rfl rfl rfl (by kernel_rfl) (by kernel_rfl) (tl_in (b := true) rfl (tl_eload Tryz.underlying9 rfl rfl (tgget (j := j - 1) (by omega)).2)) ?_
            refine Di 29 (t:=U1 (h:=Uf 2 9)) (k:=Di 30 (t:=U1 (h:=Ul)) (k:=Di 31 (t:=U1 (h:=Uv)) (k:=Di 32 (t:=U0 (h:=UP1)) (k:=Di 33 (t:=U1 (h:=UP0)) (k:=DP1 34 (k:=Dd (k:=Ya (Zi (t:=fun h86 => ?_) (f:=fun h86 => ?_)))))))))
            ·
             refine Qc (k:=Vv (k:=Wq (Zt (k:=Vb (Va (Vi (Vb (Va ?_))))))))
             exact zb211ret14
            ·
             refine Zk (k:=Yb (Ya (Zr (k:=Qv (k:=Wn ?_)))))
             exact zb211next0
           ·
            refine D0 23 (k:=D0 24 (k:=D0 25 (k:=D0 26 (k:=D0 27 (k:=D0 28 (k:=D0 29 (k:=D0 30 (k:=D0 31 (k:=Di 32 (t:=U0 (h:=UP0)) (k:=Di 33 (t:=U1 (h:=UP0)) (k:=DP1 34 (k:=?_))))))))))))
            refine Dd (k:=Ya (Z0 (k:=Zk (k:=Yb (Ya (Zr (k:=Qv (k:=Wn ?_))))))))
            exact zb211next0
         ·
          refine D0 3 (k:=D0 4 (k:=D0 5 (k:=D0 6 (k:=D0 7 (k:=D0 8 (k:=D0 9 (k:=D0 10 (k:=D0 11 (k:=D0 12 (k:=Di 13 (t:=Uu) (k:=Di 14 (t:=Uu) (k:=?_))))))))))))
          refine Di 15 (t:=Uu) (k:=Di 16 (t:=Uu) (k:=Di 17 (t:=Uu) (k:=Di 18 (t:=Uu) (k:=Di 19 (t:=Uu) (k:=Di 20 (t:=Uu) (k:=Di 21 (t:=Uu) (k:=Di 22 (t:=Uu) (k:=Di 23 (t:=Uu) (k:=Di 24 (t:=Uu) (k:=Di 25 (t:=Uu) (k:=Di 26 (t:=Uu) (k:=?_))))))))))))
          refine Di 27 (t:=Uu) (k:=Di 28 (t:=Uu) (k:=Di 29 (t:=Uu) (k:=Di 30 (t:=Uu) (k:=Di 31 (t:=Uu) (k:=Di 32 (t:=Uu) (k:=D0 33 (k:=DP0 34 (k:=Dd (k:=Ya (Z0 (k:=Zk (k:=?_))))))))))))
          refine Yb (Ya (Zr (k:=Qv (k:=Wn ?_))))
          exact zb211next0
       ·
        refine O0 (k:=O0 (k:=O0 (k:=O0 (k:=I0 (k:=P0 (k:=P0 (k:=Wq (Z0 (k:=Zk (k:=Ya (Za (k:=?_))))))))))))
        refine Dw [Ce b6 60 [vU (t.kind.toNat : Int), vS t.name, vS t.target, vS t.value], B] (k:=?_)
        refine Dv 0 (k:=Dv 1 (k:=Dv 2 (k:=Gd 2 (t:=fun h54 => ?_) (f:=fun h54 => ?_))))
        ·
         refine Di 3 (t:=U1 (h:=Uv)) (k:=Di 4 (t:=U1 (h:=Uv)) (k:=Di 5 (t:=U1 (h:=Uv)) (k:=?_)))
         refine d_first 6 rfl rfl rfl (by kernel_rfl) (by kernel_rfl) (tl_in (b := true) rfl (tl_elemAddr (sz := 4) (m := j - 1) (kk := 4 * (j - 1)) Tryz.underlying28 ti60 rfl rfl rfl (by omega) (by omega) (by omega) (Nat.mul_comm _ _))) ?_
         refine d_first 7 rfl rfl rfl (by kernel_rfl) (by kernel_rfl) (tl_in (b := true) rfl (tl_efield (kk := 4 * (j - 1) + 1) Tryz.underlying60 rfl ti9 rfl rfl rfl rfl (by omega))) ?_
         refine d_first 8 rfl rfl rfl (by kernel_rfl) (by kernel_rfl) (tl_in (b := true) rfl (tl_eload Tryz.underlying9 rfl rfl (tgget (j := j - 1) (by omega)).1)) ?_
         refine Di 9 (t:=U1 (h:=Uf 1 9)) (k:=Di 10 (t:=U1 (h:=Ul)) (k:=Di 11 (t:=U1 (h:=Uv)) (k:=Di 12 (t:=U1 (h:=Uv)) (k:=Gd 12 (t:=fun h64 => ?_) (f:=fun h64 => ?_)))))
         ·
          refine D1 13 (k:=D1 14 (k:=D1 15 (k:=D1 16 (k:=D1 17 (k:=D1 18 (k:=D1 19 (k:=D1 20 (k:=D1 21 (k:=D1 22 (k:=Di 23 (t:=Uu) (k:=Di 24 (t:=Uu) (k:=?_))))))))))))
          refine Di 25 (t:=Uu) (k:=Di 26 (t:=Uu) (k:=Di 27 (t:=Uu) (k:=Di 28 (t:=Uu) (k:=Di 29 (t:=Uu) (k:=Di 30 (t:=Uu) (k:=Di 31 (t:=Uu) (k:=D1 32 (k:=Di 33 (t:=U1 (h:=UP1)) (k:=DP1 34 (k:=Dd (k:=Ya ?_)))))))))))
          refine Z1 (k:=Qc (k:=Vv (k:=Wq (Zt (k:=Vb (Va (Vi (Vb (Va ?_)))))))))
          exact zb211ret14
         ·
          refine Di 13 (t:=U0 (h:=Uv)) (k:=Di 14 (t:=U0 (h:=Uv)) (k:=Di 15 (t:=U0 (h:=Uv)) (k:=?_)))
          refine d_first 16 rfl rfl rfl (by kernel_rfl) (by kernel_rfl) (tl_in (b := false) rfl (tl_elemAddr (sz := 4) (m := j - 1) (kk := 4 * (j - 1)) Tryz.underlying28 ti60 rfl rfl rfl (by omega) (by omega) (by omega) (Nat.mul_comm _ _))) ?_
          refine d_first 17 rfl rfl rfl (by kernel_rfl) (by kernel_rfl) (tl_in (b := false) rfl (tl_efield (kk := 4 * (j - 1) + 1) Tryz.underlying60 rfl ti9 rfl rfl rfl rfl (by omega))) ?_
          refine d_first 18 rfl rfl rfl (by kernel_rfl) (by kernel_rfl) (tl_in (b := false) rfl (tl_eload Tryz.underlying9 rfl rfl (tgget (j := j - 1) (by omega)).1)) ?_
          refine Di 19 (t:=U0 (h:=Uf 1 9)) (k:=Di 20 (t:=U0 (h:=Ul)) (k:=Di 21 (t:=U0 (h:=Uv)) (k:=Di 22 (t:=U0 (h:=Uv)) (k:=Gd 22 (t:=fun h74 => ?_) (f:=fun h74 => ?_)))))
          ·
           refine Di 23 (t:=U1 (h:=Uv)) (k:=Di 24 (t:=U1 (h:=Uv)) (k:=Di 25 (t:=U1 (h:=Uv)) (k:=?_)))
           refine d_first 26 rfl rfl rfl (by kernel_rfl) (by kernel_rfl) (tl_in (b := true) rfl (tl_elemAddr (sz := 4) (m := j - 1) (kk := 4 * (j - 1)) Tryz.underlying28 ti60 rfl rfl rfl (by omega) (by omega) (by omega) (Nat.mul_comm _ _))) ?_
           refine d_first 27 rfl rfl rfl (by kernel_rfl) (by kernel_rfl) (tl_in (b := true) rfl (tl_efield (kk := 4 * (j - 1) + 2) Tryz.underlying60 rfl ti9 rfl rfl rfl rfl (by omega))) ?_
           refine d_first 28 rfl rfl rfl (by kernel_rfl) (by kernel_rfl) (tl_in (b := true) rfl (tl_eload Tryz.underlying9 rfl rfl (tgget (j := j - 1) (by omega)).2)) ?_
           refine Di 29 (t:=U1 (h:=Uf 2 9)) (k:=Di 30 (t:=U1 (h:=Ul)) (k:=Di 31 (t:=U1 (h:=Uv)) (k:=Di 32 (t:=U0 (h:=UP1)) (k:=Di 33 (t:=U1 (h:=UP0)) (k:=DP1 34 (k:=Dd (k:=Ya (Zi (t:=fun h86 => ?_) (f:=fun h86 => ?_)))))))))
           ·
            refine Qc (k:=Vv (k:=Wq (Zt (k:=Vb (Va (Vi (Vb (Va ?_))))))))
            exact zb211ret14
           ·
            refine Zk (k:=Yb (Ya (Zr (k:=Qv (k:=Wn ?_)))))
            exact zb211next0
          ·
           refine D0 23 (k:=D0 24 (k:=D0 25 (k:=D0 26 (k:=D0 27 (k:=D0 28 (k:=D0 29 (k:=D0 30 (k:=D0 31 (k:=Di 32 (t:=U0 (h:=UP0)) (k:=Di 33 (t:=U1 (h:=UP0)) (k:=DP1 34 (k:=?_))))))))))))
           refine Dd (k:=Ya (Z0 (k:=Zk (k:=Yb (Ya (Zr (k:=Qv (k:=Wn ?_))))))))
           exact zb211next0
        ·
         refine D0 3 (k:=D0 4 (k:=D0 5 (k:=D0 6 (k:=D0 7 (k:=D0 8 (k:=D0 9 (k:=D0 10 (k:=D0 11 (k:=D0 12 (k:=Di 13 (t:=Uu) (k:=Di 14 (t:=Uu) (k:=?_))))))))))))
         refine Di 15 (t:=Uu) (k:=Di 16 (t:=Uu) (k:=Di 17 (t:=Uu) (k:=Di 18 (t:=Uu) (k:=Di 19 (t:=Uu) (k:=Di 20 (t:=Uu) (k:=Di 21 (t:=Uu) (k:=Di 22 (t:=Uu) (k:=Di 23 (t:=Uu) (k:=Di 24 (t:=Uu) (k:=Di 25 (t:=Uu) (k:=Di 26 (t:=Uu) (k:=?_))))))))))))
         refine Di 27 (t:=Uu) (k:=Di 28 (t:=Uu) (k:=Di 29 (t:=Uu) (k:=Di 30 (t:=Uu) (k:=Di 31 (t:=Uu) (k:=Di 32 (t:=Uu) (k:=D0 33 (k:=DP0 34 (k:=Dd (k:=Ya (Z0 (k:=Zk (k:=?_))))))))))))
         refine Yb (Ya (Zr (k:=Qv (k:=Wn ?_))))
         exact zb211next0
     ·
      refine O0 (k:=O0 (k:=O0 (k:=I0 (k:=P0 (k:=P0 (k:=Vv (k:=J0 (k:=J0 (k:=I0 (k:=?_))))))))))
      refine Vv (k:=Gi 21 (t:=fun h45 => ?_) (f:=fun h45 => ?_))
      ·
       refine I1 (k:=Vf 2 9 (k:=I1 (k:=Zd (k:=I1 (k:=?_)))))
       refine r_callF (hash_Is_sp t.target (by omega)) rfl rfl rfl ?_
       refine J1 (k:=I0 (k:=P1 (k:=P0 (k:=Wq (Zi (t:=fun h51 => ?_) (f:=fun h51 => ?_))))))
       ·
        refine Qc (k:=Vv (k:=Wq (Zt (k:=Va (Vb (Va (Vi (Vb (Va ?_)))))))))
        exact zb211ret12
       ·
        refine Zk (k:=Ya (Za (k:=Dw [Ce b6 60 [vU (t.kind.toNat : Int), vS t.name, vS t.target, vS t.value], B] (k:=?_))))
        refine Dv 0 (k:=Dv 1 (k:=Dv 2 (k:=Gd 2 (t:=fun h54 => ?_) (f:=fun h54 => ?_))))
        ·
         refine Di 3 (t:=U1 (h:=Uv)) (k:=Di 4 (t:=U1 (h:=Uv)) (k:=Di 5 (t:=U1 (h:=Uv)) (k:=?_)))
         refine d_first 6 rfl rfl rfl (by kernel_rfl) (by kernel_rfl) (tl_in (b := true) rfl (tl_elemAddr (sz := 4) (m := j - 1) (kk := 4 * (j - 1)) Tryz.underlying28 ti60 rfl rfl rfl (by omega) (by omega) (by omega) (Nat.mul_comm _ _))) ?_
         refine d_first 7 rfl rfl rfl (by kernel_rfl) (by kernel_rfl) (tl_in (b := true) rfl (tl_efield (kk := 4 * (j - 1) + 1) Tryz.underlying60 rfl ti9 rfl rfl rfl rfl (by omega))) ?_
         refine d_first 8 rfl rfl rfl (by kernel_rfl) (by kernel_rfl) (tl_in (b := true) rfl (tl_eload Tryz.underlying9 rfl rfl (tgget (j := j - 1) (by omega)).1)) ?_
         refine Di 9 (t:=U1 (h:=Uf 1 9)) (k:=Di 10 (t:=U1 (h:=Ul)) (k:=Di 11 (t:=U1 (h:=Uv)) (k:=Di 12 (t:=U1 (h:=Uv)) (k:=Gd 12 (t:=fun h64 => ?_) (f:=fun h64 => ?_)))))
         ·
          refine D1 13 (k:=D1 14 (k:=D1 15 (k:=D1 16 (k:=D1 17 (k:=D1 18 (k:=D1 19 (k:=D1 20 (k:=D1 21 (k:=D1 22 (k:=Di 23 (t:=Uu) (k:=Di 24 (t:=Uu) (k:=?_))))))))))))
          refine Di 25 (t:=Uu) (k:=Di 26 (t:=Uu) (k:=Di 27 (t:=Uu) (k:=Di 28 (t:=Uu) (k:=Di 29 (t:=Uu) (k:=Di 30 (t:=Uu) (k:=Di 31 (t:=Uu) (k:=D1 32 (k:=Di 33 (t:=U1 (h:=UP1)) (k:=DP1 34 (k:=Dd (k:=Ya ?_)))))))))))
          refine Z1 (k:=Qc (k:=Vv (k:=Wq (Zt (k:=Vb (Va (Vi (Vb (Va ?_)))))))))
          exact zb211ret14
         ·
          refine Di 13 (t:=U0 (h:=Uv)) (k:=Di 14 (t:=U0 (h:=Uv)) (k:=Di 15 (t:=U0 (h:=Uv)) (k:=?_)))
          refine d_first 16 rfl rfl rfl (by kernel_rfl) (by kernel_rfl) (tl_in (b := false) rfl (tl_elemAddr (sz := 4) (m := j - 1) (kk := 4 * (j - 1)) Tryz.underlying28 ti60 rfl rfl rfl (by omega) (by omega) (by omega) (Nat.mul_comm _ _))) ?_
          refine d_first 17 rfl rfl rfl (by kernel_rfl) (by kernel_rfl) (tl_in (b := false) rfl (tl_efield (kk := 4 * (j - 1) + 1) Tryz.underlying60 rfl ti9 rfl rfl rfl rfl (by omega))) ?_
          refine d_first 18 rfl rfl rfl (by kernel_rfl) (by kernel_rfl) (tl_in (b := false) rfl (tl_eload Tryz.underlying9 rfl rfl (tgget (j := j - 1) (by omega)).1)) ?_
          refine Di 19 (t:=U0 (h:=Uf 1 9)) (k:=Di 20 (t:=U0 (h:=Ul)) (k:=Di 21 (t:=U0 (h:=Uv)) (k:=Di 22 (t:=U0 (h:=Uv)) (k:=Gd 22 (t:=fun h74 => ?_) (f:=fun h74 => ?_)))))
          ·
           refine Di 23 (t:=U1 (h:=Uv)) (k:=Di 24 (t:=U1 (h:=Uv)) (k:=Di 25 (t:=U1 (h:=Uv)) (k:=?_)))
           refine d_first 26 rfl rfl rfl (by kernel_rfl) (by kernel_rfl) (tl_in (b := true) rfl (tl_elemAddr (sz := 4) (m := j - 1) (kk := 4 * (j - 1)) Tryz.underlying28 ti60 rfl rfl rfl (by omega) (by omega) (by omega) (Nat.mul_comm _ _))) ?_
           refine d_first 27 rfl rfl rfl (by kernel_rfl) (by kernel_rfl) (tl_in (b := true) rfl (tl_efield (kk := 4 * (j - 1) + 2) Tryz.underlying60 rfl ti9 rfl rfl rfl rfl (by omega))) ?_
           refine d_first 28 rfl rfl rfl (by kernel_rfl) (by kernel_rfl) (tl_in (b := true) rfl (tl_eload Tryz.underlying9 rfl rfl (tgget (j := j - 1) (by omega)).2)) ?_
           refine Di 29 (t:=U1 (h:=Uf 2 9)) (k:=Di 30 (t:=U1 (h:=Ul)) (k:=Di 31 (t:=U1 (h:=Uv)) (k:=Di 32 (t:=U0 (h:=UP1)) (k:=Di 33 (t:=U1 (h:=UP0)) (k:=DP1 34 (k:=Dd (k:=Ya (Zi (t:=fun h86 => ?_) (f:=fun h86 => ?_)))))))))
           ·
            refine Qc (k:=Vv (k:=Wq (Zt (k:=Vb (Va (Vi (Vb (Va ?_))))))))
            exact zb211ret14
           ·
            refine Zk (k:=Yb (Ya (Zr (k:=Qv (k:=Wn ?_)))))
            exact zb211next0
          ·
           refine D0 23 (k:=D0 24 (k:=D0 25 (k:=D0 26 (k:=D0 27 (k:=D0 28 (k:=D0 29 (k:=D0 30 (k:=D0 31 (k:=Di 32 (t:=U0 (h:=UP0)) (k:=Di 33 (t:=U1 (h:=UP0)) (k:=DP1 34 (k:=?_))))))))))))
           refine Dd (k:=Ya (Z0 (k:=Zk (k:=Yb (Ya (Zr (k:=Qv (k:=Wn ?_))))))))
           exact zb211next0
        ·
         refine D0 3 (k:=D0 4 (k:=D0 5 (k:=D0 6 (k:=D0 7 (k:=D0 8 (k:=D0 9 (k:=D0 10 (k:=D0 11 (k:=D0 12 (k:=Di 13 (t:=Uu) (k:=Di 14 (t:=Uu) (k:=?_))))))))))))
         refine Di 15 (t:=Uu) (k:=Di 16 (t:=Uu) (k:=Di 17 (t:=Uu) (k:=Di 18 (t:=Uu) (k:=Di 19 (t:=Uu) (k:=Di 20 (t:=Uu) (k:=Di 21 (t:=Uu) (k:=Di 22 (t:=Uu) (k:=Di 23 (t:=Uu) (k:=Di 24 (t:=Uu) (k:=Di 25 (t:=Uu) (k:=Di 26 (t:=Uu) (k:=?_))))))))))))
         refine Di 27 (t:=Uu) (k:=Di 28 (t:=Uu) (k:=Di 29 (t:=Uu) (k:=Di 30 (t:=Uu) (k:=Di 31 (t:=Uu) (k:=Di 32 (t:=Uu) (k:=D0 33 (k:=DP0 34 (k:=Dd (k:=Ya (Z0 (k:=Zk (k:=?_))))))))))))
         refine Yb (Ya (Zr (k:=Qv (k:=Wn ?_))))
         exact zb211next0
      ·
       refine O0 (k:=O0 (k:=O0 (k:=O0 (k:=I0 (k:=P0 (k:=P0 (k:=Wq (Z0 (k:=Zk (k:=Ya (Za (k:=?_))))))))))))
       refine Dw [Ce b6 60 [vU (t.kind.toNat : Int), vS t.name, vS t.target, vS t.value], B] (k:=?_)
       refine Dv 0 (k:=Dv 1 (k:=Dv 2 (k:=Gd 2 (t:=fun h54 => ?_) (f:=fun h54 => ?_))))
       ·
        refine Di 3 (t:=U1 (h:=Uv)) (k:=Di 4 (t:=U1 (h:=Uv)) (k:=Di 5 (t:=U1 (h:=Uv)) (k:=?_)))
        refine d_first 6 rfl rfl rfl (by kernel_rfl) (by kernel_rfl) (tl_in (b := true) rfl (tl_elemAddr (sz := 4) (m := j - 1) (kk := 4 * (j - 1)) Tryz.underlying28 ti60 rfl rfl rfl (by omega) (by omega) (by omega) (Nat.mul_comm _ _))) ?_
        refine d_first 7 rfl rfl rfl (by kernel_rfl) (by kernel_rfl) (tl_in (b := true) rfl (tl_efield (kk := 4 * (j - 1) + 1) Tryz.underlying60 rfl ti9 rfl rfl rfl rfl (by omega))) ?_
        refine d_first 8 rfl rfl rfl (by kernel_rfl) (by kernel_rfl) (tl_in (b := true) rfl (tl_eload Tryz.underlying9 rfl rfl (tgget (j := j - 1) (by omega)).1)) ?_
        refine Di 9 (t:=U1 (h:=Uf 1 9)) (k:=Di 10 (t:=U1 (h:=Ul)) (k:=Di 11 (t:=U1 (h:=Uv)) (k:=Di 12 (t:=U1 (h:=Uv)) (k:=Gd 12 (t:=fun h64 => ?_) (f:=fun h64 => ?_)))))
        ·
         refine D1 13 (k:=D1 14 (k:=D1 15 (k:=D1 16 (k:=D1 17 (k:=D1 18 (k:=D1 19 (k:=D1 20 (k:=D1 21 (k:=D1 22 (k:=Di 23 (t:=Uu) (k:=Di 24 (t:=Uu) (k:=?_))))))))))))
         refine Di 25 (t:=Uu) (k:=Di 26 (t:=Uu) (k:=Di 27 (t:=Uu) (k:=Di 28 (t:=Uu) (k:=Di 29 (t:=Uu) (k:=Di 30 (t:=Uu) (k:=Di 31 (t:=Uu) (k:=D1 32 (k:=Di 33 (t:=U1 (h:=UP1)) (k:=DP1 34 (k:=Dd (k:=Ya ?_)))))))))))
         refine Z1 (k:=Qc (k:=Vv (k:=Wq (Zt (k:=Vb (Va (Vi (Vb (Va ?_)))))))))
         exact zb211ret14
        ·
         refine Di 13 (t:=U0 (h:=Uv)) (k:=Di 14 (t:=U0 (h:=Uv)) (k:=Di 15 (t:=U0 (h:=Uv)) (k:=?_)))
         refine d_first 16 rfl rfl rfl (by kernel_rfl) (by kernel_rfl) (tl_in (b := false) rfl (tl_elemAddr (sz := 4) (m := j - 1) (kk := 4 * (j - 1)) Tryz.underlying28 ti60 rfl rfl rfl (by omega) (by omega) (by omega) (Nat.mul_comm _ _))) ?_
         refine d_first 17 rfl rfl rfl (by kernel_rfl) (by kernel_rfl) (tl_in (b := false) rfl (tl_efield (kk := 4 * (j - 1) + 1) Tryz.underlying60 rfl ti9 rfl rfl rfl rfl (by omega))) ?_
         refine d_first 18 rfl rfl rfl (by kernel_rfl) (by kernel_rfl) (tl_in (b := false) rfl (tl_eload Tryz.underlying9 rfl rfl (tgget (j := j - 1) (by omega)).1)) ?_
         refine Di 19 (t:=U0 (h:=Uf 1 9)) (k:=Di 20 (t:=U0 (h:=Ul)) (k:=Di 21 (t:=U0 (h:=Uv)) (k:=Di 22 (t:=U0 (h:=Uv)) (k:=Gd 22 (t:=fun h74 => ?_) (f:=fun h74 => ?_)))))
         ·
          refine Di 23 (t:=U1 (h:=Uv)) (k:=Di 24 (t:=U1 (h:=Uv)) (k:=Di 25 (t:=U1 (h:=Uv)) (k:=?_)))
          refine d_first 26 rfl rfl rfl (by kernel_rfl) (by kernel_rfl) (tl_in (b := true) rfl (tl_elemAddr (sz := 4) (m := j - 1) (kk := 4 * (j - 1)) Tryz.underlying28 ti60 rfl rfl rfl (by omega) (by omega) (by omega) (Nat.mul_comm _ _))) ?_
          refine d_first 27 rfl rfl rfl (by kernel_rfl) (by kernel_rfl) (tl_in (b := true) rfl (tl_efield (kk := 4 * (j - 1) + 2) Tryz.underlying60 rfl ti9 rfl rfl rfl rfl (by omega))) ?_
          refine d_first 28 rfl rfl rfl (by kernel_rfl) (by kernel_rfl) (tl_in (b := true) rfl (tl_eload Tryz.underlying9 rfl rfl (tgget (j := j - 1) (by omega)).2)) ?_
          refine Di 29 (t:=U1 (h:=Uf 2 9)) (k:=Di 30 (t:=U1 (h:=Ul)) (k:=Di 31 (t:=U1 (h:=Uv)) (k:=Di 32 (t:=U0 (h:=UP1)) (k:=Di 33 (t:=U1 (h:=UP0)) (k:=DP1 34 (k:=Dd (k:=Ya (Zi (t:=fun h86 => ?_) (f:=fun h86 => ?_)))))))))
          ·
           refine Qc (k:=Vv (k:=Wq (Zt (k:=Vb (Va (Vi (Vb (Va ?_))))))))
           exact zb211ret14
          ·
           refine Zk (k:=Yb (Ya (Zr (k:=Qv (k:=Wn ?_)))))
           exact zb211next0
         ·
          refine D0 23 (k:=D0 24 (k:=D0 25 (k:=D0 26 (k:=D0 27 (k:=D0 28 (k:=D0 29 (k:=D0 30 (k:=D0 31 (k:=Di 32 (t:=U0 (h:=UP0)) (k:=Di 33 (t:=U1 (h:=UP0)) (k:=DP1 34 (k:=?_))))))))))))
          refine Dd (k:=Ya (Z0 (k:=Zk (k:=Yb (Ya (Zr (k:=Qv (k:=Wn ?_))))))))
          exact zb211next0
       ·
        refine D0 3 (k:=D0 4 (k:=D0 5 (k:=D0 6 (k:=D0 7 (k:=D0 8 (k:=D0 9 (k:=D0 10 (k:=D0 11 (k:=D0 12 (k:=Di 13 (t:=Uu) (k:=Di 14 (t:=Uu) (k:=?_))))))))))))
        refine Di 15 (t:=Uu) (k:=Di 16 (t:=Uu) (k:=Di 17 (t:=Uu) (k:=Di 18 (t:=Uu) (k:=Di 19 (t:=Uu) (k:=Di 20 (t:=Uu) (k:=Di 21 (t:=Uu) (k:=Di 22 (t:=Uu) (k:=Di 23 (t:=Uu) (k:=Di 24 (t:=Uu) (k:=Di 25 (t:=Uu) (k:=Di 26 (t:=Uu) (k:=?_))))))))))))
        refine Di 27 (t:=Uu) (k:=Di 28 (t:=Uu) (k:=Di 29 (t:=Uu) (k:=Di 30 (t:=Uu) (k:=Di 31 (t:=Uu) (k:=Di 32 (t:=Uu) (k:=D0 33 (k:=DP0 34 (k:=Dd (k:=Ya (Z0 (k:=Zk (k:=?_))))))))))))
        refine Yb (Ya (Zr (k:=Qv (k:=Wn ?_))))
        exact zb211next0
  ·
   refine Qc (k:=Qx 0 5 (k:=Wq (Zb (k:=Za (k:=Qc (k:=Qv (k:=Wq ?_)))))))
   refine Zi (t:=fun h16 => ?_) (f:=fun h16 => ?_)
   ·
    refine Zk (k:=Ya (Zi (t:=fun h16 => ?_) (f:=fun h16 => ?_)))
    ·
     refine Zk (k:=Yb ?_)
     exact zb211join11
    ·
     refine Qc (k:=Qv (k:=Wq (Zi (t:=fun h19 => ?_) (f:=fun h19 => ?_))))
     ·
      refine Qc (k:=Qx 3 9 (k:=Vv (k:=Wq (Zi (t:=fun h23 => ?_) (f:=fun h23 => ?_)))))
      ·
       refine Qc (k:=Vv (k:=Wq (Zt (k:=Vb (Vi (Vb (Va (Vi (Vb (Va ?_))))))))))
       exact zb211ret10
      ·
       refine Zk (k:=Yb ?_)
       exact zb211join11
     ·
      refine Qc (k:=Vv (k:=Wq (Zt (k:=Vb (Vi (Vb (Va (Vi (Vb (Va ?_))))))))))
      exact zb211ret5
   ·
    refine Zr (k:=Qv (k:=Wq (Zi (t:=fun h16 => ?_) (f:=fun h16 => ?_))))
    ·
     refine Zk (k:=Yb ?_)
     exact zb211join11
    ·
     refine Qc (k:=Qv (k:=Wq (Zi (t:=fun h19 => ?_) (f:=fun h19 => ?_))))
     ·
      refine Qc (k:=Qx 3 9 (k:=Vv (k:=Wq (Zi (t:=fun h23 => ?_) (f:=fun h23 => ?_)))))
      ·
       refine Qc (k:=Vv (k:=Wq (Zt (k:=Vb (Vi (Vb (Va (Vi (Vb (Va ?_))))))))))
       exact zb211ret10
      ·
       refine Zk (k:=Yb ?_)
       exact zb211join11
     ·
      refine Qc (k:=Vv (k:=Wq (Zt (k:=Vb (Vi (Vb (Va (Vi (Vb (Va ?_))))))))))
      exact zb211ret5
 ·
  refine Ze (k:=Xa (Xi (Xb (Ya (Qc (k:=Qv (k:=Qv (k:=Wq ?_))))))))
  refine Zt (k:=?_)
  refine fin_ret () (vs := [_]) (Cs := []) rfl (.tmp rfl .nil) ?_ trivial ent_pick
  show vB _ = vB _
  congr 1
  refine decide_eq_decide.2 ⟨fun h => ⟨fun i hi => hok i (by omega), by omega⟩, fun h => ?_⟩
  have := h.len
  omega
end
end Go.Proofs.YtdnoacgopfcpbaaGreat
