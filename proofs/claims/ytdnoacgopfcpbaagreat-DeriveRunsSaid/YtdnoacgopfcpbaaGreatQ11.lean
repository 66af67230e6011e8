/- Texts of this proof, put together: PCk, PCk2. -/
import Derived.Test.YtdnoacgopfcpbaaGreatQ10
set_option linter.unusedVariables false
set_option linter.unusedSimpArgs false
namespace Go.Proofs.YtdnoacgopfcpbaaGreat
structure Tg where
 kind : UInt8
 name : Bs
 target : Bs
 value : Bs
 deriving DecidableEq, Repr
def tg0 : Tg := ⟨0, [], [], []⟩
structure Ck where
 base : Bs
 comment : Bs
 date : Int
 files : List (Bs × Bs)
 parents : List Bs
 tags : List Tg
 user : Bs
 deriving DecidableEq, Repr
def ck0 : Ck := ⟨[], [], 0, [], [], [], []⟩
structure OkT (own : Bool) (l : List Tg) (i : Nat) : Prop where
 kind : (l.getD i tg0).kind.toNat = 43 ∨ (l.getD i tg0).kind.toNat = 42 ∨ ((l.getD i tg0).kind.toNat = 45 ∧ (l.getD i tg0).value = [])
 name : wordP (l.getD i tg0).name
 val : (l.getD i tg0).value.length ≤ 12
 tgt : (own = true → (l.getD i tg0).target = [42]) ∧ (own = false → isN (l.getD i tg0).target = true)
 rise : 0 < i → (blt (l.getD (i - 1) tg0).name (l.getD i tg0).name = true ∨ (l.getD (i - 1) tg0).name = (l.getD i tg0).name) ∧ ((l.getD (i - 1) tg0).name = (l.getD i tg0).name → blt (l.getD (i - 1) tg0).target (l.getD i tg0).target = true)
structure RightT (own : Bool) (l : List Tg) : Prop where
 ok : ∀ i, i < l.length → OkT own l i
 len : l.length ≤ 12
structure OkF (whole : Bool) (l : List (Bs × Bs)) (i : Nat) : Prop where
 name : wordP (l.getD i ([], [])).1
 rise : 0 < i → blt (l.getD (i - 1) ([], [])).1 (l.getD i ([], [])).1 = true
 hash : isN (l.getD i ([], [])).2 = true ∨ (whole = false ∧ (l.getD i ([], [])).2 = [])
structure RightF (whole : Bool) (l : List (Bs × Bs)) : Prop where
 ok : ∀ i, i < l.length → OkF whole l i
 len : l.length ≤ 12
structure RightP (l : List Bs) (most : Int) : Prop where
 ok : ∀ i, i < l.length → isN (l.getD i []) = true ∧ l.getD i [] ∉ l.take i
 len : (l.length : Int) ≤ most
instance (own : Bool) (l : List Tg) (i : Nat) : Decidable (OkT own l i) := decidable_of_iff (((l.getD i tg0).kind.toNat = 43 ∨ (l.getD i tg0).kind.toNat = 42 ∨ ((l.getD i tg0).kind.toNat = 45 ∧ (l.getD i tg0).value = [])) ∧ wordP (l.getD i tg0).name ∧ (l.getD i tg0).value.length ≤ 12 ∧ ((own = true → (l.getD i tg0).target = [42]) ∧ (own = false → isN (l.getD i tg0).target = true)) ∧ (0 < i → (blt (l.getD (i - 1) tg0).name (l.getD i tg0).name = true ∨ (l.getD (i - 1) tg0).name = (l.getD i tg0).name) ∧ ((l.getD (i - 1) tg0).name = (l.getD i tg0).name → blt (l.getD (i - 1) tg0).target (l.getD i tg0).target = true))) ⟨fun ⟨a, b, c, d, e⟩ => ⟨a, b, c, d, e⟩, fun ⟨a, b, c, d, e⟩ => ⟨a, b, c, d, e⟩⟩
instance (own : Bool) (l : List Tg) : Decidable (RightT own l) := decidable_of_iff ((∀ i, i < l.length → OkT own l i) ∧ l.length ≤ 12) ⟨fun ⟨a, b⟩ => ⟨a, b⟩, fun ⟨a, b⟩ => ⟨a, b⟩⟩
instance (w : Bool) (l : List (Bs × Bs)) (i : Nat) : Decidable (OkF w l i) := decidable_of_iff (wordP (l.getD i ([], [])).1 ∧ (0 < i → blt (l.getD (i - 1) ([], [])).1 (l.getD i ([], [])).1 = true) ∧ (isN (l.getD i ([], [])).2 = true ∨ (w = false ∧ (l.getD i ([], [])).2 = []))) ⟨fun ⟨a, b, c⟩ => ⟨a, b, c⟩, fun ⟨a, b, c⟩ => ⟨a, b, c⟩⟩
instance (w : Bool) (l : List (Bs × Bs)) : Decidable (RightF w l) := decidable_of_iff ((∀ i, i < l.length → OkF w l i) ∧ l.length ≤ 12) ⟨fun ⟨a, b⟩ => ⟨a, b⟩, fun ⟨a, b⟩ => ⟨a, b⟩⟩
instance (l : List Bs) (m : Int) : Decidable (RightP l m) := decidable_of_iff ((∀ i, i < l.length → isN (l.getD i []) = true ∧ l.getD i [] ∉ l.take i) ∧ (l.length : Int) ≤ m) ⟨fun ⟨a, b⟩ => ⟨a, b⟩, fun ⟨a, b⟩ => ⟨a, b⟩⟩
structure RightK (c : Ck) : Prop where
 base : c.base = [] ∨ isN c.base = true
 comment : c.comment.length ≤ 40
 date : 0 ≤ c.date ∧ c.date ≤ 1073741824
 files : RightF (decide (c.base = [])) c.files
 parents : RightP c.parents 3
 tags : RightT true c.tags
 user : wordP c.user
instance (c : Ck) : Decidable (RightK c) := decidable_of_iff ((c.base = [] ∨ isN c.base = true) ∧ c.comment.length ≤ 40 ∧ (0 ≤ c.date ∧ c.date ≤ 1073741824) ∧ RightF (decide (c.base = [])) c.files ∧ RightP c.parents 3 ∧ RightT true c.tags ∧ wordP c.user) ⟨fun ⟨a, b, c, d, e, f, g⟩ => ⟨a, b, c, d, e, f, g⟩, fun ⟨a, b, c, d, e, f, g⟩ => ⟨a, b, c, d, e, f, g⟩⟩
def tgCard (t : Tg) : Cd := ⟨84, [t.kind :: t.name, t.target] ++ if t.value = [] then [] else [escB t.value]⟩
def flCard (f : Bs × Bs) : Cd := ⟨70, if f.2 = [] then [f.1] else [f.1, f.2]⟩
def bCards (b : Bs) : List Cd := if b = [] then [] else [⟨66, [b]⟩]
def pCards (l : List Bs) : List Cd := if l = [] then [] else [⟨80, l⟩]
def ckCards (c : Ck) : List Cd := bCards c.base ++ [⟨67, [46 :: escB c.comment]⟩, ⟨68, [decN c.date.toNat]⟩] ++ c.files.map flCard ++ pCards c.parents ++ (c.tags.map tgCard ++ [⟨85, [c.user]⟩])
def ckB (c : Ck) : Bs := printB (ckCards c)
/-! Right check-ins' cards are right. -/
theorem isN_argOk {s : Bs} (h : isN s = true) : argOk s := by
 have := of_decide_eq_true h
 exact isN_ok this.1 this.2
theorem isN_len {s : Bs} (h : isN s = true) : s.length = 40 := (of_decide_eq_true h).1
theorem decN_dig : ∀ (n : Nat), decN n ≠ [] ∧ ∀ c ∈ decN n, 48 ≤ c.toNat ∧ c.toNat ≤ 57 := by
 intro n
 induction n using Nat.strongRecOn with
 | _ n ih =>
   rw [decN]
   split
   · refine ⟨by simp, fun c hc => ?_⟩
     rw [List.mem_singleton.1 hc, dgt_toNat]; omega
   · refine ⟨by simp, fun c hc => ?_⟩
     rcases List.mem_append.1 hc with hc | hc
     · exact (ih (n / 10) (by omega)).2 c hc
     · rw [List.mem_singleton.1 hc, dgt_toNat]; omega
theorem decN_lt : ∀ (k n : Nat), n < 10 ^ k → (decN n).length ≤ k ∨ k = 0 := by
 intro k
 induction k with
 | zero => intros; exact .inr rfl
 | succ k ih =>
   intro n h
   left
   rw [decN]
   split
   · simp
   · rw [List.length_append, List.length_singleton]
     rw [Nat.pow_succ] at h
     rcases ih (n / 10) (by omega) with h1 | h1
     · omega
     · subst h1; omega
theorem decN_10 {n : Nat} (h : n ≤ 1073741824) : (decN n).length ≤ 10 := by
 rcases decN_lt 10 n (by omega) with h | h <;> omega
theorem decN_argOk (n : Nat) : argOk (decN n) := argOk_iff.2 ⟨fun e => (decN_dig n).1 (List.eq_nil_of_length_eq_zero e), fun d hd => by have := (decN_dig n).2 d hd; omega⟩
theorem argOk_cons {c : UInt8} {s : Bs} (hc : c.toNat ≠ 32 ∧ c.toNat ≠ 10) (h : ∀ d ∈ s, d.toNat ≠ 32 ∧ d.toNat ≠ 10) : argOk (c :: s) := argOk_iff.2 ⟨by simp, fun d hd => by
 rcases List.mem_cons.1 hd with rfl | hd
 · exact hc
 · exact h d hd⟩
theorem word_no {s : Bs} (h : wordP s) : ∀ d ∈ s, d.toNat ≠ 32 ∧ d.toNat ≠ 10 := fun d hd => by have := h.1 d hd; omega
theorem tgCard_ok {own : Bool} {l : List Tg} (h : RightT own l) : ∀ t ∈ l, ∀ a ∈ (tgCard t).args, argOk a := by
 intro t ht a ha
 obtain ⟨i, hi, rfl⟩ := mem_getD (d := tg0) ht
 obtain ⟨hk, o2, _, o4, _⟩ := h.ok i hi
 generalize l.getD i tg0 = t at hk o2 o4 ha
 have hn := word_no o2
 have ht2 : argOk t.target := by
  cases own with
  | true => rw [o4.1 rfl]; exact ⟨by simp, by decide, by decide⟩
  | false => exact isN_argOk (o4.2 rfl)
 simp only [tgCard, List.mem_append, List.mem_cons, List.not_mem_nil, or_false] at ha
 rcases ha with (rfl | rfl) | ha
 · exact argOk_cons (by omega) hn
 · exact ht2
 · split at ha
   · cases ha
   · rename_i hv
     rw [List.mem_singleton.1 ha]; exact argOk_esc hv
theorem pw_app {k : Nat} {l m : List Cd} (h1 : ∀ a ∈ l, a.l.toNat ≤ k) (h2 : ∀ b ∈ m, k ≤ b.l.toNat) (p1 : l.Pairwise (fun a b => a.l.toNat ≤ b.l.toNat)) (p2 : m.Pairwise (fun a b => a.l.toNat ≤ b.l.toNat)) : (l ++ m).Pairwise (fun a b => a.l.toNat ≤ b.l.toNat) := by
 rw [List.pairwise_append]
 exact ⟨p1, p2, fun a ha b hb => Nat.le_trans (h1 a ha) (h2 b hb)⟩
theorem pw_const {l : List Cd} {k : Nat} (h : ∀ a ∈ l, a.l.toNat = k) : l.Pairwise (fun a b => a.l.toNat ≤ b.l.toNat) := by
 rw [List.pairwise_iff_getElem]
 intro i j hi hj _
 rw [h _ (List.getElem_mem hi), h _ (List.getElem_mem hj)]
 exact Nat.le_refl _
theorem bCards_let (b : Bs) : ∀ a ∈ bCards b, a.l.toNat = 66 := by unfold bCards; split <;> simp
theorem pCards_let (l : List Bs) : ∀ a ∈ pCards l, a.l.toNat = 80 := by unfold pCards; split <;> simp
theorem fCards_let (l : List (Bs × Bs)) : ∀ a ∈ l.map flCard, a.l.toNat = 70 := by
 intro a ha; obtain ⟨f, _, rfl⟩ := List.mem_map.1 ha; rfl
theorem tCards_let (l : List Tg) : ∀ a ∈ l.map tgCard, a.l.toNat = 84 := by
 intro a ha; obtain ⟨f, _, rfl⟩ := List.mem_map.1 ha; rfl
theorem tu_right (l : List Tg) (u : Bs) : (∀ a ∈ l.map tgCard ++ [(⟨85, [u]⟩ : Cd)], 84 ≤ a.l.toNat ∧ a.l.toNat ≤ 85) ∧ (l.map tgCard ++ [(⟨85, [u]⟩ : Cd)]).Pairwise (fun a b => a.l.toNat ≤ b.l.toNat) := by
 have h1 : ∀ a ∈ [(⟨85, [u]⟩ : Cd)], a.l.toNat = 85 := by simp
 refine ⟨fun a ha => ?_, pw_app (k := 84) (fun a ha => by rw [tCards_let l a ha]; exact Nat.le_refl _) (fun b hb => by rw [h1 b hb]; decide) (pw_const (tCards_let l)) (pw_const h1)⟩
 rcases List.mem_append.1 ha with ha | ha
 · rw [tCards_let l a ha]; decide
 · rw [h1 a ha]; decide
theorem rightK_cards {c : Ck} (h : RightK c) : RightC (ckCards c) := by
 have htu := tu_right c.tags c.user
 have hcd : ∀ a ∈ [(⟨67, [46 :: escB c.comment]⟩ : Cd), ⟨68, [decN c.date.toNat]⟩], a.l.toNat = 67 ∨ a.l.toNat = 68 := by simp
 have hcdp : [(⟨67, [46 :: escB c.comment]⟩ : Cd), ⟨68, [decN c.date.toNat]⟩].Pairwise (fun a b => a.l.toNat ≤ b.l.toNat) := by simp
 refine RightC.mk' (by simp [ckCards]) ?_ ?_ ?_
 · intro a ha
   unfold ckCards at ha
   rw [List.mem_append] at ha
   rcases ha with ha | ha
   · rw [List.mem_append] at ha
     rcases ha with ha | ha
     · rw [List.mem_append] at ha
       rcases ha with ha | ha
       · rw [List.mem_append] at ha
         rcases ha with ha | ha
         · rw [bCards_let _ a ha]; decide
         · rcases hcd a ha with e | e <;> rw [e] <;> decide
       · rw [fCards_let _ a ha]; decide
     · rw [pCards_let _ a ha]; decide
   · have := htu.1 a ha; omega
 · intro a ha x hx
   unfold ckCards at ha
   rw [List.mem_append] at ha
   rcases ha with ha | ha
   · rw [List.mem_append] at ha
     rcases ha with ha | ha
     · rw [List.mem_append] at ha
       rcases ha with ha | ha
       · rw [List.mem_append] at ha
         rcases ha with ha | ha
         · unfold bCards at ha
           split at ha
           · cases ha
           · rename_i hb
             rw [List.mem_singleton.1 ha] at hx
             rw [List.mem_singleton.1 hx]
             exact isN_argOk (h.base.resolve_left hb)
         · simp only [List.mem_cons, List.not_mem_nil, or_false] at ha
           rcases ha with rfl | rfl
           · rw [List.mem_singleton.1 hx]; exact argOk_cons (by decide) (escB_ok _)
           · rw [List.mem_singleton.1 hx]; exact decN_argOk _
       · obtain ⟨f, hf, rfl⟩ := List.mem_map.1 ha
         obtain ⟨i, hi, rfl⟩ := mem_getD (d := ([], [])) hf
         obtain ⟨o1, _, o3⟩ := h.files.ok i hi
         generalize c.files.getD i ([], []) = f at o1 o3 hx
         unfold flCard at hx
         dsimp only at hx
         split at hx
         · rw [List.mem_singleton.1 hx]; exact wordP_ok o1
         · rename_i hf2
           simp only [List.mem_cons, List.not_mem_nil, or_false] at hx
           rcases hx with rfl | rfl
           · exact wordP_ok o1
           · exact isN_argOk (o3.resolve_right (fun e => hf2 e.2))
     · unfold pCards at ha
       split at ha
       · cases ha
       · rw [List.mem_singleton.1 ha] at hx
         obtain ⟨i, hi, rfl⟩ := mem_getD (d := []) hx
         exact isN_argOk (h.parents.ok i hi).1
   · rw [List.mem_append] at ha
     rcases ha with ha | ha
     · obtain ⟨t, ht, rfl⟩ := List.mem_map.1 ha
       exact tgCard_ok h.tags t ht x hx
     · rw [List.mem_singleton.1 ha] at hx
       rw [List.mem_singleton.1 hx]; exact wordP_ok h.user
 · unfold ckCards
   refine pw_app (k := 80) (fun a ha => ?_) (fun a ha => by have := htu.1 a ha; omega) ?_ htu.2
   · rw [List.mem_append] at ha
     rcases ha with ha | ha
     · rw [List.mem_append] at ha
       rcases ha with ha | ha
       · rw [List.mem_append] at ha
         rcases ha with ha | ha
         · rw [bCards_let _ a ha]; decide
         · rcases hcd a ha with e | e <;> rw [e] <;> decide
       · rw [fCards_let _ a ha]; decide
     · rw [pCards_let _ a ha]; exact Nat.le_refl _
   · refine pw_app (k := 70) (fun a ha => ?_) (fun a ha => by rw [pCards_let _ a ha]; decide) ?_ (pw_const (pCards_let _))
     · rw [List.mem_append] at ha
       rcases ha with ha | ha
       · rw [List.mem_append] at ha
         rcases ha with ha | ha
         · rw [bCards_let _ a ha]; decide
         · rcases hcd a ha with e | e <;> rw [e] <;> decide
       · rw [fCards_let _ a ha]; exact Nat.le_refl _
     · refine pw_app (k := 68) (fun a ha => ?_) (fun a ha => by rw [fCards_let _ a ha]; decide) ?_ (pw_const (fCards_let _))
       · rw [List.mem_append] at ha
         rcases ha with ha | ha
         · rw [bCards_let _ a ha]; decide
         · rcases hcd a ha with e | e <;> rw [e] <;> decide
       · exact pw_app (k := 66) (fun a ha => by rw [bCards_let _ a ha]; exact Nat.le_refl _) (fun a ha => by rcases hcd a ha with e | e <;> rw [e] <;> decide) (pw_const (bCards_let _)) hcdp
section
open Classical in
noncomputable def the {α : Type} (R : α → Prop) : Option α := if h : ∃ a, R a then some h.choose else none
theorem the_iff {α : Type} {R : α → Prop} (u : ∀ a b, R a → R b → a = b) {a : α} : the R = some a ↔ R a := by
 unfold the
 split
 · rename_i h
   simp only [Option.some.injEq]
   exact ⟨fun e => e ▸ h.choose_spec, fun k => u _ _ h.choose_spec k⟩
 · rename_i h
   simp only [reduceCtorEq, false_iff]
   exact fun k => h ⟨a, k⟩
theorem the_none {α : Type} {R : α → Prop} (h : ∀ a, ¬ R a) : the R = none := by
 unfold the
 rw [dif_neg (fun ⟨a, e⟩ => h a e)]
def argsOf (x : UInt8) (l : List Cd) : List (List Bs) := (l.filter (fun c => c.l = x)).map (·.args)
theorem argsOf_app (x : UInt8) (l m : List Cd) : argsOf x (l ++ m) = argsOf x l ++ argsOf x m := by simp [argsOf]
theorem argsOf_map {α : Type} (x y : UInt8) (f : α → Cd) (h : ∀ a, (f a).l = y) (l : List α) : argsOf x (l.map f) = if y = x then l.map (fun a => (f a).args) else [] := by
 induction l with
 | nil => simp [argsOf]
 | cons a l ih =>
   simp only [argsOf, List.map_cons, List.filter_cons, h a] at ih ⊢
   by_cases e : y = x
   · rw [if_pos e] at ih ⊢; simp [e, ih]
   · rw [if_neg e] at ih ⊢; simp [e, ih]
def one1 (l : List (List Bs)) : Option Bs := match l with
 | [[a]] => some a
 | _ => none
def tgOf (xs : List Bs) : Option Tg :=
 if xs.length < 2 ∨ 3 < xs.length ∨ (xs.getD 0 []).length < 2 then none
 else if xs.length = 3 then (unescB (xs.getD 2 [])).map (fun v => ⟨(xs.getD 0 []).getD 0 0, (xs.getD 0 []).drop 1, xs.getD 1 [], v⟩)
 else some ⟨(xs.getD 0 []).getD 0 0, (xs.getD 0 []).drop 1, xs.getD 1 [], []⟩
def readT : List (List Bs) → Option (List Tg)
 | [] => some []
 | x :: r => match tgOf x with
   | none => none
   | some t => (readT r).map (t :: ·)
def flOf (xs : List Bs) : Bs × Bs := if xs.length = 2 then (xs.getD 0 [], xs.getD 1 []) else if xs.length = 1 then (xs.getD 0 [], []) else ([], [])
def prgCk (l : List Cd) : Option Ck := match one1 (argsOf 67 l), one1 (argsOf 68 l), one1 (argsOf 85 l) with
 | some said, some date, some user => match unescB (Lib.trimPrefix said [46]), readDec date, readT (argsOf 84 l) with
   | some text, some day, some tags => some ⟨(one1 (argsOf 66 l)).getD [], text, day, (argsOf 70 l).map flOf, (argsOf 80 l).headD [], tags, user⟩
   | _, _, _ => none
 | _, _, _ => none
theorem tgOf_card {own : Bool} {l : List Tg} (h : RightT own l) : ∀ t ∈ l, tgOf (tgCard t).args = some t := by
 intro t ht
 obtain ⟨i, hi, rfl⟩ := mem_getD (d := tg0) ht
 obtain ⟨o1, o2, _, _, _⟩ := h.ok i hi
 generalize l.getD i tg0 = t at o1 o2
 obtain ⟨k, n, tt, v⟩ := t
 dsimp only at o1 o2
 have hn := o2.2.1
 unfold tgCard
 dsimp only
 by_cases hv : v = []
 · subst hv
   simp only [if_true, List.append_nil, tgOf]
   rw [if_neg (by simp; omega), if_neg (by simp)]
   rfl
 · rw [if_neg hv]
   simp only [tgOf]
   rw [if_neg (by simp; omega), if_pos (by simp)]
   simp [unesc_esc]
theorem readT_map {l : List Tg} (h : ∀ t ∈ l, tgOf (tgCard t).args = some t) : readT (l.map (fun t => (tgCard t).args)) = some l := by
 induction l with
 | nil => rfl
 | cons t l ih =>
   simp only [List.map_cons, readT]
   rw [h t (by simp), ih fun x hx => h x (by simp [hx])]
   rfl
theorem flOf_card (f : Bs × Bs) : flOf (flCard f).args = f := by
 unfold flCard
 dsimp only
 split
 · rename_i h
   obtain ⟨a, b⟩ := f
   dsimp only at h
   subst h
   rfl
 · rfl
theorem trim_dot (e : Bs) : Lib.trimPrefix (46 :: e) [46] = e := by simp [Lib.trimPrefix, Lib.hasPrefix]
theorem argsOf_ck (x : UInt8) (c : Ck) : argsOf x (ckCards c) = argsOf x (bCards c.base) ++ (argsOf x [⟨67, [46 :: escB c.comment]⟩, ⟨68, [decN c.date.toNat]⟩] ++ ((if (70 : UInt8) = x then c.files.map (fun f => (flCard f).args) else []) ++ (argsOf x (pCards c.parents) ++ ((if (84 : UInt8) = x then c.tags.map (fun t => (tgCard t).args) else []) ++ argsOf x [⟨85, [c.user]⟩])))) := by
 unfold ckCards
 rw [argsOf_app, argsOf_app, argsOf_app, argsOf_app, argsOf_app, argsOf_map x 70 flCard (fun _ => rfl), argsOf_map x 84 tgCard (fun _ => rfl)]
 simp only [List.append_assoc]
theorem argsOf_b (x : UInt8) (b : Bs) : argsOf x (bCards b) = if (66 : UInt8) = x ∧ b ≠ [] then [[b]] else [] := by
 unfold bCards
 by_cases h : b = []
 · simp [h, argsOf]
 · by_cases h2 : (66 : UInt8) = x <;> simp [h, argsOf, h2]
theorem argsOf_p (x : UInt8) (l : List Bs) : argsOf x (pCards l) = if (80 : UInt8) = x ∧ l ≠ [] then [l] else [] := by
 unfold pCards
 by_cases h : l = []
 · simp [h, argsOf]
 · by_cases h2 : (80 : UInt8) = x <;> simp [h, argsOf, h2]
theorem argsOf_67 (c : Ck) : argsOf 67 (ckCards c) = [[46 :: escB c.comment]] := by rw [argsOf_ck, argsOf_b, argsOf_p]; simp [argsOf]
theorem argsOf_68 (c : Ck) : argsOf 68 (ckCards c) = [[decN c.date.toNat]] := by rw [argsOf_ck, argsOf_b, argsOf_p]; simp [argsOf]
theorem argsOf_85 (c : Ck) : argsOf 85 (ckCards c) = [[c.user]] := by rw [argsOf_ck, argsOf_b, argsOf_p]; simp [argsOf]
theorem argsOf_84 (c : Ck) : argsOf 84 (ckCards c) = c.tags.map (fun t => (tgCard t).args) := by rw [argsOf_ck, argsOf_b, argsOf_p]; simp [argsOf]
theorem argsOf_70 (c : Ck) : argsOf 70 (ckCards c) = c.files.map (fun f => (flCard f).args) := by rw [argsOf_ck, argsOf_b, argsOf_p]; simp [argsOf]
theorem argsOf_66 (c : Ck) : argsOf 66 (ckCards c) = if c.base = [] then [] else [[c.base]] := by
 rw [argsOf_ck, argsOf_b, argsOf_p]
 by_cases h : c.base = [] <;> simp [argsOf, h]
theorem argsOf_80 (c : Ck) : argsOf 80 (ckCards c) = if c.parents = [] then [] else [c.parents] := by
 rw [argsOf_ck, argsOf_b, argsOf_p]
 by_cases h : c.parents = [] <;> simp [argsOf, h]
theorem prgCk_cards {c : Ck} (h : RightK c) : prgCk (ckCards c) = some c := by
 unfold prgCk
 rw [argsOf_67, argsOf_68, argsOf_85, argsOf_84, argsOf_70, argsOf_66, argsOf_80]
 have hd := h.date
 simp only [one1]
 rw [trim_dot, unesc_esc, readDec_of (by omega), readT_map (tgOf_card h.tags)]
 simp only [List.map_map]
 have h1 : (c.files.map (flOf ∘ fun f => (flCard f).args)) = c.files := by
  have : (flOf ∘ fun f => (flCard f).args) = id := by funext f; exact flOf_card f
  rw [this, List.map_id]
 rw [h1]
 obtain ⟨b, co, d, f, p, t, u⟩ := c
 dsimp only at hd ⊢
 have h2 : ((d.toNat : Nat) : Int) = d := by omega
 rw [h2]
 by_cases hb : b = []
 · by_cases hp : p = [] <;> simp [hb, hp]
 · by_cases hp : p = [] <;> simp [hb, hp]
def ReadsK (s : Bs) (c : Ck) : Prop := RightK c ∧ ckB c = s
theorem ReadsK.reads {s : Bs} {c : Ck} (h : ReadsK s c) : ReadsC s (ckCards c) := ⟨rightK_cards h.1, h.2⟩
theorem ReadsK.uniq {s : Bs} (a b : Ck) (h : ReadsK s a) (k : ReadsK s b) : a = b := by
 have e := h.reads.uniq k.reads
 have := prgCk_cards h.1
 rw [e, prgCk_cards k.1] at this
 exact (Option.some.inj this).symm
noncomputable def readK (s : Bs) : Option Ck := the (ReadsK s)
theorem readK_iff {s : Bs} {c : Ck} : readK s = some c ↔ ReadsK s c := the_iff ReadsK.uniq
/-! As the document reads. -/
def stepR (c : Ck) (x : Cd) : Option Ck :=
 if x.l = 66 ∧ x.args.length = 1 then some { c with base := x.args.getD 0 [] }
 else if x.l = 67 ∧ x.args.length = 1 ∧ ((x.args.getD 0 []).getD 0 0) = 46 then (unescB ((x.args.getD 0 []).drop 1)).map (fun t => { c with comment := t })
 else if x.l = 68 ∧ x.args.length = 1 then some { c with date := rdI (x.args.getD 0 []) }
 else if x.l = 70 ∧ x.args.length = 1 then some { c with files := c.files ++ [(x.args.getD 0 [], [])] }
 else if x.l = 70 ∧ x.args.length = 2 then some { c with files := c.files ++ [(x.args.getD 0 [], x.args.getD 1 [])] }
 else if x.l = 80 then some { c with parents := x.args }
 else if x.l = 84 then some c
 else if x.l = 85 ∧ x.args.length = 1 then some { c with user := x.args.getD 0 [] }
 else none
/-! Sizes. -/
theorem body_bound {l : List Cd} {k : Nat} (h : ∀ c ∈ l, (cardB c).length ≤ k) : (bodyB l).length ≤ k * l.length := by
 induction l with
 | nil => simp [bodyB]
 | cons c l ih =>
   have e : bodyB (c :: l) = cardB c ++ bodyB l := by simp [bodyB]
   have h1 := h c (by simp)
   have h2 := ih fun x hx => h x (by simp [hx])
   rw [e, List.length_append, List.length_cons, Nat.mul_add]; omega
theorem card1_len (x : UInt8) (a : Bs) : (cardB ⟨x, [a]⟩).length = a.length + 3 := by simp [cardB, lineB, argsB]
theorem tg_small {own : Bool} {l : List Tg} (h : RightT own l) : ∀ t ∈ l, (cardB (tgCard t)).length ≤ 200 := by
 intro t ht
 obtain ⟨i, hi, rfl⟩ := mem_getD (d := tg0) ht
 obtain ⟨_, o2, o3, o4, _⟩ := h.ok i hi
 generalize l.getD i tg0 = t at o2 o3 o4
 have h1 := o2.2.2
 have h2 : t.target.length ≤ 40 := by
  cases own with
  | true => rw [o4.1 rfl]; decide
  | false => rw [isN_len (o4.2 rfl)]; exact Nat.le_refl _
 have h3 := (escB_len t.value).2
 unfold tgCard
 split
 · simp [cardB, lineB, argsB]; omega
 · simp [cardB, lineB, argsB]; omega
theorem ck_small {c : Ck} (h : RightK c) : (bodyB (ckCards c)).length ≤ 10000 := by
 have hb : ∀ x ∈ bCards c.base, (cardB x).length ≤ 200 := by
  unfold bCards
  split
  · simp
  · rename_i e
    intro x hx
    rw [List.mem_singleton.1 hx, card1_len, isN_len (h.base.resolve_left e)]; decide
 have hcd : ∀ x ∈ [(⟨67, [46 :: escB c.comment]⟩ : Cd), ⟨68, [decN c.date.toNat]⟩], (cardB x).length ≤ 200 := by
  intro x hx
  simp only [List.mem_cons, List.not_mem_nil, or_false] at hx
  have h1 := (escB_len c.comment).2
  have h2 := h.comment
  have h3 := decN_10 (n := c.date.toNat) (by have := h.date; omega)
  rcases hx with rfl | rfl
  · rw [card1_len, List.length_cons]; omega
  · rw [card1_len]; omega
 have hf : ∀ x ∈ c.files.map flCard, (cardB x).length ≤ 200 := by
  intro x hx
  obtain ⟨f, hf, rfl⟩ := List.mem_map.1 hx
  obtain ⟨i, hi, rfl⟩ := mem_getD (d := ([], [])) hf
  obtain ⟨o1, _, o3⟩ := h.files.ok i hi
  generalize c.files.getD i ([], []) = f at o1 o3
  have h1 := o1.2.2
  unfold flCard
  split
  · rw [card1_len]; omega
  · rename_i e
    have h2 := isN_len (o3.resolve_right fun x => e x.2)
    simp [cardB, lineB, argsB]; omega
 have hp : ∀ x ∈ pCards c.parents, (cardB x).length ≤ 200 := by
  unfold pCards
  split
  · simp
  · intro x hx
    rw [List.mem_singleton.1 hx]
    have hl := h.parents.len
    have : (argsB c.parents).length ≤ 41 * c.parents.length := by
     have hk : ∀ a ∈ c.parents, a.length = 40 := fun a ha => by
      obtain ⟨i, hi, rfl⟩ := mem_getD (d := []) ha
      exact isN_len (h.parents.ok i hi).1
     generalize c.parents = l at hk
     induction l with
     | nil => simp [argsB]
     | cons a l ih =>
       rw [argsB_cons, List.length_cons, List.length_append, List.length_cons, hk a (by simp)]
       have := ih fun x hx => hk x (by simp [hx])
       omega
    simp [cardB, lineB]; omega
 have htu : ∀ x ∈ c.tags.map tgCard ++ [(⟨85, [c.user]⟩ : Cd)], (cardB x).length ≤ 200 := by
  intro x hx
  rcases List.mem_append.1 hx with hx | hx
  · obtain ⟨t, ht, rfl⟩ := List.mem_map.1 hx
    exact tg_small h.tags t ht
  · have := h.user.2.2
    rw [List.mem_singleton.1 hx, card1_len]; omega
 have hall := body_bound (l := ckCards c) (k := 200) (by
  intro x hx
  unfold ckCards at hx
  rw [List.mem_append] at hx
  rcases hx with hx | hx
  · rw [List.mem_append] at hx
    rcases hx with hx | hx
    · rw [List.mem_append] at hx
      rcases hx with hx | hx
      · rw [List.mem_append] at hx
        rcases hx with hx | hx
        · exact hb x hx
        · exact hcd x hx
      · exact hf x hx
    · exact hp x hx
  · exact htu x hx)
 have hlen : (ckCards c).length ≤ 29 := by
  have h1 := h.files.len
  have h2 := h.tags.len
  have h3 : (bCards c.base).length ≤ 1 := by unfold bCards; split <;> simp
  have h4 : (pCards c.parents).length ≤ 1 := by unfold pCards; split <;> simp
  simp only [ckCards, List.length_append, List.length_map, List.length_cons, List.length_nil]; omega
 omega
/-! Control artifacts. -/
structure Ct where
 date : Int
 tags : List Tg
 user : Bs
 deriving DecidableEq, Repr
structure RightCt (c : Ct) : Prop where
 date : 0 ≤ c.date ∧ c.date ≤ 1073741824
 some : 0 < c.tags.length
 tags : RightT false c.tags
 user : wordP c.user
instance (c : Ct) : Decidable (RightCt c) := decidable_of_iff ((0 ≤ c.date ∧ c.date ≤ 1073741824) ∧ 0 < c.tags.length ∧ RightT false c.tags ∧ wordP c.user) ⟨fun ⟨a, b, c, d⟩ => ⟨a, b, c, d⟩, fun ⟨a, b, c, d⟩ => ⟨a, b, c, d⟩⟩
def ctCards (c : Ct) : List Cd := ⟨68, [decN c.date.toNat]⟩ :: (c.tags.map tgCard ++ [⟨85, [c.user]⟩])
def ctB (c : Ct) : Bs := printB (ctCards c)
theorem rightCt_cards {c : Ct} (h : RightCt c) : RightC (ctCards c) := by
 have htu := tu_right c.tags c.user
 have e : ctCards c = [⟨68, [decN c.date.toNat]⟩] ++ (c.tags.map tgCard ++ [⟨85, [c.user]⟩]) := rfl
 have h1 : ∀ a ∈ [(⟨68, [decN c.date.toNat]⟩ : Cd)], a.l.toNat = 68 := by simp
 refine RightC.mk' (by simp [ctCards]) ?_ ?_ ?_
 · intro a ha
   rw [e, List.mem_append] at ha
   rcases ha with ha | ha
   · rw [h1 a ha]; decide
   · have := htu.1 a ha; omega
 · intro a ha x hx
   rw [e, List.mem_append] at ha
   rcases ha with ha | ha
   · rw [List.mem_singleton.1 ha] at hx
     rw [List.mem_singleton.1 hx]; exact decN_argOk _
   · rw [List.mem_append] at ha
     rcases ha with ha | ha
     · obtain ⟨t, ht, rfl⟩ := List.mem_map.1 ha
       exact tgCard_ok h.tags t ht x hx
     · rw [List.mem_singleton.1 ha] at hx
       rw [List.mem_singleton.1 hx]; exact wordP_ok h.user
 · rw [e]
   exact pw_app (k := 68) (fun a ha => by rw [h1 a ha]; exact Nat.le_refl _) (fun a ha => by have := htu.1 a ha; omega) (pw_const h1) htu.2
theorem ct_small {c : Ct} (h : RightCt c) : (bodyB (ctCards c)).length ≤ 10000 := by
 have hall := body_bound (l := ctCards c) (k := 200) (by
  intro x hx
  unfold ctCards at hx
  rcases List.mem_cons.1 hx with rfl | hx
  · have h3 := decN_10 (n := c.date.toNat) (by have := h.date; omega)
    rw [card1_len]; omega
  · rcases List.mem_append.1 hx with hx | hx
    · obtain ⟨t, ht, rfl⟩ := List.mem_map.1 hx
      exact tg_small h.tags t ht
    · have := h.user.2.2
      rw [List.mem_singleton.1 hx, card1_len]; omega)
 have hlen : (ctCards c).length ≤ 14 := by
  have h2 := h.tags.len
  simp only [ctCards, List.length_append, List.length_map, List.length_cons, List.length_nil]; omega
 omega
theorem argsOf_ct84 (c : Ct) : argsOf 84 (ctCards c) = c.tags.map (fun t => (tgCard t).args) := by
 have e : ctCards c = [⟨68, [decN c.date.toNat]⟩] ++ (c.tags.map tgCard ++ [⟨85, [c.user]⟩]) := rfl
 rw [e, argsOf_app, argsOf_app, argsOf_map 84 84 tgCard (fun _ => rfl)]
 simp [argsOf]
/-- The cards of a control artifact but its tags, one by one. -/
def ctLoop : List Cd → Int × Bs → Int × Bs
 | [], st => st
 | x :: r, st => if x.args.length = 0 then st
   else if x.l.toNat = 68 then (match readDec (x.args.getD 0 []) with | some n => ctLoop r ((n : Int), st.2) | none => (0, st.2))
   else if x.l.toNat = 85 then ctLoop r (st.1, x.args.getD 0 []) else ctLoop r st
def prgCt (l : List Cd) : Option Ct := (readT (argsOf 84 l)).map fun t => ⟨(ctLoop l (0, [])).1, t, (ctLoop l (0, [])).2⟩
theorem ctLoop_tags (l : List Tg) (r : List Cd) (st : Int × Bs) : ctLoop (l.map tgCard ++ r) st = ctLoop r st := by
 induction l generalizing st with
 | nil => rfl
 | cons t l ih =>
   have hl : (tgCard t).l = 84 := rfl
   have h1 : (tgCard t).args.length ≠ 0 := by simp [tgCard]
   simp only [List.map_cons, List.cons_append, ctLoop]
   rw [if_neg h1, if_neg (by rw [hl]; decide), if_neg (by rw [hl]; decide), ih]
theorem prgCt_cards {c : Ct} (h : RightCt c) : prgCt (ctCards c) = some c := by
 unfold prgCt
 rw [argsOf_ct84, readT_map (tgOf_card h.tags)]
 have hd := h.date
 have e : ctLoop (ctCards c) (0, []) = (c.date, c.user) := by
  unfold ctCards
  simp only [ctLoop]
  rw [if_neg (by simp), if_pos (by decide)]
  have e1 : ([decN c.date.toNat] : List Bs).getD 0 [] = decN c.date.toNat := rfl
  rw [e1, readDec_of (by omega)]
  dsimp only
  rw [ctLoop_tags]
  simp only [ctLoop]
  rw [if_neg (by simp), if_neg (by decide), if_pos (by decide)]
  have e2 : ((c.date.toNat : Nat) : Int) = c.date := by omega
  rw [e2]; rfl
 rw [e]; rfl
def ReadsCt (s : Bs) (c : Ct) : Prop := RightCt c ∧ ctB c = s
theorem ReadsCt.reads {s : Bs} {c : Ct} (h : ReadsCt s c) : ReadsC s (ctCards c) := ⟨rightCt_cards h.1, h.2⟩
theorem ReadsCt.uniq {s : Bs} (a b : Ct) (h : ReadsCt s a) (k : ReadsCt s b) : a = b := by
 have e := h.reads.uniq k.reads
 have := prgCt_cards h.1
 rw [e, prgCt_cards k.1] at this
 exact (Option.some.inj this).symm
noncomputable def readCt (s : Bs) : Option Ct := the (ReadsCt s)
theorem readCt_iff {s : Bs} {c : Ct} : readCt s = some c ↔ ReadsCt s c := the_iff ReadsCt.uniq
/-! Clusters. -/
structure RightCl (l : List Bs) : Prop where
 ok : ∀ i, i < l.length → isN (l.getD i []) = true ∧ (0 < i → blt (l.getD (i - 1) []) (l.getD i []) = true)
 len : 1 ≤ l.length ∧ l.length ≤ 12
instance (l : List Bs) : Decidable (RightCl l) := decidable_of_iff ((∀ i, i < l.length → isN (l.getD i []) = true ∧ (0 < i → blt (l.getD (i - 1) []) (l.getD i []) = true)) ∧ (1 ≤ l.length ∧ l.length ≤ 12)) ⟨fun ⟨a, b⟩ => ⟨a, b⟩, fun ⟨a, b⟩ => ⟨a, b⟩⟩
def clCard (n : Bs) : Cd := ⟨77, [n]⟩
def clCards (l : List Bs) : List Cd := l.map clCard
def clB (l : List Bs) : Bs := printB (clCards l)
theorem clCards_let (l : List Bs) : ∀ a ∈ clCards l, a.l.toNat = 77 := by
 intro a ha; obtain ⟨f, _, rfl⟩ := List.mem_map.1 ha; rfl
theorem rightCl_cards {l : List Bs} (h : RightCl l) : RightC (clCards l) := by
 refine RightC.mk' (fun e => ?_) (fun a ha => by rw [clCards_let l a ha]; decide) ?_ (pw_const (clCards_let l))
 · have := congrArg List.length e
   have h1 := h.len.1
   simp [clCards] at this
   simp [this] at h1
 · intro a ha x hx
   obtain ⟨n, hn, rfl⟩ := List.mem_map.1 ha
   rw [show (clCard n).args = [n] from rfl] at hx
   rw [List.mem_singleton.1 hx]
   obtain ⟨i, hi, rfl⟩ := mem_getD (d := []) hn
   exact isN_argOk (h.ok i hi).1
theorem cl_small {l : List Bs} (h : RightCl l) : (bodyB (clCards l)).length ≤ 10000 := by
 have hall := body_bound (l := clCards l) (k := 200) (by
  intro x hx
  obtain ⟨n, hn, rfl⟩ := List.mem_map.1 hx
  obtain ⟨i, hi, rfl⟩ := mem_getD (d := []) hn
  unfold clCard
  rw [card1_len, isN_len (h.ok i hi).1]; decide)
 have : (clCards l).length = l.length := by simp [clCards]
 have := h.len.2
 omega
theorem argsOf_cl (l : List Bs) : argsOf 77 (clCards l) = l.map (fun n => [n]) := by
 unfold clCards
 rw [argsOf_map 77 77 clCard (fun _ => rfl), if_pos rfl]; rfl
theorem flat_single (l : List Bs) : (l.map (fun n => [n])).flatten = l := by
 induction l with
 | nil => rfl
 | cons a l ih => simp [ih]
def ReadsCl (s : Bs) (l : List Bs) : Prop := RightCl l ∧ clB l = s
theorem ReadsCl.reads {s : Bs} {l : List Bs} (h : ReadsCl s l) : ReadsC s (clCards l) := ⟨rightCl_cards h.1, h.2⟩
theorem ReadsCl.uniq {s : Bs} (a b : List Bs) (h : ReadsCl s a) (k : ReadsCl s b) : a = b := by
 have e := h.reads.uniq k.reads
 rw [← flat_single a, ← flat_single b, ← argsOf_cl, ← argsOf_cl, e]
noncomputable def readCl (s : Bs) : Option (List Bs) := the (ReadsCl s)
end
end Go.Proofs.YtdnoacgopfcpbaaGreat
