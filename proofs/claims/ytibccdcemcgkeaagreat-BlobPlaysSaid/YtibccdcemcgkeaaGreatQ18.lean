/- Texts of this proof, put together: PCk, PCk2, SCk3, RowZ, SRSha2, PCk4, SBook, PKeep, SKeep. -/
import Derived.Laws.IdiomStrings
import Derived.Test.YtibccdcemcgkeaaGreatQ17
set_option linter.unusedVariables false
set_option linter.unusedSimpArgs false
namespace Go.Proofs.YtibccdcemcgkeaaGreat
structure Tg where
 kind : UInt8
 name : Bs
 target : Bs
 value : Bs
 deriving DecidableEq, Repr
def tg0 : Tg := ⟨0, [], [], []⟩
structure Ck where
 base : Bs
 comment : Bs
 date : Int
 files : List (Bs × Bs)
 parents : List Bs
 tags : List Tg
 user : Bs
 deriving DecidableEq, Repr
structure OkT (own : Bool) (l : List Tg) (i : Nat) : Prop where
 kind : (l.getD i tg0).kind.toNat = 43 ∨ (l.getD i tg0).kind.toNat = 42 ∨ ((l.getD i tg0).kind.toNat = 45 ∧ (l.getD i tg0).value = [])
 name : wordP (l.getD i tg0).name
 val : (l.getD i tg0).value.length ≤ 12
 tgt : (own = true → (l.getD i tg0).target = [42]) ∧ (own = false → isN (l.getD i tg0).target = true)
 rise : 0 < i → (blt (l.getD (i - 1) tg0).name (l.getD i tg0).name = true ∨ (l.getD (i - 1) tg0).name = (l.getD i tg0).name) ∧ ((l.getD (i - 1) tg0).name = (l.getD i tg0).name → blt (l.getD (i - 1) tg0).target (l.getD i tg0).target = true)
structure RightT (own : Bool) (l : List Tg) : Prop where
 ok : ∀ i, i < l.length → OkT own l i
 len : l.length ≤ 12
structure OkF (whole : Bool) (l : List (Bs × Bs)) (i : Nat) : Prop where
 name : wordP (l.getD i ([], [])).1
 rise : 0 < i → blt (l.getD (i - 1) ([], [])).1 (l.getD i ([], [])).1 = true
 hash : isN (l.getD i ([], [])).2 = true ∨ (whole = false ∧ (l.getD i ([], [])).2 = [])
structure RightF (whole : Bool) (l : List (Bs × Bs)) : Prop where
 ok : ∀ i, i < l.length → OkF whole l i
 len : l.length ≤ 12
structure RightP (l : List Bs) (most : Int) : Prop where
 ok : ∀ i, i < l.length → isN (l.getD i []) = true ∧ l.getD i [] ∉ l.take i
 len : (l.length : Int) ≤ most
instance (own : Bool) (l : List Tg) (i : Nat) : Decidable (OkT own l i) := decidable_of_iff (((l.getD i tg0).kind.toNat = 43 ∨ (l.getD i tg0).kind.toNat = 42 ∨ ((l.getD i tg0).kind.toNat = 45 ∧ (l.getD i tg0).value = [])) ∧ wordP (l.getD i tg0).name ∧ (l.getD i tg0).value.length ≤ 12 ∧ ((own = true → (l.getD i tg0).target = [42]) ∧ (own = false → isN (l.getD i tg0).target = true)) ∧ (0 < i → (blt (l.getD (i - 1) tg0).name (l.getD i tg0).name = true ∨ (l.getD (i - 1) tg0).name = (l.getD i tg0).name) ∧ ((l.getD (i - 1) tg0).name = (l.getD i tg0).name → blt (l.getD (i - 1) tg0).target (l.getD i tg0).target = true))) ⟨fun ⟨a, b, c, d, e⟩ => ⟨a, b, c, d, e⟩, fun ⟨a, b, c, d, e⟩ => ⟨a, b, c, d, e⟩⟩
instance (own : Bool) (l : List Tg) : Decidable (RightT own l) := decidable_of_iff ((∀ i, i < l.length → OkT own l i) ∧ l.length ≤ 12) ⟨fun ⟨a, b⟩ => ⟨a, b⟩, fun ⟨a, b⟩ => ⟨a, b⟩⟩
instance (w : Bool) (l : List (Bs × Bs)) (i : Nat) : Decidable (OkF w l i) := decidable_of_iff (wordP (l.getD i ([], [])).1 ∧ (0 < i → blt (l.getD (i - 1) ([], [])).1 (l.getD i ([], [])).1 = true) ∧ (isN (l.getD i ([], [])).2 = true ∨ (w = false ∧ (l.getD i ([], [])).2 = []))) ⟨fun ⟨a, b, c⟩ => ⟨a, b, c⟩, fun ⟨a, b, c⟩ => ⟨a, b, c⟩⟩
instance (w : Bool) (l : List (Bs × Bs)) : Decidable (RightF w l) := decidable_of_iff ((∀ i, i < l.length → OkF w l i) ∧ l.length ≤ 12) ⟨fun ⟨a, b⟩ => ⟨a, b⟩, fun ⟨a, b⟩ => ⟨a, b⟩⟩
instance (l : List Bs) (m : Int) : Decidable (RightP l m) := decidable_of_iff ((∀ i, i < l.length → isN (l.getD i []) = true ∧ l.getD i [] ∉ l.take i) ∧ (l.length : Int) ≤ m) ⟨fun ⟨a, b⟩ => ⟨a, b⟩, fun ⟨a, b⟩ => ⟨a, b⟩⟩
structure RightK (c : Ck) : Prop where
 base : c.base = [] ∨ isN c.base = true
 comment : c.comment.length ≤ 40
 date : 0 ≤ c.date ∧ c.date ≤ 1073741824
 files : RightF (decide (c.base = [])) c.files
 parents : RightP c.parents 3
 tags : RightT true c.tags
 user : wordP c.user
instance (c : Ck) : Decidable (RightK c) := decidable_of_iff ((c.base = [] ∨ isN c.base = true) ∧ c.comment.length ≤ 40 ∧ (0 ≤ c.date ∧ c.date ≤ 1073741824) ∧ RightF (decide (c.base = [])) c.files ∧ RightP c.parents 3 ∧ RightT true c.tags ∧ wordP c.user) ⟨fun ⟨a, b, c, d, e, f, g⟩ => ⟨a, b, c, d, e, f, g⟩, fun ⟨a, b, c, d, e, f, g⟩ => ⟨a, b, c, d, e, f, g⟩⟩
def tgCard (t : Tg) : Cd := ⟨84, [t.kind :: t.name, t.target] ++ if t.value = [] then [] else [escB t.value]⟩
def flCard (f : Bs × Bs) : Cd := ⟨70, if f.2 = [] then [f.1] else [f.1, f.2]⟩
def bCards (b : Bs) : List Cd := if b = [] then [] else [⟨66, [b]⟩]
def pCards (l : List Bs) : List Cd := if l = [] then [] else [⟨80, l⟩]
def ckCards (c : Ck) : List Cd := bCards c.base ++ [⟨67, [46 :: escB c.comment]⟩, ⟨68, [decN c.date.toNat]⟩] ++ c.files.map flCard ++ pCards c.parents ++ (c.tags.map tgCard ++ [⟨85, [c.user]⟩])
def ckB (c : Ck) : Bs := printB (ckCards c)
/-! Right check-ins' cards are right. -/
theorem isN_argOk {s : Bs} (h : isN s = true) : argOk s := by
 have := of_decide_eq_true h
 exact isN_ok this.1 this.2
theorem decN_dig : ∀ (n : Nat), decN n ≠ [] ∧ ∀ c ∈ decN n, 48 ≤ c.toNat ∧ c.toNat ≤ 57 := by
 intro n
 induction n using Nat.strongRecOn with
 | _ n ih =>
   rw [decN]
   split
   · refine ⟨by simp, fun c hc => ?_⟩
     rw [List.mem_singleton.1 hc, dgt_toNat]; omega
   · refine ⟨by simp, fun c hc => ?_⟩
     rcases List.mem_append.1 hc with hc | hc
     · exact (ih (n / 10) (by omega)).2 c hc
     · rw [List.mem_singleton.1 hc, dgt_toNat]; omega
theorem decN_argOk (n : Nat) : argOk (decN n) := argOk_iff.2 ⟨fun e => (decN_dig n).1 (List.eq_nil_of_length_eq_zero e), fun d hd => by have := (decN_dig n).2 d hd; omega⟩
theorem argOk_cons {c : UInt8} {s : Bs} (hc : c.toNat ≠ 32 ∧ c.toNat ≠ 10) (h : ∀ d ∈ s, d.toNat ≠ 32 ∧ d.toNat ≠ 10) : argOk (c :: s) := argOk_iff.2 ⟨by simp, fun d hd => by
 rcases List.mem_cons.1 hd with rfl | hd
 · exact hc
 · exact h d hd⟩
theorem word_no {s : Bs} (h : wordP s) : ∀ d ∈ s, d.toNat ≠ 32 ∧ d.toNat ≠ 10 := fun d hd => by have := h.1 d hd; omega
theorem tgCard_ok {own : Bool} {l : List Tg} (h : RightT own l) : ∀ t ∈ l, ∀ a ∈ (tgCard t).args, argOk a := by
 intro t ht a ha
 obtain ⟨i, hi, rfl⟩ := mem_getD (d := tg0) ht
 obtain ⟨hk, o2, _, o4, _⟩ := h.ok i hi
 generalize l.getD i tg0 = t at hk o2 o4 ha
 have hn := word_no o2
 have ht2 : argOk t.target := by
  cases own with
  | true => rw [o4.1 rfl]; exact ⟨by simp, by decide, by decide⟩
  | false => exact isN_argOk (o4.2 rfl)
 simp only [tgCard, List.mem_append, List.mem_cons, List.not_mem_nil, or_false] at ha
 rcases ha with (rfl | rfl) | ha
 · exact argOk_cons (by omega) hn
 · exact ht2
 · split at ha
   · cases ha
   · rename_i hv
     rw [List.mem_singleton.1 ha]; exact argOk_esc hv
theorem pw_app {k : Nat} {l m : List Cd} (h1 : ∀ a ∈ l, a.l.toNat ≤ k) (h2 : ∀ b ∈ m, k ≤ b.l.toNat) (p1 : l.Pairwise (fun a b => a.l.toNat ≤ b.l.toNat)) (p2 : m.Pairwise (fun a b => a.l.toNat ≤ b.l.toNat)) : (l ++ m).Pairwise (fun a b => a.l.toNat ≤ b.l.toNat) := by
 rw [List.pairwise_append]
 exact ⟨p1, p2, fun a ha b hb => Nat.le_trans (h1 a ha) (h2 b hb)⟩
theorem pw_const {l : List Cd} {k : Nat} (h : ∀ a ∈ l, a.l.toNat = k) : l.Pairwise (fun a b => a.l.toNat ≤ b.l.toNat) := by
 rw [List.pairwise_iff_getElem]
 intro i j hi hj _
 rw [h _ (List.getElem_mem hi), h _ (List.getElem_mem hj)]
 exact Nat.le_refl _
theorem bCards_let (b : Bs) : ∀ a ∈ bCards b, a.l.toNat = 66 := by unfold bCards; split <;> simp
theorem pCards_let (l : List Bs) : ∀ a ∈ pCards l, a.l.toNat = 80 := by unfold pCards; split <;> simp
theorem fCards_let (l : List (Bs × Bs)) : ∀ a ∈ l.map flCard, a.l.toNat = 70 := by
 intro a ha; obtain ⟨f, _, rfl⟩ := List.mem_map.1 ha; rfl
theorem tCards_let (l : List Tg) : ∀ a ∈ l.map tgCard, a.l.toNat = 84 := by
 intro a ha; obtain ⟨f, _, rfl⟩ := List.mem_map.1 ha; rfl
theorem tu_right (l : List Tg) (u : Bs) : (∀ a ∈ l.map tgCard ++ [(⟨85, [u]⟩ : Cd)], 84 ≤ a.l.toNat ∧ a.l.toNat ≤ 85) ∧ (l.map tgCard ++ [(⟨85, [u]⟩ : Cd)]).Pairwise (fun a b => a.l.toNat ≤ b.l.toNat) := by
 have h1 : ∀ a ∈ [(⟨85, [u]⟩ : Cd)], a.l.toNat = 85 := by simp
 refine ⟨fun a ha => ?_, pw_app (k := 84) (fun a ha => by rw [tCards_let l a ha]; exact Nat.le_refl _) (fun b hb => by rw [h1 b hb]; decide) (pw_const (tCards_let l)) (pw_const h1)⟩
 rcases List.mem_append.1 ha with ha | ha
 · rw [tCards_let l a ha]; decide
 · rw [h1 a ha]; decide
theorem rightK_cards {c : Ck} (h : RightK c) : RightC (ckCards c) := by
 have htu := tu_right c.tags c.user
 have hcd : ∀ a ∈ [(⟨67, [46 :: escB c.comment]⟩ : Cd), ⟨68, [decN c.date.toNat]⟩], a.l.toNat = 67 ∨ a.l.toNat = 68 := by simp
 have hcdp : [(⟨67, [46 :: escB c.comment]⟩ : Cd), ⟨68, [decN c.date.toNat]⟩].Pairwise (fun a b => a.l.toNat ≤ b.l.toNat) := by simp
 refine RightC.mk' (by simp [ckCards]) ?_ ?_ ?_
 · intro a ha
   unfold ckCards at ha
   rw [List.mem_append] at ha
   rcases ha with ha | ha
   · rw [List.mem_append] at ha
     rcases ha with ha | ha
     · rw [List.mem_append] at ha
       rcases ha with ha | ha
       · rw [List.mem_append] at ha
         rcases ha with ha | ha
         · rw [bCards_let _ a ha]; decide
         · rcases hcd a ha with e | e <;> rw [e] <;> decide
       · rw [fCards_let _ a ha]; decide
     · rw [pCards_let _ a ha]; decide
   · have := htu.1 a ha; omega
 · intro a ha x hx
   unfold ckCards at ha
   rw [List.mem_append] at ha
   rcases ha with ha | ha
   · rw [List.mem_append] at ha
     rcases ha with ha | ha
     · rw [List.mem_append] at ha
       rcases ha with ha | ha
       · rw [List.mem_append] at ha
         rcases ha with ha | ha
         · unfold bCards at ha
           split at ha
           · cases ha
           · rename_i hb
             rw [List.mem_singleton.1 ha] at hx
             rw [List.mem_singleton.1 hx]
             exact isN_argOk (h.base.resolve_left hb)
         · simp only [List.mem_cons, List.not_mem_nil, or_false] at ha
           rcases ha with rfl | rfl
           · rw [List.mem_singleton.1 hx]; exact argOk_cons (by decide) (escB_ok _)
           · rw [List.mem_singleton.1 hx]; exact decN_argOk _
       · obtain ⟨f, hf, rfl⟩ := List.mem_map.1 ha
         obtain ⟨i, hi, rfl⟩ := mem_getD (d := ([], [])) hf
         obtain ⟨o1, _, o3⟩ := h.files.ok i hi
         generalize c.files.getD i ([], []) = f at o1 o3 hx
         unfold flCard at hx
         dsimp only at hx
         split at hx
         · rw [List.mem_singleton.1 hx]; exact wordP_ok o1
         · rename_i hf2
           simp only [List.mem_cons, List.not_mem_nil, or_false] at hx
           rcases hx with rfl | rfl
           · exact wordP_ok o1
           · exact isN_argOk (o3.resolve_right (fun e => hf2 e.2))
     · unfold pCards at ha
       split at ha
       · cases ha
       · rw [List.mem_singleton.1 ha] at hx
         obtain ⟨i, hi, rfl⟩ := mem_getD (d := []) hx
         exact isN_argOk (h.parents.ok i hi).1
   · rw [List.mem_append] at ha
     rcases ha with ha | ha
     · obtain ⟨t, ht, rfl⟩ := List.mem_map.1 ha
       exact tgCard_ok h.tags t ht x hx
     · rw [List.mem_singleton.1 ha] at hx
       rw [List.mem_singleton.1 hx]; exact wordP_ok h.user
 · unfold ckCards
   refine pw_app (k := 80) (fun a ha => ?_) (fun a ha => by have := htu.1 a ha; omega) ?_ htu.2
   · rw [List.mem_append] at ha
     rcases ha with ha | ha
     · rw [List.mem_append] at ha
       rcases ha with ha | ha
       · rw [List.mem_append] at ha
         rcases ha with ha | ha
         · rw [bCards_let _ a ha]; decide
         · rcases hcd a ha with e | e <;> rw [e] <;> decide
       · rw [fCards_let _ a ha]; decide
     · rw [pCards_let _ a ha]; exact Nat.le_refl _
   · refine pw_app (k := 70) (fun a ha => ?_) (fun a ha => by rw [pCards_let _ a ha]; decide) ?_ (pw_const (pCards_let _))
     · rw [List.mem_append] at ha
       rcases ha with ha | ha
       · rw [List.mem_append] at ha
         rcases ha with ha | ha
         · rw [bCards_let _ a ha]; decide
         · rcases hcd a ha with e | e <;> rw [e] <;> decide
       · rw [fCards_let _ a ha]; exact Nat.le_refl _
     · refine pw_app (k := 68) (fun a ha => ?_) (fun a ha => by rw [fCards_let _ a ha]; decide) ?_ (pw_const (fCards_let _))
       · rw [List.mem_append] at ha
         rcases ha with ha | ha
         · rw [bCards_let _ a ha]; decide
         · rcases hcd a ha with e | e <;> rw [e] <;> decide
       · exact pw_app (k := 66) (fun a ha => by rw [bCards_let _ a ha]; exact Nat.le_refl _) (fun a ha => by rcases hcd a ha with e | e <;> rw [e] <;> decide) (pw_const (bCards_let _)) hcdp
section
open Classical in
noncomputable def the {α : Type} (R : α → Prop) : Option α := if h : ∃ a, R a then some h.choose else none
def ReadsK (s : Bs) (c : Ck) : Prop := RightK c ∧ ckB c = s
theorem ReadsK.reads {s : Bs} {c : Ck} (h : ReadsK s c) : ReadsC s (ckCards c) := ⟨rightK_cards h.1, h.2⟩
/-! As the document reads. -/
def stepR (c : Ck) (x : Cd) : Option Ck :=
 if x.l = 66 ∧ x.args.length = 1 then some { c with base := x.args.getD 0 [] }
 else if x.l = 67 ∧ x.args.length = 1 ∧ ((x.args.getD 0 []).getD 0 0) = 46 then (unescB ((x.args.getD 0 []).drop 1)).map (fun t => { c with comment := t })
 else if x.l = 68 ∧ x.args.length = 1 then some { c with date := rdI (x.args.getD 0 []) }
 else if x.l = 70 ∧ x.args.length = 1 then some { c with files := c.files ++ [(x.args.getD 0 [], [])] }
 else if x.l = 70 ∧ x.args.length = 2 then some { c with files := c.files ++ [(x.args.getD 0 [], x.args.getD 1 [])] }
 else if x.l = 80 then some { c with parents := x.args }
 else if x.l = 84 then some c
 else if x.l = 85 ∧ x.args.length = 1 then some { c with user := x.args.getD 0 [] }
 else none
/-! Sizes. -/
/-! Control artifacts. -/
structure Ct where
 date : Int
 tags : List Tg
 user : Bs
 deriving DecidableEq, Repr
structure RightCt (c : Ct) : Prop where
 date : 0 ≤ c.date ∧ c.date ≤ 1073741824
 some : 0 < c.tags.length
 tags : RightT false c.tags
 user : wordP c.user
instance (c : Ct) : Decidable (RightCt c) := decidable_of_iff ((0 ≤ c.date ∧ c.date ≤ 1073741824) ∧ 0 < c.tags.length ∧ RightT false c.tags ∧ wordP c.user) ⟨fun ⟨a, b, c, d⟩ => ⟨a, b, c, d⟩, fun ⟨a, b, c, d⟩ => ⟨a, b, c, d⟩⟩
def ctCards (c : Ct) : List Cd := ⟨68, [decN c.date.toNat]⟩ :: (c.tags.map tgCard ++ [⟨85, [c.user]⟩])
def ctB (c : Ct) : Bs := printB (ctCards c)
theorem rightCt_cards {c : Ct} (h : RightCt c) : RightC (ctCards c) := by
 have htu := tu_right c.tags c.user
 have e : ctCards c = [⟨68, [decN c.date.toNat]⟩] ++ (c.tags.map tgCard ++ [⟨85, [c.user]⟩]) := rfl
 have h1 : ∀ a ∈ [(⟨68, [decN c.date.toNat]⟩ : Cd)], a.l.toNat = 68 := by simp
 refine RightC.mk' (by simp [ctCards]) ?_ ?_ ?_
 · intro a ha
   rw [e, List.mem_append] at ha
   rcases ha with ha | ha
   · rw [h1 a ha]; decide
   · have := htu.1 a ha; omega
 · intro a ha x hx
   rw [e, List.mem_append] at ha
   rcases ha with ha | ha
   · rw [List.mem_singleton.1 ha] at hx
     rw [List.mem_singleton.1 hx]; exact decN_argOk _
   · rw [List.mem_append] at ha
     rcases ha with ha | ha
     · obtain ⟨t, ht, rfl⟩ := List.mem_map.1 ha
       exact tgCard_ok h.tags t ht x hx
     · rw [List.mem_singleton.1 ha] at hx
       rw [List.mem_singleton.1 hx]; exact wordP_ok h.user
 · rw [e]
   exact pw_app (k := 68) (fun a ha => by rw [h1 a ha]; exact Nat.le_refl _) (fun a ha => by have := htu.1 a ha; omega) (pw_const h1) htu.2
def ReadsCt (s : Bs) (c : Ct) : Prop := RightCt c ∧ ctB c = s
theorem ReadsCt.reads {s : Bs} {c : Ct} (h : ReadsCt s c) : ReadsC s (ctCards c) := ⟨rightCt_cards h.1, h.2⟩
/-! Clusters. -/
structure RightCl (l : List Bs) : Prop where
 ok : ∀ i, i < l.length → isN (l.getD i []) = true ∧ (0 < i → blt (l.getD (i - 1) []) (l.getD i []) = true)
 len : 1 ≤ l.length ∧ l.length ≤ 12
instance (l : List Bs) : Decidable (RightCl l) := decidable_of_iff ((∀ i, i < l.length → isN (l.getD i []) = true ∧ (0 < i → blt (l.getD (i - 1) []) (l.getD i []) = true)) ∧ (1 ≤ l.length ∧ l.length ≤ 12)) ⟨fun ⟨a, b⟩ => ⟨a, b⟩, fun ⟨a, b⟩ => ⟨a, b⟩⟩
def clCard (n : Bs) : Cd := ⟨77, [n]⟩
def clCards (l : List Bs) : List Cd := l.map clCard
def clB (l : List Bs) : Bs := printB (clCards l)
theorem clCards_let (l : List Bs) : ∀ a ∈ clCards l, a.l.toNat = 77 := by
 intro a ha; obtain ⟨f, _, rfl⟩ := List.mem_map.1 ha; rfl
theorem rightCl_cards {l : List Bs} (h : RightCl l) : RightC (clCards l) := by
 refine RightC.mk' (fun e => ?_) (fun a ha => by rw [clCards_let l a ha]; decide) ?_ (pw_const (clCards_let l))
 · have := congrArg List.length e
   have h1 := h.len.1
   simp [clCards] at this
   simp [this] at h1
 · intro a ha x hx
   obtain ⟨n, hn, rfl⟩ := List.mem_map.1 ha
   rw [show (clCard n).args = [n] from rfl] at hx
   rw [List.mem_singleton.1 hx]
   obtain ⟨i, hi, rfl⟩ := mem_getD (d := []) hn
   exact isN_argOk (h.ok i hi).1
def ReadsCl (s : Bs) (l : List Bs) : Prop := RightCl l ∧ clB l = s
theorem ReadsCl.reads {s : Bs} {l : List Bs} (h : ReadsCl s l) : ReadsC s (clCards l) := ⟨rightCl_cards h.1, h.2⟩
end
section
set_option maxRecDepth 100000
/-- No greater than can be. -/
structure TgZ (l : List Tg) : Prop where
 n : l.length ≤ 1073741824
 z : ∀ t ∈ l, t.name.length ≤ 1099511627 ∧ t.target.length ≤ 1099511627 ∧ t.value.length ≤ 1099511627
section
variable {r : Option Nat} {P : Program} {n : Nat} {ops : Array Oper} {os : List Oper} {L : Loc} {Hs : List HP} {Q : Out} {c : Code}
end
end
section
section
variable {P : Program}
end
/-- A slice of bytes that is one's own, in a block that may bear a mark behind its cells. -/
def RowZAt (v : Value) (n : Nat) (xs : List Value) (e : TypeId) (M : Kn) (h : Res) : Prop :=
 ∃ g cap cur fz, v = .slice (some ⟨g, 0, none⟩) n cap ∧ n ≤ cap ∧ cap ≤ maxLen ∧ List.length cur = cap ∧ xs.length = n ∧ cur.take n = xs ∧ (fz = (0, 0) ∨ cap ≤ fz.1) ∧ h = Res.one g (.cells cur.toArray e fz)
def RowZ (e : TypeId) (v : Value) (n : Nat) (xs : List Value) : HP := ⟨RowZAt v n xs e, fun _ e => e⟩
theorem sla_rowz {e : TypeId} {k n c : Nat} {a : Option Addr} {xs : List Value} : SlA (RowZ e (.slice a n c) k xs) a xs := fun x => by
 obtain ⟨g, cap, cur, fz, h1, h2, h3, h4, h5, h6, h7, h8⟩ := x
 cases h1
 exact .inr ⟨g, 0, cur, e, fz, rfl, .inr (by rw [h8]; exact Res.one_same _ _), by rw [List.drop_zero, h5]; exact h6⟩
instance (priority := 1000) {e : TypeId} {k n c : Nat} {a : Option Addr} {xs : List Value} {r : List HP} : RdSl a xs (RowZ e (.slice a n c) k xs :: r) := ⟨⟨_, sla_rowz, .here⟩⟩
section
variable {r : Option Nat} {P : Program} {n : Nat} {ops : Array Oper} {os : List Oper} {L : Loc} {Hs : List HP} {Q : Out} {ty : TypeId} {d : Nat} {pos : String} {after : Array Edge}
end
end
section
set_option maxRecDepth 100000
class RowZC (v : Value) (e k : outParam Nat) (xs : outParam (List Value)) (Hs : List HP) (Rs : outParam (List HP)) : Prop where
 get : Pick (RowZ e v k xs) Hs Rs
instance (priority := 1000) {v : Value} {e k : Nat} {xs : List Value} {r : List HP} : RowZC v e k xs (RowZ e v k xs :: r) r := ⟨.here⟩
instance (priority := 100) {v : Value} {e k : Nat} {xs : List Value} {B : HP} {r s : List HP} [h : RowZC v e k xs r s] : RowZC v e k xs (B :: r) (B :: s) := ⟨.there h.get⟩
instance (priority := 900) {v : Value} {e k : Nat} {xs : List Value} {B B' C : List HP} [h : RowZC v e k xs B B'] : RowZC v e k xs (B ++ C) (B' ++ C) := ⟨pick_left h.get⟩
instance (priority := 800) {v : Value} {e k : Nat} {xs : List Value} {B C C' : List HP} [h : RowZC v e k xs C C'] : RowZC v e k xs (B ++ C) (B ++ C') := ⟨pick_right h.get⟩
section
variable {r : Option Nat} {P : Program} {n : Nat} {ops : Array Oper} {os : List Oper} {A : List HP} {L : Loc} {Hs : List HP} {Q : Out} {ty : TypeId} {d : Nat} {pos : String} {after : Array Edge}
end
end
structure CkY (N : Nat) (c : Ck) : Prop where
 base : c.base.length ≤ 1073741824
 comment : c.comment.length ≤ 1073741824
 user : c.user.length ≤ 1073741824
 fn : c.files.length ≤ N
 fz : ∀ f ∈ c.files, f.1.length ≤ 1073741824 ∧ f.2.length ≤ 1073741824
 pn : c.parents.length ≤ 1073741824
 pz : ∀ p ∈ c.parents, p.length ≤ 1073741824
 tags : TgZ c.tags
theorem CkY.step {N : Nat} {c c' : Ck} {x : Cd} (h : CkY N c) (hx : x.args.length ≤ 1073741824) (hz : ∀ a ∈ x.args, a.length ≤ 1073741824) (e : stepR c x = some c') : CkY (N + 1) c' := by
 obtain ⟨a1, a2, a3, a4, a5, a6, a7, a8⟩ := h
 have hd : ∀ i, (x.args.getD i []).length ≤ 1073741824 := fun i => by
  by_cases hi : i < x.args.length
  · exact hz _ (by simp [hi])
  · simp [hi]
 unfold stepR at e
 split at e
 · cases e; exact ⟨hd 0, a2, a3, by dsimp only; omega, a5, a6, a7, a8⟩
 split at e
 · cases u : unescB ((x.args.getD 0 []).drop 1) with
   | none => rw [u] at e; cases e
   | some t =>
     rw [u] at e; cases e
     have h1 := unescB_len u
     have h2 := hd 0
     rw [List.length_drop] at h1
     exact ⟨a1, by dsimp only; omega, a3, by dsimp only; omega, a5, a6, a7, a8⟩
 split at e
 · cases e; exact ⟨a1, a2, a3, by dsimp only; omega, a5, a6, a7, a8⟩
 split at e
 · cases e
   refine ⟨a1, a2, a3, by dsimp only; rw [List.length_append]; simp only [List.length_cons, List.length_nil]; omega, ?_, a6, a7, a8⟩
   intro f hf
   rcases List.mem_append.1 hf with hf | hf
   · exact a5 f hf
   · rw [List.mem_singleton.1 hf]; exact ⟨hd 0, Nat.zero_le _⟩
 split at e
 · cases e
   refine ⟨a1, a2, a3, by dsimp only; rw [List.length_append]; simp only [List.length_cons, List.length_nil]; omega, ?_, a6, a7, a8⟩
   intro f hf
   rcases List.mem_append.1 hf with hf | hf
   · exact a5 f hf
   · rw [List.mem_singleton.1 hf]; exact ⟨hd 0, hd 1⟩
 split at e
 · cases e; exact ⟨a1, a2, a3, by dsimp only; omega, a5, hx, hz, a8⟩
 split at e
 · cases e; exact ⟨a1, a2, a3, by omega, a5, a6, a7, a8⟩
 split at e
 · cases e; exact ⟨a1, a2, hd 0, by dsimp only; omega, a5, a6, a7, a8⟩
 · cases e
section
set_option maxRecDepth 100000
def withinI (n lo hi : Int) : Int := lo + n % (hi - lo + 1)
theorem withinI_in {n lo hi : Int} (h : lo ≤ hi) : lo ≤ withinI n lo hi ∧ withinI n lo hi ≤ hi := by
 have h1 := Int.emod_nonneg n (show hi - lo + 1 ≠ 0 by omega)
 have h2 := Int.emod_lt_of_pos n (show 0 < hi - lo + 1 by omega)
 unfold withinI; omega
theorem tmod_cases (n m : Int) (hm : 1 ≤ m) : (0 ≤ n.tmod m ∧ n.tmod m = n % m ∨ n.tmod m < 0 ∧ n.tmod m + m = n % m) ∧ -m < n.tmod m ∧ n.tmod m < m := by
 have e1 := Int.emod_nonneg n (show m ≠ 0 by omega)
 have e2 := Int.emod_lt_of_pos n (show 0 < m by omega)
 have hd := Int.emod_emod_of_dvd n (Int.dvd_refl m)
 rcases Int.lt_or_le n 0 with h | h
 · have h2 : n.tmod m = -((-n) % m) := by
     have : n = -(-n) := by omega
     conv => lhs; rw [this]
     rw [Int.neg_tmod, Int.tmod_eq_emod_of_nonneg (by omega)]
   have e3 := Int.emod_nonneg (-n) (show m ≠ 0 by omega)
   have e4 := Int.emod_lt_of_pos (-n) (show 0 < m by omega)
   have hs : (n % m + (-n) % m) % m = 0 := by
    rw [← Int.add_emod, Int.add_right_neg, Int.zero_emod]
   by_cases hz : (-n) % m = 0
   · have : n % m = 0 := by
       rw [hz, Int.add_zero, Int.emod_emod_of_dvd n (Int.dvd_refl m)] at hs; exact hs
     rw [h2, hz, this]; omega
   · have hsum : n % m + (-n) % m = m := by
       have hpos : 0 < n % m + (-n) % m := by omega
       have hlt : n % m + (-n) % m < m + m := by omega
       have hge : m ≤ n % m + (-n) % m := by
        apply Classical.byContradiction; intro hc
        rw [Int.emod_eq_of_lt (by omega) (by omega)] at hs
        omega
       have : (n % m + (-n) % m - m) % m = 0 := by rw [Int.sub_emod, hs]; simp
       rw [Int.emod_eq_of_lt (by omega) (by omega)] at this
       omega
     rw [h2]; omega
 · rw [Int.tmod_eq_emod_of_nonneg h]; omega
theorem zb21ret {G : Prop} (h : G := by exact fin_ret () (vs := [_]) rfl (.tmp rfl .nil) (by rw [hw]; exact congrArg vI (by omega)) trivial ent_nil) : G := h
theorem book_Within_sp (n lo hi : Int) (h1 : -1099511627776 ≤ lo) (h2 : lo ≤ hi) (h3 : hi ≤ 1099511627776) : SpF Tryz.prog 21 [vI n, vI lo, vI hi] (vI (withinI n lo hi)) := by
 have hc := tmod_cases n (hi - lo + 1) (by omega)
 have hw : withinI n lo hi = lo + n % (hi - lo + 1) := rfl
 refine Sp.body (n := 24) Tryz.call21 Tryz.func21 rfl rfl rfl ?_
 refine Qc (k:=Vv (k:=Wq (Qc (k:=Qv (k:=Qv (k:=Vv (k:=?_)))))))
 refine wo_pv (pv_remt rfl rfl (by omega)) rfl ?_
 refine Vv (k:=Wq (Za (k:=Qc (k:=Qv (k:=Wq (Zi (t:=fun h14 => ?_) (f:=fun h14 => ?_)))))))
 ·
  refine Zr (k:=Qv (k:=Qv (k:=Qv (k:=Vv (k:=Wq (Qc (k:=Vv (k:=?_))))))))
  refine Qv (k:=Vv (k:=Wq (Zt (k:=?_))))
  exact zb21ret
 ·
  refine Zk (k:=Ya (Qc (k:=Qv (k:=Qv (k:=Wq (Zt (k:=?_)))))))
  exact zb21ret
end
def piecesL : List Bs := ["line one\n".toUTF8.data.toList, "the second line is longer\n".toUTF8.data.toList, "x".toUTF8.data.toList, "0;".toUTF8.data.toList, "abcabcabc".toUTF8.data.toList, "\n".toUTF8.data.toList, "3:xyz".toUTF8.data.toList, "tail of it all".toUTF8.data.toList]
def beginL : List Bs := ["".toUTF8.data.toList, "a common beginning of some texts, long enough for deltas between these; ".toUTF8.data.toList, "another beginning, of other texts, as long as the first one is, or a bit longer; ".toUTF8.data.toList]
def pieceI (b x : Int) : Bs := piecesL.getD (withinI (IntKind.i64.wrap (x + bits .and .i64 b 1)) 0 7).toNat []
def textF (b : Int) : List Int → Bs → Bs
 | [], out => out
 | x :: r, out => if out.length < 170 then textF b r (out ++ pieceI b x) else out
def textB (b : Int) (l : List Int) : Bs := textF b l []
def longB (b : Int) (l : List Int) (n : Int) : Bs := beginL.getD (withinI n 0 2).toNat [] ++ (textB b l).take 160
theorem textF_take {b : Int} (l : List Int) : ∀ (out : Bs) (j : Nat), j < l.length → (∀ i, i ≤ j → (textF b (l.take i) out).length < 170) → textF b (l.take (j + 1)) out = textF b (l.take j) out ++ pieceI b (l.getD j 0) := by
 induction l with
 | nil => intro out j h; simp at h
 | cons x r ih =>
   intro out j h hs
   have h0 := hs 0 (Nat.zero_le _)
   simp only [List.take_zero, textF] at h0
   cases j with
   | zero => simp [textF, h0]
   | succ j =>
     simp only [List.take_succ_cons, textF, h0, if_true, List.getD_cons_succ]
     refine ih (out ++ pieceI b x) j (by simpa using h) (fun i hi => ?_)
     have := hs (i + 1) (by omega)
     simp only [List.take_succ_cons, textF, h0, if_true] at this
     exact this
theorem textF_stop {b : Int} (l : List Int) : ∀ (out : Bs) (j : Nat), j ≤ l.length → (∀ i, i < j → (textF b (l.take i) out).length < 170) → (j < l.length → 170 ≤ (textF b (l.take j) out).length) → textF b l out = textF b (l.take j) out := by
 induction l with
 | nil => intro out j h _ _; simp
 | cons x r ih =>
   intro out j h hs he
   cases j with
   | zero =>
     have := he (by simp)
     simp only [List.take_zero, textF] at this ⊢
     rw [if_neg (by omega)]
   | succ j =>
     have h0 := hs 0 (by omega)
     simp only [List.take_zero, textF] at h0
     simp only [List.take_succ_cons, textF, h0, if_true]
     refine ih (out ++ pieceI b x) j (by simpa using h) (fun i hi => ?_) (fun hj => ?_)
     · have := hs (i + 1) (by omega)
       simp only [List.take_succ_cons, textF, h0, if_true] at this
       exact this
     · have := he (by simp; omega)
       simp only [List.take_succ_cons, textF, h0, if_true] at this
       exact this
theorem pieceI_len (b x : Int) : (pieceI b x).length ≤ 26 := by
 unfold pieceI
 have : ∀ p ∈ piecesL, p.length ≤ 26 := by decide
 by_cases h : (withinI (IntKind.i64.wrap (x + bits .and .i64 b 1)) 0 7).toNat < piecesL.length
 · exact this _ (by simp [h])
 · simp [h]
theorem pieceI_noZ (b x : Int) : (90 : UInt8) ∉ pieceI b x := by
 unfold pieceI
 have : ∀ p ∈ piecesL, (90 : UInt8) ∉ p := by decide
 by_cases h : (withinI (IntKind.i64.wrap (x + bits .and .i64 b 1)) 0 7).toNat < piecesL.length
 · exact this _ (by simp [h])
 · simp [h]
theorem textF_ok (b : Int) (l : List Int) : ∀ out : Bs, out.length ≤ 195 → (90 : UInt8) ∉ out → (textF b l out).length ≤ 195 ∧ (90 : UInt8) ∉ textF b l out := by
 induction l with
 | nil => intro out h1 h2; exact ⟨h1, h2⟩
 | cons x r ih =>
   intro out h1 h2
   simp only [textF]
   split
   · refine ih _ ?_ ?_
     · rw [List.length_append]; have := pieceI_len b x; omega
     · rw [List.mem_append]; exact fun h => h.elim h2 (pieceI_noZ b x)
   · exact ⟨h1, h2⟩
theorem textB_len (b : Int) (l : List Int) : (textB b l).length ≤ 195 := (textF_ok b l [] (Nat.zero_le _) (by simp)).1
theorem longB_len (b : Int) (l : List Int) (n : Int) : (longB b l n).length ≤ 300 := by
 unfold longB
 have h1 : ∀ p ∈ beginL, p.length ≤ 90 := by decide
 have h2 : (beginL.getD (withinI n 0 2).toNat []).length ≤ 90 := by
  by_cases h : (withinI n 0 2).toNat < beginL.length
  · exact h1 _ (by simp [h])
  · simp [h]
 rw [List.length_append, List.length_take]; omega
section
set_option maxRecDepth 100000
theorem zb28ret7 {G : Prop} (h : G := by
    have he : textB b l = textF b (l.take j) [] := textF_stop l [] j hj hs (fun h => by omega)
    rw [he]
    exact fin_ret () (vs := [_]) (Cs := []) rfl (.tmp rfl .nil) rfl trivial ent_pick) : G := h
set_option maxHeartbeats 1000000 in
theorem keep_Text_sp {B : HP} {a : Option Addr} (c : Nat) (b : Int) (l : List Int) (hl : l.length ≤ 9223372036854775807) (sh : SlA B a (l.map vI)) :
    Sp1 Tryz.prog 28 [.agg #[vI b, .slice a l.length c]] [B] (vS (textB b l)) [B] := by
 haveI : RdSl a (l.map vI) [B] := ⟨⟨B, sh, .here⟩⟩
 refine Sp.body (n := 38) Tryz.call28 Tryz.func28 rfl rfl rfl ?_
 refine Qc (k:=Zx [_, _] (k:=fun b1 => Vv (k:=Wq (Qc (k:=Zv [_, _, _, _, _, _, _, _] (cs := [_, _, _, _, _, _, _, _]) (k:=fun b6 => Vv (k:=Wq (Qc (k:=?_)))))))))
 refine Vv (k:=Wq (Za (k:=Qc (k:=Vv (k:=Wq (Zb (k:=?_)))))))
 refine p_loop (fun (i : { j : Nat // j ≤ l.length ∧ ∀ i, i < j → (textF b (l.take i) []).length < 170 }) => [(1, .pointer (some ⟨b1, 0, none⟩)), (3, .slice (some ⟨b6, 0, none⟩) 8 8), (4, vS (textF b (l.take i.1) [])), (5, vI i.1)]) (fun (i : { j : Nat // j ≤ l.length ∧ ∀ i, i < j → (textF b (l.take i) []).length < 170 }) => [Ce b6 9 (piecesL.map vS), Ce b1 39 [vI b, .slice a l.length c], B]) (fun (i : { j : Nat // j ≤ l.length ∧ ∀ i, i < j → (textF b (l.take i) []).length < 170 }) => l.length - i.1) rfl (⟨0, Nat.zero_le _, fun i h => by omega⟩) ?_ ?_ (fun i => ?_)
 · exact ⟨rfl, rfl, rfl, rfl, trivial⟩
 ·
  exact ent_step (ce_norm (by rfl) (by rfl)) ent_pick
 obtain ⟨j, hj, hs⟩ := i
 dsimp only
 have hz := (textF_ok b (l.take j) [] (Nat.zero_le _) (by simp)).1
 try dsimp only
 refine Za (k:=Qc (k:=Vv (k:=Qx 1 37 (k:=Qv (k:=Vv (k:=Gi 5 (t:=fun h12 => ?_) (f:=fun h12 => ?_)))))))
 ·
  refine J1 (k:=J1 (k:=J1 (k:=P1 (k:=Wq (Zi (t:=fun h16 => ?_) (f:=fun h16 => ?_))))))
  ·
   refine Zk (k:=Ya (Za (k:=Zb (k:=?_))))
   have hjl : j < l.length := by omega
   obtain ⟨out, hout⟩ : ∃ out, out = textF b (l.take j) [] := ⟨_, rfl⟩
   rw [← hout] at hz h16 ⊢
   have hst : textF b (l.take (j + 1)) [] = out ++ pieceI b (l.getD j 0) := by
    rw [hout]
    refine textF_take l [] j hjl (fun i hi => ?_)
    by_cases e : i = j
    · rw [e, ← hout]; omega
    · exact hs i (by omega)
   have hw := withinI_in (n := IntKind.i64.wrap (l.getD j 0 + bits .and .i64 b 1)) (show (0 : Int) ≤ 7 by omega)
   have hpl := pieceI_len b (l.getD j 0)
   have hpe : pieceI b (l.getD j 0) = piecesL.getD (withinI (IntKind.i64.wrap (l.getD j 0 + bits .and .i64 b 1)) 0 7).toNat [] := rfl
   generalize hk : (withinI (IntKind.i64.wrap (l.getD j 0 + bits .and .i64 b 1)) 0 7).toNat = k at hpe
   have hwk : withinI (IntKind.i64.wrap (l.getD j 0 + bits .and .i64 b 1)) 0 7 = (k : Int) := by omega
   have hpn : piecesL.length = 8 := rfl
   have hk8 : k < piecesL.length := by omega
   refine Dw [Ce b6 9 (piecesL.map vS), Ce b1 39 [vI b, .slice a l.length c], B] (k:=?_)
   refine Dv 0 (k:=Dv 1 (k:=Di 2 (t:=Uf 1 37) (k:=Di 3 (t:=Ul) (k:=Dv 4 (k:=?_)))))
   refine d_first 5 rfl rfl rfl (by kernel_rfl) (by kernel_rfl) (tl_elemAddr (sz := 1) Tryz.underlying37 ti3 rfl rfl rfl rfl (by omega) (by first | (rw [List.length_map]; omega) | (rw [flat_len (sz := 1) (fun _ => rfl)]; omega) | (simp; omega)) (Nat.mul_one _)) ?_
   refine d_first 6 rfl rfl rfl (by kernel_rfl) (by kernel_rfl) (tl_eload Tryz.underlying3 rfl rfl (get_mapD 0 hjl)) ?_
   refine Di 7 (t:=Uf 0 3) (k:=Di 8 (t:=Ul) (k:=?_))
   refine d_first 9 rfl rfl rfl (by kernel_rfl) (by kernel_rfl) (tl_pv (pv_and rfl rfl)) ?_
   refine d_first 10 rfl rfl rfl (by kernel_rfl) (by kernel_rfl) (tl_pv (pv_addw rfl rfl)) ?_
   refine Dv 11 (k:=Dv 12 (k:=Dv 13 (k:=Dn 14 (k:=?_))))
   refine an_callF (book_Within_sp _ 0 7 (by omega) (by omega) (by omega)) rfl rfl rfl ?_
   rw [hwk]
   refine d_first 15 rfl rfl rfl (by kernel_rfl) (by kernel_rfl) (tl_elemAddr (sz := 1) Tryz.underlying27 ti9 rfl rfl rfl rfl (by omega) (by first | (rw [List.length_map]; omega) | (rw [flat_len (sz := 1) (fun _ => rfl)]; omega) | (simp; omega)) (Nat.mul_one _)) ?_
   refine d_first 16 rfl rfl rfl (by kernel_rfl) (by kernel_rfl) (tl_eload Tryz.underlying9 rfl rfl (get_mapD [] hk8)) ?_
   refine d_first 17 rfl rfl rfl (by kernel_rfl) (by kernel_rfl) (tl_pv (pv_cat rfl rfl (by rw [← hpe]; omega))) ?_
   refine Dv 18 (k:=Dd (k:=Yb (Ya (Zr (k:=Qv (k:=Vv (k:=Wn ?_)))))))
   refine to_inv ⟨j + 1, by omega, fun i hi => ?_⟩ (by dsimp only; omega) ⟨rfl, rfl, vS_eq (by dsimp only; rw [hst, hpe]), rfl, trivial⟩ ent_pick
   by_cases e : i = j
   · rw [e, ← hout]; omega
   · exact hs i (by omega)
  ·
   refine Ze (k:=Xa (Xi (Xb (Ya (Qc (k:=Qv (k:=Wq (Zt (k:=?_)))))))))
   exact zb28ret7
 ·
  refine O0 (k:=O0 (k:=O0 (k:=P0 (k:=Wq (Z0 (k:=Ze (k:=Xa (Xi (Xb (Ya (Za (k:=?_))))))))))))
  refine Zr (k:=Qv (k:=Wq (Zt (k:=?_))))
  exact zb28ret7
theorem take_minl (t : Bs) (m : Nat) : t.take (min t.length m) = t.take m := by
 by_cases h : t.length ≤ m
 · rw [Nat.min_eq_left h, List.take_length, List.take_of_length_le h]
 · rw [Nat.min_eq_right (by omega)]
theorem keep_Long_sp {B : HP} {a : Option Addr} (c : Nat) (b : Int) (l : List Int) (n : Int) (hl : l.length ≤ 9223372036854775807) (sh : SlA B a (l.map vI)) :
    Sp1 Tryz.prog 43 [.agg #[vI b, .slice a l.length c], vI n] [B] (vS (longB b l n)) [B] := by
 have hT := keep_Text_sp c b l hl sh
 have hz := textB_len b l
 have hw := withinI_in (n := n) (show (0 : Int) ≤ 2 by omega)
 have hlb : longB b l n = beginL.getD (withinI n 0 2).toNat [] ++ (textB b l).take 160 := rfl
 have hbl : (beginL.getD (withinI n 0 2).toNat []).length ≤ 90 := by
  have h1 : ∀ p ∈ beginL, p.length ≤ 90 := by decide
  by_cases h : (withinI n 0 2).toNat < beginL.length
  · exact h1 _ (by simp [h])
  · simp [h]
 generalize hk : (withinI n 0 2).toNat = k at hlb hbl
 have hwk : withinI n 0 2 = (k : Int) := by omega
 have hbn : beginL.length = 3 := rfl
 have hk3 : k < beginL.length := by omega
 refine Sp.body (n := 21) Tryz.call43 Tryz.func43 rfl rfl rfl ?_
 refine Qc (k:=Zx [_, _] (k:=fun b2 => Vv (k:=Wq (Qc (k:=Zv [_, _, _] (cs := [_, _, _]) (k:=fun b7 => Vv (k:=Wq (Qc (k:=?_)))))))))
 refine Zm [_, _] (k:=?_)
 refine r_call1 hT rfl rfl rfl ?_
 refine Vv (k:=Wq (Za (k:=?_)))
 refine wc_ent' (Gs := [Ce b7 9 (beginL.map vS), B]) (ent_step (ce_norm (by rfl) (by rfl)) ent_pick) ?_
 refine Dw [Ce b7 9 (beginL.map vS)] (k:=?_)
 refine Dv 0 (k:=Dv 1 (k:=Dv 5 (k:=Dv 6 (k:=Dv 7 (k:=Dv 8 (k:=?_))))))
 refine d_first 9 rfl rfl rfl (by kernel_rfl) (by kernel_rfl) (tl_pv (pv_slice_tom (m := min (textB b l).length 160) Tryz.underlying9 rfl rfl (by omega) (by omega))) ?_
 refine Dn 2 (k:=?_)
 refine an_callF (book_Within_sp n 0 2 (by omega) (by omega) (by omega)) rfl rfl rfl ?_
 rw [hwk]
 refine d_first 3 rfl rfl rfl (by kernel_rfl) (by kernel_rfl) (tl_elemAddr (sz := 1) Tryz.underlying27 ti9 rfl rfl rfl rfl (by omega) (by first | (rw [List.length_map]; omega) | (rw [flat_len (sz := 1) (fun _ => rfl)]; omega) | (simp; omega)) (Nat.mul_one _)) ?_
 refine d_first 4 rfl rfl rfl (by kernel_rfl) (by kernel_rfl) (tl_eload Tryz.underlying9 rfl rfl (get_mapD [] hk3)) ?_
 refine d_first 10 rfl rfl rfl (by kernel_rfl) (by kernel_rfl) (tl_pv (pv_cat rfl rfl (by rw [List.length_take]; omega))) ?_
 refine Dv 11 (k:=Dd (k:=Ya (Zt (k:=?_))))
 rw [hlb, ← take_minl]
 exact fin_ret () (vs := [_]) (Cs := []) rfl (.tmp rfl .nil) rfl trivial ent_pick
end
end Go.Proofs.YtibccdcemcgkeaaGreat
