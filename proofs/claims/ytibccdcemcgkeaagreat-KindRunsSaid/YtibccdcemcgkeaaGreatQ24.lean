/- Texts of this proof, put together: PCk4, SR10k, PNames, SR10l, SBook, PKeep, PKeep2, SKeep3, PKeep3, PKind, LawKindRuns. -/
import Derived.Laws.StructEq
import Derived.Test.YtibccdcemcgkeaaGreatQ23
import Derived.Test.YtibccdcemcgkeaaGreatQ17
import Derived.Test.YtibccdcemcgkeaaGreatQ18
import Derived.Test.YtibccdcemcgkeaaGreatQ19
import Derived.Test.YtibccdcemcgkeaaGreatQ20
import Derived.Test.YtibccdcemcgkeaaGreatQ05
import Derived.Test.YtibccdcemcgkeaaGreatQ12
import Derived.Test.YtibccdcemcgkeaaGreatQ22
set_option linter.unusedVariables false
set_option linter.unusedSimpArgs false
section
namespace Go.Proofs.YtibccdcemcgkeaaGreat
structure CkY (N : Nat) (c : Ck) : Prop where
 base : c.base.length ≤ 1073741824
 comment : c.comment.length ≤ 1073741824
 user : c.user.length ≤ 1073741824
 fn : c.files.length ≤ N
 fz : ∀ f ∈ c.files, f.1.length ≤ 1073741824 ∧ f.2.length ≤ 1073741824
 pn : c.parents.length ≤ 1073741824
 pz : ∀ p ∈ c.parents, p.length ≤ 1073741824
 tags : TgZ c.tags
theorem CkY.step {N : Nat} {c c' : Ck} {x : Cd} (h : CkY N c) (hx : x.args.length ≤ 1073741824) (hz : ∀ a ∈ x.args, a.length ≤ 1073741824) (e : stepR c x = some c') : CkY (N + 1) c' := by
 obtain ⟨a1, a2, a3, a4, a5, a6, a7, a8⟩ := h
 have hd : ∀ i, (x.args.getD i []).length ≤ 1073741824 := fun i => by
  by_cases hi : i < x.args.length
  · exact hz _ (by simp [hi])
  · simp [hi]
 unfold stepR at e
 split at e
 · cases e; exact ⟨hd 0, a2, a3, by dsimp only; omega, a5, a6, a7, a8⟩
 split at e
 · cases u : unescB ((x.args.getD 0 []).drop 1) with
   | none => rw [u] at e; cases e
   | some t =>
     rw [u] at e; cases e
     have h1 := unescB_len u
     have h2 := hd 0
     rw [List.length_drop] at h1
     exact ⟨a1, by dsimp only; omega, a3, by dsimp only; omega, a5, a6, a7, a8⟩
 split at e
 · cases e; exact ⟨a1, a2, a3, by dsimp only; omega, a5, a6, a7, a8⟩
 split at e
 · cases e
   refine ⟨a1, a2, a3, by dsimp only; rw [List.length_append]; simp only [List.length_cons, List.length_nil]; omega, ?_, a6, a7, a8⟩
   intro f hf
   rcases List.mem_append.1 hf with hf | hf
   · exact a5 f hf
   · rw [List.mem_singleton.1 hf]; exact ⟨hd 0, Nat.zero_le _⟩
 split at e
 · cases e
   refine ⟨a1, a2, a3, by dsimp only; rw [List.length_append]; simp only [List.length_cons, List.length_nil]; omega, ?_, a6, a7, a8⟩
   intro f hf
   rcases List.mem_append.1 hf with hf | hf
   · exact a5 f hf
   · rw [List.mem_singleton.1 hf]; exact ⟨hd 0, hd 1⟩
 split at e
 · cases e; exact ⟨a1, a2, a3, by dsimp only; omega, a5, hx, hz, a8⟩
 split at e
 · cases e; exact ⟨a1, a2, a3, by omega, a5, a6, a7, a8⟩
 split at e
 · cases e; exact ⟨a1, a2, hd 0, by dsimp only; omega, a5, a6, a7, a8⟩
 · cases e
end Go.Proofs.YtibccdcemcgkeaaGreat
end
section
set_option maxRecDepth 100000
namespace Go.Proofs.YtibccdcemcgkeaaGreat
def putB (n : Bs) : List Bs → List Bs
 | [] => [n]
 | x :: r => if blt x n = true then x :: putB n r else if x = n then x :: r else n :: x :: r
theorem putB_mem (n : Bs) (l : List Bs) (x : Bs) : x ∈ putB n l ↔ x = n ∨ x ∈ l := by
 induction l with
 | nil => simp [putB]
 | cons y r ih =>
   simp only [putB]
   split
   · simp only [List.mem_cons, ih]
     constructor
     · rintro (h | h | h) <;> simp [h]
     · rintro (h | h | h) <;> simp [h]
   · split
     · rename_i _ e; subst e; simp
     · simp
theorem putB_sorted (n : Bs) {l : List Bs} (h : l.Pairwise (· < ·)) : (putB n l).Pairwise (· < ·) := by
 induction l with
 | nil => simp [putB]
 | cons y r ih =>
   rw [List.pairwise_cons] at h
   simp only [putB]
   split
   · rename_i hb
     rw [List.pairwise_cons]
     refine ⟨fun x hx => ?_, ih h.2⟩
     rcases (putB_mem n r x).1 hx with e | e
     · rw [e]; exact (blt_iff y n).1 hb
     · exact h.1 x e
   · split
     · exact List.pairwise_cons.2 h
     · rename_i hb hne
       have hlt : n < y := by
        have h1 : ¬ y < n := fun e => hb ((blt_iff y n).2 e)
        rcases Std.lt_trichotomy n y with e | e | e
        · exact e
        · exact absurd e.symm hne
        · exact absurd e h1
       rw [List.pairwise_cons, List.pairwise_cons]
       refine ⟨fun x hx => ?_, h.1, h.2⟩
       rcases List.mem_cons.1 hx with e | e
       · rw [e]; exact hlt
       · exact List.lt_trans hlt (h.1 x e)
end Go.Proofs.YtibccdcemcgkeaaGreat
end
section
namespace Go.Proofs.YtibccdcemcgkeaaGreat
def putA (l ns : List Bs) : List Bs := ns.foldl (fun l n => putB n l) l
theorem putA_mem (ns : List Bs) : ∀ (l : List Bs) (x : Bs), x ∈ putA l ns ↔ x ∈ l ∨ x ∈ ns := by
 induction ns with
 | nil => intro l x; simp [putA]
 | cons n ns ih =>
   intro l x
   have h := ih (putB n l) x
   have e : putA l (n :: ns) = putA (putB n l) ns := rfl
   rw [e, h, putB_mem, List.mem_cons]
   constructor
   · rintro ((h | h) | h) <;> simp [h]
   · rintro (h | h | h) <;> simp [h]
theorem putA_sorted (ns : List Bs) : ∀ (l : List Bs), l.Pairwise (· < ·) → (putA l ns).Pairwise (· < ·) := by
 induction ns with
 | nil => intro l h; exact h
 | cons n ns ih => intro l h; exact ih _ (putB_sorted n h)
theorem dedS_mem (l : List Bs) (x : Bs) : x ∈ dedS l ↔ x ∈ l := by
 induction l using list_snoc_ind with
 | h0 => exact Iff.rfl
 | h1 l y ih =>
   rw [dedS_snoc]
   split
   · rename_i h
     rw [ih, List.mem_append, List.mem_singleton]
     refine ⟨.inl, fun h2 => h2.elim id fun e => ?_⟩
     exact ih.1 (by rw [e]; exact List.mem_of_getLast? h)
   · rw [List.mem_append, List.mem_append, ih]
theorem dedS_sorted (l : List Bs) (h : l.Pairwise (fun x y => x ≤ y)) : (dedS l).Pairwise (· < ·) := by
 induction l using list_snoc_ind with
 | h0 => exact List.Pairwise.nil
 | h1 l y ih =>
   rw [List.pairwise_append] at h
   obtain ⟨h1, _, h3⟩ := h
   have hl := ih h1
   rw [dedS_snoc]
   split
   · exact hl
   · rename_i hne
     rw [List.pairwise_append]
     refine ⟨hl, by simp, fun a ha b hb => ?_⟩
     rw [List.mem_singleton.1 hb]
     have hab : a ≤ y := h3 a ((dedS_mem l a).1 ha) y (by simp)
     rcases Std.lt_trichotomy a y with e | e | e
     · exact e
     · exfalso
       subst e
       -- a is the last: all before the last are less than it, and it is no greater than a
       rcases hg : (dedS l).getLast? with _ | z
       · rw [List.getLast?_eq_none_iff.1 hg] at ha; cases ha
       · have hz : z ∈ dedS l := List.mem_of_getLast? hg
         have hza : z ≤ a := h3 z ((dedS_mem l z).1 hz) a (by simp)
         by_cases ez : z = a
         · rw [ez] at hg; exact hne hg
         · obtain ⟨ys, hys⟩ : ∃ ys, dedS l = ys ++ [z] := List.getLast?_eq_some_iff.1 hg
           rw [hys] at ha hl
           rw [List.pairwise_append] at hl
           rcases List.mem_append.1 ha with h4 | h4
           · have := hl.2.2 a h4 z (by simp)
             exact absurd this (List.not_lt.2 hza)
           · exact ez (List.mem_singleton.1 h4).symm
     · exact absurd e (List.not_lt.2 hab)
theorem namesR_sorted (s : Bs) : (namesR s).Pairwise (· < ·) := (dedS_sorted _ (sortB_sorted _)).filter _
theorem namesR_mem (s x : Bs) : x ∈ namesR s ↔ x ∈ namesP s ∧ x ≠ [] := by
 rw [namesR, List.mem_filter, dedS_mem, (sortB_perm _).mem_iff]; simp
/-- Names of a check-in, in the document's order. -/
def nsK (c : Ck) : List Bs := (if c.base = [] then [] else [c.base]) ++ (c.files.map (·.2)).filter (· ≠ []) ++ c.parents
noncomputable def outK (s : Bs) : List Bs := match readK s with
 | some c => putA [] (nsK c)
 | none => []
noncomputable def outT (s : Bs) : List Bs := match readCt s with
 | some c => putA (outK s) (c.tags.map (·.target))
 | none => outK s
noncomputable def outC (s : Bs) : List Bs := match readCl s with
 | some l => l
 | none => outT s
theorem isN_ne {s : Bs} (h : isN s = true) : s ≠ [] := fun e => by have := isN_len h; rw [e] at this; cases this
theorem rise_pw {l : List Bs} (h : ∀ i, 0 < i → i < l.length → blt (l.getD (i - 1) []) (l.getD i []) = true) : l.Pairwise (· < ·) := by
 induction l using list_snoc_ind with
 | h0 => exact List.Pairwise.nil
 | h1 l y ih =>
   have ih' := ih (fun i h0 h1 => by
    have := h i h0 (by simp; omega)
    have e1 : ∀ k, k < l.length → (l ++ [y]).getD k [] = l.getD k [] := fun k hk => by simp [hk, List.getElem?_append]
    rw [e1 _ (by omega), e1 _ h1] at this
    exact this)
   rw [List.pairwise_append]
   refine ⟨ih', by simp, fun a ha b hb => ?_⟩
   rw [List.mem_singleton.1 hb]
   rcases hg : l.getLast? with _ | z
   · rw [List.getLast?_eq_none_iff.1 hg] at ha; cases ha
   · obtain ⟨ys, rfl⟩ := List.getLast?_eq_some_iff.1 hg
     have h2 := h (ys.length + 1) (by omega) (by simp)
     have e1 : (ys ++ [z] ++ [y]).getD (ys.length + 1 - 1) [] = z := by simp
     have e2 : (ys ++ [z] ++ [y]).getD (ys.length + 1) [] = y := by simp
     rw [e1, e2] at h2
     have hzy := (blt_iff z y).1 h2
     rcases List.mem_append.1 ha with h4 | h4
     · exact List.lt_trans ((List.pairwise_append.1 ih').2.2 a h4 z (by simp)) hzy
     · rw [List.mem_singleton.1 h4]; exact hzy
theorem only_ct {s : Bs} {c : Ct} (h : readCt s = some c) : readK s = none := the_none fun k hk => by
 have e := hk.reads.uniq (readCt_iff.1 h).reads
 have h1 : (⟨67, [46 :: escB k.comment]⟩ : Cd) ∈ ckCards k := by simp [ckCards]
 rw [e] at h1
 simp only [ctCards, List.mem_cons, List.mem_append, List.mem_map, List.mem_singleton] at h1
 rcases h1 with h1 | ⟨t, _, h1⟩ | h1 | h1
 · have := congrArg Cd.l h1; simp at this
 · have := congrArg Cd.l h1; simp [tgCard] at this
 · have := congrArg Cd.l h1; simp at this
 · cases h1
theorem only_cl {s : Bs} {l : List Bs} (h : readCl s = some l) : readK s = none ∧ readCt s = none := by
 constructor
 · refine the_none fun k hk => ?_
   have e := hk.reads.uniq (readCl_iff.1 h).reads
   have h1 : (⟨67, [46 :: escB k.comment]⟩ : Cd) ∈ ckCards k := by simp [ckCards]
   rw [e] at h1
   have := clCards_let l _ h1
   simp at this
 · refine the_none fun k hk => ?_
   have e := hk.reads.uniq (readCl_iff.1 h).reads
   have h1 : (⟨68, [decN k.date.toNat]⟩ : Cd) ∈ ctCards k := by simp [ctCards]
   rw [e] at h1
   have := clCards_let l _ h1
   simp at this
theorem right_parents {c : Ck} (h : RightK c) : ∀ p ∈ c.parents, isN p = true := fun p hp => by
 obtain ⟨i, hi, rfl⟩ := List.getElem_of_mem hp
 have := (h.parents.ok i hi).1
 simpa [hi] using this
theorem right_files {c : Ck} (h : RightK c) : ∀ f ∈ c.files, f.2 = [] ∨ isN f.2 = true := fun f hf => by
 obtain ⟨i, hi, rfl⟩ := List.getElem_of_mem hf
 have := (h.files.ok i hi).hash
 have e : c.files.getD i ([], []) = c.files[i] := by simp [hi]
 rw [e] at this
 rcases this with h | ⟨_, h⟩
 · exact .inr h
 · exact .inl h
theorem right_targets {c : Ct} (h : RightCt c) : ∀ t ∈ c.tags, isN t.target = true := fun t ht => by
 obtain ⟨i, hi, rfl⟩ := List.getElem_of_mem ht
 have := (h.tags.ok i hi).tgt.2 rfl
 have e : c.tags.getD i tg0 = c.tags[i] := by simp [hi]
 rwa [e] at this
theorem right_names {l : List Bs} (h : RightCl l) : ∀ n ∈ l, isN n = true := fun n hn => by
 obtain ⟨i, hi, rfl⟩ := List.getElem_of_mem hn
 have := (h.ok i hi).1
 simpa [hi] using this
theorem outC_names (s : Bs) : outC s = namesR s := by
 refine sorted_eq ?_ (namesR_sorted s) fun k => ?_
 · unfold outC
   split
   · rename_i l h
     exact rise_pw fun i h0 hi => ((readCl_iff.1 h).1.ok i hi).2 h0
   · unfold outT
     have hk : (outK s).Pairwise (· < ·) := by
      unfold outK
      split
      · exact putA_sorted _ _ .nil
      · exact .nil
     split
     · exact putA_sorted _ _ hk
     · exact hk
 · rw [namesR_mem]
   unfold outC
   cases hl : readCl s with
   | some l =>
     obtain ⟨h1, h2⟩ := only_cl hl
     simp only [namesP, h1, h2, hl, Option.getD_some]
     exact ⟨fun h => ⟨h, isN_ne (right_names (readCl_iff.1 hl).1 k h)⟩, fun h => h.1⟩
   | none =>
     dsimp only
     unfold outT
     cases ht : readCt s with
     | some c =>
       have h1 := only_ct ht
       simp only [namesP, h1, ht, outK]
       rw [putA_mem]
       constructor
       · rintro (h | h)
         · cases h
         · obtain ⟨t, h2, rfl⟩ := List.mem_map.1 h
           exact ⟨h, isN_ne (right_targets (readCt_iff.1 ht).1 t h2)⟩
       · exact fun h => .inr h.1
     | none =>
       dsimp only
       unfold outK
       cases hk : readK s with
       | none => simp [namesP, hk, ht, hl]
       | some c =>
         have hR := (readK_iff.1 hk).1
         simp only [namesP, hk]
         rw [putA_mem]
         simp only [nsK, List.mem_append, List.mem_cons, List.mem_filter, List.mem_map]
         constructor
         · rintro (h | (h | h) | h)
           · cases h
           · by_cases e : c.base = []
             · rw [if_pos e] at h; cases h
             · rw [if_neg e, List.mem_singleton] at h
               exact ⟨.inl (.inl h), by rw [h]; exact e⟩
           · exact ⟨.inr h.1, by simpa using h.2⟩
           · exact ⟨.inl (.inr h), isN_ne (right_parents hR k h)⟩
         · rintro ⟨(h | h) | h, hne⟩
           · refine .inr (.inl (.inl ?_))
             rw [if_neg (by rw [← h]; exact hne), h]; simp
           · exact .inr (.inr h)
           · exact .inr (.inl (.inr ⟨h, by simpa using hne⟩))
end Go.Proofs.YtibccdcemcgkeaaGreat
end
section
set_option maxRecDepth 100000
namespace Go.Proofs.YtibccdcemcgkeaaGreat
theorem isN_40 {s : Bs} (h : isN s = true) : s.length ≤ 40 := by rw [isN_len h]; omega
end Go.Proofs.YtibccdcemcgkeaaGreat
end
section
set_option maxRecDepth 100000
namespace Go.Proofs.YtibccdcemcgkeaaGreat
def withinI (n lo hi : Int) : Int := lo + n % (hi - lo + 1)
end Go.Proofs.YtibccdcemcgkeaaGreat
end
section
namespace Go.Proofs.YtibccdcemcgkeaaGreat
def piecesL : List Bs := ["line one\n".toUTF8.data.toList, "the second line is longer\n".toUTF8.data.toList, "x".toUTF8.data.toList, "0;".toUTF8.data.toList, "abcabcabc".toUTF8.data.toList, "\n".toUTF8.data.toList, "3:xyz".toUTF8.data.toList, "tail of it all".toUTF8.data.toList]
def beginL : List Bs := ["".toUTF8.data.toList, "a common beginning of some texts, long enough for deltas between these; ".toUTF8.data.toList, "another beginning, of other texts, as long as the first one is, or a bit longer; ".toUTF8.data.toList]
def wordsL : List Bs := ["a".toUTF8.data.toList, "branch".toUTF8.data.toList, "c.txt".toUTF8.data.toList, "d/e".toUTF8.data.toList, "rel-1".toUTF8.data.toList, "zz".toUTF8.data.toList]
def pieceI (b x : Int) : Bs := piecesL.getD (withinI (IntKind.i64.wrap (x + bits .and .i64 b 1)) 0 7).toNat []
def textF (b : Int) : List Int → Bs → Bs
 | [], out => out
 | x :: r, out => if out.length < 170 then textF b r (out ++ pieceI b x) else out
def textB (b : Int) (l : List Int) : Bs := textF b l []
def longB (b : Int) (l : List Int) (n : Int) : Bs := beginL.getD (withinI n 0 2).toNat [] ++ (textB b l).take 160
def contB (n : Int) : Bs := longB 0 [withinI n 0 15, withinI n 0 15 / 2, withinI n 0 15 / 4] (withinI n 0 15 % 3)
def nameB (n : Int) : Bs := shaB (contB n)
end Go.Proofs.YtibccdcemcgkeaaGreat
end
section
namespace Go.Proofs.YtibccdcemcgkeaaGreat
theorem isN_name (n : Int) : isN (nameB n) = true := decide_eq_true ⟨shaB_len _, shaB_mem _⟩
/-- Where a tag of the keeper's points to. -/
abbrev TgtOk (own : Bool) (t : Bs) : Prop := (own = true → t = [42]) ∧ (own = false → ∃ n, t = nameB n)
structure KTag (own : Bool) (t : Tg) : Prop where
 kind : t.kind.toNat = 43 ∨ t.kind.toNat = 42 ∨ (t.kind.toNat = 45 ∧ t.value = [])
 val : t.value.length ≤ 12
 tgt : TgtOk own t.target
structure KTags (own : Bool) (j : Nat) (l : List Tg) : Prop where
 len : l.length ≤ 3
 tag : ∀ t ∈ l, KTag own t
 name : ∀ t ∈ l, ∃ i, i < j ∧ t.name = wordsL.getD i []
 rise : l.Pairwise (fun x y => blt x.name y.name = true)
theorem words_ok : ∀ i, i < 6 → wordP (wordsL.getD i []) ∧ (wordsL.getD i []).length ≤ 10 := by
 have : ∀ i : Fin 6, wordP (wordsL.getD i.1 []) ∧ (wordsL.getD i.1 []).length ≤ 10 := by decide
 exact fun i h => this ⟨i, h⟩
theorem KTags.more {own : Bool} {j : Nat} {l : List Tg} (h : KTags own j l) : KTags own (j + 1) l := ⟨h.len, h.tag, fun t ht => by obtain ⟨i, hi, e⟩ := h.name t ht; exact ⟨i, by omega, e⟩, h.rise⟩
theorem blt_irr (a : Bs) : blt a a = false := by
 rw [blt_eq, decide_eq_false_iff_not]; exact List.lt_irrefl a
theorem KTags.right {own : Bool} {l : List Tg} (h : KTags own 6 l) : RightT own l := by
 refine ⟨fun i hi => ?_, by have := h.len; omega⟩
 have e : l.getD i tg0 = l[i] := by simp [hi]
 have hm : l[i] ∈ l := List.getElem_mem hi
 have hk := h.tag _ hm
 obtain ⟨w, hw, hn⟩ := h.name _ hm
 refine ⟨by rw [e]; exact hk.kind, by rw [e, hn]; exact (words_ok w hw).1, by rw [e]; exact hk.val, by rw [e]; exact ⟨hk.tgt.1, fun o => by obtain ⟨n, e⟩ := hk.tgt.2 o; rw [e]; exact isN_name n⟩, fun h0 => ?_⟩
 have e2 : l.getD (i - 1) tg0 = l[i - 1] := by simp [show i - 1 < l.length by omega]
 have hr := List.pairwise_iff_getElem.1 h.rise (i - 1) i (by omega) hi (by omega)
 rw [e, e2]
 exact ⟨.inl hr, fun e3 => by rw [e3, blt_irr] at hr; cases hr⟩
theorem KTags.z {own : Bool} {j : Nat} {l : List Tg} (h : KTags own j l) (hj : j ≤ 6) : TgZ l := ⟨by have := h.len; omega, fun t ht => by
 obtain ⟨w, hw, hn⟩ := h.name t ht
 have h1 := (words_ok w (by omega)).2
 have h2 := (h.tag t ht).val
 have h3 : t.target.length ≤ 40 := by
  cases own with
  | true => rw [(h.tag t ht).tgt.1 rfl]; simp
  | false => obtain ⟨n, e⟩ := (h.tag t ht).tgt.2 rfl; rw [e]; exact isN_40 (isN_name n)
 rw [hn]; omega⟩
end Go.Proofs.YtibccdcemcgkeaaGreat
end
section
set_option maxRecDepth 100000
namespace Go.Proofs.YtibccdcemcgkeaaGreat
/-- A control of the keeper. -/
structure KCt (c : Ct) : Prop where
 right : RightCt c
 tgt : ∀ t ∈ c.tags, ∃ n, t.target = nameB n
 z : TgZ c.tags
theorem KTags.ct {d : Int} {w : Bs} {ts : List Tg} (h : KTags false 6 ts) (hd : 0 ≤ d ∧ d ≤ 9) (hw : wordP w) (h0 : 0 < ts.length) : KCt ⟨d, ts, w⟩ :=
 ⟨⟨by dsimp only; omega, h0, h.right, hw⟩, fun t ht => (h.tag t ht).tgt.2 rfl, h.z (Nat.le_refl _)⟩
theorem KTags.one (n : Int) : KTags false 6 [⟨43, "a".toUTF8.data.toList, nameB n, []⟩] := by
 refine ⟨by simp, ?_, ?_, List.pairwise_singleton _ _⟩
 · intro t ht
   rw [List.mem_singleton.1 ht]
   exact ⟨.inl rfl, Nat.zero_le _, ⟨(fun h => by cases h), fun _ => ⟨n, rfl⟩⟩⟩
 · intro t ht
   rw [List.mem_singleton.1 ht]
   exact ⟨0, by omega, rfl⟩
end Go.Proofs.YtibccdcemcgkeaaGreat
end
section
namespace Go.Proofs.YtibccdcemcgkeaaGreat
section
variable {P : Program} {n : Nat} {L : Loc} {ty : TypeId}
end
structure KFiles (whole : Bool) (j : Nat) (l : List (Bs × Bs)) : Prop where
 len : l.length ≤ 2
 hash : ∀ f ∈ l, (∃ n, f.2 = nameB n) ∨ (whole = false ∧ f.2 = [])
 name : ∀ f ∈ l, ∃ i, i < j ∧ f.1 = wordsL.getD i []
 rise : l.Pairwise (fun x y => blt x.1 y.1 = true)
theorem KFiles.more {own : Bool} {j : Nat} {l : List (Bs × Bs)} (h : KFiles own j l) : KFiles own (j + 1) l := ⟨h.len, h.hash, fun t ht => by obtain ⟨i, hi, e⟩ := h.name t ht; exact ⟨i, by omega, e⟩, h.rise⟩
theorem KFiles.right {w : Bool} {l : List (Bs × Bs)} (h : KFiles w 6 l) : RightF w l := by
 refine ⟨fun i hi => ?_, by have := h.len; omega⟩
 have e : l.getD i ([], []) = l[i] := by simp [hi]
 have hm : l[i] ∈ l := List.getElem_mem hi
 obtain ⟨k, hk, hn⟩ := h.name _ hm
 refine ⟨by rw [e, hn]; exact (words_ok k hk).1, fun h0 => ?_, ?_⟩
 · have e2 : l.getD (i - 1) ([], []) = l[i - 1] := by simp [show i - 1 < l.length by omega]
   rw [e, e2]
   exact List.pairwise_iff_getElem.1 h.rise (i - 1) i (by omega) hi (by omega)
 · rw [e]
   rcases h.hash _ hm with ⟨n, e2⟩ | ⟨h1, h2⟩
   · left; rw [e2]; exact isN_name n
   · right; exact ⟨h1, h2⟩
structure KPars (j : Nat) (l : List Bs) : Prop where
 len : l.length ≤ j
 all : ∀ p ∈ l, ∃ n, p = nameB n
 two : l.Nodup
theorem KPars.right {j : Nat} {l : List Bs} (h : KPars j l) (hj : j ≤ 2) : RightP l 3 := by
 refine ⟨fun i hi => ?_, by have := h.len; omega⟩
 have e : l.getD i [] = l[i] := by simp [hi]
 rw [e]
 obtain ⟨n, hn⟩ := h.all _ (List.getElem_mem hi)
 refine ⟨by rw [hn]; exact isN_name n, fun hm => ?_⟩
 obtain ⟨k, hk, ek⟩ := List.getElem_of_mem hm
 rw [List.getElem_take] at ek
 have hki : k < i := by rw [List.length_take] at hk; omega
 exact absurd ek ((List.pairwise_iff_getElem.1 h.two) k i (by omega) hi hki)
/-- A check-in of the keeper. -/
structure KCk (c : Ck) : Prop where
 right : RightK c
 base : c.base = [] ∨ ∃ n, c.base = nameB n
 files : ∀ f ∈ c.files, f.2 = [] ∨ ∃ n, f.2 = nameB n
 pars : ∀ p ∈ c.parents, ∃ n, p = nameB n
 z : CkZ c
theorem KCk.mk' {base com user : Bs} {date : Int} {fs : List (Bs × Bs)} {ps : List Bs} {ts : List Tg} (hb : base = [] ∨ ∃ n, base = nameB n) (hc : com.length ≤ 12) (hd : 0 ≤ date ∧ date ≤ 9) (hu : wordP user ∧ user.length ≤ 3)
    (hf : KFiles (decide (base = [])) 6 fs) (hp : KPars 2 ps) (ht : KTags true 6 ts) : KCk ⟨base, com, date, fs, ps, ts, user⟩ := by
 refine ⟨⟨?_, by dsimp only; omega, by dsimp only; omega, hf.right, hp.right (Nat.le_refl _), ht.right, hu.1⟩, hb, fun f h => ?_, hp.all, ?_⟩
 · rcases hb with h | ⟨n, h⟩
   · exact .inl h
   · right; dsimp only; rw [h]; exact isN_name n
 · rcases hf.hash f h with h | h
   · exact .inr h
   · exact .inl h.2
 · have h40 : ∀ n, (nameB n).length = 40 := fun n => shaB_len _
   refine ⟨?_, by dsimp only; omega, by dsimp only; omega, by have := hf.len; dsimp only; omega, fun f h => ?_, by have := hp.len; dsimp only; omega, fun p h => ?_, ht.z (Nat.le_refl _)⟩
   · rcases hb with h | ⟨n, h⟩
     · dsimp only; rw [h]; exact Nat.zero_le _
     · dsimp only; rw [h, h40]; omega
   · obtain ⟨k, hk, hn⟩ := hf.name f h
     have h1 := (words_ok k hk).2
     rw [← hn] at h1
     refine ⟨by omega, ?_⟩
     rcases hf.hash f h with ⟨n, h⟩ | h
     · rw [h, h40]; omega
     · rw [h.2]; exact Nat.zero_le _
   · obtain ⟨n, h⟩ := hp.all p h
     rw [h, h40]; omega
end Go.Proofs.YtibccdcemcgkeaaGreat
end
section
set_option maxRecDepth 1000000
namespace Go.Proofs.YtibccdcemcgkeaaGreat
theorem noZ_readC {s : Bs} (h : (90 : UInt8) ∉ s) : readC s = none := readC_none.2 fun l hl => h (by rw [← hl.2, printB, sealB]; simp)
theorem readC_nk {s : Bs} (h : readC s = none) : readK s = none ∧ readCt s = none ∧ readCl s = none := by
 refine ⟨the_none fun c hc => ?_, the_none fun c hc => ?_, the_none fun c hc => ?_⟩ <;> (rw [readC_iff.2 hc.reads] at h; cases h)
theorem kind_none {s : Bs} (h : readC s = none) : kindN s = 1 ∧ namesR s = [] := by
 obtain ⟨h1, h2, h3⟩ := readC_nk h
 refine ⟨by simp [kindN, h1, h2, h3], ?_⟩
 rw [← outC_names]
 simp [outC, outT, outK, h1, h2, h3]
theorem kindN_K {s : Bs} {c : Ck} (h : readK s = some c) : kindN s = 2 := by simp [kindN, h]
theorem text_one : kindN "text".toUTF8.data.toList = 1 := (kind_none (noZ_readC (by decide))).1
theorem names_isN {s x : Bs} (h : x ∈ namesR s) : isN x = true := by
 rw [← outC_names] at h
 unfold outC at h
 cases hl : readCl s with
 | some l => rw [hl] at h; exact right_names (readCl_iff.1 hl).1 x h
 | none =>
   rw [hl] at h
   dsimp only at h
   have hk : x ∈ outK s → isN x = true := fun h => by
    unfold outK at h
    cases hk : readK s with
    | none => rw [hk] at h; cases h
    | some c =>
      rw [hk] at h
      dsimp only at h
      have hR := (readK_iff.1 hk).1
      rcases (putA_mem _ _ x).1 h with e | e
      · cases e
      · simp only [nsK, List.mem_append, List.mem_filter, List.mem_map] at e
        rcases e with (e | ⟨⟨f, hf, rfl⟩, hne⟩) | e
        · by_cases e2 : c.base = []
          · rw [if_pos e2] at e; cases e
          · rw [if_neg e2, List.mem_singleton] at e
            rw [e]; exact hR.base.resolve_left e2
        · exact (right_files hR f hf).resolve_left (by simpa using hne)
        · exact right_parents hR x e
   unfold outT at h
   cases ht : readCt s with
   | none => rw [ht] at h; exact hk h
   | some c =>
     rw [ht] at h
     dsimp only at h
     rcases (putA_mem _ _ x).1 h with e | e
     · exact hk e
     · obtain ⟨t, h2, rfl⟩ := List.mem_map.1 e
       exact right_targets (readCt_iff.1 ht).1 t h2
abbrev shA : Bs := shaB [97]
abbrev shB : Bs := shaB [98]
theorem sha_ab : shA ≠ shB := by decide +kernel
/-- The check-in that every law looks at. -/
def ckR : Ck := ⟨[], [], 0, [([102], shA)], [shB], [], [109, 101]⟩
theorem ckR_right : RightK ckR := by
 refine ⟨.inl rfl, Nat.zero_le _, by decide, ⟨fun i hi => ?_, by decide⟩, ⟨fun i hi => ?_, by decide⟩, ⟨fun i hi => by simp [ckR] at hi, by decide⟩, by decide⟩
 · have h0 : i = 0 := by simp [ckR] at hi; omega
   subst h0
   exact ⟨by decide, fun h => by omega, .inl (isN_sha _)⟩
 · have h0 : i = 0 := by simp [ckR] at hi; omega
   subst h0
   exact ⟨isN_sha _, by simp⟩
theorem ckR_z : CkZ ckR := by
 have h1 : shA.length = 40 := shaB_len _
 have h2 : shB.length = 40 := shaB_len _
 refine ⟨Nat.zero_le _, Nat.zero_le _, by decide, by decide, fun f hf => ?_, by decide, fun p hp => ?_, ⟨by decide, fun t ht => by cases ht⟩⟩
 · rw [show f = ([102], shA) from List.mem_singleton.1 hf]; dsimp only [List.length_cons, List.length_nil]; omega
 · rw [show p = shB from List.mem_singleton.1 hp]; omega
theorem ckR_read : readK (ckB ckR) = some ckR := readK_iff.2 ⟨ckR_right, rfl⟩
theorem ckR_names (x : Bs) : x ∈ namesR (ckB ckR) ↔ x = shA ∨ x = shB := by
 have h1 : shA.length = 40 := shaB_len _
 have h2 : shB.length = 40 := shaB_len _
 rw [namesR_mem, namesP, ckR_read]
 simp only [ckR, List.map_cons, List.map_nil, List.mem_append, List.mem_cons, List.not_mem_nil, or_false]
 constructor
 · rintro ⟨(h | h) | h, hn⟩
   · exact absurd h hn
   · exact .inr h
   · exact .inl h
 · rintro (h | h)
   · exact ⟨.inr h, by rw [h]; intro e; rw [e] at h1; cases h1⟩
   · exact ⟨.inl (.inr h), by rw [h]; intro e; rw [e] at h2; cases h2⟩
theorem ckR_two : (namesR (ckB ckR)).length = 2 := by
 have hs := namesR_sorted (ckB ckR)
 have hn : (namesR (ckB ckR)).Nodup := hs.imp fun h e => by subst e; exact absurd h (List.lt_irrefl _)
 have h2 : ([shA, shB] : List Bs).Nodup := by simp [sha_ab]
 have := (List.perm_ext_iff_of_nodup hn h2).2 (fun x => by rw [ckR_names]; simp)
 exact this.length_eq
theorem ckR_self : ckB ckR ∉ namesR (ckB ckR) := fun h => by
 have := isN_len (names_isN h)
 rw [ckB, printB, sealB_len] at this; omega
end Go.Proofs.YtibccdcemcgkeaaGreat
end
section
set_option maxRecDepth 100000
namespace Go.Proofs.YtibccdcemcgkeaaGreat
theorem sla_nil {B : HP} {a : Option Addr} : SlA B a [] := fun _ => .inl rfl
set_option maxHeartbeats 1000000 in
theorem KindRuns_sp : Sp1 Tryz.prog 3 [] [] (vB true) [] := by
 have hbz := ck_small ckR_right
 have hsl : (ckB ckR).length ≤ 1073741824 := by rw [ckB, printB, sealB_len]; omega
 have hself := ckR_self
 have htwo := ckR_two
 have hmem := ckR_names
 have hkind := kindN_K ckR_read
 refine Sp.body (n := 52) Tryz.call3 Tryz.func3 rfl rfl rfl ?_
 refine p_seq rfl ?_
 refine p_region rfl ?_
 refine wo_alloc (zs := [.bool false]) ti4 rfl rfl rfl (fun b0 => ?_)
 refine q_seq ?_
 refine p_seq rfl ?_
 refine p_region rfl ?_
 refine r_callF (ref1_Sum_sp [97] (by decide)) rfl rfl rfl ?_
 refine r_callF (ref1_Sum_sp [98] (by decide)) rfl rfl rfl ?_
 refine wo_alloc (zs := [vS []]) ti9 rfl rfl rfl (fun b1 => ?_)
 refine wo_alloc (zs := [vS []]) ti9 rfl rfl rfl (fun b2 => ?_)
 refine r_store ti9 rfl rfl rfl rfl (by simp; try omega) ?_
 refine r_store ti9 rfl rfl rfl rfl (by simp; try omega) ?_
 refine q_seq ?_
 refine p_seq rfl ?_
 refine p_region rfl ?_
 refine r_load Tryz.underlying9 rfl rfl rfl rfl ?_
 refine wo_pv (pv_buildS (vs := [_, _]) Tryz.underlying25 ti25 rfl rfl rfl rfl rfl) rfl ?_
 refine r_buildSliceL [_] (cs := [_, _]) Tryz.underlying26 ti25 rfl rfl rfl rfl rfl rfl rfl rfl (fun b10 => ?_)
 refine r_load Tryz.underlying9 rfl rfl rfl rfl ?_
 refine r_buildSliceL [_] (cs := [_]) Tryz.underlying27 ti9 rfl rfl rfl rfl rfl rfl rfl rfl (fun b12 => ?_)
 refine wo_pv (pv_buildS (vs := [vS [], vS [], .int .i64 0, _, _, .slice none 0 0, _]) Tryz.underlying30 ti30 rfl rfl rfl rfl rfl) rfl ?_
 refine wo_frzC b12 ?_
 refine wo_ent' sli_nil ?_
 refine wo_ent' (Gs := [Ce b10 25 [vS [102], vS shA], SlI (some ⟨b12, 0, none⟩) [vS shB], SlI none [], Ce b2 9 [vS shB], Ce b1 9 [vS shA], Ce b0 4 [vB false]]) (ent_step (ce_norm (by rfl) (by rfl)) ent_pick) ?_
 have hCk : Sp1 Tryz.prog 14 [.agg #[vS [], vS [], vI 0, .slice (some ⟨b10, 0, none⟩) 1 1, .slice (some ⟨b12, 0, none⟩) 1 1, .slice none 0 0, vS [109, 101]]] [Ce b10 25 [vS [102], vS shA], SlI (some ⟨b12, 0, none⟩) [vS shB], SlI none []] (vS (ckB ckR)) [Ce b10 25 [vS [102], vS shA], SlI none []] :=
  ref10_Checkin_sp ⟨some ⟨b10, 0, none⟩, 1, some ⟨b12, 0, none⟩, 1, none, 0⟩ ckR ckR_z (by decide) (by omega) sla_ce sla_nil (Nat.le_refl _)
 refine r_call1 hCk rfl rfl rfl ?_
 generalize ckB ckR = s at hsl hself htwo hmem hkind ⊢
 have hk1 := text_one
 refine wo_pv (pv_assign rfl) rfl ?_
 refine q_seq ?_
 refine p_seq rfl ?_
 refine p_seq rfl ?_
 refine p_region rfl ?_
 refine r_callF (kind_Of_sp "text".toUTF8.data.toList (by decide)) rfl rfl rfl ?_
 refine wo_pv (pv_neq rfl rfl) rfl ?_
 refine q_seq ?_
 first | refine p_ite rfl rfl (fun h16 => ?_) (fun h16 => ?_) | refine p_cond rfl rfl (fun h16 => ?_) (fun h16 => ?_)
 ·
  exact absurd hk1 h16
  --done
 ·
  refine p_skip rfl ?_
  refine t_seq ?_
  refine p_seq rfl ?_
  refine p_region rfl ?_
  refine wo_alloc (zs := [.int .i64 0]) ti3 rfl rfl rfl (fun b4 => ?_)
  refine r_store ti3 rfl rfl rfl rfl (by simp; try omega) ?_
  refine q_seq ?_
  refine p_seq rfl ?_
  refine p_seq rfl ?_
  refine p_region rfl ?_
  refine wo_pv (pv_move rfl) rfl ?_
  refine r_callX (kind_Names_sp s) rfl rfl rfl (fun x18 _ => ?_)
  refine q_seq ?_
  refine p_block 0 rfl ?_
  refine p_rangeFunc (fun pre => [Ce b4 3 [vI pre.length], Ce b2 9 [vS shB], Ce b1 9 [vS shA], Ce b0 4 [vB false]]) (fun j pre => [Pu False]) rfl (kind_Names_it s hsl x18) rfl (fun _ => by rfl) rfl ?_ (fun l pre w hok => ?_) ?_ (fun j pre hs => ?_)
  · (refine ent_app ?_; exact ent_pick)
  ·
   obtain ⟨rr, hrr⟩ := hok
   have hin : w = shA ∨ w = shB := (hmem w).1 (by rw [hrr]; simp)
   have hpl : pre.length < 2 := by
    have := congrArg List.length hrr
    rw [htwo] at this; simp at this; omega
   refine p_region rfl ?_
   refine wo_pv (pv_assign rfl) rfl ?_
   refine q_asg ?_
   refine p_block 1 rfl ?_
   refine p_seq rfl ?_
   refine p_seq rfl ?_
   refine p_region rfl ?_
   refine wo_pv (pv_move rfl) rfl ?_
   refine r_load Tryz.underlying9 rfl rfl rfl rfl ?_
   refine wo_pv (pv_sneq rfl rfl) rfl ?_
   refine wo_pv (pv_move rfl) rfl ?_
   first | refine wo_gite (j := 3) rfl rfl (fun h23 => ?_) (fun h23 => ?_) | refine wo_gsplit (j := 3) rfl rfl (fun h23 => ?_) (fun h23 => ?_)
   ·
    refine wo_in (b := true) rfl ?_
    refine wo_pv (pv_move rfl) rfl ?_
    refine wo_in (b := true) rfl ?_
    refine r_load Tryz.underlying9 rfl rfl rfl rfl ?_
    refine wo_in (b := true) rfl ?_
    refine wo_pv (pv_sneq rfl rfl) rfl ?_
    refine wo_pv (pv_pick_t rfl rfl) rfl ?_
    refine q_seq ?_
    first | refine p_ite rfl rfl (fun h27 => ?_) (fun h27 => ?_) | refine p_cond rfl rfl (fun h27 => ?_) (fun h27 => ?_)
    ·
     refine p_seq rfl ?_
     refine p_region rfl ?_
     refine r_store ti4 rfl rfl rfl rfl (by simp; try omega) ?_
     refine q_seq ?_
     refine p_ret rfl ?_
     refine t_seq_ret ?_
     refine to_block_ret ?_
     exfalso
     rcases hin with h | h
     · first | exact h23 h | exact h27 h
     · first | exact h27 h | exact h26 h
    ·
     refine p_skip rfl ?_
     refine t_seq ?_
     refine p_region rfl ?_
     refine r_load Tryz.underlying3 rfl rfl rfl rfl ?_
     refine wo_pv (pv_add rfl rfl (by omega)) rfl ?_
     refine r_store ti3 rfl rfl rfl rfl (by simp; try omega) ?_
     refine wo_nil ?_
     refine to_block ?_
     refine to_round ?_
     exact ent_step (ce_norm (by rfl) (by simp)) ent_pick
   ·
    refine wo_out (b := false) rfl rfl rfl ?_
    refine wo_out (b := false) rfl rfl rfl ?_
    refine wo_out (b := false) rfl rfl rfl ?_
    refine wo_pv (pv_pick_f rfl rfl) rfl ?_
    refine q_seq ?_
    refine p_false rfl rfl ?_
    refine p_skip rfl ?_
    refine t_seq ?_
    refine p_region rfl ?_
    refine r_load Tryz.underlying3 rfl rfl rfl rfl ?_
    refine wo_pv (pv_add rfl rfl (by omega)) rfl ?_
    refine r_store ti3 rfl rfl rfl rfl (by simp; try omega) ?_
    refine wo_nil ?_
    refine to_block ?_
    refine to_round ?_
    exact ent_step (ce_norm (by rfl) (by simp)) ent_pick
  ·
   skip
   refine to_block ?_
   refine t_seq ?_
   refine p_seq rfl ?_
   refine p_region rfl ?_
   refine r_load Tryz.underlying3 rfl rfl rfl rfl ?_
   refine wo_pv (pv_eql rfl rfl) rfl ?_
   refine wo_pv (pv_move rfl) rfl ?_
   first | refine wo_gite (j := 2) rfl rfl (fun h32 => ?_) (fun h32 => ?_) | refine wo_gsplit (j := 2) rfl rfl (fun h32 => ?_) (fun h32 => ?_)
   ·
    refine wo_in (b := true) rfl ?_
    refine wo_pv (pv_move rfl) rfl ?_
    refine wo_in (b := true) rfl ?_
    refine r_callF (kind_Of_sp s hsl) rfl rfl rfl ?_
    refine wo_in (b := true) rfl ?_
    refine wo_pv (pv_eql rfl rfl) rfl ?_
    refine wo_pv (pv_pick_t rfl rfl) rfl ?_
    refine wo_pv (pv_move rfl) rfl ?_
    first | refine wo_gite (j := 7) rfl rfl (fun h37 => ?_) (fun h37 => ?_) | refine wo_gsplit (j := 7) rfl rfl (fun h37 => ?_) (fun h37 => ?_)
    ·
     refine wo_in (b := true) rfl ?_
     refine r_callF (kind_Of_sp "text".toUTF8.data.toList (by decide)) rfl rfl rfl ?_
     refine wo_in (b := true) rfl ?_
     refine wo_pv (pv_eql rfl rfl) rfl ?_
     refine wo_pv (pv_pick_t rfl rfl) rfl ?_
     refine wo_pv (pv_move rfl) rfl ?_
     first | refine wo_gite (j := 11) rfl rfl (fun h41 => ?_) (fun h41 => ?_) | refine wo_gsplit (j := 11) rfl rfl (fun h41 => ?_) (fun h41 => ?_)
     ·
      refine wo_in (b := true) rfl ?_
      refine wo_pv (pv_move rfl) rfl ?_
      refine wo_in (b := true) rfl ?_
      refine r_load Tryz.underlying9 rfl rfl rfl rfl ?_
      refine wo_in (b := true) rfl ?_
      refine r_callF (kind_Speaks_sp s shB hsl) rfl rfl rfl ?_
      refine wo_pv (pv_pick_t rfl rfl) rfl ?_
      refine wo_pv (pv_move rfl) rfl ?_
      first | refine wo_gite (j := 16) rfl rfl (fun h46 => ?_) (fun h46 => ?_) | refine wo_gsplit (j := 16) rfl rfl (fun h46 => ?_) (fun h46 => ?_)
      ·
       refine wo_in (b := true) rfl ?_
       refine wo_pv (pv_move rfl) rfl ?_
       refine wo_in (b := true) rfl ?_
       refine wo_pv (pv_move rfl) rfl ?_
       refine wo_in (b := true) rfl ?_
       refine r_callF (kind_Speaks_sp s s hsl) rfl rfl rfl ?_
       rw [decide_eq_false hself]
       refine wo_in (b := true) rfl ?_
       refine wo_pv (by first | exact pv_notd rfl | exact pv_not rfl) rfl ?_
       refine wo_pv (pv_pick_t rfl rfl) rfl ?_
       refine r_store ti4 rfl rfl rfl rfl (by simp; try omega) ?_
       refine q_seq ?_
       refine p_ret rfl ?_
       exact fin_ret () (vs := [_]) (Cs := [Ce b0 4 [vB true]]) rfl (.cell1 (l := [vB true]) rfl (shows_ce (T := 4)) Tryz.underlying4 rfl rfl .nil) rfl trivial (ent_step (ce_norm (by rfl) (by rfl)) ent_nil)
      ·
       exact absurd ((hmem shB).2 (.inr rfl)) h46
       --done
     ·
      exact absurd hk1 h41
      --done
    ·
     exact absurd hkind h37
     --done
   ·
    exact absurd (show ((namesR s).length : Int) = 2 by omega) h32
    --done
  ·
   exact wc_no (fun s => by obtain ⟨_, _, _, _, a, _⟩ := s; exact a)
end Go.Proofs.YtibccdcemcgkeaaGreat
end
