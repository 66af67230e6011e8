/- Texts of this proof, put together: PKeep, PKeep2, SKeep3, PKeep3, PKind, PCtl, KaV, PLin, PDiff, SSameMl, SClMl, SClTg, PFiles, SDiff. -/
import Derived.Test.YtdnoacgopfcpbaaGreatQ22
set_option linter.unusedVariables false
set_option linter.unusedSimpArgs false
namespace Go.Proofs.YtdnoacgopfcpbaaGreat
def piecesL : List Bs := ["line one\n".toUTF8.data.toList, "the second line is longer\n".toUTF8.data.toList, "x".toUTF8.data.toList, "0;".toUTF8.data.toList, "abcabcabc".toUTF8.data.toList, "\n".toUTF8.data.toList, "3:xyz".toUTF8.data.toList, "tail of it all".toUTF8.data.toList]
def beginL : List Bs := ["".toUTF8.data.toList, "a common beginning of some texts, long enough for deltas between these; ".toUTF8.data.toList, "another beginning, of other texts, as long as the first one is, or a bit longer; ".toUTF8.data.toList]
def wordsL : List Bs := ["a".toUTF8.data.toList, "branch".toUTF8.data.toList, "c.txt".toUTF8.data.toList, "d/e".toUTF8.data.toList, "rel-1".toUTF8.data.toList, "zz".toUTF8.data.toList]
def pieceI (b x : Int) : Bs := piecesL.getD (withinI (IntKind.i64.wrap (x + bits .and .i64 b 1)) 0 7).toNat []
def textF (b : Int) : List Int → Bs → Bs
 | [], out => out
 | x :: r, out => if out.length < 170 then textF b r (out ++ pieceI b x) else out
def textB (b : Int) (l : List Int) : Bs := textF b l []
def longB (b : Int) (l : List Int) (n : Int) : Bs := beginL.getD (withinI n 0 2).toNat [] ++ (textB b l).take 160
def contB (n : Int) : Bs := longB 0 [withinI n 0 15, withinI n 0 15 / 2, withinI n 0 15 / 4] (withinI n 0 15 % 3)
def nameB (n : Int) : Bs := shaB (contB n)
theorem longB_len (b : Int) (l : List Int) (n : Int) : (longB b l n).length ≤ 300 := by
 unfold longB
 have h1 : ∀ p ∈ beginL, p.length ≤ 90 := by decide
 have h2 : (beginL.getD (withinI n 0 2).toNat []).length ≤ 90 := by
  by_cases h : (withinI n 0 2).toNat < beginL.length
  · exact h1 _ (by simp [h])
  · simp [h]
 rw [List.length_append, List.length_take]; omega
theorem contB_len (n : Int) : (contB n).length ≤ 300 := longB_len _ _ _
theorem isN_name (n : Int) : isN (nameB n) = true := decide_eq_true ⟨shaB_len _, shaB_mem _⟩
/-- Where a tag of the keeper's points to. -/
abbrev TgtOk (own : Bool) (t : Bs) : Prop := (own = true → t = [42]) ∧ (own = false → ∃ n, t = nameB n)
structure KTag (own : Bool) (t : Tg) : Prop where
 kind : t.kind.toNat = 43 ∨ t.kind.toNat = 42 ∨ (t.kind.toNat = 45 ∧ t.value = [])
 val : t.value.length ≤ 12
 tgt : TgtOk own t.target
structure KTags (own : Bool) (j : Nat) (l : List Tg) : Prop where
 len : l.length ≤ 3
 tag : ∀ t ∈ l, KTag own t
 name : ∀ t ∈ l, ∃ i, i < j ∧ t.name = wordsL.getD i []
 rise : l.Pairwise (fun x y => blt x.name y.name = true)
theorem words_ok : ∀ i, i < 6 → wordP (wordsL.getD i []) ∧ (wordsL.getD i []).length ≤ 10 := by
 have : ∀ i : Fin 6, wordP (wordsL.getD i.1 []) ∧ (wordsL.getD i.1 []).length ≤ 10 := by decide
 exact fun i h => this ⟨i, h⟩
theorem KTags.more {own : Bool} {j : Nat} {l : List Tg} (h : KTags own j l) : KTags own (j + 1) l := ⟨h.len, h.tag, fun t ht => by obtain ⟨i, hi, e⟩ := h.name t ht; exact ⟨i, by omega, e⟩, h.rise⟩
theorem blt_irr (a : Bs) : blt a a = false := by
 rw [blt_eq, decide_eq_false_iff_not]; exact List.lt_irrefl a
theorem KTags.right {own : Bool} {l : List Tg} (h : KTags own 6 l) : RightT own l := by
 refine ⟨fun i hi => ?_, by have := h.len; omega⟩
 have e : l.getD i tg0 = l[i] := by simp [hi]
 have hm : l[i] ∈ l := List.getElem_mem hi
 have hk := h.tag _ hm
 obtain ⟨w, hw, hn⟩ := h.name _ hm
 refine ⟨by rw [e]; exact hk.kind, by rw [e, hn]; exact (words_ok w hw).1, by rw [e]; exact hk.val, by rw [e]; exact ⟨hk.tgt.1, fun o => by obtain ⟨n, e⟩ := hk.tgt.2 o; rw [e]; exact isN_name n⟩, fun h0 => ?_⟩
 have e2 : l.getD (i - 1) tg0 = l[i - 1] := by simp [show i - 1 < l.length by omega]
 have hr := List.pairwise_iff_getElem.1 h.rise (i - 1) i (by omega) hi (by omega)
 rw [e, e2]
 exact ⟨.inl hr, fun e3 => by rw [e3, blt_irr] at hr; cases hr⟩
theorem KTags.z {own : Bool} {j : Nat} {l : List Tg} (h : KTags own j l) (hj : j ≤ 6) : TgZ l := ⟨by have := h.len; omega, fun t ht => by
 obtain ⟨w, hw, hn⟩ := h.name t ht
 have h1 := (words_ok w (by omega)).2
 have h2 := (h.tag t ht).val
 have h3 : t.target.length ≤ 40 := by
  cases own with
  | true => rw [(h.tag t ht).tgt.1 rfl]; simp
  | false => obtain ⟨n, e⟩ := (h.tag t ht).tgt.2 rfl; rw [e]; exact isN_40 (isN_name n)
 rw [hn]; omega⟩
section
set_option maxRecDepth 100000
/-- A control of the keeper. -/
structure KCt (c : Ct) : Prop where
 right : RightCt c
 tgt : ∀ t ∈ c.tags, ∃ n, t.target = nameB n
 z : TgZ c.tags
theorem KTags.ct {d : Int} {w : Bs} {ts : List Tg} (h : KTags false 6 ts) (hd : 0 ≤ d ∧ d ≤ 9) (hw : wordP w) (h0 : 0 < ts.length) : KCt ⟨d, ts, w⟩ :=
 ⟨⟨by dsimp only; omega, h0, h.right, hw⟩, fun t ht => (h.tag t ht).tgt.2 rfl, h.z (Nat.le_refl _)⟩
theorem KTags.one (n : Int) : KTags false 6 [⟨43, "a".toUTF8.data.toList, nameB n, []⟩] := by
 refine ⟨by simp, ?_, ?_, List.pairwise_singleton _ _⟩
 · intro t ht
   rw [List.mem_singleton.1 ht]
   exact ⟨.inl rfl, Nat.zero_le _, ⟨(fun h => by cases h), fun _ => ⟨n, rfl⟩⟩⟩
 · intro t ht
   rw [List.mem_singleton.1 ht]
   exact ⟨0, by omega, rfl⟩
end
section
section
variable {P : Program} {n : Nat} {L : Loc} {ty : TypeId}
end
structure KFiles (whole : Bool) (j : Nat) (l : List (Bs × Bs)) : Prop where
 len : l.length ≤ 2
 hash : ∀ f ∈ l, (∃ n, f.2 = nameB n) ∨ (whole = false ∧ f.2 = [])
 name : ∀ f ∈ l, ∃ i, i < j ∧ f.1 = wordsL.getD i []
 rise : l.Pairwise (fun x y => blt x.1 y.1 = true)
theorem KFiles.more {own : Bool} {j : Nat} {l : List (Bs × Bs)} (h : KFiles own j l) : KFiles own (j + 1) l := ⟨h.len, h.hash, fun t ht => by obtain ⟨i, hi, e⟩ := h.name t ht; exact ⟨i, by omega, e⟩, h.rise⟩
theorem KFiles.right {w : Bool} {l : List (Bs × Bs)} (h : KFiles w 6 l) : RightF w l := by
 refine ⟨fun i hi => ?_, by have := h.len; omega⟩
 have e : l.getD i ([], []) = l[i] := by simp [hi]
 have hm : l[i] ∈ l := List.getElem_mem hi
 obtain ⟨k, hk, hn⟩ := h.name _ hm
 refine ⟨by rw [e, hn]; exact (words_ok k hk).1, fun h0 => ?_, ?_⟩
 · have e2 : l.getD (i - 1) ([], []) = l[i - 1] := by simp [show i - 1 < l.length by omega]
   rw [e, e2]
   exact List.pairwise_iff_getElem.1 h.rise (i - 1) i (by omega) hi (by omega)
 · rw [e]
   rcases h.hash _ hm with ⟨n, e2⟩ | ⟨h1, h2⟩
   · left; rw [e2]; exact isN_name n
   · right; exact ⟨h1, h2⟩
structure KPars (j : Nat) (l : List Bs) : Prop where
 len : l.length ≤ j
 all : ∀ p ∈ l, ∃ n, p = nameB n
 two : l.Nodup
theorem KPars.right {j : Nat} {l : List Bs} (h : KPars j l) (hj : j ≤ 2) : RightP l 3 := by
 refine ⟨fun i hi => ?_, by have := h.len; omega⟩
 have e : l.getD i [] = l[i] := by simp [hi]
 rw [e]
 obtain ⟨n, hn⟩ := h.all _ (List.getElem_mem hi)
 refine ⟨by rw [hn]; exact isN_name n, fun hm => ?_⟩
 obtain ⟨k, hk, ek⟩ := List.getElem_of_mem hm
 rw [List.getElem_take] at ek
 have hki : k < i := by rw [List.length_take] at hk; omega
 exact absurd ek ((List.pairwise_iff_getElem.1 h.two) k i (by omega) hi hki)
/-- A check-in of the keeper. -/
structure KCk (c : Ck) : Prop where
 right : RightK c
 base : c.base = [] ∨ ∃ n, c.base = nameB n
 files : ∀ f ∈ c.files, f.2 = [] ∨ ∃ n, f.2 = nameB n
 pars : ∀ p ∈ c.parents, ∃ n, p = nameB n
 z : CkZ c
theorem KCk.mk' {base com user : Bs} {date : Int} {fs : List (Bs × Bs)} {ps : List Bs} {ts : List Tg} (hb : base = [] ∨ ∃ n, base = nameB n) (hc : com.length ≤ 12) (hd : 0 ≤ date ∧ date ≤ 9) (hu : wordP user ∧ user.length ≤ 3)
    (hf : KFiles (decide (base = [])) 6 fs) (hp : KPars 2 ps) (ht : KTags true 6 ts) : KCk ⟨base, com, date, fs, ps, ts, user⟩ := by
 refine ⟨⟨?_, by dsimp only; omega, by dsimp only; omega, hf.right, hp.right (Nat.le_refl _), ht.right, hu.1⟩, hb, fun f h => ?_, hp.all, ?_⟩
 · rcases hb with h | ⟨n, h⟩
   · exact .inl h
   · right; dsimp only; rw [h]; exact isN_name n
 · rcases hf.hash f h with h | h
   · exact .inr h
   · exact .inl h.2
 · have h40 : ∀ n, (nameB n).length = 40 := fun n => shaB_len _
   refine ⟨?_, by dsimp only; omega, by dsimp only; omega, by have := hf.len; dsimp only; omega, fun f h => ?_, by have := hp.len; dsimp only; omega, fun p h => ?_, ht.z (Nat.le_refl _)⟩
   · rcases hb with h | ⟨n, h⟩
     · dsimp only; rw [h]; exact Nat.zero_le _
     · dsimp only; rw [h, h40]; omega
   · obtain ⟨k, hk, hn⟩ := hf.name f h
     have h1 := (words_ok k hk).2
     rw [← hn] at h1
     refine ⟨by omega, ?_⟩
     rcases hf.hash f h with ⟨n, h⟩ | h
     · rw [h, h40]; omega
     · rw [h.2]; exact Nat.zero_le _
   · obtain ⟨n, h⟩ := hp.all p h
     rw [h, h40]; omega
end
section
set_option maxRecDepth 1000000
theorem noZ_readC {s : Bs} (h : (90 : UInt8) ∉ s) : readC s = none := readC_none.2 fun l hl => h (by rw [← hl.2, printB, sealB]; simp)
theorem readC_nk {s : Bs} (h : readC s = none) : readK s = none ∧ readCt s = none ∧ readCl s = none := by
 refine ⟨the_none fun c hc => ?_, the_none fun c hc => ?_, the_none fun c hc => ?_⟩ <;> (rw [readC_iff.2 hc.reads] at h; cases h)
end
theorem sorted_right {l : List Bs} (hs : l.Pairwise (· < ·)) (hn : ∀ x ∈ l, isN x = true) (h1 : 1 ≤ l.length) (h2 : l.length ≤ 12) : RightCl l := by
 refine ⟨fun i hi => ?_, h1, h2⟩
 have e : l.getD i [] = l[i] := by simp [hi]
 refine ⟨by rw [e]; exact hn _ (List.getElem_mem hi), fun h0 => ?_⟩
 have e2 : l.getD (i - 1) [] = l[i - 1] := by simp [show i - 1 < l.length by omega]
 rw [e, e2]
 exact (blt_iff _ _).2 (List.pairwise_iff_getElem.1 hs (i - 1) i (by omega) hi (by omega))
structure KaV where
 kind : Int
 n : Int
 base : Int
 d : Int
 u : Int
 tb : Int
 x : IntsV
 f : IntsV
 p : IntsV
 t : IntsV
 v : IntsV
 d2 : Int
 u2 : Int
 t2 : IntsV
 v2 : IntsV
 nm : IntsV
abbrev IntsV.len (q : IntsV) : Nat := q.l.length
def KaV.cells (q : KaV) : List Value := [vI q.kind, vI q.n, vI q.base, vI q.d, vI q.u, vI q.tb, .slice q.x.a q.x.l.length q.x.c, .slice q.f.a q.f.l.length q.f.c, .slice q.p.a q.p.l.length q.p.c, .slice q.t.a q.t.l.length q.t.c, .slice q.v.a q.v.l.length q.v.c, vI q.d2, vI q.u2, .slice q.t2.a q.t2.l.length q.t2.c, .slice q.v2.a q.v2.l.length q.v2.c, .slice q.nm.a q.nm.l.length q.nm.c]
abbrev IntsV.hp (q : IntsV) : HP := SlI q.a (q.l.map vI)
structure KaV.Z (q : KaV) : Prop where
 x : q.x.l.length ≤ 9223372036854775807
 f : q.f.l.length ≤ 9223372036854775807
 p : q.p.l.length ≤ 9223372036854775807
 t : q.t.l.length ≤ 9223372036854775807
 v : q.v.l.length ≤ 9223372036854775807
 t2 : q.t2.l.length ≤ 9223372036854775807
 v2 : q.v2.l.length ≤ 9223372036854775807
 nm : q.nm.l.length ≤ 9223372036854775807
/-- Its slices. -/
abbrev KaV.hs (q : KaV) : List HP := [SlI q.x.a (q.x.l.map vI), SlI q.f.a (q.f.l.map vI), SlI q.p.a (q.p.l.map vI), SlI q.t.a (q.t.l.map vI), SlI q.v.a (q.v.l.map vI), SlI q.t2.a (q.t2.l.map vI), SlI q.v2.a (q.v2.l.map vI), SlI q.nm.a (q.nm.l.map vI)]
/-- What is an artifact of the keeper. -/
inductive ArtK : Bs → Prop
 | text (n : Int) : ArtK (contB n)
 | ck (c : Ck) : KCk c → ArtK (ckB c)
 | ct (c : Ct) : KCt c → ArtK (ctB c)
 | cl (l : List Bs) : l.Pairwise (· < ·) → (∀ x ∈ l, ∃ n, x = nameB n) → 1 ≤ l.length → l.length ≤ 4 → ArtK (clB l)
theorem ArtK.small {s : Bs} (h : ArtK s) : s.length ≤ 20000 := by
 cases h with
 | text n => have := contB_len n; omega
 | ck c k => have := ck_small k.right; rw [ckB, printB, sealB_len]; omega
 | ct c k => have := ct_small k.right; rw [ctB, printB, sealB_len]; omega
 | cl l h1 h2 h3 h4 =>
   have := cl_small (sorted_right h1 (fun x hx => by obtain ⟨n, rfl⟩ := h2 x hx; exact isN_name n) h3 (by omega))
   rw [clB, printB, sealB_len]; omega
/-- What comes of turning lines. -/
structure LinP (l l' : List Cd) : Prop where
 ok : ∀ c ∈ l', 65 ≤ c.l.toNat ∧ (∀ a ∈ c.args, argOk a ∧ ((∃ b ∈ l, a ∈ b.args) ∨ isN a = false)) ∧ (cardB c).length ≤ 400
 n : l'.length ≤ 400
theorem LinP.small {l l' : List Cd} (h : LinP l l') : (bodyB l').length ≤ 160000 := by
 have h1 := body_bound (k := 400) (fun c hc => (h.ok c hc).2.2)
 have h2 := h.n
 have := Nat.mul_le_mul_left 400 h2
 omega
theorem LinP.sub {l l1 l2 : List Cd} (h : LinP l l1) (hs : ∀ c ∈ l2, c ∈ l1) (hn : l2.length ≤ 400) : LinP l l2 := ⟨fun c hc => h.ok c (hs c hc), hn⟩
theorem card_le {l : List Cd} {c : Cd} (h : c ∈ l) : (cardB c).length ≤ (bodyB l).length := by
 induction l with
 | nil => cases h
 | cons x l ih =>
   have e : bodyB (x :: l) = cardB x ++ bodyB l := by simp [bodyB]
   rw [e, List.length_append]
   rcases List.mem_cons.1 h with e | e
   · rw [e]; omega
   · have := ih e; omega
theorem LinP.start {s : Bs} {l : List Cd} (h : readC s = some l) (hs : s.length ≤ 300) : LinP l l ∧ l.length ≤ 300 ∧ (∀ c ∈ l, (cardB c).length ≤ 300) := by
 have hr := readC_iff.1 h
 have hb := congrArg List.length hr.2
 rw [printB, sealB_len] at hb
 have h1 := (bodyB_args l).1
 have h2 : ∀ c ∈ l, (cardB c).length ≤ 300 := fun c hc => by have := card_le hc; omega
 refine ⟨⟨fun c hc => ⟨(hr.1.both c hc).1, fun a ha => ⟨(hr.1.both c hc).2 a ha, .inl ⟨c, hc, ha⟩⟩, by have := h2 c hc; omega⟩, by omega⟩, by omega, h2⟩
theorem wB_no {raw : Bs} : (∀ d ∈ (119 :: escB raw), d.toNat ≠ 32 ∧ d.toNat ≠ 10) ∧ (∀ d ∈ escB raw ++ [119], d.toNat ≠ 32 ∧ d.toNat ≠ 10) := by
 have h := escB_ok raw
 constructor
 · intro d hd
   rcases List.mem_cons.1 hd with e | e
   · rw [e]; decide
   · exact h d e
 · intro d hd
   rcases List.mem_append.1 hd with e | e
   · exact h d e
   · rw [List.mem_singleton.1 e]; decide
theorem w_not {a : Bs} (h : (119 : UInt8) ∈ a) : isN a = false := by
 rw [isN, decide_eq_false_iff_not]
 intro ⟨_, h2⟩
 exact absurd (h2 _ h) (by decide)
theorem argB_snoc (xs : List Bs) (a : Bs) (x : UInt8) : (cardB ⟨x, xs ++ [a]⟩).length = (cardB ⟨x, xs⟩).length + a.length + 1 := by
 simp [cardB, lineB, argsB]; omega
theorem LinP.set {l l1 : List Cd} (h : LinP l l1) {i : Nat} {c : Cd} (hc : 65 ≤ c.l.toNat ∧ (∀ a ∈ c.args, argOk a ∧ ((∃ b ∈ l, a ∈ b.args) ∨ isN a = false)) ∧ (cardB c).length ≤ 400) : LinP l (l1.set i c) := by
 refine ⟨fun x hx => ?_, by rw [List.length_set]; exact h.n⟩
 rcases List.mem_or_eq_of_mem_set hx with e | e
 · exact h.ok x e
 · rw [e]; exact hc
theorem LinP.more {l l1 : List Cd} (h : LinP l l1) {i : Nat} (hi : i < l1.length) (hz : ∀ c ∈ l1, (cardB c).length ≤ 300) {raw : Bs} (hr : raw.length ≤ 5) : LinP l (l1.set i ⟨l1[i].l, l1[i].args ++ [119 :: escB raw]⟩) := by
 have hm := h.ok _ (List.getElem_mem hi)
 have he := (escB_len raw).2
 refine h.set ⟨hm.1, fun a ha => ?_, ?_⟩
 · rcases List.mem_append.1 ha with e | e
   · exact hm.2.1 a e
   · rw [List.mem_singleton.1 e]
     exact ⟨argOk_iff.2 ⟨by simp, wB_no.1⟩, .inr (w_not (by simp))⟩
 · have h3 := hz _ (List.getElem_mem hi)
   rw [argB_snoc, List.length_cons]
   have : (cardB ⟨l1[i].l, l1[i].args⟩) = cardB l1[i] := rfl
   rw [this]; omega
theorem LinP.one {l l1 : List Cd} (h : LinP l l1) {i : Nat} (hi : i < l1.length) {raw : Bs} (hr : raw.length ≤ 5) : LinP l (l1.set i ⟨l1[i].l, [escB raw ++ [119]]⟩) := by
 have hm := h.ok _ (List.getElem_mem hi)
 have he := (escB_len raw).2
 refine h.set ⟨hm.1, fun a ha => ?_, ?_⟩
 · rw [List.mem_singleton.1 ha]
   exact ⟨argOk_iff.2 ⟨by simp, wB_no.2⟩, .inr (w_not (by simp))⟩
 · rw [card1_len, List.length_append, List.length_singleton]; omega
abbrev Fs := List (Bs × Bs)
def hdF (l : Fs) : Bs × Bs := l.headD ([], [])
structure Ml where
 chk : Bs
 name : Bs
 old : Bs
 new : Bs
 deriving DecidableEq
def mlCells (m : Ml) : List Value := [vS m.chk, vS m.name, vS m.old, vS m.new]
/-- Is the next one of the old row? -/
def dW (ol wl : Fs) : Bool := decide (wl.length = 0 ∨ (0 < ol.length ∧ (hdF ol).1 ≤ (hdF wl).1))
def dN (ol wl : Fs) : Bs := if dW ol wl then (hdF ol).1 else []
def dO (ol wl : Fs) : Bs := if dW ol wl then (hdF ol).2 else []
def dOl (ol wl : Fs) : Fs := if dW ol wl then ol.tail else ol
/-- Of the new row, too? -/
def dT (ol wl : Fs) : Bool := decide (0 < wl.length ∧ (dW ol wl = false ∨ dN ol wl = (hdF wl).1))
def dM (ol wl : Fs) : Ml := ⟨[], if dT ol wl then (hdF wl).1 else dN ol wl, dO ol wl, if dT ol wl then (hdF wl).2 else []⟩
def dWl (ol wl : Fs) : Fs := if dT ol wl then wl.tail else wl
def diffK : Nat → Fs → Fs → List Ml
 | 0, _, _ => []
 | k + 1, ol, wl => if ol.length = 0 ∧ wl.length = 0 then [] else (if (dM ol wl).old = (dM ol wl).new then [] else [dM ol wl]) ++ diffK k (dOl ol wl) (dWl ol wl)
def diffF (ol wl : Fs) : List Ml := diffK (ol.length + wl.length) ol wl
theorem diffK_len : ∀ (k : Nat) (ol wl : Fs), (diffK k ol wl).length ≤ k := by
 intro k
 induction k with
 | zero => intro ol wl; exact Nat.le_refl _
 | succ k ih =>
   intro ol wl
   rw [diffK]
   have := ih (dOl ol wl) (dWl ol wl)
   split
   · exact Nat.zero_le _
   · split <;> simp <;> omega
theorem dW_own {ol wl : Fs} (h : dW ol wl = true) (h2 : ¬ (ol.length = 0 ∧ wl.length = 0)) : 0 < ol.length := by
 have := of_decide_eq_true h
 omega
theorem dT_own {ol wl : Fs} (h : dT ol wl = true) : 0 < wl.length := (of_decide_eq_true h).1
theorem d_less {ol wl : Fs} (h : ¬ (ol.length = 0 ∧ wl.length = 0)) : (dOl ol wl).length + (dWl ol wl).length < ol.length + wl.length := by
 unfold dOl dWl
 cases hw : dW ol wl with
 | true =>
   have := dW_own hw h
   rw [if_pos rfl, List.length_tail]
   split
   · rw [List.length_tail]; omega
   · omega
 | false =>
   have h1 : ¬ (wl.length = 0 ∨ (0 < ol.length ∧ (hdF ol).1 ≤ (hdF wl).1)) := of_decide_eq_false hw
   have ht : dT ol wl = true := decide_eq_true ⟨by omega, .inl hw⟩
   rw [ht, if_neg (by simp), if_pos rfl, List.length_tail]; omega
theorem diff_step {k : Nat} {ol wl : Fs} (h : ¬ (ol.length = 0 ∧ wl.length = 0)) : diffK (k + 1) ol wl = (if (dM ol wl).old = (dM ol wl).new then [] else [dM ol wl]) ++ diffK k (dOl ol wl) (dWl ol wl) := by rw [diffK, if_neg h]
theorem diff_nil (k : Nat) {ol wl : Fs} (h : ol.length = 0 ∧ wl.length = 0) : diffK k ol wl = [] := by
 cases k with
 | zero => rfl
 | succ k => rw [diffK, if_pos h]
theorem sli_from {a : Option Addr} {sz k c' m kk : Nat} {xs : List Value} {Hs : List HP} (h : Has (SlI a xs) Hs) (hx : xs.length = k * sz) (hk : m * sz = kk) (hm : m ≤ k) (hc : k ≤ c') : Ent Hs (SlI (fromA a m c' kk) (xs.drop kk) :: Hs) := ⟨fun {M g} s => by
 obtain ⟨h1, _, a1⟩ := h.sat s
 refine ⟨Res.emp, g, Res.emp_dj _, rfl, ?_, s⟩
 have a2 : SlIAt a xs M h1 := a1
 by_cases hlt : m < c'
 · rcases a2 with e | ⟨g, off, l, T, fz, e1, e2, e3⟩
   · left; rw [e]; simp
   · refine .inr ⟨g, off + kk, l, T, fz, ?_, e2, ?_⟩
     · rw [fromA, if_pos hlt, e1]; rfl
     · conv => rhs; rw [← e3]
       rw [List.drop_take, List.drop_drop, List.length_drop]
 · left
   have hmk : m = k := by omega
   subst hmk
   rw [← hk, ← hx, List.drop_length]⟩
theorem fl_tail {l : Fs} (h : 0 < l.length) : (l.flatMap flCells).drop 2 = l.tail.flatMap flCells := by
 cases l with
 | nil => cases h
 | cons a r => rfl
theorem fl_len (l : Fs) : (l.flatMap flCells).length = l.length * 2 := by
 induction l with
 | nil => rfl
 | cons a r ih => rw [List.flatMap_cons, List.length_append, ih, List.length_cons]; simp [flCells]; omega
theorem fl_hd {l : Fs} (h : 0 < l.length) : (l.flatMap flCells)[0]? = some (vS (hdF l).1) ∧ (l.flatMap flCells)[1]? = some (vS (hdF l).2) := by
 cases l with
 | nil => cases h
 | cons a r => exact ⟨rfl, rfl⟩
theorem spot_from {a : Option Addr} {m c kk : Nat} (ha : ∀ b, a = some b → b.spot = none) : ∀ b, fromA a m c kk = some b → b.spot = none := by
 intro b e
 unfold fromA at e
 split at e
 · unfold elemA at e
   split at e
   · cases e; rfl
   · cases e
 · exact ha b e
section
set_option maxRecDepth 100000
theorem eqMl (a b : Ml) : eqCells [vS a.chk, vS a.name, vS a.old, vS a.new] [vS b.chk, vS b.name, vS b.old, vS b.new] = decide (a = b) := by
 obtain ⟨a0, a1, a2, a3⟩ := a
 obtain ⟨b0, b1, b2, b3⟩ := b
 simp only [eqCells, eqCell_s, Bool.and_true, Ml.mk.injEq, Bool.decide_and]
end
section
set_option maxRecDepth 100000
set_option maxHeartbeats 2000000 in
theorem slices_CloneMl_sp (a : Option Addr) (c : Nat) (l : List Ml) (hb : l.length ≤ 1000000) :
    Sp Tryz.prog 87 [.slice a l.length c] [Row 39 4 (.slice a l.length c) l.length (l.flatMap mlCells)] (X := Option Addr × Nat) (fun x => .slice x.1 l.length x.2) (fun _ => True) (fun x => [Row 39 4 (.slice x.1 l.length x.2) l.length (l.flatMap mlCells), Row 39 4 (.slice a l.length c) l.length (l.flatMap mlCells)]) := by
 have hfl : (l.flatMap mlCells).length = l.length * 4 := flat_len (f := mlCells) (sz := 4) (fun _ => rfl) l
 have hone : (l.flatMap mlCells).all oneCell = true := by
  rw [List.all_flatMap]
  exact List.all_eq_true.2 fun x _ => rfl
 refine Sp.body (n := 8) Tryz.call87 Tryz.func87 rfl rfl rfl ?_
 refine wc_know (A := Row 39 4 (.slice a l.length c) l.length (l.flatMap mlCells)) HasC.get (fun x => (row_some x : l.length ≠ 0 → a ≠ none)) (fun hnn => ?_)
 refine Qc (k:=Vv (k:=Wq (Za (k:=Qc (k:=Vv (k:=?_))))))
 refine wo_pv (pv_sleql_nil Tryz.underlying34 rfl rfl) rfl ?_
 refine Wq (Zi (t:=fun h4 => ?_) (f:=fun h4 => ?_))
 ·
  refine Qc (k:=Vv (k:=Wq (Zt (k:=Va ?_))))
  have hl0 : l = [] := by
   rcases Nat.eq_zero_or_pos l.length with h | h
   · exact List.eq_nil_of_length_eq_zero h
   · exact absurd (Option.isNone_iff_eq_none.1 h4) (hnn (by omega))
  subst hl0
  refine fin_ret (none, 0) (vs := [_]) (Cs := []) rfl (.tmp rfl .nil) rfl trivial ?_
  simp only [List.length_nil, List.flatMap_nil]
  exact (row_nil (e := 39) (sz := 4)).trans ent_pick
 ·
  refine Zk (k:=Ya (Qc (k:=Zv [] (cs := []) (k:=fun b5 => Vv (k:=?_)))))
  refine wo_ent' (ent_row (k := 0) (cap := 0) (sz := 4) (e := 39) (g := b5) (xs := []) (cur := []) (Nat.le_refl _) (by simp [maxLen]) rfl rfl rfl) ?_
  refine wo_opT (by intro c; simp) (opt_appendA (sz := 4) (bytes := 64) Tryz.underlying34 ti39 rfl rfl rfl rfl rfl rfl rfl (sla_row (e := 39) (sz := 4) (k := l.length) (n := l.length) (c := c) (a := a) (xs := l.flatMap mlCells)) hfl hone (by omega) (by simp only [maxLen]; omega) (k := 0) (xs := [])) rfl (fun x7 ⟨a7, c7, h7⟩ => ?_)
  subst h7
  rw [Nat.zero_add, List.nil_append]
  refine Vv (k:=Wq (Zt (k:=?_)))
  exact fin_ret (a7, c7) (vs := [_]) (Cs := []) rfl (.tmp rfl .nil) rfl trivial ent_pick
set_option maxHeartbeats 2000000 in
theorem slices_EqualMl_sp {As : List HP} {a a' : Option Addr} (n n' c c' : Nat) (l l' : List Ml) [h1 : RdSl a (l.flatMap mlCells) As] [h2 : RdSl a' (l'.flatMap mlCells) As] (hn : l.length = n) (hn' : l'.length = n') (hb : n ≤ 140737488355328) :
    Sp1 Tryz.prog 91 [.slice a n c, .slice a' n' c'] As (vB (decide (l = l'))) As := by
 subst hn; subst hn'
 haveI : PicksC As As [] := ⟨picksSelf As⟩
 refine Sp.body (n := 26) Tryz.call91 Tryz.func91 rfl rfl rfl ?_
 refine Qc (k:=Vv (k:=Wq (Za (k:=Qc (k:=Qv (k:=Qv (k:=Vv (k:=?_))))))))
 refine Wq (Zi (t:=fun h10 => ?_) (f:=fun h10 => ?_))
 ·
  refine Qc (k:=Vv (k:=Wq (Zt (k:=Va ?_))))
  have hn : ¬ l = l' := fun e => h10 (by rw [e])
  exact fin_ret () (vs := [_]) (Cs := []) rfl (.tmp rfl .nil) (by rw [decide_eq_false hn]; rfl) trivial (by rw [List.append_nil]; exact Ent.refl _)
 ·
  refine Zk (k:=Ya (Za (k:=Qc (k:=Qv (k:=Vv (k:=Wq (Zb (k:=?_))))))))
  refine p_loop (fun (i : { j : Nat // j ≤ l.length ∧ l.take j = l'.take j }) => [(0, .slice a l.length c), (1, .slice a' l'.length c'), (12, vI l.length), (13, vI i.1)]) (fun (i : { j : Nat // j ≤ l.length ∧ l.take j = l'.take j }) => As) (fun (i : { j : Nat // j ≤ l.length ∧ l.take j = l'.take j }) => l.length - i.1) rfl (⟨0, Nat.zero_le _, rfl⟩) ?_ ?_ (fun i => ?_)
  · exact ⟨rfl, rfl, rfl, rfl, trivial⟩
  ·
   exact Ent.refl _
  obtain ⟨j, hj, hw⟩ := i
  try dsimp only
  refine Qc (k:=Vv (k:=Wq (Za (k:=Zi (t:=fun h14 => ?_) (f:=fun h14 => ?_)))))
  ·
   refine Zk (k:=Ya (Za (k:=Zb (k:=Qc (k:=Qv (k:=Wq (Za (k:=?_))))))))
   have hjl : j < l.length := by omega
   have hjl' : j < l'.length := by omega
   have hq := eqMl l[j] l'[j]
   refine d_draw rfl rfl rfl As ?_
   refine Dv 0 (k:=Dv 1 (k:=?_))
   refine d_first 2 rfl rfl rfl (by kernel_rfl) (by kernel_rfl) (tl_elemAddr (sz := 4) Tryz.underlying34 ti39 rfl rfl rfl rfl (by omega) (by first | (rw [List.length_map]; omega) | (rw [flat_len (sz := 4) (fun _ => rfl)]; omega) | (simp; omega)) rfl) ?_
   refine d_first 3 rfl rfl rfl (by kernel_rfl) (by kernel_rfl) (tl_eloada (vs := [_, _, _, _]) (sz := 4) Tryz.underlying39 rfl ti39 rfl rfl (by rw [flat_len (sz := 4) (fun _ => rfl)]; omega) rfl (by refine get_flat (fun x => ?_) ?_ <;> first | rfl | omega)) ?_
   refine Dv 4 (k:=Dv 5 (k:=?_))
   refine d_first 6 rfl rfl rfl (by kernel_rfl) (by kernel_rfl) (tl_elemAddr (sz := 4) Tryz.underlying34 ti39 rfl rfl rfl rfl (by omega) (by first | (rw [List.length_map]; omega) | (rw [flat_len (sz := 4) (fun _ => rfl)]; omega) | (simp; omega)) rfl) ?_
   refine d_first 7 rfl rfl rfl (by kernel_rfl) (by kernel_rfl) (tl_eloada (vs := [_, _, _, _]) (sz := 4) Tryz.underlying39 rfl ti39 rfl rfl (by rw [flat_len (sz := 4) (fun _ => rfl)]; omega) rfl (by refine get_flat (fun x => ?_) ?_ <;> first | rfl | omega)) ?_
   refine d_first 8 rfl rfl rfl (by kernel_rfl) (by kernel_rfl) (tl_pv (pv_aneq [.string, .string, .string, .string] Tryz.underlying39 (by kernel_rfl) (by kernel_rfl) (by kernel_rfl) rfl rfl rfl)) ?_
   refine Dd (k:=?_)
   rw [hq]
   refine Ya (Zi (t:=fun h24 => ?_) (f:=fun h24 => ?_))
   ·
    refine Qc (k:=Vv (k:=Wq (Zt (k:=Vb (Va (Vi (Vb (Va ?_))))))))
    have hn : ¬ l = l' := fun e => by subst e; simp at h24
    exact fin_ret () (vs := [_]) (Cs := []) rfl (.tmp rfl .nil) (by rw [decide_eq_false hn]; rfl) trivial (by rw [List.append_nil]; exact Ent.refl _)
   ·
    refine Zk (k:=Yb (Ya (Zr (k:=Qv (k:=Wn ?_)))))
    have hx : l[j] = l'[j] := by simpa using h24
    exact to_inv ⟨j + 1, by omega, takeStep hjl hjl' hw hx⟩ (by dsimp only; omega) ⟨rfl, rfl, rfl, rfl, trivial⟩ (by rw [List.append_nil]; exact Ent.refl _)
  ·
   refine Ze (k:=Xa (Xi (Xb (Ya (Qc (k:=Vv (k:=Wq (Zt (k:=?_)))))))))
   have hjl : j = l.length := by omega
   subst hjl
   have he : l = l' := by
    have e1 : l'.length = l.length := by omega
    rw [List.take_length, ← e1, List.take_length] at hw
    exact hw
   exact fin_ret () (vs := [_]) (Cs := []) rfl (.tmp rfl .nil) (by rw [decide_eq_true he]; rfl) trivial (by rw [List.append_nil]; exact Ent.refl _)
end
section
set_option maxRecDepth 100000
theorem eqTg (a b : Tgd) : eqCells [vS a.tag, vS a.target, vS a.value, vS a.source, vB a.spread, vB a.own] [vS b.tag, vS b.target, vS b.value, vS b.source, vB b.spread, vB b.own] = decide (a = b) := by
 obtain ⟨a0, a1, a2, a3, a4, a5⟩ := a
 obtain ⟨b0, b1, b2, b3, b4, b5⟩ := b
 simp only [eqCells, eqCell_s, Bool.and_true, Tgd.mk.injEq, Bool.decide_and]
 cases a4 <;> cases b4 <;> simp [eqCell, vB]
 all_goals (cases a5 <;> cases b5 <;> simp [eqCell, vB])
set_option maxHeartbeats 2000000 in
theorem slices_CloneTg_sp (a : Option Addr) (c : Nat) (l : List Tgd) (hb : l.length ≤ 1000000) :
    Sp Tryz.prog 88 [.slice a l.length c] [Row 90 6 (.slice a l.length c) l.length (l.flatMap tgdVals)] (X := Option Addr × Nat) (fun x => .slice x.1 l.length x.2) (fun _ => True) (fun x => [Row 90 6 (.slice x.1 l.length x.2) l.length (l.flatMap tgdVals), Row 90 6 (.slice a l.length c) l.length (l.flatMap tgdVals)]) := by
 have hfl : (l.flatMap tgdVals).length = l.length * 6 := flat_len (f := tgdVals) (sz := 6) (fun _ => rfl) l
 have hone : (l.flatMap tgdVals).all oneCell = true := by
  rw [List.all_flatMap]
  exact List.all_eq_true.2 fun x _ => rfl
 refine Sp.body (n := 8) Tryz.call88 Tryz.func88 rfl rfl rfl ?_
 refine wc_know (A := Row 90 6 (.slice a l.length c) l.length (l.flatMap tgdVals)) HasC.get (fun x => (row_some x : l.length ≠ 0 → a ≠ none)) (fun hnn => ?_)
 refine Qc (k:=Vv (k:=Wq (Za (k:=Qc (k:=Vv (k:=?_))))))
 refine wo_pv (pv_sleql_nil Tryz.underlying80 rfl rfl) rfl ?_
 refine Wq (Zi (t:=fun h4 => ?_) (f:=fun h4 => ?_))
 ·
  refine Qc (k:=Vv (k:=Wq (Zt (k:=Va ?_))))
  have hl0 : l = [] := by
   rcases Nat.eq_zero_or_pos l.length with h | h
   · exact List.eq_nil_of_length_eq_zero h
   · exact absurd (Option.isNone_iff_eq_none.1 h4) (hnn (by omega))
  subst hl0
  refine fin_ret (none, 0) (vs := [_]) (Cs := []) rfl (.tmp rfl .nil) rfl trivial ?_
  simp only [List.length_nil, List.flatMap_nil]
  exact (row_nil (e := 90) (sz := 6)).trans ent_pick
 ·
  refine Zk (k:=Ya (Qc (k:=Zv [] (cs := []) (k:=fun b5 => Vv (k:=?_)))))
  refine wo_ent' (ent_row (k := 0) (cap := 0) (sz := 6) (e := 90) (g := b5) (xs := []) (cur := []) (Nat.le_refl _) (by simp [maxLen]) rfl rfl rfl) ?_
  refine wo_opT (by intro c; simp) (opt_appendA (sz := 6) (bytes := 72) Tryz.underlying80 ti90 rfl rfl rfl rfl rfl rfl rfl (sla_row (e := 90) (sz := 6) (k := l.length) (n := l.length) (c := c) (a := a) (xs := l.flatMap tgdVals)) hfl hone (by omega) (by simp only [maxLen]; omega) (k := 0) (xs := [])) rfl (fun x7 ⟨a7, c7, h7⟩ => ?_)
  subst h7
  rw [Nat.zero_add, List.nil_append]
  refine Vv (k:=Wq (Zt (k:=?_)))
  exact fin_ret (a7, c7) (vs := [_]) (Cs := []) rfl (.tmp rfl .nil) rfl trivial ent_pick
set_option maxHeartbeats 2000000 in
theorem slices_EqualTg_sp {As : List HP} {a a' : Option Addr} (n n' c c' : Nat) (l l' : List Tgd) [h1 : RdSl a (l.flatMap tgdVals) As] [h2 : RdSl a' (l'.flatMap tgdVals) As] (hn : l.length = n) (hn' : l'.length = n') (hb : n ≤ 140737488355328) :
    Sp1 Tryz.prog 92 [.slice a n c, .slice a' n' c'] As (vB (decide (l = l'))) As := by
 subst hn; subst hn'
 haveI : PicksC As As [] := ⟨picksSelf As⟩
 refine Sp.body (n := 26) Tryz.call92 Tryz.func92 rfl rfl rfl ?_
 refine Qc (k:=Vv (k:=Wq (Za (k:=Qc (k:=Qv (k:=Qv (k:=Vv (k:=?_))))))))
 refine Wq (Zi (t:=fun h10 => ?_) (f:=fun h10 => ?_))
 ·
  refine Qc (k:=Vv (k:=Wq (Zt (k:=Va ?_))))
  have hn : ¬ l = l' := fun e => h10 (by rw [e])
  exact fin_ret () (vs := [_]) (Cs := []) rfl (.tmp rfl .nil) (by rw [decide_eq_false hn]; rfl) trivial (by rw [List.append_nil]; exact Ent.refl _)
 ·
  refine Zk (k:=Ya (Za (k:=Qc (k:=Qv (k:=Vv (k:=Wq (Zb (k:=?_))))))))
  refine p_loop (fun (i : { j : Nat // j ≤ l.length ∧ l.take j = l'.take j }) => [(0, .slice a l.length c), (1, .slice a' l'.length c'), (12, vI l.length), (13, vI i.1)]) (fun (i : { j : Nat // j ≤ l.length ∧ l.take j = l'.take j }) => As) (fun (i : { j : Nat // j ≤ l.length ∧ l.take j = l'.take j }) => l.length - i.1) rfl (⟨0, Nat.zero_le _, rfl⟩) ?_ ?_ (fun i => ?_)
  · exact ⟨rfl, rfl, rfl, rfl, trivial⟩
  ·
   exact Ent.refl _
  obtain ⟨j, hj, hw⟩ := i
  try dsimp only
  refine Qc (k:=Vv (k:=Wq (Za (k:=Zi (t:=fun h14 => ?_) (f:=fun h14 => ?_)))))
  ·
   refine Zk (k:=Ya (Za (k:=Zb (k:=Qc (k:=Qv (k:=Wq (Za (k:=?_))))))))
   have hjl : j < l.length := by omega
   have hjl' : j < l'.length := by omega
   have hq := eqTg l[j] l'[j]
   refine d_draw rfl rfl rfl As ?_
   refine Dv 0 (k:=Dv 1 (k:=?_))
   refine d_first 2 rfl rfl rfl (by kernel_rfl) (by kernel_rfl) (tl_elemAddr (sz := 6) Tryz.underlying80 ti90 rfl rfl rfl rfl (by omega) (by first | (rw [List.length_map]; omega) | (rw [flat_len (sz := 6) (fun _ => rfl)]; omega) | (simp; omega)) rfl) ?_
   refine d_first 3 rfl rfl rfl (by kernel_rfl) (by kernel_rfl) (tl_eloada (vs := [_, _, _, _, _, _]) (sz := 6) Tryz.underlying90 rfl ti90 rfl rfl (by rw [flat_len (sz := 6) (fun _ => rfl)]; omega) rfl (by refine get_flat (fun x => ?_) ?_ <;> first | rfl | omega)) ?_
   refine Dv 4 (k:=Dv 5 (k:=?_))
   refine d_first 6 rfl rfl rfl (by kernel_rfl) (by kernel_rfl) (tl_elemAddr (sz := 6) Tryz.underlying80 ti90 rfl rfl rfl rfl (by omega) (by first | (rw [List.length_map]; omega) | (rw [flat_len (sz := 6) (fun _ => rfl)]; omega) | (simp; omega)) rfl) ?_
   refine d_first 7 rfl rfl rfl (by kernel_rfl) (by kernel_rfl) (tl_eloada (vs := [_, _, _, _, _, _]) (sz := 6) Tryz.underlying90 rfl ti90 rfl rfl (by rw [flat_len (sz := 6) (fun _ => rfl)]; omega) rfl (by refine get_flat (fun x => ?_) ?_ <;> first | rfl | omega)) ?_
   refine d_first 8 rfl rfl rfl (by kernel_rfl) (by kernel_rfl) (tl_pv (pv_aneq [.string, .string, .string, .string, .bool, .bool] Tryz.underlying90 (by kernel_rfl) (by kernel_rfl) (by kernel_rfl) rfl rfl rfl)) ?_
   refine Dd (k:=?_)
   rw [hq]
   refine Ya (Zi (t:=fun h24 => ?_) (f:=fun h24 => ?_))
   ·
    refine Qc (k:=Vv (k:=Wq (Zt (k:=Vb (Va (Vi (Vb (Va ?_))))))))
    have hn : ¬ l = l' := fun e => by subst e; simp at h24
    exact fin_ret () (vs := [_]) (Cs := []) rfl (.tmp rfl .nil) (by rw [decide_eq_false hn]; rfl) trivial (by rw [List.append_nil]; exact Ent.refl _)
   ·
    refine Zk (k:=Yb (Ya (Zr (k:=Qv (k:=Wn ?_)))))
    have hx : l[j] = l'[j] := by simpa using h24
    exact to_inv ⟨j + 1, by omega, takeStep hjl hjl' hw hx⟩ (by dsimp only; omega) ⟨rfl, rfl, rfl, rfl, trivial⟩ (by rw [List.append_nil]; exact Ent.refl _)
  ·
   refine Ze (k:=Xa (Xi (Xb (Ya (Qc (k:=Vv (k:=Wq (Zt (k:=?_)))))))))
   have hjl : j = l.length := by omega
   subst hjl
   have he : l = l' := by
    have e1 : l'.length = l.length := by omega
    rw [List.take_length, ← e1, List.take_length] at hw
    exact hw
   exact fin_ret () (vs := [_]) (Cs := []) rfl (.tmp rfl .nil) (by rw [decide_eq_true he]; rfl) trivial (by rw [List.append_nil]; exact Ent.refl _)
end
/-- A file laid into a row. -/
def putF (l : Fs) (f : Bs × Bs) : Fs :=
 l.take (l.countP fun x => decide (x.1 < f.1)) ++ (if f.2 = [] then [] else [f]) ++ (l.drop (l.countP fun x => decide (x.1 < f.1))).filter fun x => decide (x.1 ≠ f.1)
def mergeF (base own : Fs) : Fs := own.foldl putF base
noncomputable def ofF (H : Ks) (name : Bs) : Option Fs := match readK (getB H name) with
 | none => none
 | some c => if c.base = [] then some c.files else match readK (getB H c.base) with
   | none => none
   | some b => if b.base = [] then some (mergeF b.files c.files) else none
theorem putF_len (l : Fs) (f : Bs × Bs) : (putF l f).length ≤ l.length + 1 := by
 unfold putF
 have h1 := List.countP_le_length (p := fun x : Bs × Bs => decide (x.1 < f.1)) (l := l)
 have h2 := List.length_filter_le (fun x : Bs × Bs => decide (x.1 ≠ f.1)) (l.drop (l.countP fun x => decide (x.1 < f.1)))
 rw [List.length_drop] at h2
 rw [List.length_append, List.length_append, List.length_take]
 split <;> simp only [List.length_nil, List.length_singleton] <;> omega
theorem mergeF_len (own : Fs) : ∀ base : Fs, (mergeF base own).length ≤ base.length + own.length := by
 induction own with
 | nil => intro b; exact Nat.le_refl _
 | cons f own ih =>
   intro b
   have h1 := ih (putF b f)
   have h2 := putF_len b f
   unfold mergeF at *
   rw [List.foldl_cons, List.length_cons]
   omega
theorem ofF_len {H : Ks} {n : Bs} : ((ofF H n).getD []).length ≤ 24 := by
 unfold ofF
 cases e : readK (getB H n) with
 | none => exact Nat.zero_le _
 | some c =>
   have h1 := (readK_iff.1 e).1.files.len
   dsimp only
   split
   · simp only [Option.getD_some]; omega
   · cases e2 : readK (getB H c.base) with
     | none => exact Nat.zero_le _
     | some b =>
       have h2 := (readK_iff.1 e2).1.files.len
       dsimp only
       split
       · have := mergeF_len c.files b.files
         simp only [Option.getD_some]; omega
       · exact Nat.zero_le _
noncomputable def oldF (H : Ks) (c : Ck) (own : Option Fs) : Option Fs := if own.isSome = false then none else if firstB c = [] then some [] else ofF H (firstB c)
def wthC (n : Bs) (m : Ml) : Ml := ⟨n, m.name, m.old, m.new⟩
noncomputable def chgOf (H : Ks) (x : Bs × Ck) : List Ml := match oldF H x.2 (ofF H x.1) with
 | none => []
 | some old => (diffF old ((ofF H x.1).getD [])).map (wthC x.1)
noncomputable def chgF (H : Ks) (l : List (Bs × Ck)) : List Ml := l.flatMap (chgOf H)
theorem chgF_snoc (H : Ks) (l : List (Bs × Ck)) (x : Bs × Ck) : chgF H (l ++ [x]) = chgF H l ++ chgOf H x := by simp [chgF]
theorem oldF_len {H : Ks} {c : Ck} {own : Option Fs} : ((oldF H c own).getD []).length ≤ 24 := by
 unfold oldF
 split
 · exact Nat.zero_le _
 · split
   · exact Nat.zero_le _
   · exact ofF_len
theorem diffF_len (a b : Fs) : (diffF a b).length ≤ a.length + b.length := diffK_len _ _ _
theorem chgOf_len (H : Ks) (x : Bs × Ck) : (chgOf H x).length ≤ 48 := by
 unfold chgOf
 have h0 := oldF_len (H := H) (c := x.2) (own := ofF H x.1)
 cases e : oldF H x.2 (ofF H x.1) with
 | none => exact Nat.zero_le _
 | some old =>
   rw [e] at h0
   have h1 := diffF_len old ((ofF H x.1).getD [])
   have h2 := ofF_len (H := H) (n := x.1)
   simp only [Option.getD_some] at h0
   simp only [List.length_map]
   omega
theorem chgF_len (H : Ks) (l : List (Bs × Ck)) : (chgF H l).length ≤ 48 * l.length := by
 induction l with
 | nil => exact Nat.le_refl _
 | cons a l ih =>
   have := chgOf_len H a
   unfold chgF at *
   rw [List.flatMap_cons, List.length_append, List.length_cons]
   omega
/-- No check-in stands on another one's files. -/
def NoBase (H : Ks) : Prop := ∀ n c, readK (getB H n) = some c → c.base = []
def OfSp (P : Program) (f : FuncId) (b : Nat) (H : Ks) (name : Bs) : Prop :=
 Sp P f [.map (some b), vS name] [MapS b H] (X := Option Addr × Nat) (fun x => .tuple #[.slice x.1 ((ofF H name).getD []).length x.2, vB (ofF H name).isSome]) (fun x => ((ofF H name).getD []).length ≤ x.2 ∧ ∀ b, x.1 = some b → b.spot = none) (fun x => [SlI x.1 (((ofF H name).getD []).flatMap flCells), MapS b H])
section
set_option maxRecDepth 100000
theorem dW_1 {ol wl : Fs} (h : wl.length = 0) : true = dW ol wl := (decide_eq_true (.inl h)).symm
theorem dW_2 {ol wl : Fs} (h : ¬ wl.length = 0) (h2 : 0 < ol.length) : (blt (hdF ol).1 (hdF wl).1 || decide ((hdF ol).1 = (hdF wl).1)) = dW ol wl := by
 unfold dW
 rw [blt_eq]
 by_cases e : (hdF ol).1 ≤ (hdF wl).1
 · rw [decide_eq_true (p := _ ∨ _) (.inr ⟨h2, e⟩)]
   by_cases e2 : (hdF ol).1 = (hdF wl).1
   · simp [e2]
   · have : (hdF ol).1 < (hdF wl).1 := Std.lt_of_le_of_ne e e2
     simp [this]
 · rw [decide_eq_false (p := _ ∨ _) (by rintro (h3 | ⟨_, h3⟩); exact h h3; exact e h3)]
   have h3 : ¬ (hdF ol).1 < (hdF wl).1 := fun h3 => e (List.le_of_lt h3)
   have h4 : ¬ (hdF ol).1 = (hdF wl).1 := fun h4 => e (by rw [h4]; exact List.le_refl _)
   simp [h3, h4]
theorem dW_3 {ol wl : Fs} (h : ¬ wl.length = 0) (h2 : ¬ 0 < ol.length) : false = dW ol wl := (decide_eq_false (by rintro (h3 | ⟨h3, _⟩); exact h h3; exact h2 h3)).symm
structure DfS where
 ol : Fs
 wl : Fs
 oa : Option Addr
 oc : Nat
 wa : Option Addr
 wc : Nat
 acc : List Ml
 ma : Option Addr
 mc : Nat
 k : Nat
structure DfS.Ok (x : DfS) (D : List Ml) : Prop where
 oc : x.ol.length ≤ x.oc
 wc : x.wl.length ≤ x.wc
 os : ∀ b, x.oa = some b → b.spot = none
 ws : ∀ b, x.wa = some b → b.spot = none
 le : x.ol.length + x.wl.length ≤ x.k
 eq : x.acc ++ diffK x.k x.ol x.wl = D
theorem zb60next0 {G : Prop} (h : G := by
    first
    | (have hne2 : ¬ (dM ol wl).old = (dM ol wl).new := by assumption
       refine to_inv ⟨⟨dOl ol wl, dWl ol wl, oa3, oc3, wa3, wc3, acc ++ [dM ol wl], a84, c84, k'⟩, ⟨ho3, hw3, hs3, hv3, by dsimp only; omega, by dsimp only; rw [← k6, if_neg hne2]; simp⟩⟩ (by dsimp only; omega) ⟨rfl, rfl, sl_eq (by simp), trivial⟩ ?_
       dsimp only
       simp only [List.length_append, List.length_cons, List.length_nil, Nat.zero_add, List.flatMap_append, List.flatMap_cons, List.flatMap_nil, List.append_nil, show mlCells (dM ol wl) = [vS [], vS (dM ol wl).name, vS (dM ol wl).old, vS (dM ol wl).new] from rfl]
       exact ent_pick)
    | (have he2 : (dM ol wl).old = (dM ol wl).new := Classical.not_not.1 (by assumption)
       refine to_inv ⟨⟨dOl ol wl, dWl ol wl, oa3, oc3, wa3, wc3, acc, ma, mc, k'⟩, ⟨ho3, hw3, hs3, hv3, by dsimp only; omega, by dsimp only; rw [← k6, if_pos he2]; simp⟩⟩ (by dsimp only; omega) ⟨rfl, rfl, rfl, trivial⟩ ?_
       dsimp only
       exact ent_pick)) : G := h
theorem zb60join11 {G : Prop} (h : G := by
    first
    | (have htt : dT ol wl = true := decide_eq_true ⟨by omega, by rw [← hw2]; first | exact .inl (by simpa using h54) | exact .inr (by assumption)⟩
       refine to_inv ⟨(fromA wa2 1 wc2 2, wc2 - 1), by dsimp only; rw [dWl, if_pos htt, List.length_tail]; omega, spot_from k4⟩ trivial ⟨rfl, by dsimp only; rw [dWl, if_pos htt, List.length_tail]; rfl, rfl, rfl, trivial⟩ ?_
       dsimp only
       rw [dM]
       dsimp only
       rw [dWl, if_pos htt, if_pos htt, if_pos htt, ← fl_tail (by omega)]
       exact (sli_from (a := wa2) (sz := 2) (k := wl.length) (c' := wc2) (m := 1) (kk := 2) (xs := wl.flatMap flCells) HasC.get hfw rfl (by omega) k2).trans ent_pick)
    | (have htf : dT ol wl = false := decide_eq_false (by rw [← hw2]; rintro ⟨h1, h2 | h2⟩ <;> first | omega | simp_all)
       refine to_inv ⟨(wa2, wc2), by dsimp only; rw [dWl, if_neg (by rw [htf]; simp)]; omega, k4⟩ trivial ⟨rfl, by dsimp only; rw [dWl, if_neg (by rw [htf]; simp)]; rfl, rfl, rfl, trivial⟩ ?_
       dsimp only
       rw [dM]
       dsimp only
       rw [dWl, if_neg (by rw [htf]; simp), if_neg (by rw [htf]; simp), if_neg (by rw [htf]; simp)]
       exact ent_pick)) : G := h
theorem zb60join8 {G : Prop} (h : G := by
    first
    | (have hwt : dW ol wl = true := hw2.symm.trans (by assumption)
       refine to_inv ⟨(fromA oa2 1 oc2 2, oc2 - 1), by dsimp only; rw [dOl, if_pos hwt, List.length_tail]; omega, spot_from k3⟩ trivial ⟨by dsimp only; rw [dOl, if_pos hwt, List.length_tail]; rfl, rfl, rfl, rfl, rfl, trivial⟩ ?_
       dsimp only
       rw [dN, dO, dOl, if_pos hwt, if_pos hwt, if_pos hwt, ← fl_tail (by omega)]
       exact (sli_from (a := oa2) (sz := 2) (k := ol.length) (c' := oc2) (m := 1) (kk := 2) (xs := ol.flatMap flCells) HasC.get hfo rfl (by omega) k1).trans ent_pick)
    | (have hwf : dW ol wl = false := hw2.symm.trans (by simpa using by assumption)
       refine to_inv ⟨(oa2, oc2), by dsimp only; rw [dOl, if_neg (by rw [hwf]; simp)]; omega, k3⟩ trivial ⟨by dsimp only; rw [dOl, if_neg (by rw [hwf]; simp)]; rfl, rfl, rfl, rfl, rfl, trivial⟩ ?_
       dsimp only
       rw [dN, dO, dOl, if_neg (by rw [hwf]; simp), if_neg (by rw [hwf]; simp), if_neg (by rw [hwf]; simp)]
       exact ent_pick)) : G := h
theorem zb60join5 {G : Prop} (h : G := by
    first
    | exact to_inv ⟨_, (dW_1 (by omega))⟩ trivial ⟨rfl, rfl, rfl, rfl, rfl, trivial⟩ ent_pick
    | exact to_inv ⟨_, (dW_2 (by omega) (by omega))⟩ trivial ⟨rfl, rfl, rfl, rfl, rfl, trivial⟩ ent_pick
    | exact to_inv ⟨_, (dW_3 (by omega) (by omega))⟩ trivial ⟨rfl, rfl, rfl, rfl, rfl, trivial⟩ ent_pick) : G := h
set_option maxHeartbeats 8000000 in
theorem files_Diff_sp (oa wa : Option Addr) (oc wc : Nat) (old own : Fs) (ho : old.length ≤ oc) (hw : own.length ≤ wc) (hos : ∀ b, oa = some b → b.spot = none) (hws : ∀ b, wa = some b → b.spot = none) (hl : old.length + own.length ≤ 1000000) :
    Sp Tryz.prog 60 [.slice oa old.length oc, .slice wa own.length wc] [SlI oa (old.flatMap flCells), SlI wa (own.flatMap flCells)] (X := Option Addr × Nat) (fun x => .slice x.1 (diffF old own).length x.2) (fun _ => True) (fun x => [Row 39 4 (.slice x.1 (diffF old own).length x.2) (diffF old own).length ((diffF old own).flatMap mlCells)]) := by
 have hDl := diffK_len (old.length + own.length) old own
 rw [show diffK (old.length + own.length) old own = diffF old own from rfl] at hDl
 have hD : diffF old own = diffK (old.length + own.length) old own := rfl
 generalize diffF old own = D at hDl hD ⊢
 refine Sp.body (n := 86) Tryz.call60 Tryz.func60 rfl rfl rfl ?_
 refine Qc (k:=Vv (k:=Wq (Qc (k:=Vv (k:=Wq (Za (k:=Zb (k:=?_))))))))
 refine p_loop (fun (i : { x : DfS // x.Ok D }) => [(0, .slice i.1.oa i.1.ol.length i.1.oc), (1, .slice i.1.wa i.1.wl.length i.1.wc), (5, .slice i.1.ma i.1.acc.length i.1.mc)]) (fun (i : { x : DfS // x.Ok D }) => [SlI i.1.oa (i.1.ol.flatMap flCells), SlI i.1.wa (i.1.wl.flatMap flCells), Row 39 4 (.slice i.1.ma i.1.acc.length i.1.mc) i.1.acc.length (i.1.acc.flatMap mlCells)]) (fun (i : { x : DfS // x.Ok D }) => i.1.ol.length + i.1.wl.length) rfl (⟨⟨old, own, oa, oc, wa, wc, [], none, 0, old.length + own.length⟩, ⟨ho, hw, hos, hws, Nat.le_refl _, hD.symm⟩⟩) ?_ ?_ (fun i => ?_)
 · exact ⟨rfl, rfl, rfl, trivial⟩
 ·
  dsimp only
  simp only [List.length_nil, List.flatMap_nil]
  exact (row_nil (e := 39) (sz := 4)).trans ent_pick
 obtain ⟨⟨ol, wl, oa2, oc2, wa2, wc2, acc, ma, mc, k⟩, ok⟩ := i
 obtain ⟨k1, k2, k3, k4, k5, k6⟩ := ok
 dsimp only at k1 k2 k3 k4 k5 k6 ⊢
 have hal : acc.length ≤ D.length := by rw [← k6, List.length_append]; omega
 try dsimp only
 refine p_cut (fun (u : { u : Unit // ¬ (ol.length = 0 ∧ wl.length = 0) }) => [(0, .slice oa2 ol.length oc2), (1, .slice wa2 wl.length wc2), (5, .slice ma acc.length mc)]) (fun (u : { u : Unit // ¬ (ol.length = 0 ∧ wl.length = 0) }) => [SlI oa2 (ol.flatMap flCells), SlI wa2 (wl.flatMap flCells), Row 39 4 (.slice ma acc.length mc) acc.length (acc.flatMap mlCells)]) rfl (fun u => ?_) ?_
 ·
  obtain ⟨_, hne⟩ := u
  have hless := d_less hne
  obtain ⟨k', rfl⟩ : ∃ m, k = m + 1 := ⟨k - 1, by omega⟩
  rw [diff_step hne] at k6
  have hfo := fl_len ol
  have hfw := fl_len wl
  have hwo := fun h => dW_own (ol := ol) (wl := wl) h hne
  have hto := fun h => dT_own (ol := ol) (wl := wl) h
  try dsimp only
  refine Zb (k:=Qc (k:=Zc [vS [], vS [], vS [], vS []] (k:=fun b6 => Wq ?_)))
  refine p_cut (fun (w : { w : Bool // w = dW ol wl }) => [(0, .slice oa2 ol.length oc2), (1, .slice wa2 wl.length wc2), (5, .slice ma acc.length mc), (6, .pointer (some ⟨b6, 0, none⟩)), (7, vB w.1)]) (fun (w : { w : Bool // w = dW ol wl }) => [Ce b6 39 [vS [], vS [], vS [], vS []], SlI oa2 (ol.flatMap flCells), SlI wa2 (wl.flatMap flCells), Row 39 4 (.slice ma acc.length mc) acc.length (acc.flatMap mlCells)]) rfl (fun w => ?_) ?_
  ·
   obtain ⟨w, hw2⟩ := w
   have hpo : w = true → 0 < ol.length := fun h => hwo (hw2.symm.trans h)
   dsimp only
   try dsimp only
   refine p_cut (fun (i : { x : Option Addr × Nat // (dOl ol wl).length ≤ x.2 ∧ ∀ b, x.1 = some b → b.spot = none }) => [(0, .slice i.1.1 (dOl ol wl).length i.1.2), (1, .slice wa2 wl.length wc2), (5, .slice ma acc.length mc), (6, .pointer (some ⟨b6, 0, none⟩)), (7, vB w)]) (fun (i : { x : Option Addr × Nat // (dOl ol wl).length ≤ x.2 ∧ ∀ b, x.1 = some b → b.spot = none }) => [Ce b6 39 [vS [], vS (dN ol wl), vS (dO ol wl), vS []], SlI i.1.1 ((dOl ol wl).flatMap flCells), SlI wa2 (wl.flatMap flCells), Row 39 4 (.slice ma acc.length mc) acc.length (acc.flatMap mlCells)]) rfl (fun i => ?_) ?_
   ·
    obtain ⟨⟨oa3, oc3⟩, ho3, hs3⟩ := i
    dsimp only at ho3 hs3 ⊢
    try dsimp only
    refine p_cut (fun (i : { x : Option Addr × Nat // (dWl ol wl).length ≤ x.2 ∧ ∀ b, x.1 = some b → b.spot = none }) => [(0, .slice oa3 (dOl ol wl).length oc3), (1, .slice i.1.1 (dWl ol wl).length i.1.2), (5, .slice ma acc.length mc), (6, .pointer (some ⟨b6, 0, none⟩))]) (fun (i : { x : Option Addr × Nat // (dWl ol wl).length ≤ x.2 ∧ ∀ b, x.1 = some b → b.spot = none }) => [Ce b6 39 [vS [], vS (dM ol wl).name, vS (dM ol wl).old, vS (dM ol wl).new], SlI i.1.1 ((dWl ol wl).flatMap flCells), SlI oa3 ((dOl ol wl).flatMap flCells), Row 39 4 (.slice ma acc.length mc) acc.length (acc.flatMap mlCells)]) rfl (fun i => ?_) ?_
    ·
     obtain ⟨⟨wa3, wc3⟩, hw3, hv3⟩ := i
     dsimp only at hw3 hv3 ⊢
     try dsimp only
     refine Qc (k:=Qx 2 9 (k:=Qx 3 9 (k:=Vv (k:=Wq (Zi (t:=fun h80 => ?_) (f:=fun h80 => ?_))))))
     ·
      refine Zr (k:=Vv (k:=Zm [_, _, _, _] (k:=Zv [_] (cs := [_, _, _, _]) (k:=fun b83 => ?_))))
      refine r_append1 (sz := 4) (bytes := 64) Tryz.underlying34 ti39 rfl rfl rfl rfl rfl rfl rfl (by rfl) (by rfl) (by omega) (by simp only [maxLen]; omega) rfl (fun a84 c84 => ?_)
      refine Vv (k:=Wn (Yb ?_))
      exact zb60next0
     ·
      refine Zk (k:=Yb ?_)
      exact zb60next0
    ·
     refine Za (k:=Dw [Ce b6 39 [vS [], vS (dN ol wl), vS (dO ol wl), vS []], SlI wa2 (wl.flatMap flCells)] (k:=?_))
     refine Dv 0 (k:=Dv 1 (k:=Dv 2 (k:=Dv 3 (k:=Gd 3 (t:=fun h51 => ?_) (f:=fun h51 => ?_)))))
     ·
      refine Di 4 (t:=U1 (h:=Uv)) (k:=Di 5 (t:=U1 (h:=Uv)) (k:=Di 6 (t:=U1 (h:=Uv)) (k:=Gd 6 (t:=fun h54 => ?_) (f:=fun h54 => ?_))))
      ·
       refine D1 7 (k:=D1 8 (k:=D1 9 (k:=D1 10 (k:=D1 11 (k:=D1 12 (k:=D1 13 (k:=Di 14 (t:=U1 (h:=UP1)) (k:=DP1 15 (k:=Dd (k:=Ya (Z1 (k:=?_))))))))))))
       refine Za (k:=Dw [SlI wa2 (wl.flatMap flCells)] (k:=?_))
       refine Dv 0 (k:=?_)
       refine d_first 1 rfl rfl rfl (by kernel_rfl) (by kernel_rfl) (tl_elemAddr (m := 0) (sz := 2) Tryz.underlying26 ti25 rfl rfl rfl rfl (by omega) (by omega) rfl) ?_
       refine d_first 2 rfl rfl rfl (by kernel_rfl) (by kernel_rfl) (tl_efield (o := 0) Tryz.underlying25 rfl ti9 rfl rfl rfl rfl (by omega)) ?_
       refine d_first 3 rfl rfl rfl (by kernel_rfl) (by kernel_rfl) (tl_eload Tryz.underlying9 rfl rfl (fl_hd (by omega)).1) ?_
       refine Dv 4 (k:=?_)
       refine d_first 5 rfl rfl rfl (by kernel_rfl) (by kernel_rfl) (tl_elemAddr (m := 0) (sz := 2) Tryz.underlying26 ti25 rfl rfl rfl rfl (by omega) (by omega) rfl) ?_
       refine d_first 6 rfl rfl rfl (by kernel_rfl) (by kernel_rfl) (tl_efield (o := 1) Tryz.underlying25 rfl ti9 rfl rfl rfl rfl (by omega)) ?_
       refine d_first 7 rfl rfl rfl (by kernel_rfl) (by kernel_rfl) (tl_eload Tryz.underlying9 rfl rfl (fl_hd (by omega)).2) ?_
       refine Di 8 (t:=Uf 1 9) (k:=Dn 9 (k:=No (k:=Di 10 (t:=Uf 3 9) (k:=Dn 11 (k:=No (k:=Dd (k:=Ya (Zr (k:=Vv (k:=?_))))))))))
       refine wo_pv (pv_slslice_froma (m := 1) (kk := 2) Tryz.underlying26 ti25 rfl rfl rfl rfl rfl (by omega) (by omega) k4) rfl ?_
       refine Vv (k:=Wn ?_)
       exact zb60join11
      ·
       refine Di 7 (t:=U0 (h:=Uf 1 9)) (k:=Di 8 (t:=U0 (h:=Ul)) (k:=Di 9 (t:=U0 (h:=Uv)) (k:=?_)))
       refine d_first 10 rfl rfl rfl (by kernel_rfl) (by kernel_rfl) (tl_in (b := false) rfl (tl_elemAddr (m := 0) (sz := 2) Tryz.underlying26 ti25 rfl rfl rfl rfl (by omega) (by omega) rfl)) ?_
       refine d_first 11 rfl rfl rfl (by kernel_rfl) (by kernel_rfl) (tl_in (b := false) rfl (tl_efield (o := 0) Tryz.underlying25 rfl ti9 rfl rfl rfl rfl (by omega))) ?_
       refine d_first 12 rfl rfl rfl (by kernel_rfl) (by kernel_rfl) (tl_in (b := false) rfl (tl_eload Tryz.underlying9 rfl rfl (fl_hd (by omega)).1)) ?_
       refine Di 13 (t:=U0 (h:=Uv)) (k:=Di 14 (t:=U1 (h:=UP0)) (k:=DP1 15 (k:=Dd (k:=Ya (Zi (t:=fun h63 => ?_) (f:=fun h63 => ?_))))))
       ·
        refine Za (k:=Dw [SlI wa2 (wl.flatMap flCells)] (k:=?_))
        refine Dv 0 (k:=?_)
        refine d_first 1 rfl rfl rfl (by kernel_rfl) (by kernel_rfl) (tl_elemAddr (m := 0) (sz := 2) Tryz.underlying26 ti25 rfl rfl rfl rfl (by omega) (by omega) rfl) ?_
        refine d_first 2 rfl rfl rfl (by kernel_rfl) (by kernel_rfl) (tl_efield (o := 0) Tryz.underlying25 rfl ti9 rfl rfl rfl rfl (by omega)) ?_
        refine d_first 3 rfl rfl rfl (by kernel_rfl) (by kernel_rfl) (tl_eload Tryz.underlying9 rfl rfl (fl_hd (by omega)).1) ?_
        refine Dv 4 (k:=?_)
        refine d_first 5 rfl rfl rfl (by kernel_rfl) (by kernel_rfl) (tl_elemAddr (m := 0) (sz := 2) Tryz.underlying26 ti25 rfl rfl rfl rfl (by omega) (by omega) rfl) ?_
        refine d_first 6 rfl rfl rfl (by kernel_rfl) (by kernel_rfl) (tl_efield (o := 1) Tryz.underlying25 rfl ti9 rfl rfl rfl rfl (by omega)) ?_
        refine d_first 7 rfl rfl rfl (by kernel_rfl) (by kernel_rfl) (tl_eload Tryz.underlying9 rfl rfl (fl_hd (by omega)).2) ?_
        refine Di 8 (t:=Uf 1 9) (k:=Dn 9 (k:=No (k:=Di 10 (t:=Uf 3 9) (k:=Dn 11 (k:=No (k:=Dd (k:=Ya (Zr (k:=Vv (k:=?_))))))))))
        refine wo_pv (pv_slslice_froma (m := 1) (kk := 2) Tryz.underlying26 ti25 rfl rfl rfl rfl rfl (by omega) (by omega) k4) rfl ?_
        refine Vv (k:=Wn ?_)
        exact zb60join11
       ·
        refine Zk (k:=?_)
        exact zb60join11
     ·
      refine D0 4 (k:=D0 5 (k:=D0 6 (k:=Di 7 (t:=Uu) (k:=Di 8 (t:=Uu) (k:=Di 9 (t:=Uu) (k:=Di 10 (t:=Uu) (k:=Di 11 (t:=Uu) (k:=Di 12 (t:=Uu) (k:=Di 13 (t:=Uu) (k:=D0 14 (k:=DP0 15 (k:=?_))))))))))))
      refine Dd (k:=Ya (Z0 (k:=Zk (k:=?_))))
      exact zb60join11
   ·
    refine Qc (k:=Vv (k:=Wq (Zi (t:=fun h35 => ?_) (f:=fun h35 => ?_))))
    ·
     refine Za (k:=?_)
     have hpo1 := hpo (by assumption)
     refine Dw [SlI oa2 (ol.flatMap flCells)] (k:=?_)
     refine Dv 0 (k:=?_)
     refine d_first 1 rfl rfl rfl (by kernel_rfl) (by kernel_rfl) (tl_elemAddr (m := 0) (sz := 2) Tryz.underlying26 ti25 rfl rfl rfl rfl (by omega) (by omega) rfl) ?_
     refine d_first 2 rfl rfl rfl (by kernel_rfl) (by kernel_rfl) (tl_efield (o := 0) Tryz.underlying25 rfl ti9 rfl rfl rfl rfl (by omega)) ?_
     refine d_first 3 rfl rfl rfl (by kernel_rfl) (by kernel_rfl) (tl_eload Tryz.underlying9 rfl rfl (fl_hd (by omega)).1) ?_
     refine Dv 4 (k:=?_)
     refine d_first 5 rfl rfl rfl (by kernel_rfl) (by kernel_rfl) (tl_elemAddr (m := 0) (sz := 2) Tryz.underlying26 ti25 rfl rfl rfl rfl (by omega) (by omega) rfl) ?_
     refine d_first 6 rfl rfl rfl (by kernel_rfl) (by kernel_rfl) (tl_efield (o := 1) Tryz.underlying25 rfl ti9 rfl rfl rfl rfl (by omega)) ?_
     refine d_first 7 rfl rfl rfl (by kernel_rfl) (by kernel_rfl) (tl_eload Tryz.underlying9 rfl rfl (fl_hd (by omega)).2) ?_
     refine Di 8 (t:=Uf 1 9) (k:=Dn 9 (k:=No (k:=Di 10 (t:=Uf 2 9) (k:=Dn 11 (k:=No (k:=Dd (k:=Ya (Zr (k:=Vv (k:=?_))))))))))
     refine wo_pv (pv_slslice_froma (m := 1) (kk := 2) Tryz.underlying26 ti25 rfl rfl rfl rfl rfl (by omega) (by omega) k3) rfl ?_
     refine Vv (k:=Wn ?_)
     exact zb60join8
    ·
     refine Zk (k:=?_)
     exact zb60join8
  ·
   refine Dw [SlI oa2 (ol.flatMap flCells), SlI wa2 (wl.flatMap flCells)] (k:=?_)
   refine Dv 0 (k:=Dv 1 (k:=Dv 2 (k:=Dv 3 (k:=Gd 3 (t:=fun h19 => ?_) (f:=fun h19 => ?_)))))
   ·
    refine D1 4 (k:=D1 5 (k:=D1 6 (k:=D1 7 (k:=Di 8 (t:=Uu) (k:=Di 9 (t:=Uu) (k:=Di 10 (t:=Uu) (k:=Di 11 (t:=Uu) (k:=Di 12 (t:=Uu) (k:=Di 13 (t:=Uu) (k:=Di 14 (t:=Uu) (k:=Di 15 (t:=Uu) (k:=?_))))))))))))
    refine Di 16 (t:=Uu) (k:=D1 17 (k:=DP1 18 (k:=Dv 19 (k:=Dd (k:=?_)))))
    exact zb60join5
   ·
    refine Di 4 (t:=U0 (h:=Uv)) (k:=Di 5 (t:=U0 (h:=Uv)) (k:=Di 6 (t:=U0 (h:=Uv)) (k:=Di 7 (t:=U0 (h:=Uv)) (k:=Gd 7 (t:=fun h23 => ?_) (f:=fun h23 => ?_)))))
    ·
     refine Di 8 (t:=U1 (h:=Uv)) (k:=?_)
     refine d_first 9 rfl rfl rfl (by kernel_rfl) (by kernel_rfl) (tl_in (b := true) rfl (tl_elemAddr (m := 0) (sz := 2) Tryz.underlying26 ti25 rfl rfl rfl rfl (by omega) (by omega) rfl)) ?_
     refine d_first 10 rfl rfl rfl (by kernel_rfl) (by kernel_rfl) (tl_in (b := true) rfl (tl_efield (o := 0) Tryz.underlying25 rfl ti9 rfl rfl rfl rfl (by omega))) ?_
     refine d_first 11 rfl rfl rfl (by kernel_rfl) (by kernel_rfl) (tl_in (b := true) rfl (tl_eload Tryz.underlying9 rfl rfl (fl_hd (by omega)).1)) ?_
     refine Di 12 (t:=U1 (h:=Uv)) (k:=?_)
     refine d_first 13 rfl rfl rfl (by kernel_rfl) (by kernel_rfl) (tl_in (b := true) rfl (tl_elemAddr (m := 0) (sz := 2) Tryz.underlying26 ti25 rfl rfl rfl rfl (by omega) (by omega) rfl)) ?_
     refine d_first 14 rfl rfl rfl (by kernel_rfl) (by kernel_rfl) (tl_in (b := true) rfl (tl_efield (o := 0) Tryz.underlying25 rfl ti9 rfl rfl rfl rfl (by omega))) ?_
     refine d_first 15 rfl rfl rfl (by kernel_rfl) (by kernel_rfl) (tl_in (b := true) rfl (tl_eload Tryz.underlying9 rfl rfl (fl_hd (by omega)).1)) ?_
     refine Di 16 (t:=U1 (h:=Uv)) (k:=Di 17 (t:=U0 (h:=UP1)) (k:=DP0 18 (k:=Dv 19 (k:=Dd (k:=?_)))))
     exact zb60join5
    ·
     refine D0 8 (k:=D0 9 (k:=D0 10 (k:=D0 11 (k:=D0 12 (k:=D0 13 (k:=D0 14 (k:=D0 15 (k:=D0 16 (k:=Di 17 (t:=U0 (h:=UP0)) (k:=DP0 18 (k:=Dv 19 (k:=?_))))))))))))
     refine Dd (k:=?_)
     exact zb60join5
 ·
  refine Qc (k:=Qv (k:=Qv (k:=Gi 3 (t:=fun h11 => ?_) (f:=fun h11 => ?_))))
  ·
   refine O1 (k:=O1 (k:=O1 (k:=P1 (k:=Wq (Z1 (k:=Zk (k:=?_)))))))
   exact to_inv ⟨(), by omega⟩ trivial ⟨rfl, rfl, rfl, trivial⟩ ent_pick
  ·
   refine J0 (k:=J0 (k:=J0 (k:=P0 (k:=Wq (Zi (t:=fun h15 => ?_) (f:=fun h15 => ?_))))))
   ·
    refine Zk (k:=?_)
    exact to_inv ⟨(), by omega⟩ trivial ⟨rfl, rfl, rfl, trivial⟩ ent_pick
   ·
    refine Ze (k:=Xi (Xi (Xb (Ya (Qc (k:=Qv (k:=Wq (Zt (k:=?_)))))))))
    rw [diff_nil k ⟨by omega, by omega⟩, List.append_nil] at k6
    subst k6
    exact fin_ret (ma, mc) (vs := [_]) (Cs := []) rfl (.tmp rfl .nil) rfl trivial ent_pick
end
end Go.Proofs.YtdnoacgopfcpbaaGreat
