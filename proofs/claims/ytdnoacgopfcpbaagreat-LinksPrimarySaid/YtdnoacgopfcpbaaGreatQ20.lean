/- Texts of this proof, put together: SR17b, KeepOf, SR10l, SBook, PKeep, PKeep2, SKeep3, PKeep3, PKind, PCtl, KaV, PLin, PDiff, Cmps, SortK, Sorts, SLinks3. -/
import Derived.Shelf.SlSortCmp.WholeK
import Derived.Ground.SlsfProg
import Derived.Test.YtdnoacgopfcpbaaGreatQ19
set_option linter.unusedVariables false
set_option linter.unusedSimpArgs false
namespace Go.Proofs.YtdnoacgopfcpbaaGreat
section
set_option maxRecDepth 100000
structure CkR where
 done : List Bs
 l : List Bs
 a : Option Addr
 c : Nat
structure CkR.Ok (H : Ks) (x : CkR) : Prop where
 so : x.l.Pairwise (· < ·)
 mem : ∀ n, n ∈ x.l ↔ n ∈ x.done ∧ (readK (getB H n)).isSome = true
 le : x.l.length ≤ x.done.length
end
/-- A list of whole numbers in memory. -/
structure IntsV where
 a : Option Addr
 c : Nat
 l : List Int
def IntsV.cell (x : IntsV) : Value := .slice x.a x.l.length x.c
def IntsV.ok (w : World) (x : IntsV) : Prop := x.l.length ≤ 9223372036854775807 ∧ At w (SlI x.a (x.l.map vI))
section
set_option maxRecDepth 100000
theorem isN_40 {s : Bs} (h : isN s = true) : s.length ≤ 40 := by rw [isN_len h]; omega
end
section
set_option maxRecDepth 100000
def withinI (n lo hi : Int) : Int := lo + n % (hi - lo + 1)
theorem withinI_in {n lo hi : Int} (h : lo ≤ hi) : lo ≤ withinI n lo hi ∧ withinI n lo hi ≤ hi := by
 have h1 := Int.emod_nonneg n (show hi - lo + 1 ≠ 0 by omega)
 have h2 := Int.emod_lt_of_pos n (show 0 < hi - lo + 1 by omega)
 unfold withinI; omega
theorem tmod_cases (n m : Int) (hm : 1 ≤ m) : (0 ≤ n.tmod m ∧ n.tmod m = n % m ∨ n.tmod m < 0 ∧ n.tmod m + m = n % m) ∧ -m < n.tmod m ∧ n.tmod m < m := by
 have e1 := Int.emod_nonneg n (show m ≠ 0 by omega)
 have e2 := Int.emod_lt_of_pos n (show 0 < m by omega)
 have hd := Int.emod_emod_of_dvd n (Int.dvd_refl m)
 rcases Int.lt_or_le n 0 with h | h
 · have h2 : n.tmod m = -((-n) % m) := by
     have : n = -(-n) := by omega
     conv => lhs; rw [this]
     rw [Int.neg_tmod, Int.tmod_eq_emod_of_nonneg (by omega)]
   have e3 := Int.emod_nonneg (-n) (show m ≠ 0 by omega)
   have e4 := Int.emod_lt_of_pos (-n) (show 0 < m by omega)
   have hs : (n % m + (-n) % m) % m = 0 := by
    rw [← Int.add_emod, Int.add_right_neg, Int.zero_emod]
   by_cases hz : (-n) % m = 0
   · have : n % m = 0 := by
       rw [hz, Int.add_zero, Int.emod_emod_of_dvd n (Int.dvd_refl m)] at hs; exact hs
     rw [h2, hz, this]; omega
   · have hsum : n % m + (-n) % m = m := by
       have hpos : 0 < n % m + (-n) % m := by omega
       have hlt : n % m + (-n) % m < m + m := by omega
       have hge : m ≤ n % m + (-n) % m := by
        apply Classical.byContradiction; intro hc
        rw [Int.emod_eq_of_lt (by omega) (by omega)] at hs
        omega
       have : (n % m + (-n) % m - m) % m = 0 := by rw [Int.sub_emod, hs]; simp
       rw [Int.emod_eq_of_lt (by omega) (by omega)] at this
       omega
     rw [h2]; omega
 · rw [Int.tmod_eq_emod_of_nonneg h]; omega
theorem zb26ret {G : Prop} (h : G := by exact fin_ret () (vs := [_]) rfl (.tmp rfl .nil) (by rw [hw]; exact congrArg vI (by omega)) trivial ent_nil) : G := h
theorem book_Within_sp (n lo hi : Int) (h1 : -1099511627776 ≤ lo) (h2 : lo ≤ hi) (h3 : hi ≤ 1099511627776) : SpF Tryz.prog 26 [vI n, vI lo, vI hi] (vI (withinI n lo hi)) := by
 have hc := tmod_cases n (hi - lo + 1) (by omega)
 have hw : withinI n lo hi = lo + n % (hi - lo + 1) := rfl
 refine Sp.body (n := 24) Tryz.call26 Tryz.func26 rfl rfl rfl ?_
 refine Qc (k:=Vv (k:=Wq (Qc (k:=Qv (k:=Qv (k:=Vv (k:=?_)))))))
 refine wo_pv (pv_remt rfl rfl (by omega)) rfl ?_
 refine Vv (k:=Wq (Za (k:=Qc (k:=Qv (k:=Wq (Zi (t:=fun h14 => ?_) (f:=fun h14 => ?_)))))))
 ·
  refine Zr (k:=Qv (k:=Qv (k:=Qv (k:=Vv (k:=Wq (Qc (k:=Vv (k:=?_))))))))
  refine Qv (k:=Vv (k:=Wq (Zt (k:=?_))))
  exact zb26ret
 ·
  refine Zk (k:=Ya (Qc (k:=Qv (k:=Qv (k:=Wq (Zt (k:=?_)))))))
  exact zb26ret
end
def piecesL : List Bs := ["line one\n".toUTF8.data.toList, "the second line is longer\n".toUTF8.data.toList, "x".toUTF8.data.toList, "0;".toUTF8.data.toList, "abcabcabc".toUTF8.data.toList, "\n".toUTF8.data.toList, "3:xyz".toUTF8.data.toList, "tail of it all".toUTF8.data.toList]
def beginL : List Bs := ["".toUTF8.data.toList, "a common beginning of some texts, long enough for deltas between these; ".toUTF8.data.toList, "another beginning, of other texts, as long as the first one is, or a bit longer; ".toUTF8.data.toList]
def wordsL : List Bs := ["a".toUTF8.data.toList, "branch".toUTF8.data.toList, "c.txt".toUTF8.data.toList, "d/e".toUTF8.data.toList, "rel-1".toUTF8.data.toList, "zz".toUTF8.data.toList]
def pieceI (b x : Int) : Bs := piecesL.getD (withinI (IntKind.i64.wrap (x + bits .and .i64 b 1)) 0 7).toNat []
def textF (b : Int) : List Int → Bs → Bs
 | [], out => out
 | x :: r, out => if out.length < 170 then textF b r (out ++ pieceI b x) else out
def textB (b : Int) (l : List Int) : Bs := textF b l []
def longB (b : Int) (l : List Int) (n : Int) : Bs := beginL.getD (withinI n 0 2).toNat [] ++ (textB b l).take 160
def contB (n : Int) : Bs := longB 0 [withinI n 0 15, withinI n 0 15 / 2, withinI n 0 15 / 4] (withinI n 0 15 % 3)
def nameB (n : Int) : Bs := shaB (contB n)
theorem longB_len (b : Int) (l : List Int) (n : Int) : (longB b l n).length ≤ 300 := by
 unfold longB
 have h1 : ∀ p ∈ beginL, p.length ≤ 90 := by decide
 have h2 : (beginL.getD (withinI n 0 2).toNat []).length ≤ 90 := by
  by_cases h : (withinI n 0 2).toNat < beginL.length
  · exact h1 _ (by simp [h])
  · simp [h]
 rw [List.length_append, List.length_take]; omega
theorem contB_len (n : Int) : (contB n).length ≤ 300 := longB_len _ _ _
theorem isN_name (n : Int) : isN (nameB n) = true := decide_eq_true ⟨shaB_len _, shaB_mem _⟩
/-- Where a tag of the keeper's points to. -/
abbrev TgtOk (own : Bool) (t : Bs) : Prop := (own = true → t = [42]) ∧ (own = false → ∃ n, t = nameB n)
structure KTag (own : Bool) (t : Tg) : Prop where
 kind : t.kind.toNat = 43 ∨ t.kind.toNat = 42 ∨ (t.kind.toNat = 45 ∧ t.value = [])
 val : t.value.length ≤ 12
 tgt : TgtOk own t.target
structure KTags (own : Bool) (j : Nat) (l : List Tg) : Prop where
 len : l.length ≤ 3
 tag : ∀ t ∈ l, KTag own t
 name : ∀ t ∈ l, ∃ i, i < j ∧ t.name = wordsL.getD i []
 rise : l.Pairwise (fun x y => blt x.name y.name = true)
theorem words_ok : ∀ i, i < 6 → wordP (wordsL.getD i []) ∧ (wordsL.getD i []).length ≤ 10 := by
 have : ∀ i : Fin 6, wordP (wordsL.getD i.1 []) ∧ (wordsL.getD i.1 []).length ≤ 10 := by decide
 exact fun i h => this ⟨i, h⟩
theorem KTags.more {own : Bool} {j : Nat} {l : List Tg} (h : KTags own j l) : KTags own (j + 1) l := ⟨h.len, h.tag, fun t ht => by obtain ⟨i, hi, e⟩ := h.name t ht; exact ⟨i, by omega, e⟩, h.rise⟩
theorem blt_irr (a : Bs) : blt a a = false := by
 rw [blt_eq, decide_eq_false_iff_not]; exact List.lt_irrefl a
theorem KTags.right {own : Bool} {l : List Tg} (h : KTags own 6 l) : RightT own l := by
 refine ⟨fun i hi => ?_, by have := h.len; omega⟩
 have e : l.getD i tg0 = l[i] := by simp [hi]
 have hm : l[i] ∈ l := List.getElem_mem hi
 have hk := h.tag _ hm
 obtain ⟨w, hw, hn⟩ := h.name _ hm
 refine ⟨by rw [e]; exact hk.kind, by rw [e, hn]; exact (words_ok w hw).1, by rw [e]; exact hk.val, by rw [e]; exact ⟨hk.tgt.1, fun o => by obtain ⟨n, e⟩ := hk.tgt.2 o; rw [e]; exact isN_name n⟩, fun h0 => ?_⟩
 have e2 : l.getD (i - 1) tg0 = l[i - 1] := by simp [show i - 1 < l.length by omega]
 have hr := List.pairwise_iff_getElem.1 h.rise (i - 1) i (by omega) hi (by omega)
 rw [e, e2]
 exact ⟨.inl hr, fun e3 => by rw [e3, blt_irr] at hr; cases hr⟩
theorem KTags.z {own : Bool} {j : Nat} {l : List Tg} (h : KTags own j l) (hj : j ≤ 6) : TgZ l := ⟨by have := h.len; omega, fun t ht => by
 obtain ⟨w, hw, hn⟩ := h.name t ht
 have h1 := (words_ok w (by omega)).2
 have h2 := (h.tag t ht).val
 have h3 : t.target.length ≤ 40 := by
  cases own with
  | true => rw [(h.tag t ht).tgt.1 rfl]; simp
  | false => obtain ⟨n, e⟩ := (h.tag t ht).tgt.2 rfl; rw [e]; exact isN_40 (isN_name n)
 rw [hn]; omega⟩
section
set_option maxRecDepth 100000
/-- A control of the keeper. -/
structure KCt (c : Ct) : Prop where
 right : RightCt c
 tgt : ∀ t ∈ c.tags, ∃ n, t.target = nameB n
 z : TgZ c.tags
theorem KTags.ct {d : Int} {w : Bs} {ts : List Tg} (h : KTags false 6 ts) (hd : 0 ≤ d ∧ d ≤ 9) (hw : wordP w) (h0 : 0 < ts.length) : KCt ⟨d, ts, w⟩ :=
 ⟨⟨by dsimp only; omega, h0, h.right, hw⟩, fun t ht => (h.tag t ht).tgt.2 rfl, h.z (Nat.le_refl _)⟩
theorem KTags.one (n : Int) : KTags false 6 [⟨43, "a".toUTF8.data.toList, nameB n, []⟩] := by
 refine ⟨by simp, ?_, ?_, List.pairwise_singleton _ _⟩
 · intro t ht
   rw [List.mem_singleton.1 ht]
   exact ⟨.inl rfl, Nat.zero_le _, ⟨(fun h => by cases h), fun _ => ⟨n, rfl⟩⟩⟩
 · intro t ht
   rw [List.mem_singleton.1 ht]
   exact ⟨0, by omega, rfl⟩
end
section
section
variable {P : Program} {n : Nat} {L : Loc} {ty : TypeId}
end
structure KFiles (whole : Bool) (j : Nat) (l : List (Bs × Bs)) : Prop where
 len : l.length ≤ 2
 hash : ∀ f ∈ l, (∃ n, f.2 = nameB n) ∨ (whole = false ∧ f.2 = [])
 name : ∀ f ∈ l, ∃ i, i < j ∧ f.1 = wordsL.getD i []
 rise : l.Pairwise (fun x y => blt x.1 y.1 = true)
theorem KFiles.more {own : Bool} {j : Nat} {l : List (Bs × Bs)} (h : KFiles own j l) : KFiles own (j + 1) l := ⟨h.len, h.hash, fun t ht => by obtain ⟨i, hi, e⟩ := h.name t ht; exact ⟨i, by omega, e⟩, h.rise⟩
theorem KFiles.right {w : Bool} {l : List (Bs × Bs)} (h : KFiles w 6 l) : RightF w l := by
 refine ⟨fun i hi => ?_, by have := h.len; omega⟩
 have e : l.getD i ([], []) = l[i] := by simp [hi]
 have hm : l[i] ∈ l := List.getElem_mem hi
 obtain ⟨k, hk, hn⟩ := h.name _ hm
 refine ⟨by rw [e, hn]; exact (words_ok k hk).1, fun h0 => ?_, ?_⟩
 · have e2 : l.getD (i - 1) ([], []) = l[i - 1] := by simp [show i - 1 < l.length by omega]
   rw [e, e2]
   exact List.pairwise_iff_getElem.1 h.rise (i - 1) i (by omega) hi (by omega)
 · rw [e]
   rcases h.hash _ hm with ⟨n, e2⟩ | ⟨h1, h2⟩
   · left; rw [e2]; exact isN_name n
   · right; exact ⟨h1, h2⟩
structure KPars (j : Nat) (l : List Bs) : Prop where
 len : l.length ≤ j
 all : ∀ p ∈ l, ∃ n, p = nameB n
 two : l.Nodup
theorem KPars.right {j : Nat} {l : List Bs} (h : KPars j l) (hj : j ≤ 2) : RightP l 3 := by
 refine ⟨fun i hi => ?_, by have := h.len; omega⟩
 have e : l.getD i [] = l[i] := by simp [hi]
 rw [e]
 obtain ⟨n, hn⟩ := h.all _ (List.getElem_mem hi)
 refine ⟨by rw [hn]; exact isN_name n, fun hm => ?_⟩
 obtain ⟨k, hk, ek⟩ := List.getElem_of_mem hm
 rw [List.getElem_take] at ek
 have hki : k < i := by rw [List.length_take] at hk; omega
 exact absurd ek ((List.pairwise_iff_getElem.1 h.two) k i (by omega) hi hki)
/-- A check-in of the keeper. -/
structure KCk (c : Ck) : Prop where
 right : RightK c
 base : c.base = [] ∨ ∃ n, c.base = nameB n
 files : ∀ f ∈ c.files, f.2 = [] ∨ ∃ n, f.2 = nameB n
 pars : ∀ p ∈ c.parents, ∃ n, p = nameB n
 z : CkZ c
theorem KCk.mk' {base com user : Bs} {date : Int} {fs : List (Bs × Bs)} {ps : List Bs} {ts : List Tg} (hb : base = [] ∨ ∃ n, base = nameB n) (hc : com.length ≤ 12) (hd : 0 ≤ date ∧ date ≤ 9) (hu : wordP user ∧ user.length ≤ 3)
    (hf : KFiles (decide (base = [])) 6 fs) (hp : KPars 2 ps) (ht : KTags true 6 ts) : KCk ⟨base, com, date, fs, ps, ts, user⟩ := by
 refine ⟨⟨?_, by dsimp only; omega, by dsimp only; omega, hf.right, hp.right (Nat.le_refl _), ht.right, hu.1⟩, hb, fun f h => ?_, hp.all, ?_⟩
 · rcases hb with h | ⟨n, h⟩
   · exact .inl h
   · right; dsimp only; rw [h]; exact isN_name n
 · rcases hf.hash f h with h | h
   · exact .inr h
   · exact .inl h.2
 · have h40 : ∀ n, (nameB n).length = 40 := fun n => shaB_len _
   refine ⟨?_, by dsimp only; omega, by dsimp only; omega, by have := hf.len; dsimp only; omega, fun f h => ?_, by have := hp.len; dsimp only; omega, fun p h => ?_, ht.z (Nat.le_refl _)⟩
   · rcases hb with h | ⟨n, h⟩
     · dsimp only; rw [h]; exact Nat.zero_le _
     · dsimp only; rw [h, h40]; omega
   · obtain ⟨k, hk, hn⟩ := hf.name f h
     have h1 := (words_ok k hk).2
     rw [← hn] at h1
     refine ⟨by omega, ?_⟩
     rcases hf.hash f h with ⟨n, h⟩ | h
     · rw [h, h40]; omega
     · rw [h.2]; exact Nat.zero_le _
   · obtain ⟨n, h⟩ := hp.all p h
     rw [h, h40]; omega
end
section
set_option maxRecDepth 1000000
theorem noZ_readC {s : Bs} (h : (90 : UInt8) ∉ s) : readC s = none := readC_none.2 fun l hl => h (by rw [← hl.2, printB, sealB]; simp)
theorem readC_nk {s : Bs} (h : readC s = none) : readK s = none ∧ readCt s = none ∧ readCl s = none := by
 refine ⟨the_none fun c hc => ?_, the_none fun c hc => ?_, the_none fun c hc => ?_⟩ <;> (rw [readC_iff.2 hc.reads] at h; cases h)
end
theorem sorted_right {l : List Bs} (hs : l.Pairwise (· < ·)) (hn : ∀ x ∈ l, isN x = true) (h1 : 1 ≤ l.length) (h2 : l.length ≤ 12) : RightCl l := by
 refine ⟨fun i hi => ?_, h1, h2⟩
 have e : l.getD i [] = l[i] := by simp [hi]
 refine ⟨by rw [e]; exact hn _ (List.getElem_mem hi), fun h0 => ?_⟩
 have e2 : l.getD (i - 1) [] = l[i - 1] := by simp [show i - 1 < l.length by omega]
 rw [e, e2]
 exact (blt_iff _ _).2 (List.pairwise_iff_getElem.1 hs (i - 1) i (by omega) hi (by omega))
structure KaV where
 kind : Int
 n : Int
 base : Int
 d : Int
 u : Int
 tb : Int
 x : IntsV
 f : IntsV
 p : IntsV
 t : IntsV
 v : IntsV
 d2 : Int
 u2 : Int
 t2 : IntsV
 v2 : IntsV
 nm : IntsV
abbrev IntsV.len (q : IntsV) : Nat := q.l.length
def KaV.cells (q : KaV) : List Value := [vI q.kind, vI q.n, vI q.base, vI q.d, vI q.u, vI q.tb, .slice q.x.a q.x.l.length q.x.c, .slice q.f.a q.f.l.length q.f.c, .slice q.p.a q.p.l.length q.p.c, .slice q.t.a q.t.l.length q.t.c, .slice q.v.a q.v.l.length q.v.c, vI q.d2, vI q.u2, .slice q.t2.a q.t2.l.length q.t2.c, .slice q.v2.a q.v2.l.length q.v2.c, .slice q.nm.a q.nm.l.length q.nm.c]
abbrev IntsV.hp (q : IntsV) : HP := SlI q.a (q.l.map vI)
structure KaV.Z (q : KaV) : Prop where
 x : q.x.l.length ≤ 9223372036854775807
 f : q.f.l.length ≤ 9223372036854775807
 p : q.p.l.length ≤ 9223372036854775807
 t : q.t.l.length ≤ 9223372036854775807
 v : q.v.l.length ≤ 9223372036854775807
 t2 : q.t2.l.length ≤ 9223372036854775807
 v2 : q.v2.l.length ≤ 9223372036854775807
 nm : q.nm.l.length ≤ 9223372036854775807
/-- Its slices. -/
abbrev KaV.hs (q : KaV) : List HP := [SlI q.x.a (q.x.l.map vI), SlI q.f.a (q.f.l.map vI), SlI q.p.a (q.p.l.map vI), SlI q.t.a (q.t.l.map vI), SlI q.v.a (q.v.l.map vI), SlI q.t2.a (q.t2.l.map vI), SlI q.v2.a (q.v2.l.map vI), SlI q.nm.a (q.nm.l.map vI)]
/-- What is an artifact of the keeper. -/
inductive ArtK : Bs → Prop
 | text (n : Int) : ArtK (contB n)
 | ck (c : Ck) : KCk c → ArtK (ckB c)
 | ct (c : Ct) : KCt c → ArtK (ctB c)
 | cl (l : List Bs) : l.Pairwise (· < ·) → (∀ x ∈ l, ∃ n, x = nameB n) → 1 ≤ l.length → l.length ≤ 4 → ArtK (clB l)
theorem ArtK.small {s : Bs} (h : ArtK s) : s.length ≤ 20000 := by
 cases h with
 | text n => have := contB_len n; omega
 | ck c k => have := ck_small k.right; rw [ckB, printB, sealB_len]; omega
 | ct c k => have := ct_small k.right; rw [ctB, printB, sealB_len]; omega
 | cl l h1 h2 h3 h4 =>
   have := cl_small (sorted_right h1 (fun x hx => by obtain ⟨n, rfl⟩ := h2 x hx; exact isN_name n) h3 (by omega))
   rw [clB, printB, sealB_len]; omega
/-- What comes of turning lines. -/
structure LinP (l l' : List Cd) : Prop where
 ok : ∀ c ∈ l', 65 ≤ c.l.toNat ∧ (∀ a ∈ c.args, argOk a ∧ ((∃ b ∈ l, a ∈ b.args) ∨ isN a = false)) ∧ (cardB c).length ≤ 400
 n : l'.length ≤ 400
theorem LinP.small {l l' : List Cd} (h : LinP l l') : (bodyB l').length ≤ 160000 := by
 have h1 := body_bound (k := 400) (fun c hc => (h.ok c hc).2.2)
 have h2 := h.n
 have := Nat.mul_le_mul_left 400 h2
 omega
theorem LinP.sub {l l1 l2 : List Cd} (h : LinP l l1) (hs : ∀ c ∈ l2, c ∈ l1) (hn : l2.length ≤ 400) : LinP l l2 := ⟨fun c hc => h.ok c (hs c hc), hn⟩
theorem card_le {l : List Cd} {c : Cd} (h : c ∈ l) : (cardB c).length ≤ (bodyB l).length := by
 induction l with
 | nil => cases h
 | cons x l ih =>
   have e : bodyB (x :: l) = cardB x ++ bodyB l := by simp [bodyB]
   rw [e, List.length_append]
   rcases List.mem_cons.1 h with e | e
   · rw [e]; omega
   · have := ih e; omega
theorem LinP.start {s : Bs} {l : List Cd} (h : readC s = some l) (hs : s.length ≤ 300) : LinP l l ∧ l.length ≤ 300 ∧ (∀ c ∈ l, (cardB c).length ≤ 300) := by
 have hr := readC_iff.1 h
 have hb := congrArg List.length hr.2
 rw [printB, sealB_len] at hb
 have h1 := (bodyB_args l).1
 have h2 : ∀ c ∈ l, (cardB c).length ≤ 300 := fun c hc => by have := card_le hc; omega
 refine ⟨⟨fun c hc => ⟨(hr.1.both c hc).1, fun a ha => ⟨(hr.1.both c hc).2 a ha, .inl ⟨c, hc, ha⟩⟩, by have := h2 c hc; omega⟩, by omega⟩, by omega, h2⟩
theorem wB_no {raw : Bs} : (∀ d ∈ (119 :: escB raw), d.toNat ≠ 32 ∧ d.toNat ≠ 10) ∧ (∀ d ∈ escB raw ++ [119], d.toNat ≠ 32 ∧ d.toNat ≠ 10) := by
 have h := escB_ok raw
 constructor
 · intro d hd
   rcases List.mem_cons.1 hd with e | e
   · rw [e]; decide
   · exact h d e
 · intro d hd
   rcases List.mem_append.1 hd with e | e
   · exact h d e
   · rw [List.mem_singleton.1 e]; decide
theorem w_not {a : Bs} (h : (119 : UInt8) ∈ a) : isN a = false := by
 rw [isN, decide_eq_false_iff_not]
 intro ⟨_, h2⟩
 exact absurd (h2 _ h) (by decide)
theorem argB_snoc (xs : List Bs) (a : Bs) (x : UInt8) : (cardB ⟨x, xs ++ [a]⟩).length = (cardB ⟨x, xs⟩).length + a.length + 1 := by
 simp [cardB, lineB, argsB]; omega
theorem LinP.set {l l1 : List Cd} (h : LinP l l1) {i : Nat} {c : Cd} (hc : 65 ≤ c.l.toNat ∧ (∀ a ∈ c.args, argOk a ∧ ((∃ b ∈ l, a ∈ b.args) ∨ isN a = false)) ∧ (cardB c).length ≤ 400) : LinP l (l1.set i c) := by
 refine ⟨fun x hx => ?_, by rw [List.length_set]; exact h.n⟩
 rcases List.mem_or_eq_of_mem_set hx with e | e
 · exact h.ok x e
 · rw [e]; exact hc
theorem LinP.more {l l1 : List Cd} (h : LinP l l1) {i : Nat} (hi : i < l1.length) (hz : ∀ c ∈ l1, (cardB c).length ≤ 300) {raw : Bs} (hr : raw.length ≤ 5) : LinP l (l1.set i ⟨l1[i].l, l1[i].args ++ [119 :: escB raw]⟩) := by
 have hm := h.ok _ (List.getElem_mem hi)
 have he := (escB_len raw).2
 refine h.set ⟨hm.1, fun a ha => ?_, ?_⟩
 · rcases List.mem_append.1 ha with e | e
   · exact hm.2.1 a e
   · rw [List.mem_singleton.1 e]
     exact ⟨argOk_iff.2 ⟨by simp, wB_no.1⟩, .inr (w_not (by simp))⟩
 · have h3 := hz _ (List.getElem_mem hi)
   rw [argB_snoc, List.length_cons]
   have : (cardB ⟨l1[i].l, l1[i].args⟩) = cardB l1[i] := rfl
   rw [this]; omega
theorem LinP.one {l l1 : List Cd} (h : LinP l l1) {i : Nat} (hi : i < l1.length) {raw : Bs} (hr : raw.length ≤ 5) : LinP l (l1.set i ⟨l1[i].l, [escB raw ++ [119]]⟩) := by
 have hm := h.ok _ (List.getElem_mem hi)
 have he := (escB_len raw).2
 refine h.set ⟨hm.1, fun a ha => ?_, ?_⟩
 · rw [List.mem_singleton.1 ha]
   exact ⟨argOk_iff.2 ⟨by simp, wB_no.2⟩, .inr (w_not (by simp))⟩
 · rw [card1_len, List.length_append, List.length_singleton]; omega
abbrev Fs := List (Bs × Bs)
def hdF (l : Fs) : Bs × Bs := l.headD ([], [])
structure Ml where
 chk : Bs
 name : Bs
 old : Bs
 new : Bs
 deriving DecidableEq
def mlCells (m : Ml) : List Value := [vS m.chk, vS m.name, vS m.old, vS m.new]
/-- Is the next one of the old row? -/
def dW (ol wl : Fs) : Bool := decide (wl.length = 0 ∨ (0 < ol.length ∧ (hdF ol).1 ≤ (hdF wl).1))
def dN (ol wl : Fs) : Bs := if dW ol wl then (hdF ol).1 else []
def dO (ol wl : Fs) : Bs := if dW ol wl then (hdF ol).2 else []
def dOl (ol wl : Fs) : Fs := if dW ol wl then ol.tail else ol
/-- Of the new row, too? -/
def dT (ol wl : Fs) : Bool := decide (0 < wl.length ∧ (dW ol wl = false ∨ dN ol wl = (hdF wl).1))
def dM (ol wl : Fs) : Ml := ⟨[], if dT ol wl then (hdF wl).1 else dN ol wl, dO ol wl, if dT ol wl then (hdF wl).2 else []⟩
def dWl (ol wl : Fs) : Fs := if dT ol wl then wl.tail else wl
def diffK : Nat → Fs → Fs → List Ml
 | 0, _, _ => []
 | k + 1, ol, wl => if ol.length = 0 ∧ wl.length = 0 then [] else (if (dM ol wl).old = (dM ol wl).new then [] else [dM ol wl]) ++ diffK k (dOl ol wl) (dWl ol wl)
def diffF (ol wl : Fs) : List Ml := diffK (ol.length + wl.length) ol wl
theorem diffK_len : ∀ (k : Nat) (ol wl : Fs), (diffK k ol wl).length ≤ k := by
 intro k
 induction k with
 | zero => intro ol wl; exact Nat.le_refl _
 | succ k ih =>
   intro ol wl
   rw [diffK]
   have := ih (dOl ol wl) (dWl ol wl)
   split
   · exact Nat.zero_le _
   · split <;> simp <;> omega
theorem dW_own {ol wl : Fs} (h : dW ol wl = true) (h2 : ¬ (ol.length = 0 ∧ wl.length = 0)) : 0 < ol.length := by
 have := of_decide_eq_true h
 omega
theorem dT_own {ol wl : Fs} (h : dT ol wl = true) : 0 < wl.length := (of_decide_eq_true h).1
theorem d_less {ol wl : Fs} (h : ¬ (ol.length = 0 ∧ wl.length = 0)) : (dOl ol wl).length + (dWl ol wl).length < ol.length + wl.length := by
 unfold dOl dWl
 cases hw : dW ol wl with
 | true =>
   have := dW_own hw h
   rw [if_pos rfl, List.length_tail]
   split
   · rw [List.length_tail]; omega
   · omega
 | false =>
   have h1 : ¬ (wl.length = 0 ∨ (0 < ol.length ∧ (hdF ol).1 ≤ (hdF wl).1)) := of_decide_eq_false hw
   have ht : dT ol wl = true := decide_eq_true ⟨by omega, .inl hw⟩
   rw [ht, if_neg (by simp), if_pos rfl, List.length_tail]; omega
theorem diff_step {k : Nat} {ol wl : Fs} (h : ¬ (ol.length = 0 ∧ wl.length = 0)) : diffK (k + 1) ol wl = (if (dM ol wl).old = (dM ol wl).new then [] else [dM ol wl]) ++ diffK k (dOl ol wl) (dWl ol wl) := by rw [diffK, if_neg h]
theorem diff_nil (k : Nat) {ol wl : Fs} (h : ol.length = 0 ∧ wl.length = 0) : diffK k ol wl = [] := by
 cases k with
 | zero => rfl
 | succ k => rw [diffK, if_pos h]
theorem sli_from {a : Option Addr} {sz k c' m kk : Nat} {xs : List Value} {Hs : List HP} (h : Has (SlI a xs) Hs) (hx : xs.length = k * sz) (hk : m * sz = kk) (hm : m ≤ k) (hc : k ≤ c') : Ent Hs (SlI (fromA a m c' kk) (xs.drop kk) :: Hs) := ⟨fun {M g} s => by
 obtain ⟨h1, _, a1⟩ := h.sat s
 refine ⟨Res.emp, g, Res.emp_dj _, rfl, ?_, s⟩
 have a2 : SlIAt a xs M h1 := a1
 by_cases hlt : m < c'
 · rcases a2 with e | ⟨g, off, l, T, fz, e1, e2, e3⟩
   · left; rw [e]; simp
   · refine .inr ⟨g, off + kk, l, T, fz, ?_, e2, ?_⟩
     · rw [fromA, if_pos hlt, e1]; rfl
     · conv => rhs; rw [← e3]
       rw [List.drop_take, List.drop_drop, List.length_drop]
 · left
   have hmk : m = k := by omega
   subst hmk
   rw [← hk, ← hx, List.drop_length]⟩
theorem fl_tail {l : Fs} (h : 0 < l.length) : (l.flatMap flCells).drop 2 = l.tail.flatMap flCells := by
 cases l with
 | nil => cases h
 | cons a r => rfl
theorem fl_len (l : Fs) : (l.flatMap flCells).length = l.length * 2 := by
 induction l with
 | nil => rfl
 | cons a r ih => rw [List.flatMap_cons, List.length_append, ih, List.length_cons]; simp [flCells]; omega
theorem fl_hd {l : Fs} (h : 0 < l.length) : (l.flatMap flCells)[0]? = some (vS (hdF l).1) ∧ (l.flatMap flCells)[1]? = some (vS (hdF l).2) := by
 cases l with
 | nil => cases h
 | cons a r => exact ⟨rfl, rfl⟩
theorem spot_from {a : Option Addr} {m c kk : Nat} (ha : ∀ b, a = some b → b.spot = none) : ∀ b, fromA a m c kk = some b → b.spot = none := by
 intro b e
 unfold fromA at e
 split at e
 · unfold elemA at e
   split at e
   · cases e; rfl
   · cases e
 · exact ha b e
section
set_option maxRecDepth 100000
def cmpB (x y : Bs) : Int := if x < y then -1 else if y < x then 1 else 0
theorem cmp_isNaN_sp (x : Bs) : SpF Tryz.prog 102 [vS x] (.bool false) := by
 refine Sp.body (n := 6) Tryz.call102 Tryz.func102 rfl rfl rfl ?_
 refine Qc (k:=Vv (k:=Wq (Qc (k:=Qv (k:=Qv (k:=Wq (Zt (k:=?_))))))))
 exact fin_ret () (vs := [.bool (decide (¬ x = x))]) (Cs := []) rfl (.tmp rfl .nil) (by simp [pack]) trivial ent_nil
theorem cmp_Compare_sp (x y : Bs) : SpF Tryz.prog 58 [vS x, vS y] (vI (cmpB x y)) := by
 refine Sp.body (n := 20) Tryz.call58 Tryz.func58 rfl rfl rfl ?_
 refine Qc (k:=Vv (k:=Wq (Qc (k:=Vv (k:=?_)))))
 refine r_callF (cmp_isNaN_sp _) rfl rfl rfl ?_
 refine Vv (k:=Wq (Qc (k:=Vv (k:=?_))))
 refine r_callF (cmp_isNaN_sp _) rfl rfl rfl ?_
 refine Vv (k:=Wq (Za (k:=Qc (k:=Vv (k:=Wq (Zi (t:=fun h11 => ?_) (f:=fun h11 => ?_)))))))
 ·
  cases h11
  --done
 ·
  refine Zk (k:=Ya (Za (k:=Qc (k:=Vv (k:=Wq (Zi (t:=fun h13 => ?_) (f:=fun h13 => ?_)))))))
  ·
   cases h13
   --done
  ·
   refine Zk (k:=Ya (Za (k:=Qc (k:=Qv (k:=Vv (k:=Wq (Zi (t:=fun h16 => ?_) (f:=fun h16 => ?_))))))))
   ·
    refine Qc (k:=Vv (k:=Wq (Zt (k:=Va ?_))))
    have h : x < y := (blt_iff x y).1 h16
    rw [show cmpB x y = -1 by rw [cmpB, if_pos h]]
    exact fin_ret () (vs := [_]) (Cs := []) rfl (.tmp rfl .nil) rfl trivial ent_nil
   ·
    refine Zk (k:=Ya (Za (k:=Qc (k:=Qv (k:=Vv (k:=Wq (Zi (t:=fun h19 => ?_) (f:=fun h19 => ?_))))))))
    ·
     refine Qc (k:=Vv (k:=Wq (Zt (k:=Va ?_))))
     have h1 : ¬ x < y := fun h => by rw [(blt_iff x y).2 h] at h16; cases h16
     have h2 : y < x := by
      simp only [Bool.not_eq_true', Bool.or_eq_false_iff, decide_eq_false_iff_not] at h19
      exact Std.lt_of_le_of_ne (List.not_lt.1 h1) (fun e => h19.2 e.symm)
     rw [show cmpB x y = 1 by rw [cmpB, if_neg h1, if_pos h2]]
     exact fin_ret () (vs := [_]) (Cs := []) rfl (.tmp rfl .nil) rfl trivial ent_nil
    ·
     refine Zk (k:=Ya (Qc (k:=Vv (k:=Wq (Zt (k:=?_))))))
     have h1 : ¬ x < y := fun h => by rw [(blt_iff x y).2 h] at h16; cases h16
     have h2 : x = y := by
      rw [show blt x y = false from by simpa using h16] at h19
      simpa using h19
     subst h2
     rw [show cmpB x x = 0 by rw [cmpB, if_neg h1, if_neg h1]]
     exact fin_ret () (vs := [_]) (Cs := []) rfl (.tmp rfl .nil) rfl trivial ent_nil
def orI : List Int → Int
 | [] => 0
 | x :: r => if x = 0 then orI r else x
theorem orI_drop {l : List Int} {j : Nat} (h : j < l.length) : orI (l.drop j) = if l[j] = 0 then orI (l.drop (j + 1)) else l[j] := by rw [List.drop_eq_getElem_cons h, orI]
theorem cmp_Or_sp (b : Nat) (l : List Int) (hl : l.length ≤ 1000000) : Sp1 Tryz.prog 57 [.slice (some ⟨b, 0, none⟩) l.length l.length] [Ce b 3 (l.map vI)] (vI (orI l)) [Ce b 3 (l.map vI)] := by
 refine Sp.body (n := 18) Tryz.call57 Tryz.func57 rfl rfl rfl ?_
 refine Qc (k:=Vv (k:=Wq (Qc (k:=Vv (k:=Wq (Za (k:=Qc (k:=Vv (k:=?_)))))))))
 refine Qv (k:=Wq (Zb (k:=?_)))
 refine p_loop (fun (i : { j : Nat // j ≤ l.length ∧ orI (l.drop j) = orI l }) => [(3, vI 0), (6, .slice (some ⟨b, 0, none⟩) l.length l.length), (7, vI l.length), (8, vI i.1)]) (fun (i : { j : Nat // j ≤ l.length ∧ orI (l.drop j) = orI l }) => [Ce b 3 (l.map vI)]) (fun (i : { j : Nat // j ≤ l.length ∧ orI (l.drop j) = orI l }) => l.length - i.1) rfl (⟨0, Nat.zero_le _, rfl⟩) ?_ ?_ (fun i => ?_)
 · exact ⟨rfl, rfl, rfl, rfl, trivial⟩
 ·
  exact ent_pick
 obtain ⟨j, hj, ho⟩ := i
 try dsimp only
 refine Qc (k:=Vv (k:=Wq (Za (k:=Zi (t:=fun h9 => ?_) (f:=fun h9 => ?_)))))
 ·
  refine Zk (k:=Ya (Za (k:=Zb (k:=Qc (k:=Ye 1 (k:=Ym (k:=Vv (k:=Wq (Qc (k:=?_))))))))))
  refine Qv (k:=Vv (k:=Wq (Zi (t:=fun h14 => ?_) (f:=fun h14 => ?_))))
  ·
   refine Qc (k:=Qv (k:=Wq (Zt (k:=Vb (Va (Vi (Vb (Va ?_))))))))
   have hjl : j < l.length := by omega
   rw [← ho, orI_drop hjl, if_neg h14]
   exact fin_ret () (vs := [_]) (Cs := []) rfl (.tmp rfl .nil) rfl trivial ent_pick
  ·
   refine Zk (k:=Yb (Ya (Zr (k:=Qv (k:=Wn ?_)))))
   have hjl : j < l.length := by omega
   refine to_inv ⟨j + 1, by omega, ?_⟩ (by dsimp only; omega) ⟨rfl, rfl, rfl, rfl, trivial⟩ ent_pick
   have h0 : l[j] = 0 := Classical.not_not.1 h14
   rw [← ho, orI_drop hjl, if_pos h0]
 ·
  refine Ze (k:=Xa (Xi (Xb (Ya (Qc (k:=Qv (k:=Wq (Zt (k:=?_)))))))))
  have hjl : j = l.length := by omega
  subst hjl
  rw [← ho, List.drop_length, orI]
  exact fin_ret () (vs := [_]) (Cs := []) rfl (.tmp rfl .nil) rfl trivial ent_pick
theorem cmp_Or2_sp (b : Nat) (x y : Int) : Sp1 Tryz.prog 57 [.slice (some ⟨b, 0, none⟩) 2 2] [Ce b 3 [vI x, vI y]] (vI (if x = 0 then y else x)) [Ce b 3 [vI x, vI y]] := by
 have h := cmp_Or_sp b [x, y] (by simp)
 have e : orI [x, y] = if x = 0 then y else x := by
  simp only [orI]
  by_cases hy : y = 0 <;> simp [hy]
 rw [e] at h
 exact h
/-- First by one text, then by another. -/
def cmp2 (a b : Bs × Bs) : Int := if cmpB a.1 b.1 = 0 then cmpB a.2 b.2 else cmpB a.1 b.1
theorem cmpB_lt {x y : Bs} : cmpB x y < 0 ↔ x < y := by
 unfold cmpB
 by_cases h : x < y
 · simp [h]
 · by_cases h2 : y < x <;> simp [h, h2]
theorem cmpB_0 {x y : Bs} : cmpB x y = 0 ↔ x = y := by
 unfold cmpB
 by_cases h : x < y
 · simp only [h, if_true]; exact ⟨fun e => by omega, fun e => by subst e; exact absurd h (List.lt_irrefl x)⟩
 · by_cases h2 : y < x
   · simp only [h, h2, if_true, if_false]; exact ⟨fun e => by omega, fun e => by subst e; exact absurd h2 (List.lt_irrefl x)⟩
   · simp only [h, h2, if_false, true_iff]
     exact List.le_antisymm (List.not_lt.1 h2) (List.not_lt.1 h)
def lt2 (a b : Bs × Bs) : Prop := a.1 < b.1 ∨ (a.1 = b.1 ∧ a.2 < b.2)
theorem cmp2_lt {a b : Bs × Bs} : cmp2 a b < 0 ↔ lt2 a b := by
 unfold cmp2 lt2
 by_cases h : cmpB a.1 b.1 = 0
 · rw [if_pos h, cmpB_lt]
   have e := cmpB_0.1 h
   rw [e]
   exact ⟨fun x => .inr ⟨rfl, x⟩, fun x => x.elim (fun y => absurd y (List.lt_irrefl _)) (·.2)⟩
 · rw [if_neg h, cmpB_lt]
   have e : a.1 ≠ b.1 := fun x => h (cmpB_0.2 x)
   exact ⟨.inl, fun x => x.elim id (fun y => absurd y.1 e)⟩
theorem lt2_irr (a : Bs × Bs) : ¬ lt2 a a := fun h => h.elim (List.lt_irrefl _) (fun x => List.lt_irrefl _ x.2)
theorem lt2_tr {a b c : Bs × Bs} (h : lt2 a b) (k : lt2 b c) : lt2 a c := by
 rcases h with h | ⟨h1, h2⟩
 · rcases k with k | ⟨k1, k2⟩
   · exact .inl (List.lt_trans h k)
   · exact .inl (by rw [← k1]; exact h)
 · rcases k with k | ⟨k1, k2⟩
   · exact .inl (by rw [h1]; exact k)
   · exact .inr ⟨h1.trans k1, List.lt_trans h2 k2⟩
theorem lt2_or (a b : Bs × Bs) : lt2 a b ∨ a = b ∨ lt2 b a := by
 by_cases h : a.1 < b.1
 · exact .inl (.inl h)
 · by_cases h2 : b.1 < a.1
   · exact .inr (.inr (.inl h2))
   · have e : a.1 = b.1 := List.le_antisymm (List.not_lt.1 h2) (List.not_lt.1 h)
     by_cases h3 : a.2 < b.2
     · exact .inl (.inr ⟨e, h3⟩)
     · by_cases h4 : b.2 < a.2
       · exact .inr (.inr (.inr ⟨e.symm, h4⟩))
       · exact .inr (.inl (Prod.ext e (List.le_antisymm (List.not_lt.1 h4) (List.not_lt.1 h3))))
/-- A comparison's contract, as the sort asks for it. -/
theorem Sp.grown {P : Program} {f : FuncId} {args : List Value} {v : Value} (sp : SpF P f args v) (w : World) : Calls P f args.toArray w fun e w' => e = .returned v ∧ ∃ q os, w' = Go.Sort.grow (w.drewN q) os := by
 have t : Sat w ⟨fun b => w.heap[b]?, w⟩ (Res.emp.add Res.emp) := ⟨fun _ _ e => e, fun _ _ e => by simp [Res.add, Res.emp] at e, fun _ => .inr rfl, Env.refl w⟩
 refine (callsIn_wide.1 (sp.calls w _ Res.emp Res.emp (Res.dj_emp _) t trivial)).mono ?_
 rintro e w' ⟨x, M', h', rfl, _, l, _, t', _⟩
 have en := t'.env
 rw [← l.2] at en
 refine ⟨rfl, w'.drawn - w.drawn, w'.heap.extract w.heap.size w'.heap.size, ?_⟩
 have hold : ∀ k, k < w.heap.size → w'.heap[k]? = w.heap[k]? := fun k hk => by
  have e1 : w.heap[k]? = some w.heap[k] := Array.getElem?_eq_getElem hk
  rw [e1]
  exact t'.im k _ (l.1 k _ e1)
 have hd : w.drawn + (w'.drawn - w.drawn) = w'.drawn := by
  have h : w.drawn ≤ w'.drawn := en.up
  omega
 have hh : w'.heap = w.heap ++ w'.heap.extract w.heap.size w'.heap.size := by
  apply Array.ext_getElem?
  intro k
  have hs := en.size
  rw [Array.getElem?_append]
  by_cases hk : k < w.heap.size
  · rw [if_pos hk]; exact hold k hk
  · rw [if_neg hk, Array.getElem?_extract]
    by_cases hk2 : k < w'.heap.size
    · rw [if_pos (by omega)]
      congr 1
      omega
    · rw [if_neg (by omega)]
      exact Array.getElem?_eq_none (by omega)
 cases w' with
 | mk heap tape drawn os output =>
   have h1 := en.os
   have h2 := en.tape
   have h3 := en.output
   dsimp only at h1 h2 h3 hd hh
   subst h1; subst h2; subst h3
   show _ = ({ heap := w.heap ++ _, tape := w.tape, drawn := w.drawn + _, os := w.os, output := w.output } : World)
   rw [hd, ← hh]
end
section
set_option maxRecDepth 100000
open Go.Sort (flatK HoldsK PermIn SortedIn)
theorem flatK_list {α : Type} [Inhabited α] {enc : α → List Value} {k : Nat} (hk : ∀ x, (enc x).length = k) (l : List α) : flatK enc k l.toArray = (l.flatMap enc).toArray := by
 refine Go.Sort.ext_get! (by simp [flat_len hk]) fun t ht => ?_
 have ht' : t < l.length * k := by simpa using ht
 rw [Go.Sort.get_flatK _ _ _ _ (by simpa using ht')]
 have k0 : 0 < k := by
  rcases Nat.eq_zero_or_pos k with h | h
  · subst h; omega
  · exact h
 have hd : t / k < l.length := (Nat.div_lt_iff_lt_mul k0).2 ht'
 have hm : t % k < k := Nat.mod_lt _ k0
 have hg := get_flat hk hd
 have e : (enc l[t / k])[t % k]? = (l.flatMap enc)[t]? := by
  rw [← hg, List.getElem?_take_of_lt hm, List.getElem?_drop, Nat.div_add_mod']
 have e2 : l.toArray[t / k]! = l[t / k] := by simp [hd]
 rw [e2, List.getElem!_eq_getElem?_getD, e, List.getElem!_toArray, List.getElem!_eq_getElem?_getD]
section
variable {α : Type} [Inhabited α] {P : Program} {f g : Nat} {T : TypeId} {k : Nat} {enc : α → List Value}
theorem sortF_sp (hk : ∀ x, (enc x).length = k) (lt : α → α → Bool)
    (en : ∀ (args : Array Value) (w : World), (callFunc f args).run P w = .ok (.enter f args) w)
    (hn : SpF P f [.slice none 0 0, .func (.func g) #[] #[]] (.tuple #[]))
    (hc : ∀ (blk cap : Nat) (d : Array α) (w : World), HoldsK enc k w blk 0 d → blk < w.heap.size → d.size < 4611686018427387904 → Calls P f #[.slice (some ⟨blk, 0, none⟩) d.size cap, .func (.func g) #[] #[]] w fun e w' => e = .returned (.tuple #[]) ∧ ∃ d' n os, PermIn 0 d.size d d' ∧ SortedIn lt 0 d.size d' ∧ w' = sortWorldK enc k w blk 0 n d' os)
    (a : Option Addr) (n c : Nat) (l : List α) (hl : l.length = n) (hb : n < 4611686018427387904) :
    Sp P f [.slice a n c, .func (.func g) #[] #[]] [Row T k (.slice a n c) n (l.flatMap enc)] (X := List α) (fun _ => .tuple #[]) (fun q => q.Perm l ∧ q.Pairwise fun x y => lt y x = false) (fun q => [Row T k (.slice a n c) n (q.flatMap enc)]) := by
 subst hl
 refine ⟨en, fun w M h hf d t s => ?_⟩
 obtain ⟨h1, h2, d12, e, hr, _⟩ := s
 subst e
 rcases hr with ⟨hv, hl, hx⟩ | ⟨gg, cap, cur, hv, hnc, hcm, hcl, hxl, htk, hh⟩
 · have hl0 : l = [] := List.eq_nil_of_length_eq_zero hl
   subst hl0
   cases hv
   refine (hn.calls w M (h1.add h2) hf d t trivial).mono ?_
   rintro ee w' ⟨x, M', h', rfl, _, le, dj, t', _⟩
   exact ⟨[], M', h', rfl, ⟨List.Perm.refl _, List.Pairwise.nil⟩, le, dj, t', Res.emp, h', Res.emp_dj _, rfl, .inl ⟨rfl, rfl, rfl⟩, trivial⟩
 · cases hv
   subst hh
   obtain ⟨d1, d2⟩ := Res.dj_add_left.1 d
   have hg : w.heap[gg]? = some (.cells cur.toArray T (0, 0)) := t.ow _ _ (by simp [Res.add, Res.one])
   have hlt : gg < w.heap.size := (Array.getElem?_eq_some_iff.1 hg).1
   have hH : HoldsK enc k w gg 0 l.toArray := by
    intro j hj
    rw [flatK_list hk] at hj ⊢
    have hj' : j < (l.flatMap enc).length := by simpa using hj
    have hc : cur[j]? = some (l.flatMap enc)[j] := by
     have := congrArg (fun q => q[j]?) htk
     rw [List.getElem?_take_of_lt (by rw [← hxl]; exact hj'), List.getElem?_eq_getElem hj'] at this
     exact this
    refine ⟨?_, ?_⟩
    · simp only [World.cell?, Nat.zero_add, hg]
      rw [List.getElem!_toArray, List.getElem!_eq_getElem?_getD, List.getElem?_eq_getElem hj']
      simpa using hc
    · simp [World.frozen?, hg]
   have hcall := hc gg c l.toArray w hH hlt (by simpa using hb)
   refine CallsIn.mono (callsIn_wide.2 hcall) ?_
   rintro ee w' ⟨rfl, d', m, os, hp, hs, rfl⟩
   obtain ⟨q, rfl⟩ : ∃ q : List α, d' = q.toArray := ⟨d'.toList, by simp⟩
   have hql : q.length = l.length := by simpa using hp.1
   have hperm : q.Perm l := by
    have := hp.2.2
    simp only [List.size_toArray, Array.toList_extract, List.extract_eq_take_drop, List.drop_zero, Nat.sub_zero] at this
    rwa [List.take_of_length_le (by omega), List.take_of_length_le (Nat.le_refl _)] at this
   have hsort : q.Pairwise fun x y => lt y x = false := by
    rw [List.pairwise_iff_getElem]
    intro i j hi hj hij
    have := hs i j (Nat.zero_le _) hij (by simpa [← hql] using hj)
    simpa [hi, hj] using this
   have hfl : (q.flatMap enc).length = l.length * k := by rw [flat_len hk, hql]
   have hput : (Go.Sort.putRowK enc k (Go.Sort.ahead w m) gg 0 q.toArray).heap[gg]? = some (.cells (q.flatMap enc ++ cur.drop (q.flatMap enc).length).toArray T (0, 0)) := by
    have h0 : (Go.Sort.ahead w m).heap[gg]? = some (.cells cur.toArray T (0, 0)) := hg
    simp only [Go.Sort.putRowK, flatK_list hk, Go.Sort.putRow, Go.Sort.mapBlock, Array.getElem?_modify, if_true, h0, Option.map_some, Go.Sort.onCells]
    generalize q.flatMap enc = F at hfl ⊢
    congr 2
    apply Array.ext'
    simp only [Go.Sort.putCells, Array.toList_mapIdx]
    apply List.ext_getElem?
    intro j
    simp only [List.getElem?_mapIdx, Nat.zero_le, true_and, Nat.zero_add, List.size_toArray, Nat.sub_zero]
    by_cases hj : j < F.length
    · have hjc : j < cur.length := by
        have := congrArg List.length htk
        rw [List.length_take] at this
        omega
      rw [List.getElem?_append_left hj]
      simp [hj, hjc]
    · rw [List.getElem?_append_right (Nat.le_of_not_lt hj), List.getElem?_drop]
      have e : F.length + (j - F.length) = j := by omega
      rw [e]
      cases hc : cur[j]? with
      | none => simp [hc]
      | some v => simp [hc, hj]
   have hoth : ∀ i, i ≠ gg → (Go.Sort.putRowK enc k (Go.Sort.ahead w m) gg 0 q.toArray).heap[i]? = w.heap[i]? := by
    intro i hi
    simp only [Go.Sort.putRowK, Go.Sort.putRow, Go.Sort.mapBlock, Array.getElem?_modify, Ne.symm hi, if_false]
    rfl
   have t1 : Sat w M ((Res.one gg (.cells cur.toArray T (0, 0))).add (h2.add hf)) := by rw [← Res.add_assoc]; exact t
   have t2 := Sat.setBlk (Res.dj_add_right.2 ⟨d12, d1⟩) t1 hput hoth ⟨rfl, rfl, rfl, by simp [Go.Sort.putRowK, Go.Sort.putRow, Go.Sort.mapBlock, Go.Sort.ahead], up_add m up_rfl⟩
   have dn : (Res.one gg (.cells (q.flatMap enc ++ cur.drop (q.flatMap enc).length).toArray T (0, 0))).dj (h2.add hf) := dj_one_any (Res.dj_add_right.2 ⟨d12, d1⟩)
   obtain ⟨dn1, dn2⟩ := Res.dj_add_right.1 dn
   have hcl2 : l.length * k ≤ cur.length := by
    have := congrArg List.length htk
    rw [List.length_take] at this
    omega
   refine ⟨q, M, (Res.one gg (.cells (q.flatMap enc ++ cur.drop (q.flatMap enc).length).toArray T (0, 0))).add h2, rfl, ⟨hperm, hsort⟩, Kn.le_refl _, Res.dj_add_left.2 ⟨dn2, d2⟩, ?_, Res.one gg _, h2, dn1, rfl, .inr ⟨gg, c, q.flatMap enc ++ cur.drop (q.flatMap enc).length, rfl, hnc, hcm, ?_, hfl, ?_, rfl⟩, trivial⟩
   · rw [Res.add_assoc]; exact sat_grow t2 os
   · rw [List.length_append, List.length_drop, ← hcl]; omega
   · rw [← hfl, List.take_left' rfl]
end
theorem SWO2 {α : Type} (key : α → Bs × Bs) : Go.Sort.SWO (ltOf fun x y => cmp2 (key x) (key y)) where
 irrefl x := by
  rw [ltOf, decide_eq_false_iff_not, cmp2_lt]
  exact lt2_irr _
 trans x y z h1 h2 := by
  rw [ltOf, decide_eq_true_iff, cmp2_lt] at *
  exact lt2_tr h1 h2
 ntrans x y z h1 h2 := by
  rw [ltOf, decide_eq_false_iff_not, cmp2_lt] at *
  intro h
  rcases lt2_or (key x) (key y) with h3 | h3 | h3
  · exact h1 h3
  · rw [h3] at h; exact h2 h
  · exact h2 (lt2_tr h3 h)
end
end Go.Proofs.YtdnoacgopfcpbaaGreat
/- The library's contracts at this translation, printed by the kit's tools; remarks taken out. -/
namespace Go.Proofs
open Go.Shelf
def Tryz.sortFP_ren : Go.Shelf.Ren := ⟨fun | 6 => 55 | 15 => 101 | 14 => 100 | 28 => 146 | 29 => 147 | 20 => 138 | 21 => 139 | 22 => 140 | 23 => 141 | 24 => 142 | 25 => 143 | 26 => 144 | 27 => 145 | 46 => 192 | 47 => 193 | 48 => 194 | 49 => 195 | 50 => 196 | 57 => 221 | n => n, fun | 22 => 32 | 24 => 37 | 25 => 107 | 3 => 3 | 39 => 97 | 0 => 0 | 53 => 94 | 55 => 96 | 4 => 4 | 46 => 207 | 45 => 206 | 50 => 167 | 5 => 5 | 9 => 9 | 66 => 253 | 70 => 257 | 76 => 273 | 77 => 274 | n => n, fun | n => n⟩
theorem Tryz.sortFP : Go.Proofs.SlLaysF0.n6 Tryz.prog Tryz.sortFP_ren := {
 mixed := by kernel_rfl
 f6 := ⟨Tryz.f55.name, by decide, Tryz.func55.trans (congrArg some (by kernel_rfl))⟩
 f14 := ⟨Tryz.f100.name, by decide, Tryz.func100.trans (congrArg some (by kernel_rfl))⟩
 f15 := Tryz.func101.trans (congrArg some (by kernel_rfl))
 f20 := ⟨Tryz.f138.name, by decide, Tryz.func138.trans (congrArg some (by kernel_rfl))⟩
 f21 := ⟨Tryz.f139.name, by decide, Tryz.func139.trans (congrArg some (by kernel_rfl))⟩
 f22 := ⟨Tryz.f140.name, by decide, Tryz.func140.trans (congrArg some (by kernel_rfl))⟩
 f23 := ⟨Tryz.f141.name, by decide, Tryz.func141.trans (congrArg some (by kernel_rfl))⟩
 f24 := ⟨Tryz.f142.name, by decide, Tryz.func142.trans (congrArg some (by kernel_rfl))⟩
 f25 := ⟨Tryz.f143.name, by decide, Tryz.func143.trans (congrArg some (by kernel_rfl))⟩
 f26 := ⟨Tryz.f144.name, by decide, Tryz.func144.trans (congrArg some (by kernel_rfl))⟩
 f27 := ⟨Tryz.f145.name, by decide, Tryz.func145.trans (congrArg some (by kernel_rfl))⟩
 f28 := Tryz.func146.trans (congrArg some (by kernel_rfl))
 f29 := Tryz.func147.trans (congrArg some (by kernel_rfl))
 f46 := ⟨Tryz.f192.name, by decide, Tryz.func192.trans (congrArg some (by kernel_rfl))⟩
 f47 := Tryz.func193.trans (congrArg some (by kernel_rfl))
 f48 := Tryz.func194.trans (congrArg some (by kernel_rfl))
 f49 := ⟨Tryz.f195.name, by decide, Tryz.func195.trans (congrArg some (by kernel_rfl))⟩
 f50 := ⟨Tryz.f196.name, by decide, Tryz.func196.trans (congrArg some (by kernel_rfl))⟩
 f57 := ⟨Tryz.f221.name, by decide, Tryz.func221.trans (congrArg some (by kernel_rfl))⟩
 t0 := Tryz.underlying0
 a0 := Tryz.isAgg0
 z0 := Tryz.sizeOf0
 v0 := Tryz.zeroValue0
 t3 := Tryz.underlying3
 a3 := Tryz.isAgg3
 z3 := Tryz.sizeOf3
 v3 := Tryz.zeroValue3
 t4 := Tryz.underlying4
 a4 := Tryz.isAgg4
 z4 := Tryz.sizeOf4
 v4 := Tryz.zeroValue4
 t5 := Tryz.underlying5
 a5 := Tryz.isAgg5
 z5 := Tryz.sizeOf5
 v5 := Tryz.zeroValue5
 t9 := Tryz.underlying9
 a9 := Tryz.isAgg9
 z9 := Tryz.sizeOf9
 v9 := Tryz.zeroValue9
 t22 := Tryz.underlying32
 a22 := Tryz.isAgg32
 z22 := Tryz.sizeOf32
 v22 := Tryz.zeroValue32
 t25 := Tryz.underlying107
 a25 := Tryz.isAgg107
 z25 := Tryz.sizeOf107
 v25 := Tryz.zeroValue107
 t39 := Tryz.underlying97
 a39 := Tryz.isAgg97
 z39 := Tryz.sizeOf97
 v39 := Tryz.zeroValue97
 t45 := Tryz.underlying206
 a45 := Tryz.isAgg206
 z45 := Tryz.sizeOf206
 v45 := Tryz.zeroValue206
 t46 := Tryz.underlying207
 a46 := Tryz.isAgg207
 z46 := Tryz.sizeOf207
 v46 := Tryz.zeroValue207
 t50 := Tryz.underlying167
 a50 := Tryz.isAgg167
 z50 := Tryz.sizeOf167
 v50 := Tryz.zeroValue167
 t53 := Tryz.underlying94
 a53 := Tryz.isAgg94
 z53 := Tryz.sizeOf94
 v53 := Tryz.zeroValue94
 t55 := Tryz.underlying96
 a55 := Tryz.isAgg96
 z55 := Tryz.sizeOf96
 v55 := Tryz.zeroValue96
 t66 := Tryz.underlying253
 a66 := Tryz.isAgg253
 z66 := Tryz.sizeOf253
 v66 := Tryz.zeroValue253
 t70 := Tryz.underlying257
 a70 := Tryz.isAgg257
 z70 := Tryz.sizeOf257
 v70 := Tryz.zeroValue257
 t76 := Tryz.underlying273
 a76 := Tryz.isAgg273
 z76 := Tryz.sizeOf273
 v76 := Tryz.zeroValue273
 t77 := Tryz.underlying274
 a77 := Tryz.isAgg274
 z77 := Tryz.sizeOf274
 v77 := Tryz.zeroValue274 }
end Go.Proofs
namespace Go.Proofs.YtdnoacgopfcpbaaGreat
section
set_option maxRecDepth 100000
structure Pl where
 child : Bs
 parent : Bs
 prim : Bool
 deriving DecidableEq
instance : Inhabited Pl := ⟨⟨[], [], false⟩⟩
def plCells (p : Pl) : List Value := [vS p.child, vS p.parent, .bool p.prim]
def plKey (p : Pl) : Bs × Bs := (p.child, p.parent)
def plOf (x : Bs × Ck) : List Pl := x.2.parents.map fun p => ⟨x.1, p, decide (p = firstB x.2)⟩
def plF (l : List (Bs × Ck)) : List Pl := l.flatMap plOf
theorem plF_snoc (l : List (Bs × Ck)) (x : Bs × Ck) : plF (l ++ [x]) = plF l ++ plOf x := by simp [plF]
theorem Parents_cmp_sp (x y : Pl) : SpF Tryz.prog 56 [.agg (plCells x).toArray, .agg (plCells y).toArray] (vI (cmp2 (plKey x) (plKey y))) := by
 obtain ⟨c1, p1, m1⟩ := x
 obtain ⟨c2, p2, m2⟩ := y
 refine Sp.body (n := 17) Tryz.call56 Tryz.func56 rfl rfl rfl ?_
 refine Qc (k:=Zx [_, _, _] (k:=fun b2 => Zx [_, _, _] (k:=fun b3 => Vv (k:=Wq (Za (k:=Dw [Ce b2 37 [vS c1, vS p1, .bool m1], Ce b3 37 [vS c2, vS p2, .bool m2]] (k:=?_)))))))
 refine Di 0 (t:=Uf 0 9) (k:=Di 1 (t:=Ul) (k:=Di 2 (t:=Uf 0 9) (k:=Di 3 (t:=Ul) (k:=Di 5 (t:=Uf 1 9) (k:=Di 6 (t:=Ul) (k:=Di 7 (t:=Uf 1 9) (k:=Di 8 (t:=Ul) (k:=Dn 4 (k:=?_)))))))))
 refine an_callF (cmp_Compare_sp _ _) rfl rfl rfl ?_
 refine Dn 9 (k:=?_)
 refine an_callF (cmp_Compare_sp _ _) rfl rfl rfl ?_
 refine Dn 10 (k:=Nl [_, _] (cs := [_, _]) (k:=fun b15 => Dn 11 (k:=?_)))
 refine an_call1 (cmp_Or2_sp b15 (cmpB c1 c2) (cmpB p1 p2)) rfl rfl rfl ?_
 refine Dv 12 (k:=Dd (k:=Ya (Zt (k:=?_))))
 exact fin_ret () (vs := [_]) (Cs := []) rfl (.tmp rfl .nil) rfl trivial ent_nil
theorem insPl_nil (g : Nat) : SpF Tryz.prog 138 [.slice none 0 0, vI 0, vI 0, .func (.func g) #[] #[]] (.tuple #[]) := by
 refine Sp.body (n := 53) Tryz.call138 Tryz.func138 rfl rfl rfl ?_
 refine Qc (k:=Qv (k:=Vv (k:=Wq (Zb (k:=?_)))))
 refine p_loop (fun (i : Unit) => [(0, .slice none 0 0), (1, vI 0), (2, vI 0), (8, vI 1)]) (fun (i : Unit) => []) (fun (i : Unit) => 0) rfl (()) ?_ ?_ (fun i => ?_)
 · exact ⟨rfl, rfl, rfl, rfl, trivial⟩
 ·
  exact Ent.refl _
 try dsimp only
 refine Za (k:=Qc (k:=Qv (k:=Vv (k:=Wq (Zi (t:=fun h14 => ?_) (f:=fun h14 => ?_))))))
 ·
  simp at h14
  --done
 ·
  refine Ze (k:=Xa (Xi (Xb ?_)))
  exact fin_end () (vs := []) (Cs := []) rfl .nil rfl trivial ent_nil
theorem pdqPl_nil (g : Nat) : SpF Tryz.prog 100 [.slice none 0 0, vI 0, vI 0, vI 0, .func (.func g) #[] #[]] (.tuple #[]) := by
 refine Sp.body (n := 148) Tryz.call100 Tryz.func100 rfl rfl rfl ?_
 refine Qc (k:=Vv (k:=Wq (Qc (k:=Vv (k:=Wq (Zb (k:=?_)))))))
 refine p_loop (fun (i : Unit) => [(0, .slice none 0 0), (1, vI 0), (2, vI 0), (3, vI 0), (4, .func (.func g) #[] #[])]) (fun (i : Unit) => []) (fun (i : Unit) => 0) rfl (()) ?_ ?_ (fun i => ?_)
 · exact ⟨rfl, rfl, rfl, rfl, rfl, trivial⟩
 ·
  exact Ent.refl _
 try dsimp only
 refine Zb (k:=Qc (k:=Qv (k:=Qv (k:=Wq (Za (k:=Qc (k:=Vv (k:=?_))))))))
 refine Vv (k:=Wq (Zi (t:=fun h25 => ?_) (f:=fun h25 => ?_)))
 ·
  refine Qc (k:=Qv (k:=Qv (k:=?_)))
  refine r_callF (insPl_nil g) rfl rfl rfl ?_
  refine Wq (Zt (k:=Va (Vb (Vi (Vb ?_)))))
  exact fin_ret () (vs := []) (Cs := []) rfl .nil rfl trivial ent_nil
 ·
  simp at h25
  --done
theorem SortPl_nil (g : Nat) : SpF Tryz.prog 55 [.slice none 0 0, .func (.func g) #[] #[]] (.tuple #[]) := by
 refine Sp.body (n := 14) Tryz.call55 Tryz.func55 rfl rfl rfl ?_
 refine Qc (k:=Qv (k:=Vv (k:=Wq (Zr (k:=Qv (k:=Vv (k:=?_)))))))
 refine wo_pv (pv_conv_in (i := 0) rfl Tryz.underlying3 Tryz.underlying97 (by decide)) rfl ?_
 refine r_callF bits_Len_zero rfl rfl rfl ?_
 refine Vv (k:=?_)
 refine r_callF (pdqPl_nil g) rfl rfl rfl ?_
 refine Wn ?_
 exact fin_end () (vs := []) (Cs := []) rfl .nil rfl trivial ent_nil
theorem slices_SortPl_sp (a : Option Addr) (n c : Nat) (l : List Pl) (hl : l.length = n) (hb : n < 4611686018427387904) :
    Sp Tryz.prog 55 [.slice a n c, .func (.func 56) #[] #[]] [Row 37 3 (.slice a n c) n (l.flatMap plCells)] (X := List Pl) (fun _ => .tuple #[]) (fun q => q.Perm l ∧ q.Pairwise fun x y => ltOf (fun x y => cmp2 (plKey x) (plKey y)) y x = false) (fun q => [Row 37 3 (.slice a n c) n (q.flatMap plCells)]) :=
 sortF_sp (T := 37) (k := 3) (enc := plCells) (fun _ => rfl) _ Tryz.call55 (SortPl_nil _) (fun blk cap d w hH hb hs => by
  have hcon := AnyQ.slices_SortFunc Tryz.sortFP 3 Tryz.isAgg37 Tryz.sizeOf37 plCells (fun _ => rfl) (fun x v hv => by
   simp only [plCells, List.mem_cons, List.not_mem_nil, or_false] at hv
   rcases hv with rfl | rfl | rfl <;> rfl) (fun x y => cmp2 (plKey x) (plKey y)) (SWO2 plKey) 56 #[] blk 0 cap d w Tryz.call56 (fun m os dk hs x y => by
    have := Sp.grown (Parents_cmp_sp x y) (sortWorldK plCells 3 w blk 0 m dk os)
    simpa using this) hH hb hs
  exact hcon) a n c l hl hb
theorem cksF_mem {H : Ks} {l : List Bs} {x : Bs × Ck} (h : x ∈ cksF H l) : readK (getB H x.1) = some x.2 := by
 obtain ⟨n, _, hx⟩ := List.mem_flatMap.1 h
 unfold ckOf at hx
 split at hx
 · cases hx
 · rename_i c hc
   rw [List.mem_singleton] at hx
   subst hx
   exact hc
theorem plOf_len {H : Ks} {l : List Bs} {x : Bs × Ck} (h : x ∈ cksF H l) : (plOf x).length ≤ 3 := by
 have := (readK_iff.1 (cksF_mem h)).1.parents.len
 unfold plOf
 rw [List.length_map]
 omega
theorem plF_len {H : Ks} : ∀ {l r : List (Bs × Ck)}, cksL H = l ++ r → (plF l).length ≤ 3 * l.length := by
 intro l r h
 have hm : ∀ x ∈ l, (plOf x).length ≤ 3 := fun x hx => plOf_len (H := H) (l := keysS H) (by rw [show cksF H (keysS H) = cksL H from rfl, h]; exact List.mem_append_left _ hx)
 clear h
 induction l with
 | nil => simp [plF]
 | cons a l ih =>
   have h1 := hm a (List.mem_cons_self ..)
   have h2 := ih (fun x hx => hm x (List.mem_cons_of_mem _ hx))
   unfold plF at *
   rw [List.flatMap_cons, List.length_append, List.length_cons]
   omega
theorem cksL_len (H : Ks) : (cksL H).length ≤ H.length := by
 have h1 := cksF_length H (keysS H)
 rw [keysS_len] at h1
 exact h1
abbrev PaI (b : Nat) (acc : List Pl) : HP := Ex fun s : Option Addr × Nat => Al [Ce b 32 [.slice s.1 acc.length s.2], Row 37 3 (.slice s.1 acc.length s.2) acc.length (acc.flatMap plCells)]
set_option maxHeartbeats 4000000 in
theorem links_Parents_sp (b : Nat) (H : Ks) (hH : TxtK H) (hn : H.length ≤ 1000000) :
    Sp Tryz.prog 17 [.map (some b)] [MapS b H] (X := (Option Addr × Nat) × List Pl) (fun x => .slice x.1.1 x.2.length x.1.2) (fun x => x.2.Perm (plF (cksL H)) ∧ x.2.Pairwise fun x y => ltOf (fun x y => cmp2 (plKey x) (plKey y)) y x = false) (fun x => [Row 37 3 (.slice x.1.1 x.2.length x.1.2) x.2.length (x.2.flatMap plCells), MapS b H]) := by
 refine Sp.body (n := 33) Tryz.call17 Tryz.func17 rfl rfl rfl ?_
 refine Qc (k:=Vv (k:=Wq (Qc (k:=Zc [.slice none 0 0] (k:=fun b3 => Wq (Za (k:=Qc (k:=Vv (k:=?_)))))))))
 refine r_callX (links_Checkins_sp (some b)) rfl rfl rfl (fun cb _ => ?_)
 refine Wq (Zb (k:=?_))
 refine p_rangeFuncX (fun pre => [PaI b3 (plF (pre.map ckKey)), MapS b H]) (fun j pre => [Pu False]) (fun pre => [PaI b3 (plF (pre.map ckKey))]) rfl (links_Checkins_it cb b H hH (by omega)) rfl (fun _ => by rfl) rfl (fun pre => ?_) (fun pre => ?_) ?_ (fun l pre x hok => ?_) (fun all hfin => ?_) (fun j pre hs => ?_)
 · exact ent_pick
 · exact ent_pick
 · (refine ent_app ?_; refine ent_ex (none, 0) (ent_al ?_); dsimp only; rw [show plF (([] : List CkN).map ckKey) = [] from rfl]; exact ent_cons (ent_step row_nil ent_pick))
 ·
  have hpl := okC_len hok
  have hcl : (plF (pre.map ckKey)).length ≤ 3 * pre.length := by
   obtain ⟨⟨r, e⟩, _, _⟩ := hok
   have := plF_len e
   rwa [List.length_map] at this
  have hsn : plF ((pre ++ [x]).map ckKey) = plF (pre.map ckKey) ++ plOf (ckKey x) := by rw [List.map_append, List.map_cons, List.map_nil, plF_snoc]
  obtain ⟨nm, xa, ck⟩ := x
  dsimp only [ckV, ckVals, ckKey] at hsn ⊢
  generalize plF (pre.map ckKey) = acc0 at hsn hcl ⊢
  have hpl2 : ck.parents.length ≤ 3 := by
   have := (readK_iff.1 hok.2.2).1.parents.len
   dsimp only at this
   omega
  have hol : (plOf (nm, ck)).length = ck.parents.length := List.length_map ..
  have hFi := links_First_sp (B := SlI xa.pa (ck.parents.map vS)) xa ck (by omega) sla_sli
  unfold CkM
  refine wc_al ?_
  refine wc_ent' (ent_pick1 (.there (.there (.there .here)))) ?_
  refine wc_exi fun s => wc_al ?_
  refine Qc (k:=Vv (k:=Wq (Zr (k:=Zc [vS [], vS [], .int .i64 0, .slice none 0 0, .slice none 0 0, .slice none 0 0, vS []] (k:=fun b5 => Zp (k:=Wg (Zb (k:=Qc (k:=Vf 4 27 (k:=?_))))))))))
  refine Zd (k:=Qv (k:=Wq (Zb (k:=?_))))
  refine p_loop (fun (i : { x : (Option Addr × Nat) × Nat // x.2 ≤ ck.parents.length }) => [(3, .pointer (some ⟨b3, 0, none⟩)), (4, vS nm), (5, .pointer (some ⟨b5, 0, none⟩)), (13, .slice xa.pa ck.parents.length xa.pc), (14, vI ck.parents.length), (15, vI i.1.2)]) (fun (i : { x : (Option Addr × Nat) × Nat // x.2 ≤ ck.parents.length }) => [Ce b3 32 [.slice i.1.1.1 (acc0 ++ (plOf (nm, ck)).take i.1.2).length i.1.1.2], Row 37 3 (.slice i.1.1.1 (acc0 ++ (plOf (nm, ck)).take i.1.2).length i.1.1.2) (acc0 ++ (plOf (nm, ck)).take i.1.2).length ((acc0 ++ (plOf (nm, ck)).take i.1.2).flatMap plCells), Ce b5 30 [vS ck.base, vS ck.comment, vI ck.date, .slice xa.fa ck.files.length xa.fc, .slice xa.pa ck.parents.length xa.pc, .slice xa.ta ck.tags.length xa.tc, vS ck.user], SlI xa.pa (ck.parents.map vS), MapS b H]) (fun (i : { x : (Option Addr × Nat) × Nat // x.2 ≤ ck.parents.length }) => ck.parents.length - i.1.2) rfl (⟨(s, 0), Nat.zero_le _⟩) ?_ ?_ (fun i => ?_)
  · exact ⟨rfl, rfl, rfl, rfl, rfl, rfl, trivial⟩
  ·
   dsimp only
   rw [List.take_zero, List.append_nil]
   exact ent_pick
  obtain ⟨⟨⟨sa, sc⟩, j⟩, hj⟩ := i
  dsimp only at hj ⊢
  have hml : (acc0 ++ (plOf (nm, ck)).take j).length = acc0.length + j := by rw [List.length_append, List.length_take]; omega
  try dsimp only
  refine Qc (k:=Vv (k:=Wq (Za (k:=Zi (t:=fun h16 => ?_) (f:=fun h16 => ?_)))))
  ·
   refine Zk (k:=Ya (Za (k:=Zb (k:=Qc (k:=Ye 1 (k:=Ym (k:=Vv (k:=Wq (Dw [Ce b3 32 [.slice sa (acc0 ++ (plOf (nm, ck)).take j).length sc], Ce b5 30 [vS ck.base, vS ck.comment, vI ck.date, .slice xa.fa ck.files.length xa.fc, .slice xa.pa ck.parents.length xa.pc, .slice xa.ta ck.tags.length xa.tc, vS ck.user]] (k:=?_))))))))))
   refine Di 0 (t:=Ul) (k:=Dv 1 (k:=Dv 2 (k:=Dv 3 (k:=?_))))
   refine d_first 4 rfl rfl rfl (by kernel_rfl) (by kernel_rfl) (tl_loada (vs := [_, _, _, _, _, _, _]) Tryz.underlying30 rfl ti30 rfl (by exact Nat.le_of_ble_eq_true rfl) (by rfl)) ?_
   refine Dn 5 (k:=?_)
   refine an_call1 hFi rfl rfl rfl ?_
   refine Dv 6 (k:=Di 7 (t:=Ux (Ps [_, _, _])) (k:=Dn 8 (k:=Nl [_] (cs := [_, _, _]) (k:=fun b27 => Dn 9 (k:=?_)))))
   refine an_append1 (sz := 3) (bytes := 40) Tryz.underlying32 ti37 rfl rfl rfl rfl rfl rfl rfl (by rfl) (by rfl) (by omega) (by simp only [maxLen]; omega) rfl (fun a28 c28 => ?_)
   refine d_last 10 (by kernel_rfl) rfl (by kernel_rfl) (by kernel_rfl) ?_
   refine No (k:=Yb (Ya (Zr (k:=Qv (k:=Wn ?_)))))
   have hjl : j < ck.parents.length := by omega
   have hst : acc0 ++ (plOf (nm, ck)).take (j + 1) = acc0 ++ (plOf (nm, ck)).take j ++ [⟨nm, ck.parents[j], decide (ck.parents[j] = firstB ck)⟩] := by
    rw [List.take_succ_eq_append_getElem (by omega), ← List.append_assoc]
    simp [plOf]
   refine to_inv ⟨((a28, c28), j + 1), by dsimp only; omega⟩ (by dsimp only; omega) ⟨rfl, rfl, rfl, rfl, rfl, rfl, trivial⟩ ?_
   dsimp only
   rw [hst]
   simp only [List.length_append, List.length_cons, List.length_nil, Nat.zero_add, List.flatMap_append, List.flatMap_cons, List.flatMap_nil, List.append_nil, plCells]
   exact ent_pick
  ·
   refine Ze (k:=Xa (Xi (Xb (Yb ?_))))
   have hjl : (plOf (nm, ck)).take j = plOf (nm, ck) := List.take_of_length_le (by omega)
   refine to_round ?_
   rw [hsn, hjl]
   refine ent_ex (sa, sc) (ent_al ?_)
   exact ent_pick
 ·
  simp only [List.cons_append, List.nil_append]
  rw [show plF (all.map ckKey) = plF (cksL H) from by rw [show all.map ckKey = cksL H from hfin]]
  have hal := plF_len (H := H) (l := cksL H) (r := []) (List.append_nil _).symm
  have hal2 := cksL_len H
  refine Yb (Ya (Za (k:=?_)))
  refine wc_exi fun s => wc_al ?_
  refine Zr (k:=Zd (k:=?_))
  refine r_callX (slices_SortPl_sp s.1 _ s.2 (plF (cksL H)) rfl (by omega)) rfl rfl rfl (fun q hq => ?_)
  have hql := hq.1.length_eq
  refine Wq (Qc (k:=Zd (k:=Vv (k:=Wq (Zt (k:=?_))))))
  refine fin_ret ((s.1, s.2), q) (vs := [.slice s.1 (plF (cksL H)).length s.2]) (Cs := []) rfl (.tmp rfl .nil) (by rw [← hql]; rfl) hq ?_
  dsimp only
  rw [hql]
  exact ent_pick
 ·
  exact wc_no (fun s => by obtain ⟨_, _, _, _, a, _⟩ := s; exact a)
end
end Go.Proofs.YtdnoacgopfcpbaaGreat
