/- Texts of this proof, put together: PPlays8, LawBlobRuns, PCard, PEsc, SIs, SEsc, Args, SCard, SRead. -/
import Derived.Lib.MakeNoZero
import Derived.ChangeArms
import Derived.DataReads
import Derived.WideShapes
import Derived.Test.YtibccdcemcgkeaaGreatQ16
set_option linter.unusedVariables false
set_option linter.unusedSimpArgs false
namespace Go.Proofs.YtibccdcemcgkeaaGreat
/-- A name's text, over so many deltas. -/
def Ch (K : Ks) : Nat → Bs → Bs → Prop
 | 0, x, t => getB K (98 :: x) = 102 :: t
 | k + 1, x, t => ∃ b m s, b.length = 40 ∧ getB K (98 :: x) = 100 :: (b ++ m) ∧ Ch K k b s ∧ applyB s m = some t
theorem Ch.row {K : Ks} {k : Nat} {x t : Bs} (h : Ch K k x t) : getB K (98 :: x) ≠ [] := by
 cases k with
 | zero => rw [show getB K (98 :: x) = 102 :: t from h]; simp
 | succ k => obtain ⟨b, m, s, _, e, _⟩ := h; rw [e]; simp
theorem Ch.ctn {K : Ks} : ∀ {k : Nat} {x t : Bs}, Ch K k x t → ∀ j, k ≤ j → ctnR K j x = some t := by
 intro k
 induction k with
 | zero => intro x t h j _; exact full_ctn h j
 | succ k ih =>
   intro x t h j hj
   obtain ⟨b, m, s, hb, e, h2, ha⟩ := h
   obtain ⟨i, rfl⟩ : ∃ i, j = i + 1 := ⟨j - 1, by omega⟩
   rw [del_ctn hb e, ih h2 i (by omega)]; exact ha
theorem Ch.depF {K : Ks} : ∀ {k : Nat} {x t : Bs}, Ch K k x t → ∀ j, k ≤ j → depF K j x = k := by
 intro k
 induction k with
 | zero =>
   intro x t h j _
   cases j with
   | zero => rfl
   | succ j => rw [Go.Proofs.YtibccdcemcgkeaaGreat.depF, full_based h]
 | succ k ih =>
   intro x t h j hj
   obtain ⟨b, m, s, hb, e, h2, ha⟩ := h
   obtain ⟨i, rfl⟩ : ∃ i, j = i + 1 := ⟨j - 1, by omega⟩
   rw [del_depF hb e, ih h2 i (by omega)]
theorem Ch.dep {K : Ks} {k : Nat} {x t : Bs} (h : Ch K k x t) (hk : k ≤ 4) : depB K x = k := by
 unfold depB
 rw [h.depF 4 hk, if_neg]
 rintro (e | ⟨e1, e2⟩)
 · exact h.row e
 · cases k with
   | zero => rw [show getB K (98 :: x) = 102 :: t from h] at e1; simp at e1
   | succ k => obtain ⟨b, m, s, _, e, _⟩ := h; rw [e] at e2; simp at e2
theorem Ch.sta {K : Ks} {on : Bs} (ho : getB K (98 :: on) = []) : ∀ {k : Nat} {x t : Bs}, Ch K k x t → ∀ j, staF K on j x = false := by
 intro k
 induction k with
 | zero =>
   intro x t h j
   have hn : x ≠ on := fun e => h.row (by rw [e]; exact ho)
   cases j with
   | zero => rfl
   | succ j => rw [staF, full_based h, if_neg hn]
 | succ k ih =>
   intro x t h j
   have hn : x ≠ on := fun e => h.row (by rw [e]; exact ho)
   obtain ⟨b, m, s, hb, e, h2, ha⟩ := h
   cases j with
   | zero => rfl
   | succ j => rw [del_staF hb e, if_neg hn]; exact ih h2 j
/-! By the document. -/
theorem Ch.dpL {K : Ks} {l : List Rw} (hl : ∀ n v, getB K n = v → v ≠ [] → getL l n = some v) : ∀ {k : Nat} {x t : Bs}, Ch K k x t → ∀ j, k ≤ j → dpL l j x = some t := by
 intro k
 induction k with
 | zero =>
   intro x t h j _
   have hg := hl _ _ h (by simp)
   cases j <;> rw [Go.Proofs.YtibccdcemcgkeaaGreat.dpL, hg] <;> simp [dpG]
 | succ k ih =>
   intro x t h j hj
   obtain ⟨b, m, s, hb, e, h2, ha⟩ := h
   obtain ⟨i, rfl⟩ : ∃ i, j = i + 1 := ⟨j - 1, by omega⟩
   have hg := hl _ _ e (by simp)
   have h3 := ih h2 i (by omega)
   have e1 : ((100 :: (b ++ m)).drop 1).take 40 = b := by rw [List.drop_succ_cons, List.drop_zero, ← hb, List.take_left]
   have e2 : (100 :: (b ++ m)).drop 41 = m := by rw [List.drop_succ_cons, ← hb, List.drop_left]
   rw [Go.Proofs.YtibccdcemcgkeaaGreat.dpL, hg]
   simp only [dpG]
   rw [if_neg (by simp), if_neg (by simp), if_neg (by simp; omega), e1, e2, h3]
   exact ha
theorem Ch.depL {K : Ks} {l : List Rw} (hl : ∀ n v, getB K n = v → v ≠ [] → getL l n = some v) : ∀ {k : Nat} {x t : Bs}, Ch K k x t → ∀ f i, k ≤ f → depL l f i x = (i + k : Nat) := by
 intro k
 induction k with
 | zero =>
   intro x t h f i _
   have hg := hl _ _ h (by simp)
   cases f with
   | zero => rfl
   | succ f => rw [Go.Proofs.YtibccdcemcgkeaaGreat.depL, hg]; simp [depG]
 | succ k ih =>
   intro x t h f i hf
   obtain ⟨b, m, s, hb, e, h2, ha⟩ := h
   obtain ⟨f, rfl⟩ : ∃ i, f = i + 1 := ⟨f - 1, by omega⟩
   have hg := hl _ _ e (by simp)
   have e1 : ((100 :: (b ++ m)).drop 1).take 40 = b := by rw [List.drop_succ_cons, List.drop_zero, ← hb, List.take_left]
   rw [Go.Proofs.YtibccdcemcgkeaaGreat.depL, hg]
   simp only [depG]
   rw [if_neg (by simp; omega), e1, ih h2 f (i + 1) (by omega)]
   omega
/-- The rows of a store. -/
def rowsK (K : Ks) : List Rw := (fromS K []).map fun p => ⟨p.1, bytesV p.2, false⟩
theorem getL_map {K : Ks} {k : Bs} {v : Value} (hv : mlook K k = some v) : ∀ (l : List (Bs × Value)), (∀ p ∈ l, mlook K p.1 = some p.2) → k ∈ l.map (·.1) → getL (l.map fun p => (⟨p.1, bytesV p.2, false⟩ : Rw)) k = some (bytesV v) := by
 intro l
 induction l with
 | nil => intro _ h; cases h
 | cons p l ih =>
   intro hl hk
   simp only [List.map_cons, getL]
   by_cases e : p.1 = k
   · rw [if_pos e]
     have := hl p (by simp)
     rw [e, hv] at this
     cases this; rfl
   · rw [if_neg e]
     refine ih (fun q hq => hl q (by simp [hq])) ?_
     rcases List.mem_cons.1 hk with h | h
     · exact absurd h.symm e
     · exact h
theorem getL_rows {K : Ks} (n v : Bs) (h : getB K n = v) (h0 : v ≠ []) : getL (rowsK K) n = some v := by
 unfold getB at h
 cases e : mlook K n with
 | none => rw [e] at h; exact absurd h.symm h0
 | some u =>
   rw [e] at h
   subst h
   refine getL_map e _ (fun p hp => (fromS_mem hp).2.2) ?_
   rw [fromS_nil, List.map_map, show ((fun x : Bs × Value => x.1) ∘ fun k => (k, (mlook K k).getD (vS []))) = id from rfl, List.map_id]
   exact keysS_mem.2 (mlook_isSome.1 (by rw [e]; rfl))
theorem rowsK_val {K : Ks} (h : TxtK K) : ∀ r ∈ rowsK K, r.val.length ≤ 1073741824 := by
 intro r hr
 obtain ⟨p, hp, rfl⟩ := List.mem_map.1 hr
 obtain ⟨s, hs, hl⟩ := h _ (mem_of_mlook (fromS_mem hp).2.2)
 dsimp only at hs
 rw [hs]; exact hl
theorem rowsK_len (K : Ks) : (rowsK K).length = K.length := by rw [rowsK, List.length_map, fromS_nil_len]
/-! What a store holds. -/
structure Hb (K H : Ks) : Prop where
 nd : (K.map (·.1)).Nodup
 hd : (H.map (·.1)).Nodup
 key : ∀ n, n ∈ H.map (·.1) ↔ 98 :: n ∈ K.map (·.1)
 all : ∀ p ∈ H, ∃ t k, p.2 = vS t ∧ shaB t = p.1 ∧ t.length ≤ 300 ∧ k ≤ 3 ∧ Ch K k p.1 t
theorem hb_nil : Hb [] [] := ⟨List.nodup_nil, List.nodup_nil, by simp, by simp⟩
theorem get_nil {K : Ks} {k : Bs} (h : k ∉ K.map (·.1)) : getB K k = [] := by
 unfold getB
 rw [mlook_none h]
 simp [bytesV, vS]
theorem Hb.of {K H : Ks} (b : Hb K H) {x : Bs} (h : x ∈ H.map (·.1)) : ∃ t k, mlook H x = some (vS t) ∧ shaB t = x ∧ t.length ≤ 300 ∧ k ≤ 3 ∧ Ch K k x t := by
 obtain ⟨v, hv⟩ := Option.isSome_iff_exists.1 (mlook_mem h)
 obtain ⟨t, k, h1, h2, h3, h4, h5⟩ := b.all _ (mem_of_mlook hv)
 dsimp only at h1 h2 h5
 exact ⟨t, k, by rw [hv, h1], h2, h3, h4, h5⟩
theorem Hb.nms {K H : Ks} (b : Hb K H) {n : Bs} : n ∈ nmsB K ↔ n ∈ H.map (·.1) := by rw [nms_mem, b.key]
theorem Hb.count {K H : Ks} (b : Hb K H) : (nmsB K).length = H.length := by
 have := ((List.perm_ext_iff_of_nodup (nms_nodup b.nd) b.hd).2 fun n => b.nms).length_eq
 simpa using this
theorem Hb.check {K H : Ks} (b : Hb K H) : checkB K = true := by
 unfold checkB
 rw [List.all_eq_true]
 intro n hn
 obtain ⟨t, k, _, h2, _, h4, h5⟩ := b.of (b.nms.1 hn)
 rw [ctnB, h5.ctn 3 h4]
 exact decide_eq_true (congrArg some h2)
theorem Hb.ok {K H : Ks} (b : Hb K H) {x : Bs} (h : getB K (98 :: x) ≠ []) : x ∈ H.map (·.1) := by
 rw [b.key]
 exact Decidable.byContradiction fun e => h (get_nil e)
theorem Hb.none {K H : Ks} (b : Hb K H) {x : Bs} (h : x ∉ H.map (·.1)) : getB K (98 :: x) = [] := get_nil fun e => h ((b.key x).2 e)
/-! A text is put. -/
theorem Ch.put {K : Ks} (hn : (K.map (·.1)).Nodup) {x : Bs} (v : Bs) (hx : getB K (98 :: x) = []) : ∀ {k : Nat} {y t : Bs}, Ch K k y t → Ch (doOne K ⟨98 :: x, v, false⟩) k y t := by
 intro k
 induction k with
 | zero =>
   intro y t h
   have hxy : x ≠ y := fun e => h.row (by rw [← e]; exact hx)
   show getB _ _ = _
   rw [getB_doOne hn, if_neg (by simpa using hxy)]
   exact h
 | succ k ih =>
   intro y t h
   have hxy : x ≠ y := fun e => h.row (by rw [← e]; exact hx)
   obtain ⟨b, m, s, hb, e, h2, ha⟩ := h
   exact ⟨b, m, s, hb, by rw [getB_doOne hn, if_neg (by simpa using hxy)]; exact e, ih h2, ha⟩
/-- What a row is that keeps a text. -/
structure RowP (K H : Ks) (x t base rv : Bs) : Prop where
 row : rowB K x t base = ⟨98 :: x, rv, false⟩
 kind : rv = 102 :: t ∨ ∃ src k, Ch K k base src ∧ k < 3 ∧ src.length ≤ 300 ∧ base.length = 40 ∧ base ≠ x ∧ rv = 100 :: (base ++ makeB src t) ∧ rv.length < t.length
theorem Hb.row {K H : Ks} (b : Hb K H) {x t : Bs} (hx : x ∉ H.map (·.1)) (base : Bs) : ∃ rv, RowP K H x t base rv := by
 cases e : ctnB K base with
 | none => exact ⟨_, rowB_none e, .inl rfl⟩
 | some src =>
   have hb : base ∈ H.map (·.1) := b.ok fun h => by rw [ctnB, no_ctn h] at e; cases e
   obtain ⟨u, k, _, _, h3, h4, h5⟩ := b.of hb
   have hu : u = src := by have := h5.ctn 3 h4; rw [ctnB, this] at e; cases e; rfl
   subst hu
   have hne : base ≠ x := fun h => hx (h ▸ hb)
   have hr : rowB K x t base = rowF x t base (some u) k false := by
    rw [rowB, e, h5.dep (by omega), staB, h5.sta (b.none hx) 4]
   unfold rowF at hr
   dsimp only at hr
   split at hr
   · exact ⟨_, hr, .inl rfl⟩
   · rename_i h6
     split at hr
     · exact ⟨_, hr, .inl rfl⟩
     · rename_i h7
       have hl : base.length = 40 := Decidable.byContradiction fun h => h6 (.inl h)
       refine ⟨_, hr, .inr ⟨u, k, h5, Decidable.byContradiction fun h => h6 (.inr (.inl (by omega))), h3, hl, hne, rfl, ?_⟩⟩
       have : ¬ ((t.length : Int) - 1 - 40 ≤ (makeB u t).length) := fun h => h7 (.inr h)
       simp; omega
theorem RowP.len {K H : Ks} {x t base rv : Bs} (r : RowP K H x t base rv) : rv.length ≤ t.length + 1 ∧ 0 < rv.length := by
 rcases r.kind with h | ⟨src, k, _, _, _, _, _, h, h2⟩
 · rw [h]; simp
 · exact ⟨by omega, by rw [h]; simp⟩
theorem Hb.put {K H : Ks} (b : Hb K H) {x t base rv : Bs} (hx : x ∉ H.map (·.1)) (hs : shaB t = x) (ht : t.length ≤ 300) (r : RowP K H x t base rv) : Hb (doOne K ⟨98 :: x, rv, false⟩) (mput H x (vS t)) := by
 refine ⟨doOne_nd b.nd _, mput_nodup b.hd _ _, fun n => ?_, fun p hp => ?_⟩
 · rw [key_doOne b.nd, ← mlook_isSome, mlook_mput]
   by_cases e : x = n
   · subst e; simp
   · rw [if_neg e, if_neg (by simpa using e), mlook_isSome, b.key]
 · rcases mem_mput hp with hp | rfl
   · obtain ⟨u, k, h1, h2, h3, h4, h5⟩ := b.all p hp
     exact ⟨u, k, h1, h2, h3, h4, h5.put b.nd rv (b.none hx)⟩
   · have hg : getB (doOne K ⟨98 :: x, rv, false⟩) (98 :: x) = rv := by rw [getB_doOne b.nd, if_pos rfl]; rfl
     rcases r.kind with h | ⟨src, k, h1, h2, h3, h4, h5, h6, h7⟩
     · exact ⟨t, 0, rfl, hs, ht, Nat.zero_le _, by rw [h] at hg ⊢; exact hg⟩
     · exact ⟨t, k + 1, rfl, hs, ht, by omega, base, _, src, h4, by rw [← h6]; exact hg, h1.put b.nd rv (b.none hx), apply_make ht (by omega)⟩
/-! A name is dropped. -/
theorem drop_cases (K : Ks) (x n : Bs) : dropO K x n = [] ∨ ∃ t, dropO K x n = [⟨98 :: n, 102 :: t, false⟩] ∧ ctnB K n = some t := by
 unfold dropO dropG
 split
 · exact .inl rfl
 · split
   · exact .inl rfl
   · split
     · exact .inl rfl
     · rename_i t e; exact .inr ⟨t, rfl, e⟩
theorem doR_one (K : Ks) (r : Rw) : doR K [r] = doOne K r := rfl
theorem doR_append (K : Ks) (l m : List Rw) : doR K (l ++ m) = doR (doR K l) m := by unfold doR; rw [List.foldl_append]
theorem get_drops (K : Ks) (x y : Bs) : ∀ (ns : List Bs), ns.Nodup → ∀ (K' : Ks), (K'.map (·.1)).Nodup →
    getB (doR K' (dropF K x ns)) (98 :: y) = if y ∈ ns then (dropO K x y).foldl (fun _ r => r.val) (getB K' (98 :: y)) else getB K' (98 :: y) := by
 intro ns
 induction ns with
 | nil => intro _ K' _; rfl
 | cons n ns ih =>
   intro hn K' hk
   simp only [List.nodup_cons] at hn
   rw [show dropF K x (n :: ns) = dropO K x n ++ dropF K x ns from rfl, doR_append, ih hn.2 _ (doR_nd _ hk)]
   by_cases e : n = y
   · subst e
     rw [if_neg hn.1, if_pos (by simp)]
     rcases drop_cases K x n with h | ⟨t, h, _⟩
     · rw [h]; rfl
     · rw [h]
       rw [doR_one, getB_doOne hk, if_pos rfl]; rfl
   · have : getB (doR K' (dropO K x n)) (98 :: y) = getB K' (98 :: y) := by
       rcases drop_cases K x n with h | ⟨t, h, _⟩
       · rw [h]; rfl
       · rw [h]
         rw [doR_one, getB_doOne hk, if_neg (by simpa using e)]
     rw [this]
     by_cases e2 : y ∈ ns
     · rw [if_pos e2, if_pos (by simp [e2])]
     · rw [if_neg e2, if_neg (by simp [e2, Ne.symm e])]
theorem key_drops (K : Ks) (x k : Bs) : ∀ (ns : List Bs) (K' : Ks), (K'.map (·.1)).Nodup → (∀ n ∈ ns, 98 :: n ∈ K'.map (·.1)) → (k ∈ (doR K' (dropF K x ns)).map (·.1) ↔ k ∈ K'.map (·.1)) := by
 intro ns
 induction ns with
 | nil => intro K' _ _; exact Iff.rfl
 | cons n ns ih =>
   intro K' hk hm
   rw [show dropF K x (n :: ns) = dropO K x n ++ dropF K x ns from rfl, doR_append]
   have h1 : ∀ k, k ∈ (doR K' (dropO K x n)).map (·.1) ↔ k ∈ K'.map (·.1) := by
    intro k
    rcases drop_cases K x n with h | ⟨t, h, _⟩
    · rw [h]; exact Iff.rfl
    · rw [h]
      rw [doR_one, key_doOne hk]
      by_cases e : 98 :: n = k
      · rw [if_pos e]; exact ⟨fun _ => e ▸ hm n (by simp), fun _ => rfl⟩
      · rw [if_neg e]
   rw [ih _ (doR_nd _ hk) (fun q hq => (h1 _).2 (hm q (by simp [hq]))), h1]
def kdr (K : Ks) (x : Bs) : Ks := doR K (dropB K x)
theorem kdr_eq {K : Ks} {x : Bs} (h : 98 :: x ∈ K.map (·.1)) : kdr K x = doOne (doR K (dropF K x (nmsB K))) ⟨98 :: x, [], true⟩ := by
 rw [kdr, dropB, if_pos (mlook_isSome.2 h), doR_append]; rfl
theorem kdr_get {K : Ks} {x y : Bs} (hn : (K.map (·.1)).Nodup) (h : 98 :: x ∈ K.map (·.1)) (hy : 98 :: y ∈ K.map (·.1)) (hxy : x ≠ y) : getB (kdr K x) (98 :: y) = (dropO K x y).foldl (fun _ r => r.val) (getB K (98 :: y)) := by
 rw [kdr_eq h, getB_doOne (doR_nd _ hn), if_neg (by simpa using hxy), get_drops K x y _ (nms_nodup hn) K hn, if_pos (nms_mem.2 hy)]
theorem kdr_key {K : Ks} {x k : Bs} (hn : (K.map (·.1)).Nodup) (h : 98 :: x ∈ K.map (·.1)) : k ∈ (kdr K x).map (·.1) ↔ 98 :: x ≠ k ∧ k ∈ K.map (·.1) := by
 rw [kdr_eq h, key_doOne (doR_nd _ hn), key_drops K x k _ K hn fun n hm => nms_mem.1 hm]
 by_cases e : 98 :: x = k
 · simp [e]
 · simp [e]
theorem Ch.drop {K : Ks} {x : Bs} (hn : (K.map (·.1)).Nodup) (hx : 98 :: x ∈ K.map (·.1)) : ∀ {k : Nat} {y t : Bs}, k ≤ 3 → x ≠ y → Ch K k y t → ∃ k', k' ≤ k ∧ Ch (kdr K x) k' y t := by
 intro k
 induction k with
 | zero =>
   intro y t _ hy h
   have hm : 98 :: y ∈ K.map (·.1) := Decidable.byContradiction fun e => h.row (get_nil e)
   refine ⟨0, Nat.le_refl _, ?_⟩
   show getB _ _ = _
   rw [kdr_get hn hx hm hy, dropO, full_based h]
   exact h
 | succ k ih =>
   intro y t hk hy h
   have hc := h.ctn 3 hk
   have hm : 98 :: y ∈ K.map (·.1) := Decidable.byContradiction fun e => h.row (get_nil e)
   obtain ⟨b, m, s, hb, e, h2, ha⟩ := h
   have hg := kdr_get hn hx hm hy
   rw [dropO, del_based hb e, show ctnB K y = some t from hc] at hg
   unfold dropG at hg
   dsimp only at hg
   by_cases hbx : b = x
   · rw [if_neg (by rintro (h | h); exact h hbx; exact hy h.symm)] at hg
     exact ⟨0, Nat.zero_le _, hg⟩
   · rw [if_pos (.inl hbx)] at hg
     obtain ⟨k', h3, h4⟩ := ih (by omega) (Ne.symm hbx) h2
     exact ⟨k' + 1, by omega, b, m, s, hb, by rw [hg]; exact e, h4, ha⟩
theorem Hb.drop {K H : Ks} (b : Hb K H) {x : Bs} (h : x ∈ H.map (·.1)) : Hb (kdr K x) (mdel H x) := by
 have hx := (b.key x).1 h
 refine ⟨doR_nd _ b.nd, mdel_nodup b.hd _, fun n => ?_, fun p hp => ?_⟩
 · rw [kdr_key b.nd hx, ← mlook_isSome, mlook_mdel b.hd]
   by_cases e : x = n
   · simp [e]
   · rw [if_neg e, mlook_isSome, b.key]; simp [e]
 · have hm := mem_mdel hp
   obtain ⟨t, k, h1, h2, h3, h4, h5⟩ := b.all p hm
   have hxp : x ≠ p.1 := fun e => by
    have h6 := mlook_of_mem (mdel_nodup b.hd x) (show (p.1, p.2) ∈ mdel H x from hp)
    rw [mlook_mdel b.hd, if_pos e] at h6; cases h6
   obtain ⟨k', h6, h7⟩ := h5.drop b.nd hx h4 hxp
   exact ⟨t, k', h1, h2, h3, by omega, h7⟩
theorem drop_none {K : Ks} {x : Bs} (h : 98 :: x ∉ K.map (·.1)) : dropB K x = [] := by
 rw [dropB, if_neg (fun e => h (mlook_isSome.1 e))]
theorem Hb.gone {K H : Ks} (b : Hb K H) {x : Bs} (h : x ∉ H.map (·.1)) : Hb (doR K (dropB K x)) (mdel H x) := by
 have e1 : dropB K x = [] := drop_none fun e => h ((b.key x).2 e)
 have e2 : mdel H x = H := by
  have : ∀ (l : Ks), x ∉ l.map (·.1) → mdel l x = l := by
   intro l
   induction l with
   | nil => intro _; rfl
   | cons q l ih =>
     intro hl
     simp only [List.map_cons, List.mem_cons, not_or] at hl
     rw [mdel, if_neg (fun e => hl.1 e.symm), ih hl.2]
  exact this H h
 rw [e1, e2]; exact b
theorem Hb.dropped {K H : Ks} (b : Hb K H) (x : Bs) : Hb (doR K (dropB K x)) (mdel H x) ∧ ((dropB K x).length > 0 ↔ x ∈ H.map (·.1)) := by
 by_cases h : x ∈ H.map (·.1)
 · exact ⟨b.drop h, by rw [dropB, if_pos (mlook_isSome.2 ((b.key x).1 h))]; simp [h]⟩
 · exact ⟨b.gone h, by rw [drop_none fun e => h ((b.key x).2 e)]; simp [h]⟩
theorem dropB_ok {K H : Ks} (b : Hb K H) (hk : ∀ k ∈ K.map (·.1), k.length ≤ 60) {x : Bs} (hx : x.length ≤ 40) : (∀ r ∈ dropB K x, r.Ok) ∧ (∀ r ∈ dropB K x, r.key.length ≤ 60 ∧ r.val.length ≤ 301) ∧ (dropB K x).length ≤ H.length + 1 := by
 have key : ∀ r ∈ dropF K x (nmsB K), ∃ n t, n ∈ H.map (·.1) ∧ r = ⟨98 :: n, 102 :: t, false⟩ ∧ t.length ≤ 300 := by
  intro r hr
  obtain ⟨n, hn, hr⟩ := List.mem_flatMap.1 hr
  rcases drop_cases K x n with h | ⟨t, h, hc⟩
  · rw [h] at hr; cases hr
  · rw [h] at hr
    have hm := b.nms.1 hn
    obtain ⟨u, k, _, _, h3, h4, h5⟩ := b.of hm
    have := h5.ctn 3 h4
    rw [ctnB, this] at hc
    cases hc
    exact ⟨n, t, hm, List.mem_singleton.1 hr, h3⟩
 have all : ∀ r ∈ dropB K x, r.Ok ∧ r.key.length ≤ 60 ∧ r.val.length ≤ 301 := by
  intro r hr
  unfold dropB at hr
  split at hr
  · rcases List.mem_append.1 hr with hr | hr
    · obtain ⟨n, t, hn, rfl, ht⟩ := key r hr
      have := hk _ ((b.key n).1 hn)
      exact ⟨⟨by simp, this, by simp; omega, fun e => by cases e⟩, this, by simp; omega⟩
    · rw [List.mem_singleton.1 hr]
      exact ⟨⟨by simp, by simp; omega, by simp, fun _ => rfl⟩, by simp; omega, by simp⟩
  · cases hr
 refine ⟨fun r hr => (all r hr).1, fun r hr => (all r hr).2, ?_⟩
 unfold dropB
 split
 · have := dropF_len K x (nmsB K)
   rw [b.count] at this
   simp; omega
 · simp
theorem textOf_many {l : List Rw} (h : ∀ r ∈ l, r.key.length ≤ 60 ∧ r.val.length ≤ 301) : (textOf l).length ≤ 390 * l.length := by
 induction l with
 | nil => simp [textOf]
 | cons r l ih =>
   have h1 := h r (by simp)
   have h2 := ih fun q hq => h q (by simp [hq])
   have h3 := rowText_le (r := r) (by omega) (by omega)
   simp only [textOf, List.flatMap_cons, List.length_append, List.length_cons] at h2 ⊢
   omega
/-- How much is written at most, by so many puts and drops. -/
def wrote (p q : Nat) : Nat := 13 * p + q * (13 * p + 15)
theorem wrote_le : ∀ p q : Nat, p + q ≤ 16 → wrote p q ≤ 1500 := by
 have : ∀ p : Fin 17, ∀ q : Fin 17, p.1 + q.1 ≤ 16 → wrote p.1 q.1 ≤ 1500 := by decide
 exact fun p q h => this ⟨p, by omega⟩ ⟨q, by omega⟩ h
theorem wrote_put (p q : Nat) : wrote p q + 13 ≤ wrote (p + 1) q := by
 unfold wrote
 have : q * (13 * p + 15) ≤ q * (13 * (p + 1) + 15) := Nat.mul_le_mul_left _ (by omega)
 omega
theorem wrote_drop (p q : Nat) : wrote p q + (13 * (p + 1) + 1) ≤ wrote p (q + 1) := by
 unfold wrote
 rw [Nat.add_mul, Nat.one_mul]
 omega
def rowsP (l : List (Bs × Value)) : List Rw := l.map fun p => ⟨p.1, bytesV p.2, false⟩
theorem rowsP_snoc (l : List (Bs × Value)) (p : Bs × Value) : rowsP (l ++ [p]) = rowsP l ++ [⟨p.1, bytesV p.2, false⟩] := by simp [rowsP]
/-- Where the law stands. -/
structure SB where
 p : Nat
 q : Nat
 J : Jn
 K : Ks
 D : Dk
 H : Ks
 ns : List Bs
 na : Option Addr
 nc : Nat
structure SB.Ok (x : SB) (m : Nat) : Prop where
 pq : x.p + x.q ≤ m
 bi : BI 1500 (wrote x.p x.q) x.J x.K x.D
 hb : Hb x.K x.H
 hl : x.H.length ≤ x.p
 nl : ∀ y ∈ x.ns, y.length = 40
 nn : x.ns.length ≤ m
theorem SB.Ok.up {x : SB} {m n : Nat} (h : x.Ok m) (l : m ≤ n) : x.Ok n := ⟨Nat.le_trans h.pq l, h.bi, h.hb, h.hl, h.nl, Nat.le_trans h.nn l⟩
theorem mput_len (H : Ks) (x : Bs) (v : Value) : (mput H x v).length ≤ H.length + 1 := by
 have := congrArg List.length (mput_keys H x v)
 rw [List.length_map] at this
 rw [this]
 split <;> simp
theorem mdel_len (H : Ks) (x : Bs) : (mdel H x).length ≤ H.length := by
 have := (mdel_keys H x).length_le
 simpa using this
theorem SB.Ok.put {x : SB} {m : Nat} (h : x.Ok m) {n t base rv : Bs} {J : Jn} {D : Dk} {a : Option Addr} {c : Nat} (hx : n ∉ x.H.map (·.1)) (hs : shaB t = n) (ht : t.length ≤ 300) (r : RowP x.K x.H n t base rv)
    (b : BI 1500 (wrote x.p x.q + 12 + 1) J (doR x.K [⟨98 :: n, rv, false⟩]) D) : SB.Ok ⟨x.p + 1, x.q, J, doR x.K [⟨98 :: n, rv, false⟩], D, mput x.H n (vS t), x.ns ++ [n], a, c⟩ (m + 1) := by
 refine ⟨by have := h.pq; dsimp only; omega, b.up (wrote_put _ _), h.hb.put hx hs ht r, by have := h.hl; have := mput_len x.H n (vS t); dsimp only; omega, fun y hy => ?_, by have := h.nn; simp; omega⟩
 rcases List.mem_append.1 hy with hy | hy
 · exact h.nl y hy
 · rw [List.mem_singleton.1 hy, ← hs]; exact shaB_len _
theorem SB.Ok.drop {x : SB} {m : Nat} (h : x.Ok m) (n : Bs) {J : Jn} {D : Dk} (b : BI 1500 (wrote x.p x.q + 13 * (x.p + 1) + 1) J (doR x.K (dropB x.K n)) D) :
    SB.Ok ⟨x.p, x.q + 1, J, doR x.K (dropB x.K n), D, mdel x.H n, x.ns, x.na, x.nc⟩ (m + 1) := by
 exact ⟨by have := h.pq; dsimp only; omega, b.up (by have := wrote_drop x.p x.q; omega), (h.hb.dropped n).1, by have := h.hl; have := mdel_len x.H n; dsimp only; omega, h.nl, by have := h.nn; dsimp only; omega⟩
section
set_option maxRecDepth 100000
set_option maxHeartbeats 4000000 in
theorem BlobRuns_sp : Sp1 Tryz.prog 8 [] [] (vB true) [] := by
 have r := r8_one
 have hxl := x81_len
 have i0 : BI 60 0 ⟨[], 0, false⟩ [] (newD 60) := bi_new (by decide) (by decide)
 refine Sp.body (n := 106) Tryz.call8 Tryz.func8 rfl rfl rfl ?_
 refine Qc (k:=Vv (k:=Wq (Qc (k:=?_))))
 refine r_callX (disk_New_sp 60) rfl rfl rfl (fun d _ => ?_)
 refine Vv (k:=Wq (Qc (k:=Vv (k:=?_))))
 refine r_callX (store_Open_sp d (newD 60)) rfl rfl rfl (fun s _ => ?_)
 refine Vv (k:=Wq (Za (k:=Qc (k:=Vv (k:=?_)))))
 refine wo_pv (pv_peql_nil Tryz.underlying70 rfl rfl) rfl ?_
 refine Vv (k:=Gi 2 (t:=fun h18 => ?_) (f:=fun h18 => ?_))
 ·
  cases h18
  --done
 ·
  refine J0 (k:=I0 (k:=?_))
  refine wo_pv (pv_peql_nil Tryz.underlying72 rfl rfl) rfl ?_
  refine P0 (k:=Wq (Zi (t:=fun h21 => ?_) (f:=fun h21 => ?_)))
  ·
   cases h21
   --done
  ·
   refine Zk (k:=Ya (Qc (k:=Vv (k:=Wq (Za (k:=?_))))))
   refine wc_keep [(0, .bool false), (1, .pointer (some ⟨d, 0, none⟩)), (2, .pointer (some ⟨s, 0, none⟩)), (3, vS x81)] ⟨rfl, rfl, rfl, rfl, trivial⟩ ?_
   rw [show openJ (newD 60) = ⟨[], 0, false⟩ from rfl, show openK (⟨[], 0, false⟩ : Jn).l = [] from rfl]
   generalize x81 = x at *
   refine Zr (k:=Vv (k:=?_))
   refine wo_pv (pv_cat rfl rfl (by simp only [List.length_singleton]; omega)) rfl ?_
   obtain ⟨y, hy⟩ : ∃ y, y = x ++ [33] := ⟨_, rfl⟩
   rw [← hy]
   have hyl : y.length = 106 := by rw [hy, List.length_append, hxl]; rfl
   obtain ⟨a, ha⟩ : ∃ a, a = shaB x := ⟨_, rfl⟩
   obtain ⟨b, hb⟩ : ∃ b, b = shaB y := ⟨_, rfl⟩
   rw [← ha, ← hy, ← hb] at r
   refine Vv (k:=Wq (Qc (k:=Vv (k:=?_))))
   refine r_callF (hash_Sum_sp x (by omega)) rfl rfl rfl ?_
   refine Vv (k:=?_)
   refine r_callF (hash_Sum_sp y (by omega)) rfl rfl rfl ?_
   refine Qv (k:=Wq (Za (k:=?_)))
   rw [← ha, ← hb]
   have hal := r.al
   have hbl := r.bl
   have e1 : rowB [] a x [] = ⟨98 :: a, 102 :: x, false⟩ := r8_row1
   have hR1 := blob_Row_sp s d ⟨[], 0, false⟩ [] i0.txt a x [] (by omega) (by omega) (by simp)
   rw [e1] at hR1
   obtain ⟨ja, da, i1, hC1⟩ := i0.sp (l := [⟨98 :: a, 102 :: x, false⟩]) 6 (fun q hq => by rw [List.mem_singleton.1 hq]; exact ⟨by simp, by simp; omega, by simp; omega, fun e => by cases e⟩) (Nat.le_trans (textOf_one (by simp <;> omega) (by simp <;> omega)) (by simp <;> omega)) (by decide) (by decide)
   rw [show doR [] [(⟨98 :: a, 102 :: x, false⟩ : Rw)] = k81 a x from rfl] at i1 hC1
   refine Zr (k:=Qv (k:=Qv (k:=?_)))
   refine r_call1 hR1 rfl rfl rfl ?_
   refine Zv [_] (cs := [_, _, _]) (k:=fun b33 => ?_)
   refine wo_ent' (ce_norm (b := b33) (T := 77) (l' := [(⟨98 :: a, 102 :: x, false⟩ : Rw)].flatMap rowC) (by rfl) (by rfl)) ?_
   refine r_call1 (hC1 (Ce b33 77 ([(⟨98 :: a, 102 :: x, false⟩ : Rw)].flatMap rowC)) _ s d 1 1 sla_ce rfl) rfl rfl rfl ?_
   refine Wq (Za (k:=?_))
   have e2 := r.row2
   have e3 := r.drop
   have g2 : getB (k82 a b x (makeB x (x ++ [33]))) (98 :: b) = 100 :: (a ++ makeB x (x ++ [33])) := r8_get2b
   have g3 := r.get3
   have hck := r.check (by rw [← hy]; exact hb.symm)
   have hml := pre_len (s := x) (t := [33]) (by omega) (by decide) (by rw [hxl]; decide)
   rw [← hy] at e2 e3 g2 g3 hck hml
   rw [List.length_singleton] at hml
   have hR2 := blob_Row_sp s d ja (k81 a x) i1.txt b y a (by omega) (by omega) (by omega)
   rw [e2] at hR2
   have hm0 : 0 < (makeB x y).length := List.length_pos_iff.2 (makeB_ne (by omega))
   generalize makeB x y = m at *
   have hva : List.take (41 - 1) (List.drop 1 (100 :: (a ++ m))) = a := by
    rw [List.drop_succ_cons, List.drop_zero]
    show List.take 40 _ = _
    rw [← hal, List.take_left]
   obtain ⟨jb, db, i2, hC2⟩ := i1.sp (l := [⟨98 :: b, 100 :: (a ++ m), false⟩]) 4 (fun q hq => by rw [List.mem_singleton.1 hq]; exact ⟨by simp, by simp; omega, by simp; omega, fun e => by cases e⟩) (Nat.le_trans (textOf_one (by simp <;> omega) (by simp <;> omega)) (by simp <;> omega)) (by decide) (by decide)
   rw [show doR (k81 a x) [(⟨98 :: b, 100 :: (a ++ m), false⟩ : Rw)] = k82 a b x m from rfl] at i2 hC2
   refine Zr (k:=Qv (k:=Qv (k:=Vv (k:=?_))))
   refine r_call1 hR2 rfl rfl rfl ?_
   refine Zv [_] (cs := [_, _, _]) (k:=fun b41 => ?_)
   refine wo_ent' (ce_norm (b := b41) (T := 77) (l' := [(⟨98 :: b, 100 :: (a ++ m), false⟩ : Rw)].flatMap rowC) (by rfl) (by rfl)) ?_
   refine r_call1 (hC2 (Ce b41 77 ([(⟨98 :: b, 100 :: (a ++ m), false⟩ : Rw)].flatMap rowC)) _ s d 1 1 sla_ce rfl) rfl rfl rfl ?_
   refine Wq (Za (k:=?_))
   have hG2 := store_Get_sp s d jb (k82 a b x m) (98 :: b)
   rw [(i2.txt.get (98 :: b)).1, g2] at hG2
   generalize (mlook (k82 a b x m) (98 :: b)).isSome = q2 at hG2
   refine Zr (k:=Qv (k:=?_))
   refine wo_pv (pv_cat rfl rfl (by simp only [List.length_singleton]; omega)) rfl ?_
   rw [List.singleton_append]
   refine r_call1 hG2 rfl rfl rfl ?_
   refine Vv (k:=?_)
   refine wo_pv (pv_extract (v := vS (100 :: (a ++ m))) rfl rfl) rfl ?_
   refine wo_pv (pv_extract (v := vB q2) rfl rfl) rfl ?_
   refine Qv (k:=Wq (Za (k:=?_)))
   have hD := blob_Drop_sp s d jb (k82 a b x m) i2.txt i2.NamK (by have := i2.len; omega) a (by omega)
   rw [e3] at hD
   simp only [List.length_cons, List.length_nil, Nat.zero_add, Nat.reduceAdd] at hD
   obtain ⟨jc3, dc3, i3, hC3⟩ := i2.sp (l := [⟨98 :: b, 102 :: y, false⟩, ⟨98 :: a, [], true⟩]) 7 (fun q hq => by
    rcases List.mem_cons.1 hq with rfl | hq
    · exact ⟨by simp, by simp; omega, by simp; omega, fun e => by cases e⟩
    · rw [List.mem_singleton.1 hq]; exact ⟨by simp, by simp; omega, by simp, fun e => rfl⟩) (Nat.le_trans (textOf_two (by simp <;> omega) (by simp <;> omega) (by simp <;> omega) (by simp <;> omega)) (by simp <;> omega)) (by decide) (by decide)
   rw [show doR (k82 a b x m) [(⟨98 :: b, 102 :: y, false⟩ : Rw), ⟨98 :: a, [], true⟩] = k83 a b x y m from rfl] at i3 hC3
   refine Zr (k:=Qv (k:=Vv (k:=?_)))
   refine r_callX hD rfl rfl rfl (fun x53 _ => ?_)
   refine r_call1 (hC3 (Row 77 3 (.slice x53.1 2 x53.2) 2 ([(⟨98 :: b, 102 :: y, false⟩ : Rw), ⟨98 :: a, [], true⟩].flatMap rowC)) _ s d 2 x53.2 sla_row rfl) rfl rfl rfl ?_
   refine Wq (Za (k:=?_))
   have hG3 := store_Get_sp s d jc3 (k83 a b x y m) (98 :: b)
   rw [(i3.txt.get (98 :: b)).1, g3] at hG3
   generalize (mlook (k83 a b x y m) (98 :: b)).isSome = q3 at hG3
   refine Zr (k:=Qv (k:=?_))
   refine wo_pv (pv_cat rfl rfl (by simp only [List.length_singleton]; omega)) rfl ?_
   rw [List.singleton_append]
   refine r_call1 hG3 rfl rfl rfl ?_
   refine Vv (k:=?_)
   refine wo_pv (pv_extract (v := vS (102 :: y)) rfl rfl) rfl ?_
   refine wo_pv (pv_extract (v := vB q3) rfl rfl) rfl ?_
   refine Qv (k:=Wq (Za (k:=?_)))
   have hCt := blob_Content_sp s d jc3 (k83 a b x y m) i3.txt b (by omega)
   rw [show ctnB (k83 a b x y m) b = some y from full_ctn g3 3] at hCt
   have hCk := blob_Check_sp s d jc3 (k83 a b x y m) i3.txt i3.NamK (by have := i3.len; omega)
   rw [hck] at hCk
   have hDp := blob_Depth_sp s d jc3 (k83 a b x y m) i3.txt b (by omega)
   rw [full_dep g3] at hDp
   refine Zr (k:=Qv (k:=?_))
   refine r_call1 hCt rfl rfl rfl ?_
   refine Vv (k:=?_)
   refine wo_pv (pv_extract (v := vS y) rfl rfl) rfl ?_
   refine wo_pv (pv_extract (v := vB true) rfl rfl) rfl ?_
   refine Qv (k:=Wq (Qc (k:=Qv (k:=Qv (k:=Gi 3 (t:=fun h71 => ?_) (f:=fun h71 => ?_))))))
   ·
    refine J1 (k:=I1 (k:=?_))
    refine wo_pv (pv_indexm (m := 0) Tryz.underlying9 rfl rfl rfl (by simp)) rfl ?_
    refine J1 (k:=P1 (k:=Vv (k:=Gi 8 (t:=fun h76 => ?_) (f:=fun h76 => ?_))))
    ·
     refine J1 (k:=I1 (k:=?_))
     refine wo_pv (pv_slice_inm (m := 1) (o := 41) Tryz.underlying9 rfl rfl rfl rfl rfl (by omega) (by simp; omega)) rfl ?_
     refine J1 (k:=J1 (k:=P1 (k:=Vv (k:=Gi 14 (t:=fun h82 => ?_) (f:=fun h82 => ?_)))))
     ·
      refine J1 (k:=J1 (k:=I1 (k:=?_)))
      refine wo_pv (pv_cat rfl rfl (by simp only [List.length_singleton]; omega)) rfl ?_
      rw [List.singleton_append]
      refine J1 (k:=P1 (k:=Vv (k:=Gi 20 (t:=fun h88 => ?_) (f:=fun h88 => ?_))))
      ·
       refine J1 (k:=J1 (k:=J1 (k:=P1 (k:=Vv (k:=Gi 25 (t:=fun h93 => ?_) (f:=fun h93 => ?_))))))
       ·
        refine J1 (k:=P1 (k:=Vv (k:=Gi 28 (t:=fun h96 => ?_) (f:=fun h96 => ?_))))
        ·
         refine J1 (k:=I1 (k:=?_))
         refine r_call1 hCk rfl rfl rfl ?_
         refine P1 (k:=Vv (k:=Gi 32 (t:=fun h100 => ?_) (f:=fun h100 => ?_)))
         ·
          refine J1 (k:=J1 (k:=I1 (k:=?_)))
          refine r_call1 hDp rfl rfl rfl ?_
          refine J1 (k:=P1 (k:=Vv (k:=Wq (Zt (k:=?_)))))
          exact fin_ret () (vs := [_]) (Cs := []) rfl (.tmp rfl .nil) rfl trivial ent_nil
         ·
          cases h100
          --done
        ·
         cases h96
         --done
       ·
        exact absurd rfl h93
        --done
      ·
       exact absurd rfl h88
       --done
     ·
      exact absurd hva h82
      --done
    ·
     exact absurd rfl h76
     --done
   ·
    exact absurd (by simp; omega) h71
    --done
end
structure Cd where
 l : UInt8
 args : List Bs
 deriving DecidableEq, Repr
def argsB (l : List Bs) : Bs := l.flatMap (fun a => 32 :: a)
def lineB (c : Cd) : Bs := c.l :: argsB c.args
def cardB (c : Cd) : Bs := lineB c ++ [10]
def bodyB (l : List Cd) : Bs := l.flatMap cardB
def sealB (s : Bs) : Bs := s ++ [90, 32] ++ shaB s ++ [10]
def printB (l : List Cd) : Bs := sealB (bodyB l)
def argOk (a : Bs) : Prop := a ≠ [] ∧ 32 ∉ a ∧ 10 ∉ a
instance (a : Bs) : Decidable (argOk a) := inferInstanceAs (Decidable (_ ∧ _ ∧ _))
def cd0 : Cd := ⟨0, []⟩
structure OkC (l : List Cd) (i : Nat) : Prop where
 lo : 65 ≤ (l.getD i cd0).l.toNat
 hi : (l.getD i cd0).l.toNat ≤ 89
 rise : 0 < i → (l.getD (i - 1) cd0).l.toNat ≤ (l.getD i cd0).l.toNat
 args : ∀ a ∈ (l.getD i cd0).args, argOk a
structure RightC (l : List Cd) : Prop where
 ne : l ≠ []
 ok : ∀ i, i < l.length → OkC l i
instance (l : List Cd) (i : Nat) : Decidable (OkC l i) := decidable_of_iff (65 ≤ (l.getD i cd0).l.toNat ∧ (l.getD i cd0).l.toNat ≤ 89 ∧ (0 < i → (l.getD (i - 1) cd0).l.toNat ≤ (l.getD i cd0).l.toNat) ∧ ∀ a ∈ (l.getD i cd0).args, argOk a) ⟨fun ⟨a, b, c, d⟩ => ⟨a, b, c, d⟩, fun ⟨a, b, c, d⟩ => ⟨a, b, c, d⟩⟩
instance (l : List Cd) : Decidable (RightC l) := decidable_of_iff (l ≠ [] ∧ ∀ i, i < l.length → OkC l i) ⟨fun ⟨a, b⟩ => ⟨a, b⟩, fun ⟨a, b⟩ => ⟨a, b⟩⟩
theorem mem_getD {α : Type} {l : List α} {d x : α} (h : x ∈ l) : ∃ i, i < l.length ∧ l.getD i d = x := by
 obtain ⟨i, hi, rfl⟩ := List.getElem_of_mem h
 exact ⟨i, hi, by simp [hi]⟩
theorem RightC.lets {l : List Cd} (r : RightC l) : ∀ c ∈ l, 65 ≤ c.l.toNat ∧ c.l.toNat ≤ 89 := by
 intro c hc
 obtain ⟨i, hi, rfl⟩ := mem_getD (d := cd0) hc
 exact ⟨(r.ok i hi).lo, (r.ok i hi).hi⟩
theorem RightC.args {l : List Cd} (r : RightC l) : ∀ c ∈ l, ∀ a ∈ c.args, argOk a := by
 intro c hc
 obtain ⟨i, hi, rfl⟩ := mem_getD (d := cd0) hc
 exact (r.ok i hi).args
theorem RightC.mk' {l : List Cd} (ne : l ≠ []) (lets : ∀ c ∈ l, 65 ≤ c.l.toNat ∧ c.l.toNat ≤ 89) (args : ∀ c ∈ l, ∀ a ∈ c.args, argOk a) (rise : l.Pairwise (fun a b => a.l.toNat ≤ b.l.toNat)) : RightC l := by
 refine ⟨ne, fun i hi => ?_⟩
 have e : ∀ j, j < l.length → l.getD j cd0 ∈ l := fun j hj => by simp [hj]
 refine ⟨(lets _ (e i hi)).1, (lets _ (e i hi)).2, fun h0 => ?_, args _ (e i hi)⟩
 have := List.pairwise_iff_getElem.1 rise (i - 1) i (by omega) hi (by omega)
 simpa [hi, show i - 1 < l.length by omega] using this
theorem RightC.rise {l : List Cd} (r : RightC l) : l.Pairwise (fun a b => a.l.toNat ≤ b.l.toNat) := by
 rw [List.pairwise_iff_getElem]
 have key : ∀ d i (h : i + d < l.length), (l[i]'(by omega)).l.toNat ≤ (l[i + d]).l.toNat := by
  intro d
  induction d with
  | zero => intros; simp
  | succ d ih =>
    intro i h
    have h1 := ih i (by omega)
    have h2 := (r.ok (i + d + 1) (by omega)).rise (by omega)
    simp [show i + d < l.length by omega, show i + d + 1 < l.length by omega] at h2
    exact Nat.le_trans h1 h2
 intro i j hi hj hij
 have := key (j - i) i (by omega)
 simpa [show i + (j - i) = j by omega] using this
/-! Parts of a text between marks. -/
/-- A text that some cards print. -/
def ReadsC (s : Bs) (l : List Cd) : Prop := RightC l ∧ printB l = s
theorem RightC.both {l : List Cd} (r : RightC l) : ∀ c ∈ l, 65 ≤ c.l.toNat ∧ ∀ a ∈ c.args, argOk a := fun c hc => ⟨(r.lets c hc).1, r.args c hc⟩
theorem u8eq {c d : UInt8} : c = d ↔ c.toNat = d.toNat := UInt8.toNat_inj.symm
def escC (c : UInt8) : Bs := if c.toNat = 32 then [92, 115] else if c.toNat = 10 then [92, 110] else if c.toNat = 92 then [92, 92] else [c]
def escB (s : Bs) : Bs := s.flatMap escC
def unC (c : UInt8) : Option UInt8 := if c.toNat = 115 then some 32 else if c.toNat = 110 then some 10 else if c.toNat = 92 then some 92 else none
def unescB : Bs → Option Bs
 | [] => some []
 | c :: r => if c.toNat = 92 then (match r with
     | [] => none
     | d :: r' => match unC d with
       | none => none
       | some e => (unescB r').map (e :: ·))
   else if c.toNat = 32 ∨ c.toNat = 10 then none else (unescB r).map (c :: ·)
theorem unescB_eq (c : UInt8) (r : Bs) : unescB (c :: r) = if c.toNat = 92 then (match r with
      | [] => none
      | d :: r' => match unC d with
        | none => none
        | some e => (unescB r').map (e :: ·))
    else if c.toNat = 32 ∨ c.toNat = 10 then none else (unescB r).map (c :: ·) := by
 cases r <;> simp only [unescB]
theorem escB_cons (c : UInt8) (s : Bs) : escB (c :: s) = escC c ++ escB s := by simp [escB]
theorem escC_ok (c : UInt8) : (∀ d ∈ escC c, d.toNat ≠ 32 ∧ d.toNat ≠ 10) ∧ 1 ≤ (escC c).length ∧ (escC c).length ≤ 2 := by
 unfold escC
 split
 · exact ⟨by decide, by decide, by decide⟩
 · split
   · exact ⟨by decide, by decide, by decide⟩
   · split
     · exact ⟨by decide, by decide, by decide⟩
     · rename_i h1 h2 h3
       exact ⟨fun d hd => by rw [List.mem_singleton.1 hd]; exact ⟨h1, h2⟩, by simp, by simp⟩
theorem escB_ok (s : Bs) : ∀ d ∈ escB s, d.toNat ≠ 32 ∧ d.toNat ≠ 10 := by
 intro d hd
 obtain ⟨c, _, hc⟩ := List.mem_flatMap.1 hd
 exact (escC_ok c).1 d hc
theorem escB_len (s : Bs) : s.length ≤ (escB s).length ∧ (escB s).length ≤ 2 * s.length := by
 induction s with
 | nil => exact ⟨Nat.le_refl _, Nat.le_refl _⟩
 | cons c s ih =>
   have := escC_ok c
   rw [escB_cons, List.length_append, List.length_cons]; omega
theorem mem32 {a : Bs} (h : ∀ d ∈ a, d.toNat ≠ 32 ∧ d.toNat ≠ 10) : 32 ∉ a ∧ 10 ∉ a := ⟨fun e => (h _ e).1 rfl, fun e => (h _ e).2 rfl⟩
theorem argOk_iff {a : Bs} : argOk a ↔ a.length ≠ 0 ∧ ∀ d ∈ a, d.toNat ≠ 32 ∧ d.toNat ≠ 10 := by
 constructor
 · rintro ⟨h1, h2, h3⟩
   refine ⟨fun e => h1 (List.eq_nil_of_length_eq_zero e), fun d hd => ⟨fun e => h2 ?_, fun e => h3 ?_⟩⟩
   · have : d = 32 := u8eq.2 e
     exact this ▸ hd
   · have : d = 10 := u8eq.2 e
     exact this ▸ hd
 · rintro ⟨h1, h2⟩
   exact ⟨fun e => h1 (by simp [e]), mem32 h2⟩
theorem argOk_esc {s : Bs} (h : s ≠ []) : argOk (escB s) := by
 rw [argOk_iff]
 refine ⟨?_, escB_ok s⟩
 have := (escB_len s).1
 have := List.length_pos_iff.2 h
 omega
/-- A word: what may be a name. -/
def wordP (s : Bs) : Prop := (∀ c ∈ s, 32 < c.toNat ∧ c.toNat ≤ 126 ∧ c.toNat ≠ 92) ∧ 1 ≤ s.length ∧ s.length ≤ 12
instance (s : Bs) : Decidable (wordP s) := inferInstanceAs (Decidable (_ ∧ _ ∧ _))
theorem wordP_ok {s : Bs} (h : wordP s) : argOk s := argOk_iff.2 ⟨by have := h.2.1; omega, fun d hd => by have := h.1 d hd; omega⟩
theorem isN_ok {s : Bs} (h : s.length = 40) (k : ∀ c ∈ s, c ∈ hexD) : argOk s := argOk_iff.2 ⟨by omega, fun d hd => by
 have := k d hd
 revert this; revert d; intro d _ hm
 have key : ∀ d ∈ hexD, d.toNat ≠ 32 ∧ d.toNat ≠ 10 := by decide
 exact key d hm⟩
section
set_option maxRecDepth 100000
def isN (s : Bs) : Bool := decide (s.length = 40 ∧ ∀ c ∈ s, c ∈ hexD)
end
section
set_option maxRecDepth 100000
theorem unesc_len : ∀ (n : Nat) (s t : Bs), s.length ≤ n → unescB s = some t → t.length ≤ s.length := by
 intro n
 induction n with
 | zero =>
   intro s t hs h
   have : s = [] := List.eq_nil_of_length_eq_zero (by omega)
   subst this
   cases h; simp
 | succ n ih =>
   intro s t hs h
   cases s with
   | nil => cases h; simp
   | cons c r =>
     simp only [List.length_cons] at hs ⊢
     rw [unescB_eq] at h
     split at h
     · split at h
       · cases h
       · rename_i d r'
         simp only [List.length_cons] at hs ⊢
         split at h
         · cases h
         · cases e : unescB r' with
           | none => rw [e] at h; cases h
           | some u =>
             rw [e] at h
             cases h
             have := ih r' u (by omega) e
             simp only [List.length_cons]; omega
     · split at h
       · cases h
       · cases e : unescB r with
         | none => rw [e] at h; cases h
         | some u =>
           rw [e] at h
           cases h
           have := ih r u (by omega) e
           simp only [List.length_cons]; omega
theorem unescB_len {s t : Bs} (h : unescB s = some t) : t.length ≤ s.length := unesc_len _ s t (Nat.le_refl _) h
/-! Words that blanks part. -/
end
section
/-- The memory as it is when the law begins. -/
abbrev kn (w : World) : Kn := ⟨fun b => w.heap[b]?, w⟩
abbrev At (w : World) (A : HP) : Prop := A.at_ (kn w) Res.emp
section
variable {H : Type} {enc : TypeId × Value → H} {P : Program} {w : World} {spare : Nat → Bool} {held : Bool} {fuel : Nat} {t e : TypeId} {cs : List Value} {x : DataW H × List MemPlace}
theorem cell_block {a : Addr} {v : Value} (h : w.cell? a = some v) : ∃ c T fz, w.heap[a.block]? = some (.cells c T fz) ∧ a.spot = none ∧ c[a.off]? = some v := by
 unfold World.cell? at h
 split at h
 · rename_i c T fz hb
   split at h
   · cases h
   · rename_i hs
     refine ⟨c, T, fz, hb, ?_, h⟩
     cases hq : a.spot with
     | none => rfl
     | some s => rw [hq] at hs; simp at hs
 · cases h
theorem addr_zero (a : Addr) : a.add 0 = a := rfl
theorem od_slice (ht : P.underlying t = some (.slice e)) (hc : 0 < P.cellsOf e) (h : DataW.trod enc P w 0 spare held fuel t cs = some x) :
    ∃ (a : Option Addr) (n c : Nat) (css : List (List Value)), cs = [.slice a n c] ∧ css.length = n ∧ n ≤ 9223372036854775807 ∧ At w (SlI a css.flatten) ∧ ∀ u ∈ css, u.length = P.cellsOf e ∧ ∃ m y, DataW.trod enc P w 0 spare held m e u = some y := by
 rcases DataW.trod_slice ht h with ⟨rfl, _⟩ | ⟨a, len, cap, elems, rest, n, _, rfl, _, hb, hl, hm, hlen, hel, _, _⟩
 · exact ⟨none, 0, 0, [], rfl, rfl, by omega, .inl rfl, by simp⟩
 · have hsz : ∃ sz, P.cellsOf e = sz := ⟨_, rfl⟩
   obtain ⟨sz, hsz⟩ := hsz
   rw [hsz] at hel hc
   let f : Nat → List Value := fun i => (List.range sz).map fun j => (w.cell? ((a.add (i * sz)).add j)).getD undef
   have hf : ∀ i, (f i).length = sz := fun i => by simp [f]
   have key : ∀ i, i < len → w.cells? 0 (a.add (i * sz)) sz = some (f i) ∧ (∃ y, DataW.trod enc P w 0 spare held n e (f i) = some y) ∧ ∀ j, j < sz → w.cell? ((a.add (i * sz)).add j) = (f i)[j]? := by
    intro i hi
    have h1 := hel i hi
    have h2 : elems[i]? = some elems[i] := List.getElem?_eq_getElem (by omega)
    rw [h2, Option.bind_eq_some_iff] at h1
    obtain ⟨u, hu, hy⟩ := h1
    obtain ⟨_, hul, huc⟩ := World.cells?_some hu
    have e1 : u = f i := by
     apply List.ext_getElem?
     intro j
     by_cases hj : j < sz
     · have h3 := huc j hj
       have h4 : u[j]? = some (u[j]'(by omega)) := List.getElem?_eq_getElem (by omega)
       simp only [f, List.getElem?_map, List.getElem?_range hj, Option.map_some, h3, h4, Option.getD_some]
     · rw [List.getElem?_eq_none (by omega), List.getElem?_eq_none (by rw [hf]; omega)]
    subst e1
    exact ⟨hu, ⟨_, hy⟩, huc⟩
   have hm' : len ≤ 9223372036854775807 := by
    have : maxLen = 9223372036854775807 := by decide
    omega
   refine ⟨some a, len, cap, (List.range len).map f, rfl, by simp, hm', ?_, ?_⟩
   · by_cases h0 : len = 0
     · subst h0; exact .inl rfl
     · right
       have c0 := (key 0 (by omega)).2.2 0 hc
       have c1 : (f 0)[0]? = some ((f 0)[0]'(by rw [hf]; exact hc)) := List.getElem?_eq_getElem _
       rw [c1, Nat.zero_mul, addr_zero, addr_zero] at c0
       obtain ⟨c, T, fz, hblk, hsp, _⟩ := cell_block c0
       obtain ⟨g, off, sp⟩ := a
       dsimp only at hsp hblk
       subst hsp
       refine ⟨g, off, c.toList, T, fz, rfl, by simpa using hblk, ?_⟩
       apply List.ext_getElem?
       intro k
       have hfl : ((List.range len).map f).flatten = (List.range len).flatMap f := by rw [List.flatMap_def]
       rw [hfl]
       have hlenf : ((List.range len).flatMap f).length = len * sz := by rw [flat_len hf, List.length_range]
       rw [hlenf]
       by_cases hk : k < len * sz
       · have hi : k / sz < len := Nat.div_lt_of_lt_mul (by rw [Nat.mul_comm]; exact hk)
         have hj : k % sz < sz := Nat.mod_lt _ hc
         have hkk : k / sz * sz + k % sz = k := by rw [Nat.mul_comm]; exact Nat.div_add_mod k sz
         have h3 := get_flat (f := f) (sz := sz) hf (l := List.range len) (m := k / sz) (by simpa using hi)
         have h4 : ((List.range len).flatMap f)[k]? = (f (k / sz))[k % sz]? := by
          have := congrArg (fun l => l[k % sz]?) h3
          simp only [List.getElem?_take, hj, if_true, List.getElem?_drop, hkk, List.getElem_range] at this
          exact this
         have h5 := (key (k / sz) hi).2.2 (k % sz) hj
         rw [h4, ← h5, List.getElem?_take_of_lt hk, List.getElem?_drop, addr_add, addr_add]
         simp only [World.cell?, hblk]
         have e5 : off + k / sz * sz + k % sz = off + k := by omega
         simp [e5]
       · rw [List.getElem?_eq_none (by rw [List.length_take]; omega), List.getElem?_eq_none (by omega)]
   · intro u hu
     simp only [List.mem_map, List.mem_range] at hu
     obtain ⟨i, hi, rfl⟩ := hu
     refine ⟨by rw [hf, hsz], n, (key i hi).2.1⟩
theorem od_field {fs : Array Field} (ht : P.underlying t = some (.struct fs)) (h : DataW.trod enc P w 0 spare held fuel t cs = some x) (i ft off sz : Nat) (hf : (fs[i]?).map (fun f => (f.type, f.offset)) = some (ft, off)) (hs : P.cellsOf ft = sz) :
    ∃ m y, DataW.trod enc P w 0 spare held m ft ((cs.drop off).take sz) = some y := by
 obtain ⟨xs, n, _, _, _, hl, hx⟩ := DataW.trod_struct ht h
 cases hfi : fs[i]? with
 | none => rw [hfi] at hf; cases hf
 | some f =>
   rw [hfi] at hf
   simp only [Option.map_some, Option.some.injEq, Prod.mk.injEq] at hf
   obtain ⟨rfl, rfl⟩ := hf
   have h1 := hx i f hfi
   have hi := (Array.getElem?_eq_some_iff.1 hfi).1
   rw [List.getElem?_eq_getElem (by omega)] at h1
   rw [← hs]
   exact ⟨n, _, h1⟩
theorem od_len {fs : Array Field} (ht : P.underlying t = some (.struct fs)) (h : DataW.trod enc P w 0 spare held fuel t cs = some x) : cs.length = P.cellsOf t := by
 obtain ⟨xs, n, _, _, hl, _⟩ := DataW.trod_struct ht h
 exact hl
theorem list_map_of {α : Type} {f : α → List Value} {css : List (List Value)} (h : ∀ u ∈ css, ∃ a, u = f a) : ∃ l : List α, css = l.map f := by
 induction css with
 | nil => exact ⟨[], rfl⟩
 | cons u r ih =>
   obtain ⟨a, rfl⟩ := h u (by simp)
   obtain ⟨l, rfl⟩ := ih fun v hv => h v (by simp [hv])
   exact ⟨a :: l, rfl⟩
theorem od_list {α : Type} (f : α → List Value) (φ : α → Prop) (ht : P.underlying t = some (.slice e)) (hc : 0 < P.cellsOf e)
    (hel : ∀ {u : List Value} {m : Nat} {y : DataW H × List MemPlace}, u.length = P.cellsOf e → DataW.trod enc P w 0 spare held m e u = some y → ∃ a, u = f a ∧ φ a) (h : DataW.trod enc P w 0 spare held fuel t cs = some x) :
    ∃ (a : Option Addr) (c : Nat) (l : List α), cs = [.slice a l.length c] ∧ l.length ≤ 9223372036854775807 ∧ At w (SlI a (l.flatMap f)) ∧ ∀ z ∈ l, φ z := by
 obtain ⟨a, n, c, css, rfl, hn, hm, hs, hu⟩ := od_slice ht hc h
 have : ∃ l : List { a : α // φ a }, css = l.map fun a => f a.1 := list_map_of fun u hu' => by
  obtain ⟨hl, m, y, hy⟩ := hu u hu'
  obtain ⟨z, hz, hp⟩ := hel hl hy
  exact ⟨⟨z, hp⟩, hz⟩
 obtain ⟨l, rfl⟩ := this
 refine ⟨a, c, l.map (·.1), ?_, ?_, ?_, ?_⟩
 · rw [← hn]; simp
 · simp at hn ⊢; omega
 · have e1 : (l.map fun a => f a.1).flatten = (l.map (·.1)).flatMap f := by simp [List.flatMap_def, Function.comp_def]
   rw [← e1]; exact hs
 · intro z hz
   simp only [List.mem_map] at hz
   obtain ⟨q, _, rfl⟩ := hz
   exact q.2
theorem flat_one {α : Type} (f : α → Value) (l : List α) : l.flatMap (fun a => [f a]) = l.map f := by
 induction l with
 | nil => rfl
 | cons a r ih => simp [ih]
theorem od_ints {k : IntKind} (ht : P.underlying t = some (.slice e)) (he : P.underlying e = some (.int k)) (hc : 0 < P.cellsOf e) (h : DataW.trod enc P w 0 spare held fuel t cs = some x) :
    ∃ (a : Option Addr) (c : Nat) (l : List Int), cs = [.slice a l.length c] ∧ l.length ≤ 9223372036854775807 ∧ At w (SlI a (l.map (.int k))) ∧ ∀ z ∈ l, (Lit.int k z).wf = true := by
 have := od_list (fun z : Int => [.int k z]) (fun z => (Lit.int k z).wf = true) ht hc (fun _ hy => by
  obtain ⟨n, hn, _, hw⟩ := DataW.trod_int he hy
  exact ⟨n, hn, hw⟩) h
 simpa only [flat_one] using this
end
/-- Several things that are there from the beginning. -/
theorem sl_start {w : World} : ∀ {As : List HP}, (∀ A ∈ As, At w A) → SL As (kn w) Res.emp
 | [], _ => trivial
 | A :: r, h => ⟨Res.emp, Res.emp, Res.emp_dj _, rfl, h A (by simp), sl_start fun B hB => h B (by simp [hB])⟩
end
section
set_option maxRecDepth 100000
/-- A card in memory. -/
structure CdV where
 l : UInt8
 a : Option Addr
 c : Nat
 args : List Bs
def CdV.cells (q : CdV) : List Value := [vU q.l.toNat, .slice q.a q.args.length q.c]
/-- What some cards point at: it never turns. -/
def CdM (qs : List CdV) : HP := ⟨fun M _ => ∀ q ∈ qs, (SlI q.a (q.args.map vS)).at_ M Res.emp ∧ q.args.length ≤ q.c, fun le h q hq => ⟨(SlI q.a (q.args.map vS)).mono le (h q hq).1, (h q hq).2⟩⟩
theorem CdM.pers (qs : List CdV) : Pers (CdM qs) := fun e => e
instance {qs : List CdV} : PersC (CdM qs) := ⟨CdM.pers qs⟩
theorem get_field {α : Type} {f : α → List Value} {sz : Nat} (hf : ∀ x, (f x).length = sz) {l : List α} {m k : Nat} (hk : k < sz) (h : m < l.length) : (l.flatMap f)[m * sz + k]? = (f l[m])[k]? := by
 rw [← get_flat hf h, List.getElem?_take_of_lt hk, List.getElem?_drop]
end
section
set_option maxRecDepth 100000
def rdI (s : Bs) : Int := match readDec s with | some n => (n : Int) | none => -1
end
end Go.Proofs.YtibccdcemcgkeaaGreat
