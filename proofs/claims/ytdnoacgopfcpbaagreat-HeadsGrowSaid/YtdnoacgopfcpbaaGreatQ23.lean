/- Texts of this proof, put together: P19H, SSameS, SSameLf, MapIns, SChain18, LawHeadsRuns, MapXL, SBook, LawHeadsGrow. -/
import Derived.Test.YtdnoacgopfcpbaaGreatQ22
set_option linter.unusedVariables false
set_option linter.unusedSimpArgs false
namespace Go.Proofs.YtdnoacgopfcpbaaGreat
section
theorem gL_sd {K : Ks} {k : Nat} {R : List (Bs × Bs)} (hk : k ≤ 6) (h : HeldP K (gL k ++ R)) {s : Sd} : s ∈ sdL K ↔ ∃ p ∈ R, ∃ t ∈ (opsB p.1 p.2).1, s = ⟨t, (opsB p.1 p.2).2, p.1⟩ := by
 rw [h.sd]
 constructor
 · rintro ⟨p, hp, t, ht, e⟩
   rcases List.mem_append.1 hp with hp | hp
   · obtain ⟨i, hi, rfl⟩ := gL_mem.1 hp
     rw [opsB_ck (gwC_right (by omega))] at ht
     simp [gwC, ckMe] at ht
   · exact ⟨p, hp, t, ht, e⟩
 · rintro ⟨p, hp, t, ht, e⟩
   exact ⟨p, List.mem_append_right _ hp, t, ht, e⟩
theorem gL_leaves {K : Ks} {k : Nat} (h1 : 1 ≤ k) (hk : k ≤ 6) (h : HeldP K (gL k)) {q : List Lf} (hq : q.Perm (lvL K) ∧ q.Pairwise fun x y => ltOf (fun x y => cmp2 (lfKey x) (lfKey y)) y x = false) : q = [⟨trB, gwX (k - 1)⟩] := by
 have h2 : HeldP K (gL k ++ []) := by rw [List.append_nil]; exact h
 have g := gwH_of hk h2 (fun p hp => by cases hp)
 have hl : ∀ n, llook (lastL K) (brB, n) = none := fun n => lastF_none fun s hs => by
  obtain ⟨p, hp, _⟩ := (gL_sd hk h2).1 hs
  cases hp
 have hb : ∀ i, i < k → brH K (gwX i) = trB := fun i hi => g.low (fun i _ => hl _) (hl _) hi (Nat.le_refl _)
 refine leaves_eq g.nd (List.pairwise_singleton _ _) (fun y => ?_) hq
 rw [g.lv, List.mem_singleton]
 constructor
 · rintro rfl
   exact ⟨k - 1, by omega, fun h => by omega, by rw [hb _ (by omega)]⟩
 · rintro ⟨i, hi, hz, rfl⟩
   have : i = k - 1 := by
    refine Classical.byContradiction fun hne => ?_
    exact hz (by omega) (by rw [hb i hi, hb (i + 1) (by omega)])
   rw [this, hb _ (by omega)]
theorem gzC_right (own : Bool) (i : Nat) : RightK (gzC own i) := by
 refine right_me (by intro p hp; rw [List.mem_singleton.1 hp]; exact gwX_n i) (by simp) (by simp) ?_ me_word (by decide)
 cases own
 · exact right_t0
 · show RightT true gwT
   decide
theorem gzX_n (own : Bool) (i : Nat) : isN (gzX own i) = true := isN_sha _
theorem gzX_len (own : Bool) (i : Nat) : (gzX own i).length = 40 := isN_len (gzX_n own i)
theorem gzX_ne (own : Bool) {a i : Nat} (ha : a < 6) (hi : i < 6) : gzX own a ≠ gwX i := fun e => gz_new own ha (by rw [e]; exact List.mem_map_of_mem (List.mem_range.2 hi))
theorem gzX_nil (own : Bool) (i : Nat) : gzX own i ≠ [] := fun e => by have := gzX_len own i; rw [e] at this; simp at this
theorem gzC_first (own : Bool) (i : Nat) : firstB (gzC own i) = gwX i := rfl
def gzB (own : Bool) : Bs := if own then [97] else trB
section
variable {K : Ks} {k a : Nat} {own : Bool} (hk : k ≤ 6) (ha : a < k) (h : HeldP K (gL k ++ [(gzX own a, ckB (gzC own a))]))
theorem gz_put {K : Ks} (hk : k ≤ 6) (ha : a < k) (h : HeldP K (gL k)) : HeldP (mput K (gzX own a) (vS (ckB (gzC own a)))) (gL k ++ [(gzX own a, ckB (gzC own a))]) := by
 refine h.put ?_ (Nat.le_trans (ckB_len (gzC_right own a)) (by decide))
 rw [gL_names]
 intro hm
 obtain ⟨i, hi, e⟩ := List.mem_map.1 hm
 exact gzX_ne own (by omega) (by have := List.mem_range.1 hi; omega) e.symm
include hk ha h
theorem gz_cks (x : Bs × Ck) : x ∈ cksL K ↔ (∃ i, i < k ∧ x = (gwX i, gwC i)) ∨ x = (gzX own a, gzC own a) := by
 have _ := ha
 rw [h.cks]
 constructor
 · rintro ⟨p, hp, e1, e2⟩
   rcases List.mem_append.1 hp with hp | hp
   · obtain ⟨i, hi, rfl⟩ := gL_mem.1 hp
     rw [gw_read (by omega)] at e2
     exact .inl ⟨i, hi, Prod.ext e1.symm (Option.some.inj e2).symm⟩
   · rw [List.mem_singleton] at hp
     subst hp
     rw [right_read (gzC_right own a)] at e2
     exact .inr (Prod.ext e1.symm (Option.some.inj e2).symm)
 · rintro (⟨i, hi, rfl⟩ | rfl)
   · exact ⟨(gwX i, ckB (gwC i)), List.mem_append_left _ (gL_mem.2 ⟨i, hi, rfl⟩), rfl, gw_read (by omega)⟩
   · exact ⟨_, List.mem_append_right _ (List.mem_singleton.2 rfl), rfl, right_read (gzC_right own a)⟩
theorem gz_sd {s : Sd} (hs : s ∈ sdL K) : own = true ∧ s = ⟨⟨42, brB, gzX own a, [97]⟩, 50, gzX own a⟩ := by
 have _ := ha
 obtain ⟨p, hp, t, ht, e⟩ := (gL_sd hk h).1 hs
 rw [List.mem_singleton] at hp
 subst hp
 rw [opsB_ck (gzC_right own a)] at ht e
 cases own
 · simp [gzC, ckMe] at ht
 · refine ⟨rfl, ?_⟩
   simp only [gzC, ckMe, if_true, gwT, List.map_cons, List.map_nil, List.mem_singleton] at ht
   rw [e, ht]; rfl
theorem gz_sdx (ho : own = true) : (⟨⟨42, brB, gzX own a, [97]⟩, 50, gzX own a⟩ : Sd) ∈ sdL K := by
 have _ := ha
 refine (gL_sd hk h).2 ⟨_, List.mem_singleton.2 rfl, ⟨42, brB, gzX own a, [97]⟩, ?_, ?_⟩
 · rw [opsB_ck (gzC_right own a)]
   subst ho
   simp [gzC, ckMe, gwT]
 · rw [opsB_ck (gzC_right own a)]; rfl
theorem gz_look {n : Bs} (hn : n ≠ gzX own a) : llook (lastL K) (brB, n) = none := lastF_none fun s hs e => by
 rw [(gz_sd hk ha h hs).2] at e
 exact hn (congrArg Prod.snd e).symm
theorem gz_clook {n : Bs} {c : Ck} : clook (cksL K) n = some c ↔ (∃ i, i < k ∧ n = gwX i ∧ c = gwC i) ∨ (n = gzX own a ∧ c = gzC own a) := by
 rw [clook_mem h.cnd, gz_cks hk ha h]
 simp only [Prod.mk.injEq]
theorem gz_nil : clook (cksL K) [] = none := by
 cases e : clook (cksL K) [] with
 | none => rfl
 | some c =>
   rcases (gz_clook hk ha h).1 e with ⟨i, _, e2, _⟩ | ⟨e2, _⟩
   · exact absurd e2.symm (gwX_ne (by decide) i)
   · exact absurd e2.symm (gzX_nil own a)
theorem gz_brw {i : Nat} (hi : i < k) : brH K (gwX i) = trB := by
 refine brH_no (fun n => n = [] ∨ ∃ i, i < k ∧ n = gwX i) (fun n hn => ?_) (fun n c hn hc => ?_) (.inr ⟨i, hi, rfl⟩)
 · refine gz_look hk ha h ?_
   rcases hn with rfl | ⟨i, hi, rfl⟩
   · exact (gzX_nil own a).symm
   · exact (gzX_ne own (by omega) (by omega)).symm
 · rcases hn with rfl | ⟨i, hi, rfl⟩
   · rw [gz_nil hk ha h] at hc; cases hc
   · rcases (gz_clook hk ha h).1 hc with ⟨j, hj, e1, rfl⟩ | ⟨e1, _⟩
     · have := gw_inj (by omega) (by omega) e1
       subst this
       cases i with
       | zero => exact .inl gwC_first0
       | succ i => exact .inr ⟨i, by omega, gwC_first i⟩
     · exact absurd e1.symm (gzX_ne own (by omega) (by omega))
theorem gz_brx : brH K (gzX own a) = gzB own := by
 cases ho : own with
 | true =>
   have h1 := (gz_clook hk ha h).2 (.inr ⟨rfl, rfl⟩)
   have h2 : llook (lastL K) (brB, gzX own a) = some ⟨⟨42, brB, gzX own a, [97]⟩, 50, gzX own a⟩ := lastF_one (gz_sdx hk ha h ho) rfl fun o h3 _ => (gz_sd hk ha h h3).2
   have h3 := wayF_hit (tag := brB) (name := gzX own a) (k := (cksL K).length - 1) h1 h2 rfl
   have hl : 0 < (cksL K).length := List.length_pos_of_mem ((gz_cks hk ha h _).2 (.inr rfl))
   rw [← ofT_at (k := 0) hl] at h3
   rw [ho] at h3
   exact brF_some h3 (by simp)
 | false =>
   refine brH_no (fun n => True) (fun n _ => lastF_none fun s hs => ?_) (fun n c _ _ => trivial) trivial
   have := (gz_sd hk ha h hs).1
   rw [ho] at this; cases this
theorem gz_in {n : Bs} {z : Bs × Ck} (hz : z ∈ cksL K) (hn : n ≠ []) : inC (brH K) n z ↔ (∃ i, i + 1 < k ∧ n = gwX i ∧ z = (gwX (i + 1), gwC (i + 1))) ∨ (own = false ∧ n = gwX a ∧ z = (gzX own a, gzC own a)) := by
 unfold inC
 rcases (gz_cks hk ha h z).1 hz with ⟨i, hi, rfl⟩ | rfl
 · dsimp only
   cases i with
   | zero =>
     rw [gwC_first0]
     constructor
     · rintro ⟨e, _⟩; exact absurd e.symm hn
     · rintro (⟨i, _, _, e⟩ | ⟨_, _, e⟩)
       · have := gw_inj (by omega) (by omega) (congrArg Prod.fst e); omega
       · exact absurd (congrArg Prod.fst e).symm (gzX_ne own (by omega) (by omega))
   | succ i =>
     rw [gwC_first]
     constructor
     · rintro ⟨e, _⟩; exact .inl ⟨i, hi, e.symm, rfl⟩
     · rintro (⟨j, _, e1, e⟩ | ⟨_, _, e⟩)
       · have := gw_inj (by omega) (by omega) (congrArg Prod.fst e)
         have : i = j := by omega
         subst this
         refine ⟨e1.symm, fun e3 => ?_, by rw [gz_brw hk ha h (by omega), gz_brw hk ha h hi]⟩
         have := gw_inj (by omega) (by omega) e3
         omega
       · exact absurd (congrArg Prod.fst e).symm (gzX_ne own (by omega) (by omega))
 · dsimp only
   rw [gzC_first, gz_brw hk ha h ha, gz_brx hk ha h]
   constructor
   · rintro ⟨e1, e2, e3⟩
     refine .inr ⟨?_, e1.symm, rfl⟩
     cases own
     · rfl
     · exact absurd e3 (by decide)
   · rintro (⟨i, _, _, e⟩ | ⟨ho, e1, _⟩)
     · exact absurd (congrArg Prod.fst e) (gzX_ne own (by omega) (by omega))
     · subst ho
       exact ⟨e1.symm, fun e => gzX_ne false (by omega) (by omega) e.symm, rfl⟩
theorem gz_isx : isLf K (gzX own a) = true := by
 rw [isLf_iff]
 refine ⟨_, (gz_cks hk ha h _).2 (.inr rfl), rfl, fun z hz hc => ?_⟩
 rcases (gz_in hk ha h hz (gzX_nil own a)).1 hc with ⟨i, _, e, _⟩ | ⟨_, e, _⟩
 · exact gzX_ne own (by omega) (by omega) e
 · exact gzX_ne own (by omega) (by omega) e
/-- The line's last one: is it a leaf still? -/
theorem gz_last : (∀ z ∈ cksL K, ¬ inC (brH K) (gwX (k - 1)) z) ↔ (own = true ∨ a < k - 1) := by
 have hn := gwX_ne (s := []) (by decide) (k - 1)
 constructor
 · intro hz
   refine Classical.byContradiction fun hno => ?_
   have ho : own = false := by cases own; rfl; exact absurd (.inl rfl) hno
   have hak : a = k - 1 := by omega
   have hm : (gzX own a, gzC own a) ∈ cksL K := (gz_cks hk ha h _).2 (.inr rfl)
   exact hz _ hm ((gz_in hk ha h hm hn).2 (.inr ⟨ho, by rw [hak], rfl⟩))
 · intro hh z hz hc
   rcases (gz_in hk ha h hz hn).1 hc with ⟨i, hi, e, _⟩ | ⟨ho, e, _⟩
   · have := gw_inj (by omega) (by omega) e; omega
   · have := gw_inj (by omega) (by omega) e
     rcases hh with hh | hh
     · rw [ho] at hh; cases hh
     · omega
theorem gz_isl : isLf K (gwX (k - 1)) = (own || decide (a < k - 1)) := by
 rw [Bool.eq_iff_iff, Bool.or_eq_true, decide_eq_true_iff, ← gz_last hk ha h, isLf_iff]
 constructor
 · rintro ⟨_, _, _, hz⟩; exact hz
 · intro hz
   exact ⟨_, (gz_cks hk ha h _).2 (.inl ⟨k - 1, by omega, rfl⟩), rfl, hz⟩
theorem gz_len {q : List Lf} (hq : q.Perm (lvL K)) : q.length = if own || decide (a < k - 1) then 2 else 1 := by
 have hmx : ∀ y, y ∈ lvL K ↔ y = ⟨gzB own, gzX own a⟩ ∨ ((own = true ∨ a < k - 1) ∧ y = ⟨trB, gwX (k - 1)⟩) := fun y => by
  rw [mem_lvL]
  constructor
  · rintro ⟨x, hx, hz, rfl⟩
    rcases (gz_cks hk ha h x).1 hx with ⟨i, hi, rfl⟩ | rfl
    · right
      by_cases hik : i = k - 1
      · subst hik
        exact ⟨(gz_last hk ha h).1 hz, by rw [gz_brw hk ha h hi]⟩
      · have hm : (gwX (i + 1), gwC (i + 1)) ∈ cksL K := (gz_cks hk ha h _).2 (.inl ⟨i + 1, by omega, rfl⟩)
        exact absurd ((gz_in hk ha h hm (gwX_ne (by decide) i)).2 (.inl ⟨i, by omega, rfl, rfl⟩)) (hz _ hm)
    · left; rw [gz_brx hk ha h]
  · rintro (rfl | ⟨hh, rfl⟩)
    · refine ⟨_, (gz_cks hk ha h _).2 (.inr rfl), fun z hz hc => ?_, by rw [gz_brx hk ha h]⟩
      rcases (gz_in hk ha h hz (gzX_nil own a)).1 hc with ⟨i, _, e, _⟩ | ⟨_, e, _⟩
      · exact gzX_ne own (by omega) (by omega) e
      · exact gzX_ne own (by omega) (by omega) e
    · exact ⟨(gwX (k - 1), gwC (k - 1)), (gz_cks hk ha h _).2 (.inl ⟨k - 1, by omega, rfl⟩), (gz_last hk ha h).2 hh, by rw [gz_brw hk ha h (by omega)]⟩
 have hn : (lvL K).Nodup := List.Pairwise.of_map lfKey (fun a b h e => h (by rw [e])) (lvL_nodup h.cnd)
 have hne : (⟨gzB own, gzX own a⟩ : Lf) ≠ ⟨trB, gwX (k - 1)⟩ := fun e => gzX_ne own (by omega) (by omega) (congrArg Lf.name e)
 rw [hq.length_eq]
 by_cases hh : own = true ∨ a < k - 1
 · have hp : (lvL K).Perm [⟨gzB own, gzX own a⟩, ⟨trB, gwX (k - 1)⟩] := (List.perm_ext_iff_of_nodup hn (by simp [hne])).2 fun y => by rw [hmx]; simp [hh]
   rw [hp.length_eq, if_pos (by simpa using hh)]; rfl
 · have hp : (lvL K).Perm [⟨gzB own, gzX own a⟩] := (List.perm_ext_iff_of_nodup hn (by simp)).2 fun y => by rw [hmx]; simp [hh]
   rw [hp.length_eq, if_neg (by simpa using hh)]; rfl
end
end
section
set_option maxRecDepth 100000
theorem picksSelf : ∀ As : List HP, Picks As As []
 | [] => .nil
 | A :: r => .cons .here (picksSelf r)
theorem takeStep {α : Type} {l l' : List α} {j : Nat} (h : j < l.length) (h' : j < l'.length) (e : l.take j = l'.take j) (x : l[j] = l'[j]) : l.take (j + 1) = l'.take (j + 1) := by
 rw [List.take_succ_eq_append_getElem h, List.take_succ_eq_append_getElem h', e, x]
end
section
set_option maxRecDepth 100000
theorem eqLf (a b : Lf) : eqCells [vS a.branch, vS a.name] [vS b.branch, vS b.name] = decide (a = b) := by
 obtain ⟨a0, a1⟩ := a
 obtain ⟨b0, b1⟩ := b
 simp only [eqCells, eqCell_s, Bool.and_true, Lf.mk.injEq, Bool.decide_and]
set_option maxHeartbeats 2000000 in
theorem book_SameLf_sp {As : List HP} {a a' : Option Addr} (n n' c c' : Nat) (l l' : List Lf) [h1 : RdSl a (l.flatMap lfCells) As] [h2 : RdSl a' (l'.flatMap lfCells) As] (hn : l.length = n) (hn' : l'.length = n') (hb : n ≤ 140737488355328) :
    Sp1 Tryz.prog 31 [.slice a n c, .slice a' n' c'] As (vB (decide (l = l'))) As := by
 subst hn; subst hn'
 haveI : PicksC As As [] := ⟨picksSelf As⟩
 refine Sp.body (n := 26) Tryz.call31 Tryz.func31 rfl rfl rfl ?_
 refine Qc (k:=Vv (k:=Wq (Za (k:=Qc (k:=Qv (k:=Qv (k:=Vv (k:=?_))))))))
 refine Wq (Zi (t:=fun h10 => ?_) (f:=fun h10 => ?_))
 ·
  refine Qc (k:=Vv (k:=Wq (Zt (k:=Va ?_))))
  have hn : ¬ l = l' := fun e => h10 (by rw [e])
  exact fin_ret () (vs := [_]) (Cs := []) rfl (.tmp rfl .nil) (by rw [decide_eq_false hn]; rfl) trivial (by rw [List.append_nil]; exact Ent.refl _)
 ·
  refine Zk (k:=Ya (Za (k:=Qc (k:=Vv (k:=Wq (Zb (k:=?_)))))))
  refine p_loop (fun (i : { j : Nat // j ≤ l.length ∧ l.take j = l'.take j }) => [(0, .slice a l.length c), (1, .slice a' l'.length c'), (5, vI i.1)]) (fun (i : { j : Nat // j ≤ l.length ∧ l.take j = l'.take j }) => As) (fun (i : { j : Nat // j ≤ l.length ∧ l.take j = l'.take j }) => l.length - i.1) rfl (⟨0, Nat.zero_le _, rfl⟩) ?_ ?_ (fun i => ?_)
  · exact ⟨rfl, rfl, rfl, trivial⟩
  ·
   exact Ent.refl _
  obtain ⟨j, hj, hw⟩ := i
  try dsimp only
  refine Za (k:=Qc (k:=Qv (k:=Qv (k:=Wq (Zi (t:=fun h14 => ?_) (f:=fun h14 => ?_))))))
  ·
   refine Zk (k:=Ya (Za (k:=Zb (k:=Za (k:=?_)))))
   have hjl : j < l.length := by omega
   have hjl' : j < l'.length := by omega
   have hq := eqLf l[j] l'[j]
   refine d_draw rfl rfl rfl As ?_
   refine Dv 0 (k:=Dv 1 (k:=?_))
   refine d_first 2 rfl rfl rfl (by kernel_rfl) (by kernel_rfl) (tl_elemAddr (sz := 2) Tryz.underlying64 ti63 rfl rfl rfl rfl (by omega) (by first | (rw [List.length_map]; omega) | (rw [flat_len (sz := 2) (fun _ => rfl)]; omega) | (simp; omega)) rfl) ?_
   refine d_first 3 rfl rfl rfl (by kernel_rfl) (by kernel_rfl) (tl_eloada (vs := [_, _]) (sz := 2) Tryz.underlying63 rfl ti63 rfl rfl (by rw [flat_len (sz := 2) (fun _ => rfl)]; omega) rfl (by refine get_flat (fun x => ?_) ?_ <;> first | rfl | omega)) ?_
   refine Dv 4 (k:=Dv 5 (k:=?_))
   refine d_first 6 rfl rfl rfl (by kernel_rfl) (by kernel_rfl) (tl_elemAddr (sz := 2) Tryz.underlying64 ti63 rfl rfl rfl rfl (by omega) (by first | (rw [List.length_map]; omega) | (rw [flat_len (sz := 2) (fun _ => rfl)]; omega) | (simp; omega)) rfl) ?_
   refine d_first 7 rfl rfl rfl (by kernel_rfl) (by kernel_rfl) (tl_eloada (vs := [_, _]) (sz := 2) Tryz.underlying63 rfl ti63 rfl rfl (by rw [flat_len (sz := 2) (fun _ => rfl)]; omega) rfl (by refine get_flat (fun x => ?_) ?_ <;> first | rfl | omega)) ?_
   refine d_first 8 rfl rfl rfl (by kernel_rfl) (by kernel_rfl) (tl_pv (pv_aneq [.string, .string] Tryz.underlying63 (by kernel_rfl) (by kernel_rfl) (by kernel_rfl) rfl rfl rfl)) ?_
   refine Dd (k:=?_)
   rw [hq]
   refine Ya (Zi (t:=fun h25 => ?_) (f:=fun h25 => ?_))
   ·
    refine Qc (k:=Vv (k:=Wq (Zt (k:=Vb (Va (Vi (Vb (Va ?_))))))))
    have hn : ¬ l = l' := fun e => by subst e; simp at h25
    exact fin_ret () (vs := [_]) (Cs := []) rfl (.tmp rfl .nil) (by rw [decide_eq_false hn]; rfl) trivial (by rw [List.append_nil]; exact Ent.refl _)
   ·
    refine Zk (k:=Yb (Ya (Zr (k:=Qv (k:=Vv (k:=Wn ?_))))))
    have hx : l[j] = l'[j] := by simpa using h25
    exact to_inv ⟨j + 1, by omega, takeStep hjl hjl' hw hx⟩ (by dsimp only; omega) ⟨rfl, rfl, rfl, trivial⟩ (by rw [List.append_nil]; exact Ent.refl _)
  ·
   refine Ze (k:=Xa (Xi (Xb (Ya (Qc (k:=Vv (k:=Wq (Zt (k:=?_)))))))))
   have hjl : j = l.length := by omega
   subst hjl
   have he : l = l' := by
    have e1 : l'.length = l.length := by omega
    rw [List.take_length, ← e1, List.take_length] at hw
    exact hw
   exact fin_ret () (vs := [_]) (Cs := []) rfl (.tmp rfl .nil) (by rw [decide_eq_true he]; rfl) trivial (by rw [List.append_nil]; exact Ent.refl _)
end
section
section
variable {r : Option Nat} {P : Program} {n : Nat} {ops : Array Oper} {os : List Oper} {A : List HP} {L : Loc} {Hs : List HP} {Q : Out} {ty : TypeId} {d : Nat} {pos : String} {after : Array Edge} {c : Code}
theorem opt_insert {t kt e : TypeId} {x y z : Operand} {b : Nat} {ks : Ks} {k : List UInt8} {v : Value} (ht : P.underlying t = some (.map kt e)) (hk : P.underlying kt = some .string)
    (hx : ev L x = some (.map (some b))) (hy : ev L y = some (vS k)) (hz : ev L z = some v) :
    OpT r P n ⟨none, .insert t x y z, ty, pos, after, none⟩ A L [MapS b ks] (fun _ : Unit => undef) (fun _ => True) (fun _ => [MapS b (mput ks k v)]) :=
 opt_mapUpdate (pos := pos) (after := after) (ty := ty) ht hk hx hy hz
theorem r_insert {os : List Oper} {Q : Out} {t kt e : TypeId} {x y z : Operand} {b : Nat} {ks : Ks} {k : List UInt8} {v : Value} {Rs : List HP} (ht : P.underlying t = some (.map kt e)) (hk : P.underlying kt = some .string)
    (hx : ev L x = some (.map (some b))) (hy : ev L y = some (vS k)) (hz : ev L z = some v) [h : MapPC b ks Hs Rs] (K : wo r P n ops os L (MapS b (mput ks k v) :: Rs) Q) : wo r P n ops (⟨none, .insert t x y z, ty, pos, after, none⟩ :: os) L Hs Q := by
 haveI : PicksC [MapS b ks] Hs Rs := ⟨.cons h.get .nil⟩
 exact wo_opT (by intro c; simp) (opt_insert ht hk hx hy hz (ks := ks)) rfl (fun _ _ => K)
end
section
variable {α : Type} (a b c : α)
end
end
section
set_option maxRecDepth 100000
/-- ref10.Checkin of a check-in that has no files. -/
theorem ref10_me_sp {Bt : HP} (pa : Option Addr) (pc : Nat) (ta : Option Addr) (tc : Nat) {ps : List Bs} {ts : List Tg} {u : Bs} {d : Int} (h : RightK (ckMe ps ts u d)) (hpc : ps.length ≤ pc) (sht : SlA Bt ta (ts.flatMap tgCells)) :
    Sp1 Tryz.prog 16 [.agg #[vS [], vS [], vI d, .slice none 0 0, .slice pa ps.length pc, .slice ta ts.length tc, vS u]] [SlI none [], SlI pa (ps.map vS), Bt] (vS (ckB (ckMe ps ts u d))) [SlI none [], Bt] :=
 ref10_Checkin_sp (Bf := SlI none []) ⟨none, 0, pa, pc, ta, tc⟩ (ckMe ps ts u d) (right_z h) h.date (Nat.le_trans (ck_small h) (by decide)) sla_sli sht hpc
end
section
set_option maxRecDepth 100000
def hE : List Lf := [⟨[98], [98]⟩, ⟨trB, [99]⟩]
set_option maxHeartbeats 8000000 in
theorem HeadsRuns_sp : Sp1 Tryz.prog 6 [] [] (vB true) [] := by
 have hCa := ref10_me_sp (Bt := SlI none []) none 0 none 0 hA_right (Nat.le_refl _) sla_sli
 simp only [List.map_nil, List.length_nil] at hCa
 rw [show ckB (ckMe [] [] me 0) = ckB hA from rfl] at hCa
 have hS := ref1_Sum_sp (ckB hA) (Nat.le_trans (ckB_len hA_right) (by decide))
 rw [show shaB (ckB hA) = hX from rfl] at hS
 have hCb : ∀ p t, Sp1 Tryz.prog 16 [.agg #[vS [], vS [], vI 0, .slice none 0 0, .slice (some ⟨p, 0, none⟩) 1 1, .slice (some ⟨t, 0, none⟩) 1 1, vS me]] [SlI none [], SlI (some ⟨p, 0, none⟩) [vS hX], Ce t 60 (hT.flatMap tgCells)] (vS (ckB hB)) [SlI none [], Ce t 60 (hT.flatMap tgCells)] := fun p t =>
  ref10_me_sp (Bt := Ce t 60 (hT.flatMap tgCells)) (some ⟨p, 0, none⟩) 1 (some ⟨t, 0, none⟩) 1 hB_right (Nat.le_refl _) sla_ce
 have hCc : ∀ p, Sp1 Tryz.prog 16 [.agg #[vS [], vS [], vI 0, .slice none 0 0, .slice (some ⟨p, 0, none⟩) 1 1, .slice none 0 0, vS me]] [SlI none [], SlI (some ⟨p, 0, none⟩) [vS hX], SlI none []] (vS (ckB hC)) [SlI none [], SlI none []] := fun p =>
  ref10_me_sp (Bt := SlI none []) (some ⟨p, 0, none⟩) 1 none 0 hC_right (Nat.le_refl _) sla_sli
 have hk : mput (mput (mput [] hX (vS (ckB hA))) [98] (vS (ckB hB))) [99] (vS (ckB hC)) = hK := rfl
 have hlen : hK.length = 3 := by rw [h_held.len]; rfl
 have hLv := fun b => heads_Leaves_sp b hK h_held.txt h_held.knd (by rw [hlen]; omega)
 have hBr := fun b => heads_Branch_sp b hK h_held.txt h_held.knd (by rw [hlen]; omega)
 have hIl := fun b => heads_IsLeaf_sp b hK h_held.txt h_held.knd (by rw [hlen]; omega) hX
 have hBb := fun b => hBr b [98]
 have hBc := fun b => hBr b [99]
 rw [h_bb] at hBb
 rw [h_bx.2] at hBc
 rw [h_isLf] at hIl
 have hq := fun q => h_leaves (q := q)
 rw [show ([⟨[98], [98]⟩, ⟨trB, [99]⟩] : List Lf) = hE from rfl] at hq
 have hEc : ([vS [98], vS [98], vS [116, 114, 117, 110, 107], vS [99]] : List Value) = hE.flatMap lfCells := rfl
 have hEl : hE.length = 2 := rfl
 clear hBr
 generalize hK = H at *
 generalize hX = x at *
 generalize ckB hA = ca at *
 generalize ckB hB = cb at *
 generalize ckB hC = cc at *
 generalize hE = E at *
 refine Sp.body (n := 46) Tryz.call6 Tryz.func6 rfl rfl rfl ?_
 refine Qc (k:=Vv (k:=Wq (Qc (k:=Vx (Ps [vS [], vS [], .int .i64 0, .slice none 0 0, .slice none 0 0, .slice none 0 0, _]) (k:=?_)))))
 refine wo_ent' sli_nil ?_
 refine r_call1 hCa rfl rfl rfl ?_
 refine Vv (k:=Wq (Qc (k:=Vv (k:=?_))))
 refine r_callF hS rfl rfl rfl ?_
 refine Vv (k:=Wq (Qc (k:=?_)))
 refine r_mkmap rfl (fun b8 => ?_)
 refine Qv (k:=?_)
 refine r_insert Tryz.underlying31 Tryz.underlying9 rfl rfl rfl ?_
 refine Qv (k:=Wq (Qc (k:=Qv (k:=Zv [_] (cs := [_]) (k:=fun b14 => Vx (Ps [_, _, _, _]) (k:=Zv [_] (cs := [_, _, _, _]) (k:=fun b16 => Vx (Ps [vS [], vS [], .int .i64 0, .slice none 0 0, _, _, _]) (k:=?_))))))))
 refine wo_frzC b14 ?_
 refine wo_ent' (ce_norm (b := b16) (T := 60) (l' := hT.flatMap tgCells) (by rfl) (by rfl)) ?_
 refine r_call1 (hCb b14 b16) rfl rfl rfl ?_
 refine r_mapUpdate Tryz.underlying31 Tryz.underlying9 rfl rfl rfl ?_
 refine Wq (Qc (k:=Qv (k:=Zv [_] (cs := [_]) (k:=fun b21 => Vx (Ps [vS [], vS [], .int .i64 0, .slice none 0 0, _, .slice none 0 0, _]) (k:=?_)))))
 refine wo_frzC b21 ?_
 refine r_call1 (hCc b21) rfl rfl rfl ?_
 refine r_mapUpdate Tryz.underlying31 Tryz.underlying9 rfl rfl rfl ?_
 refine Wq (Qc (k:=?_))
 rw [hk]
 refine Vv (k:=?_)
 refine r_callX (hLv b8) rfl rfl rfl (fun xp hxp => ?_)
 obtain ⟨⟨pa, pc⟩, q⟩ := xp
 dsimp only at hxp ⊢
 obtain rfl := hq q hxp
 refine Vx (Ps [_, _]) (k:=Vx (Ps [_, _]) (k:=Zv [_, _] (cs := [_, _, _, _]) (k:=fun b28 => ?_)))
 refine wo_ent' (ce_norm (b := b28) (T := 63) (l' := q.flatMap lfCells) (by rfl) hEc) ?_
 refine r_call1 (book_SameLf_sp (As := [Row 63 2 (.slice pa q.length pc) q.length (q.flatMap lfCells), Ce b28 63 (q.flatMap lfCells)]) q.length 2 pc 2 q q rfl hEl (by omega)) rfl rfl rfl ?_
 refine Vv (k:=Gi 6 (t:=fun h30 => ?_) (f:=fun h30 => ?_))
 ·
  refine J1 (k:=I1 (k:=?_))
  refine r_call1 (hBc b8) rfl rfl rfl ?_
  refine J1 (k:=P1 (k:=Vv (k:=Gi 11 (t:=fun h35 => ?_) (f:=fun h35 => ?_))))
  ·
   refine J1 (k:=I1 (k:=?_))
   refine r_call1 (hBb b8) rfl rfl rfl ?_
   refine J1 (k:=P1 (k:=Vv (k:=Gi 16 (t:=fun h40 => ?_) (f:=fun h40 => ?_))))
   ·
    refine J1 (k:=J1 (k:=I1 (k:=?_)))
    refine r_call1 (hIl b8) rfl rfl rfl ?_
    refine J1 (k:=P1 (k:=Vv (k:=Wq (Zt (k:=?_)))))
    exact fin_ret () (vs := [_]) (Cs := []) rfl (.tmp rfl .nil) rfl trivial ent_nil
   ·
    exact absurd rfl h40
    --done
  ·
   exact absurd rfl h35
   --done
 ·
  simp at h30
  --done
end
end Go.Proofs.YtdnoacgopfcpbaaGreat
/- Map literals of other keys. -/
namespace Go.Proofs.YtdnoacgopfcpbaaGreat.MX
section
variable {α : Type} {r : Option Nat} {P : Program} {n : Nat} {ops : Array Oper} {os : List Oper} {A : List HP} {L : Loc} {Hs : List HP} {Q : Out} {ty : TypeId} {d : Nat} {pos : String} {after : Array Edge} {c : Code}
theorem opt_insert [DecidableEq α] {E : KeyE α} {t kt e : TypeId} {x y z : Operand} {b : Nat} {ks : Ks α} {k : α} {v : Value} (ht : P.underlying t = some (.map kt e)) (hk : KeyP P kt E)
    (hx : ev L x = some (.map (some b))) (hy : ev L y = some (E.enc k)) (hz : ev L z = some v) :
    OpT r P n ⟨none, .insert t x y z, ty, pos, after, none⟩ A L [MapS E b ks] (fun _ : Unit => undef) (fun _ => True) (fun _ => [MapS E b (mput ks k v)]) :=
 opt_mapUpdate (pos := pos) (after := after) (ty := ty) ht hk hx hy hz
theorem r_insert [DecidableEq α] {E : KeyE α} {t kt e : TypeId} {x y z : Operand} {b : Nat} {ks : Ks α} {k : α} {v : Value} {Rs : List HP} (ht : P.underlying t = some (.map kt e)) (hk : KeyP P kt E)
    (hx : ev L x = some (.map (some b))) (hy : ev L y = some (E.enc k)) (hz : ev L z = some v) [h : MapPC E b ks Hs Rs] (K : wo r P n ops os L (MapS E b (mput ks k v) :: Rs) Q) : wo r P n ops (⟨none, .insert t x y z, ty, pos, after, none⟩ :: os) L Hs Q := by
 haveI : PicksC [MapS E b ks] Hs Rs := ⟨.cons h.get .nil⟩
 exact wo_opT (by intro c; simp) (opt_insert ht hk hx hy hz (ks := ks)) rfl (fun _ _ => K)
end
/-- yes and no. -/
abbrev yn (u v : Value) : Ks Bool := mput (mput [] true u) false v
theorem yn_look (u v z : Value) (b : Bool) : (mlook (yn u v) b).getD z = if b then u else v := by cases b <;> rfl
end Go.Proofs.YtdnoacgopfcpbaaGreat.MX
namespace Go.Proofs.YtdnoacgopfcpbaaGreat
section
set_option maxRecDepth 100000
def withinI (n lo hi : Int) : Int := lo + n % (hi - lo + 1)
theorem withinI_in {n lo hi : Int} (h : lo ≤ hi) : lo ≤ withinI n lo hi ∧ withinI n lo hi ≤ hi := by
 have h1 := Int.emod_nonneg n (show hi - lo + 1 ≠ 0 by omega)
 have h2 := Int.emod_lt_of_pos n (show 0 < hi - lo + 1 by omega)
 unfold withinI; omega
theorem tmod_cases (n m : Int) (hm : 1 ≤ m) : (0 ≤ n.tmod m ∧ n.tmod m = n % m ∨ n.tmod m < 0 ∧ n.tmod m + m = n % m) ∧ -m < n.tmod m ∧ n.tmod m < m := by
 have e1 := Int.emod_nonneg n (show m ≠ 0 by omega)
 have e2 := Int.emod_lt_of_pos n (show 0 < m by omega)
 have hd := Int.emod_emod_of_dvd n (Int.dvd_refl m)
 rcases Int.lt_or_le n 0 with h | h
 · have h2 : n.tmod m = -((-n) % m) := by
     have : n = -(-n) := by omega
     conv => lhs; rw [this]
     rw [Int.neg_tmod, Int.tmod_eq_emod_of_nonneg (by omega)]
   have e3 := Int.emod_nonneg (-n) (show m ≠ 0 by omega)
   have e4 := Int.emod_lt_of_pos (-n) (show 0 < m by omega)
   have hs : (n % m + (-n) % m) % m = 0 := by
    rw [← Int.add_emod, Int.add_right_neg, Int.zero_emod]
   by_cases hz : (-n) % m = 0
   · have : n % m = 0 := by
       rw [hz, Int.add_zero, Int.emod_emod_of_dvd n (Int.dvd_refl m)] at hs; exact hs
     rw [h2, hz, this]; omega
   · have hsum : n % m + (-n) % m = m := by
       have hpos : 0 < n % m + (-n) % m := by omega
       have hlt : n % m + (-n) % m < m + m := by omega
       have hge : m ≤ n % m + (-n) % m := by
        apply Classical.byContradiction; intro hc
        rw [Int.emod_eq_of_lt (by omega) (by omega)] at hs
        omega
       have : (n % m + (-n) % m - m) % m = 0 := by rw [Int.sub_emod, hs]; simp
       rw [Int.emod_eq_of_lt (by omega) (by omega)] at this
       omega
     rw [h2]; omega
 · rw [Int.tmod_eq_emod_of_nonneg h]; omega
theorem zb26ret {G : Prop} (h : G := by exact fin_ret () (vs := [_]) rfl (.tmp rfl .nil) (by rw [hw]; exact congrArg vI (by omega)) trivial ent_nil) : G := h
theorem book_Within_sp (n lo hi : Int) (h1 : -1099511627776 ≤ lo) (h2 : lo ≤ hi) (h3 : hi ≤ 1099511627776) : SpF Tryz.prog 26 [vI n, vI lo, vI hi] (vI (withinI n lo hi)) := by
 have hc := tmod_cases n (hi - lo + 1) (by omega)
 have hw : withinI n lo hi = lo + n % (hi - lo + 1) := rfl
 refine Sp.body (n := 24) Tryz.call26 Tryz.func26 rfl rfl rfl ?_
 refine Qc (k:=Vv (k:=Wq (Qc (k:=Qv (k:=Qv (k:=Vv (k:=?_)))))))
 refine wo_pv (pv_remt rfl rfl (by omega)) rfl ?_
 refine Vv (k:=Wq (Za (k:=Qc (k:=Qv (k:=Wq (Zi (t:=fun h14 => ?_) (f:=fun h14 => ?_)))))))
 ·
  refine Zr (k:=Qv (k:=Qv (k:=Qv (k:=Vv (k:=Wq (Qc (k:=Vv (k:=?_))))))))
  refine Qv (k:=Vv (k:=Wq (Zt (k:=?_))))
  exact zb26ret
 ·
  refine Zk (k:=Ya (Qc (k:=Qv (k:=Qv (k:=Wq (Zt (k:=?_)))))))
  exact zb26ret
end
section
set_option maxRecDepth 100000
theorem book_SameLf_same {As : List HP} {a a' : Option Addr} (n n' c c' : Nat) (l : List Lf) [h1 : RdSl a (l.flatMap lfCells) As] [h2 : RdSl a' (l.flatMap lfCells) As] (hn : l.length = n) (hn' : l.length = n') (hb : n ≤ 140737488355328) :
    Sp1 Tryz.prog 31 [.slice a n c, .slice a' n' c'] As (vB true) As := by
 have := book_SameLf_sp (As := As) (a := a) (a' := a') n n' c c' l l hn hn' hb
 rwa [decide_eq_true rfl] at this
def gwN (k : Nat) : List Bs := (List.range k).map gwX
theorem gwN_succ (k : Nat) : gwN (k + 1) = gwN k ++ [gwX k] := by simp [gwN, List.range_succ]
theorem gwN_len (k : Nat) : (gwN k).length = k := by simp [gwN]
theorem gwN_get {k i : Nat} (h : i < k) : ((gwN k).map vS)[i]? = some (vS (gwX i)) := by simp [gwN, h]
theorem gwN_get1 {k : Nat} : ((gwN k).map vS ++ [vS (gwX k)])[k]? = some (vS (gwX k)) := by
 rw [List.getElem?_append_right (by simp [gwN])]
 simp [gwN]
theorem yn2 (b : Bool) : (if false = true then Value.tuple #[(MX.mlook (MX.yn (vI 2) (vI 1)) b).getD (vI 0), .bool (MX.mlook (MX.yn (vI 2) (vI 1)) b).isSome] else (MX.mlook (MX.yn (vI 2) (vI 1)) b).getD (vI 0)) = vI (if b then 2 else 1) := by
 rw [if_neg (by simp), MX.yn_look]
 cases b <;> rfl
theorem zb7join10 {G : Prop} (h : G := by
    first
    | (have hp : (gwC j).parents = [gwX (j - 1)] := by rw [gwC, if_neg (by omega)]; rfl
       rw [hp]
       refine to_inv ⟨(some ⟨b33, 0, none⟩, 1), Nat.le_refl _⟩ trivial ⟨rfl, rfl, rfl, rfl, rfl, rfl, rfl, rfl, rfl, trivial⟩ ?_
       simp only [List.length_cons, List.length_nil, Nat.zero_add, List.map_cons, List.map_nil]
       exact ent_pick)
    | (have hp : (gwC j).parents = [] := by rw [gwC, if_pos (by omega)]; rfl
       rw [hp]
       refine to_inv ⟨(none, 0), Nat.le_refl _⟩ trivial ⟨rfl, rfl, rfl, rfl, rfl, rfl, rfl, rfl, rfl, trivial⟩ ?_
       simp only [List.length_nil, List.map_nil]
       exact sli_nil.trans ent_pick)) : G := h
theorem zb7ret23 {G : Prop} (h : G := by exact fin_ret () (vs := [_]) (Cs := []) rfl (.tmp rfl .nil) rfl trivial ent_nil) : G := h
theorem zb7join20 {G : Prop} (h : G := by
    first
    | (have ht : (gzC own a).tags = gwT := by rw [gzC, h70]; rfl
       rw [ht]
       refine to_inv ⟨(some ⟨b72, 0, none⟩, 1), trivial⟩ trivial ⟨rfl, rfl, rfl, rfl, rfl, rfl, trivial⟩ ?_
       rw [show gwT.flatMap tgCells = [.int .u8 42, vS [98, 114, 97, 110, 99, 104], vS [42], vS [97]] from rfl, show gwT.length = 1 from rfl]
       exact ent_pick)
    | (have ht : (gzC own a).tags = [] := by rw [gzC, h70]; rfl
       rw [ht]
       refine to_inv ⟨(none, 0), trivial⟩ trivial ⟨rfl, rfl, rfl, rfl, rfl, rfl, trivial⟩ ?_
       simp only [List.length_nil, List.flatMap_nil]
       exact sli_nil.trans ent_pick)) : G := h
set_option maxHeartbeats 16000000 in
theorem HeadsGrow_sp (n_ from_ : Int) (own : Bool) : Sp1 Tryz.prog 7 [vI n_, vI from_, vB own] [] (vB true) [] := by
 have hW1 := book_Within_sp n_ 1 6 (by omega) (by omega) (by omega)
 have hw1 := withinI_in (n := n_) (show (1 : Int) ≤ 6 by omega)
 obtain ⟨k, hk⟩ : ∃ k : Nat, withinI n_ 1 6 = (k : Int) := ⟨(withinI n_ 1 6).toNat, by omega⟩
 rw [hk] at hW1 hw1
 clear hk
 have hW2 := book_Within_sp from_ 0 ((k : Int) - 1) (by omega) (by omega) (by omega)
 have hw2 := withinI_in (n := from_) (show (0 : Int) ≤ (k : Int) - 1 by omega)
 obtain ⟨a, ha⟩ : ∃ a : Nat, withinI from_ 0 ((k : Int) - 1) = (a : Int) := ⟨(withinI from_ 0 ((k : Int) - 1)).toNat, by omega⟩
 rw [ha] at hW2 hw2
 clear ha
 have hk6 : k ≤ 6 := by omega
 have hk1 : 1 ≤ k := by omega
 have hak : a < k := by omega
 have hkc : (k : Int) - 1 = ((k - 1 : Nat) : Int) := by omega
 refine Sp.body (n := 120) Tryz.call7 Tryz.func7 rfl rfl rfl ?_
 refine Qc (k:=Vv (k:=Wq (Qc (k:=Vv (k:=?_)))))
 refine r_callF hW1 rfl rfl rfl ?_
 refine Vv (k:=Wq (Qc (k:=?_)))
 refine r_mkmap rfl (fun b19 => ?_)
 refine Vv (k:=Wq (Qc (k:=Vv (k:=Wq (Za (k:=Qc (k:=Qv (k:=Wq ?_))))))))
 refine Zb (k:=?_)
 refine p_loop (fun (i : { x : (Option Addr × Nat) × Nat × Ks // x.2.1 ≤ k ∧ HeldP x.2.2 (gL x.2.1) }) => [(1, vI from_), (2, vB own), (7, vI k), (8, .map (some b19)), (9, .slice i.1.1.1 i.1.2.1 i.1.1.2), (20, vI k), (21, vI i.1.2.1)]) (fun (i : { x : (Option Addr × Nat) × Nat × Ks // x.2.1 ≤ k ∧ HeldP x.2.2 (gL x.2.1) }) => [MapS b19 i.1.2.2, Row 9 1 (.slice i.1.1.1 i.1.2.1 i.1.1.2) i.1.2.1 ((gwN i.1.2.1).map vS)]) (fun (i : { x : (Option Addr × Nat) × Nat × Ks // x.2.1 ≤ k ∧ HeldP x.2.2 (gL x.2.1) }) => k - i.1.2.1) rfl (⟨((none, 0), 0, []), Nat.zero_le _, HeldP.nil⟩) ?_ ?_ (fun i => ?_)
 · exact ⟨rfl, rfl, rfl, rfl, rfl, rfl, rfl, trivial⟩
 ·
  dsimp only
  rw [show (gwN 0).map vS = [] from rfl]
  exact (row_nil (e := 9) (sz := 1)).trans ent_pick
 obtain ⟨⟨⟨sa, sc⟩, j, K⟩, hj, hh⟩ := i
 dsimp only at hj hh ⊢
 have hgl := gwN_len j
 try dsimp only
 refine Qc (k:=Vv (k:=Wq (Za (k:=Zi (t:=fun h22 => ?_) (f:=fun h22 => ?_)))))
 ·
  refine Zk (k:=Ya (Za (k:=Zb (k:=Qc (k:=Qv (k:=Wq (Qc (k:=Vv (k:=?_)))))))))
  refine Vx (Ps [vS [], vS [], _, .slice none 0 0, .slice none 0 0, .slice none 0 0, _]) (k:=Zc [vS [], vS [], .int .i64 0, .slice none 0 0, .slice none 0 0, .slice none 0 0, vS []] (k:=fun b11 => Zp (k:=Wq ?_)))
  refine p_cut (fun (i : { x : Option Addr × Nat // (gwC j).parents.length ≤ x.2 }) => [(1, vI from_), (2, vB own), (7, vI k), (8, .map (some b19)), (9, .slice sa j sc), (10, vI j), (11, .pointer (some ⟨b11, 0, none⟩)), (20, vI k), (21, vI j)]) (fun (i : { x : Option Addr × Nat // (gwC j).parents.length ≤ x.2 }) => [MapS b19 K, Row 9 1 (.slice sa j sc) j ((gwN j).map vS), Ce b11 30 [vS [], vS [], vI j, .slice none 0 0, .slice i.1.1 (gwC j).parents.length i.1.2, .slice none 0 0, vS [109, 101]], SlI i.1.1 ((gwC j).parents.map vS)]) rfl (fun i => ?_) ?_
  ·
   obtain ⟨⟨pa, pc⟩, hpc⟩ := i
   dsimp only at hpc ⊢
   have hjk : j < k := by omega
   have hCk : Sp1 Tryz.prog 16 [.agg #[vS [], vS [], vI j, .slice none 0 0, .slice pa (gwC j).parents.length pc, .slice none 0 0, vS me]] [SlI none [], SlI pa ((gwC j).parents.map vS), SlI none []] (vS (ckB (gwC j))) [SlI none [], SlI none []] :=
    ref10_me_sp (Bt := SlI none []) (ps := (gwC j).parents) (ts := []) (d := (j : Int)) (u := me) pa pc none 0 (gwC_right (i := j) (by omega)) hpc sla_sli
   have hSm := ref1_Sum_sp (ckB (gwC j)) (Nat.le_trans (ckB_len (gwC_right (by omega))) (by decide))
   rw [← gwX_eq] at hSm
   try dsimp only
   refine Qc (k:=Zm [_, _, _, _, _, _, _] (k:=?_))
   refine wo_ent' sli_nil ?_
   refine r_call1 hCk rfl rfl rfl ?_
   refine Vv (k:=Wq (Qc (k:=Qv (k:=?_))))
   refine r_callF hSm rfl rfl rfl ?_
   refine Zv [_] (cs := [_]) (k:=fun b40 => ?_)
   refine r_append1 (sz := 1) (bytes := 16) Tryz.underlying27 ti9 rfl rfl rfl rfl rfl rfl rfl (by rfl) (by rfl) (by omega) (by simp only [maxLen]; omega) rfl (fun a41 c41 => ?_)
   refine Vv (k:=Wq (Zr (k:=Qv (k:=Vv (k:=?_)))))
   refine r_elemAddr (m := j) (sz := 1) Tryz.underlying27 ti9 rfl rfl rfl rfl (by omega) (by simp) (Nat.mul_one _) rfl ?_
   refine r_eload Tryz.underlying9 rfl rfl gwN_get1 rfl ?_
   refine Vv (k:=?_)
   refine r_mapUpdate Tryz.underlying31 Tryz.underlying9 rfl rfl rfl ?_
   refine Wn (Yb (Ya (Zr (k:=Qv (k:=Wn ?_)))))
   refine to_inv ⟨((a41, c41), j + 1, mput K (gwX j) (vS (ckB (gwC j)))), by dsimp only; omega, gL_put hh (by omega)⟩ (by dsimp only; omega) ⟨rfl, rfl, rfl, rfl, rfl, rfl, rfl, trivial⟩ ?_
   dsimp only
   rw [gwN_succ, List.map_append, List.map_cons, List.map_nil]
   exact ent_pick
  ·
   refine Qc (k:=Qv (k:=Wq (Zi (t:=fun h27 => ?_) (f:=fun h27 => ?_))))
   ·
    refine Zr (k:=Qv (k:=Vv (k:=?_)))
    refine r_elemAddr (m := j - 1) (sz := 1) Tryz.underlying27 ti9 rfl rfl rfl (by omega) (by omega) (by rw [List.length_map]; omega) (Nat.mul_one _) rfl ?_
    refine r_eload Tryz.underlying9 rfl rfl (gwN_get (by omega)) rfl ?_
    refine Zv [_] (cs := [_]) (k:=fun b33 => Vf 4 27 (k:=Zo (k:=?_)))
    refine wo_frzC b33 ?_
    refine Wn ?_
    exact zb7join10
   ·
    refine Zk (k:=?_)
    exact zb7join10
 ·
  have hjk : j = k := by omega
  subst hjk
  have hlen : K.length ≤ 1000000 := by
   rw [hh.len]
   have : (gL j).length = j := by simp [gL]
   omega
  have hLv := heads_Leaves_sp b19 K hh.txt hh.knd hlen
  refine Ze (k:=Xa (Xi (Xb (Ya (Za (k:=?_))))))
  refine p_cut (fun (i : Unit) => [(1, vI from_), (2, vB own), (7, vI j), (8, .map (some b19)), (9, .slice sa j sc), (59, vB false)]) (fun (i : Unit) => [MapS b19 K, Row 9 1 (.slice sa j sc) j ((gwN j).map vS)]) rfl (fun i => ?_) ?_
  ·
   try dsimp only
   refine Zi (t:=fun h59 => ?_) (f:=fun h59 => ?_)
   ·
    cases h59
    --done
   ·
    refine Zk (k:=Ya (Qc (k:=Qv (k:=Vv (k:=?_)))))
    refine r_callF hW2 rfl rfl rfl ?_
    refine Vv (k:=Wq (Qc (k:=Qv (k:=?_))))
    refine r_elemAddr (m := a) (sz := 1) Tryz.underlying27 ti9 rfl rfl rfl rfl (by omega) (by rw [List.length_map]; omega) (Nat.mul_one _) rfl ?_
    refine r_eload Tryz.underlying9 rfl rfl (gwN_get (by omega)) rfl ?_
    refine Zv [_] (cs := [_]) (k:=fun b68 => Vx (Ps [vS [], vS [], _, .slice none 0 0, _, .slice none 0 0, _]) (k:=Zc [vS [], vS [], .int .i64 0, .slice none 0 0, .slice none 0 0, .slice none 0 0, vS []] (k:=fun b14 => Zp (k:=?_))))
    refine wo_frzC b68 ?_
    refine Wq ?_
    refine p_cut (fun (i : { x : Option Addr × Nat // True }) => [(2, vB own), (7, vI j), (8, .map (some b19)), (9, .slice sa j sc), (13, vI a), (14, .pointer (some ⟨b14, 0, none⟩))]) (fun (i : { x : Option Addr × Nat // True }) => [MapS b19 K, Row 9 1 (.slice sa j sc) j ((gwN j).map vS), Ce b14 30 [vS [], vS [], vI 50, .slice none 0 0, .slice (some ⟨b68, 0, none⟩) 1 1, .slice i.1.1 (gzC own a).tags.length i.1.2, vS [109, 101]], SlI (some ⟨b68, 0, none⟩) [vS (gwX a)], SlI i.1.1 ((gzC own a).tags.flatMap tgCells)]) rfl (fun i => ?_) ?_
    ·
     obtain ⟨⟨ta, tc⟩, _⟩ := i
     dsimp only
     have hCz : Sp1 Tryz.prog 16 [.agg #[vS [], vS [], vI 50, .slice none 0 0, .slice (some ⟨b68, 0, none⟩) 1 1, .slice ta (gzC own a).tags.length tc, vS me]] [SlI none [], SlI (some ⟨b68, 0, none⟩) [vS (gwX a)], SlI ta ((gzC own a).tags.flatMap tgCells)] (vS (ckB (gzC own a))) [SlI none [], SlI ta ((gzC own a).tags.flatMap tgCells)] :=
      ref10_me_sp (Bt := SlI ta ((gzC own a).tags.flatMap tgCells)) (some ⟨b68, 0, none⟩) 1 ta tc (gzC_right own a) (Nat.le_refl _) sla_sli
     have hSz := ref1_Sum_sp (ckB (gzC own a)) (Nat.le_trans (ckB_len (gzC_right own a)) (by decide))
     rw [show shaB (ckB (gzC own a)) = gzX own a from rfl] at hSz
     have hz := gz_put (own := own) hk6 hak hh
     have hzl : (mput K (gzX own a) (vS (ckB (gzC own a)))).length ≤ 1000000 := by
      rw [hz.len]
      have : (gL j).length = j := by simp [gL]
      simp [this]
      omega
     have hI1 := heads_IsLeaf_sp b19 _ hz.txt hz.knd hzl (gzX own a)
     have hI2 := heads_IsLeaf_sp b19 _ hz.txt hz.knd hzl (gwX (j - 1))
     have hL2 := heads_Leaves_sp b19 _ hz.txt hz.knd hzl
     rw [gz_isx hk6 hak hz] at hI1
     rw [gz_isl hk6 hak hz] at hI2
     have hln := fun q => gz_len hk6 hak hz (q := q)
     have hdc : decide ((a : Int) < (j : Int) - 1) = decide (a < j - 1) := by
      rw [Bool.eq_iff_iff, decide_eq_true_iff, decide_eq_true_iff]; omega
     obtain ⟨K2, hK2⟩ : ∃ q, q = mput K (gzX own a) (vS (ckB (gzC own a))) := ⟨_, rfl⟩
     rw [← hK2] at hI1 hI2 hL2 hln
     try dsimp only
     refine Qc (k:=Zm [_, _, _, _, _, _, _] (k:=?_))
     refine wo_ent' sli_nil ?_
     refine r_call1 hCz rfl rfl rfl ?_
     refine Vv (k:=Wq (Qc (k:=Vv (k:=?_))))
     refine r_callF hSz rfl rfl rfl ?_
     refine Vv (k:=Wq (Qc (k:=Qv (k:=Vv (k:=?_)))))
     refine r_mapUpdate Tryz.underlying31 Tryz.underlying9 rfl rfl rfl ?_
     rw [← hK2]
     refine Wq (Qc (k:=Qv (k:=?_)))
     refine r_call1 hI1 rfl rfl rfl ?_
     refine Vv (k:=Gi 3 (t:=fun h84 => ?_) (f:=fun h84 => ?_))
     ·
      refine J1 (k:=J1 (k:=J1 (k:=J1 (k:=I1 (k:=?_)))))
      refine r_elemAddr (m := j - 1) (sz := 1) Tryz.underlying27 ti9 rfl rfl rfl (by omega) (by omega) (by rw [List.length_map]; omega) (Nat.mul_one _) rfl ?_
      refine I1 (k:=?_)
      refine r_eload Tryz.underlying9 rfl rfl (gwN_get (by omega)) rfl ?_
      refine I1 (k:=?_)
      refine r_call1 hI2 rfl rfl rfl ?_
      refine J1 (k:=J1 (k:=Gi 12 (t:=fun h93 => ?_) (f:=fun h93 => ?_)))
      ·
       refine O1 (k:=O1 (k:=O1 (k:=O1 (k:=I1 (k:=P1 (k:=I1 (k:=?_)))))))
       refine wo_pv (pv_beql Tryz.underlying4 rfl rfl) rfl ?_
       refine P1 (k:=Vv (k:=Gi 20 (t:=fun h101 => ?_) (f:=fun h101 => ?_)))
       ·
        refine J1 (k:=I1 (k:=?_))
        refine r_callX hL2 rfl rfl rfl (fun xq hxq => ?_)
        obtain ⟨⟨ra, rc⟩, q2⟩ := xq
        dsimp only at hxq ⊢
        have hql := hln q2 hxq.1
        refine J1 (k:=I1 (k:=?_))
        refine MX.r_mkmap (E := MX.boolE) rfl (fun b105 => ?_)
        refine I1 (k:=?_)
        refine MX.r_insert (E := MX.boolE) (k := true) Tryz.underlying57 (MX.boolP Tryz.underlying4) rfl rfl rfl ?_
        refine I1 (k:=?_)
        refine MX.r_insert (E := MX.boolE) (k := false) Tryz.underlying57 (MX.boolP Tryz.underlying4) rfl rfl rfl ?_
        refine J1 (k:=J1 (k:=J1 (k:=Gi 29 (t:=fun h108 => ?_) (f:=fun h108 => ?_))))
        ·
         refine O1 (k:=O1 (k:=O1 (k:=O1 (k:=I1 (k:=P1 (k:=I1 (k:=?_)))))))
         refine MX.r_lookup (E := MX.boolE) Tryz.underlying57 (MX.boolP Tryz.underlying4) ti3 rfl rfl rfl (yn2 _) rfl ?_
         refine J1 (k:=P1 (k:=Vv (k:=Gi 38 (t:=fun h117 => ?_) (f:=fun h117 => ?_))))
         ·
          refine I1 (k:=?_)
          refine r_call1 HeadsRuns_sp rfl rfl rfl ?_
          refine P1 (k:=Vv (k:=Wq (Zt (k:=?_))))
          exact zb7ret23
         ·
          exfalso
          first
          | (rw [h93] at h108; cases h108; done)
          | (refine h117 ?_; rw [hql, h108, Bool.true_or]; rfl)
          | (refine h117 ?_; rw [hql, h108, Bool.false_or, hdc]; cases decide (a < j - 1) <;> rfl)
          --done
        ·
         refine J0 (k:=J0 (k:=J0 (k:=J0 (k:=I1 (k:=P0 (k:=I1 (k:=?_)))))))
         refine MX.r_lookup (E := MX.boolE) Tryz.underlying57 (MX.boolP Tryz.underlying4) ti3 rfl rfl rfl (yn2 _) rfl ?_
         refine J1 (k:=P1 (k:=Vv (k:=Gi 38 (t:=fun h117 => ?_) (f:=fun h117 => ?_))))
         ·
          refine I1 (k:=?_)
          refine r_call1 HeadsRuns_sp rfl rfl rfl ?_
          refine P1 (k:=Vv (k:=Wq (Zt (k:=?_))))
          exact zb7ret23
         ·
          exfalso
          first
          | (rw [h93] at h108; cases h108; done)
          | (refine h117 ?_; rw [hql, h108, Bool.true_or]; rfl)
          | (refine h117 ?_; rw [hql, h108, Bool.false_or, hdc]; cases decide (a < j - 1) <;> rfl)
          --done
       ·
        exfalso
        first
        | (rw [h93, Bool.true_or] at h101; simp at h101; done)
        | (rw [h93, Bool.false_or, hdc] at h101; simp at h101; done)
        --done
      ·
       refine J0 (k:=J0 (k:=J0 (k:=J0 (k:=I1 (k:=P0 (k:=I1 (k:=?_)))))))
       refine wo_pv (pv_beql Tryz.underlying4 rfl rfl) rfl ?_
       refine P1 (k:=Vv (k:=Gi 20 (t:=fun h101 => ?_) (f:=fun h101 => ?_)))
       ·
        refine J1 (k:=I1 (k:=?_))
        refine r_callX hL2 rfl rfl rfl (fun xq hxq => ?_)
        obtain ⟨⟨ra, rc⟩, q2⟩ := xq
        dsimp only at hxq ⊢
        have hql := hln q2 hxq.1
        refine J1 (k:=I1 (k:=?_))
        refine MX.r_mkmap (E := MX.boolE) rfl (fun b105 => ?_)
        refine I1 (k:=?_)
        refine MX.r_insert (E := MX.boolE) (k := true) Tryz.underlying57 (MX.boolP Tryz.underlying4) rfl rfl rfl ?_
        refine I1 (k:=?_)
        refine MX.r_insert (E := MX.boolE) (k := false) Tryz.underlying57 (MX.boolP Tryz.underlying4) rfl rfl rfl ?_
        refine J1 (k:=J1 (k:=J1 (k:=Gi 29 (t:=fun h108 => ?_) (f:=fun h108 => ?_))))
        ·
         refine O1 (k:=O1 (k:=O1 (k:=O1 (k:=I1 (k:=P1 (k:=I1 (k:=?_)))))))
         refine MX.r_lookup (E := MX.boolE) Tryz.underlying57 (MX.boolP Tryz.underlying4) ti3 rfl rfl rfl (yn2 _) rfl ?_
         refine J1 (k:=P1 (k:=Vv (k:=Gi 38 (t:=fun h117 => ?_) (f:=fun h117 => ?_))))
         ·
          refine I1 (k:=?_)
          refine r_call1 HeadsRuns_sp rfl rfl rfl ?_
          refine P1 (k:=Vv (k:=Wq (Zt (k:=?_))))
          exact zb7ret23
         ·
          exfalso
          first
          | (rw [h93] at h108; cases h108; done)
          | (refine h117 ?_; rw [hql, h108, Bool.true_or]; rfl)
          | (refine h117 ?_; rw [hql, h108, Bool.false_or, hdc]; cases decide (a < j - 1) <;> rfl)
          --done
        ·
         refine J0 (k:=J0 (k:=J0 (k:=J0 (k:=I1 (k:=P0 (k:=I1 (k:=?_)))))))
         refine MX.r_lookup (E := MX.boolE) Tryz.underlying57 (MX.boolP Tryz.underlying4) ti3 rfl rfl rfl (yn2 _) rfl ?_
         refine J1 (k:=P1 (k:=Vv (k:=Gi 38 (t:=fun h117 => ?_) (f:=fun h117 => ?_))))
         ·
          refine I1 (k:=?_)
          refine r_call1 HeadsRuns_sp rfl rfl rfl ?_
          refine P1 (k:=Vv (k:=Wq (Zt (k:=?_))))
          exact zb7ret23
         ·
          exfalso
          first
          | (rw [h93] at h108; cases h108; done)
          | (refine h117 ?_; rw [hql, h108, Bool.true_or]; rfl)
          | (refine h117 ?_; rw [hql, h108, Bool.false_or, hdc]; cases decide (a < j - 1) <;> rfl)
          --done
       ·
        exfalso
        first
        | (rw [h93, Bool.true_or] at h101; simp at h101; done)
        | (rw [h93, Bool.false_or, hdc] at h101; simp at h101; done)
        --done
     ·
      cases h84
      --done
    ·
     refine Qc (k:=Vv (k:=Wq (Zi (t:=fun h70 => ?_) (f:=fun h70 => ?_))))
     ·
      refine Zr (k:=Vx (Ps [_, _, _, _]) (k:=Zv [_] (cs := [_, _, _, _]) (k:=fun b72 => Vf 5 28 (k:=Zo (k:=?_)))))
      refine wo_frzC b72 ?_
      refine Wn ?_
      exact zb7join20
     ·
      refine Zk (k:=?_)
      exact zb7join20
  ·
   refine Dw [Row 9 1 (.slice sa j sc) j ((gwN j).map vS)] (k:=?_)
   refine Dv 0 (k:=Dv 2 (k:=Dv 3 (k:=Dv 4 (k:=?_))))
   refine d_first 5 rfl rfl rfl (by kernel_rfl) (by kernel_rfl) (tl_elemAddr (m := j - 1) (sz := 1) Tryz.underlying27 ti9 rfl rfl rfl (by omega) (by omega) (by rw [List.length_map]; omega) (Nat.mul_one _)) ?_
   refine d_first 6 rfl rfl rfl (by kernel_rfl) (by kernel_rfl) (tl_eload Tryz.underlying9 rfl rfl (gwN_get (by omega))) ?_
   refine Di 7 (t:=Ux (Ps [_, _])) (k:=?_)
   refine d_next2 1 8 (by kernel_rfl) rfl rfl ?_ ?_
   ·
    refine an_callX hLv rfl rfl rfl (fun xp hxp => ?_)
    obtain ⟨⟨qa, qc⟩, q⟩ := xp
    dsimp only at hxp ⊢
    obtain rfl := gL_leaves hk1 hk6 hh hxp
    refine Dn 8 (k:=Nl [_] (cs := [_, _]) (k:=fun b57 => Dn 9 (k:=?_)))
    refine an_ent rfl (ce_norm (b := b57) (T := 63) (l' := ([⟨trB, gwX (j - 1)⟩] : List Lf).flatMap lfCells) (by rfl) (by rfl)) ?_
    refine an_call1 (book_SameLf_same (As := [Row 63 2 (.slice qa 1 qc) 1 (([⟨trB, gwX (j - 1)⟩] : List Lf).flatMap lfCells), Ce b57 63 (([⟨trB, gwX (j - 1)⟩] : List Lf).flatMap lfCells)]) 1 1 qc 1 [⟨trB, gwX (j - 1)⟩] rfl rfl (by omega)) rfl rfl rfl ?_
    refine Dv 10 (k:=Dd (k:=?_))
    exact to_inv () trivial ⟨rfl, rfl, rfl, rfl, rfl, rfl, trivial⟩ ent_pick
   ·
    refine Nl [_] (cs := [_, _]) (k:=fun b57 => Dn 1 (k:=?_))
    refine an_callX hLv rfl rfl rfl (fun xp hxp => ?_)
    obtain ⟨⟨qa, qc⟩, q⟩ := xp
    dsimp only at hxp ⊢
    obtain rfl := gL_leaves hk1 hk6 hh hxp
    refine Dn 9 (k:=?_)
    refine an_ent rfl (ce_norm (b := b57) (T := 63) (l' := ([⟨trB, gwX (j - 1)⟩] : List Lf).flatMap lfCells) (by rfl) (by rfl)) ?_
    refine an_call1 (book_SameLf_same (As := [Row 63 2 (.slice qa 1 qc) 1 (([⟨trB, gwX (j - 1)⟩] : List Lf).flatMap lfCells), Ce b57 63 (([⟨trB, gwX (j - 1)⟩] : List Lf).flatMap lfCells)]) 1 1 qc 1 [⟨trB, gwX (j - 1)⟩] rfl rfl (by omega)) rfl rfl rfl ?_
    refine Dv 10 (k:=Dd (k:=?_))
    exact to_inv () trivial ⟨rfl, rfl, rfl, rfl, rfl, rfl, trivial⟩ ent_pick
end
end Go.Proofs.YtdnoacgopfcpbaaGreat
