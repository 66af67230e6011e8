/- Texts of this proof, put together: SCl, SMaps, SFrom, PMap, SCompact. -/
import Derived.Sort.Row
import Derived.Test.YtibccdcemcgkeaaGreatQ08
import Derived.Test.YtibccdcemcgkeaaGreatQ16
import Derived.Test.YtibccdcemcgkeaaGreatQ07
import Derived.Test.YtibccdcemcgkeaaGreatQ09
set_option linter.unusedVariables false
set_option linter.unusedSimpArgs false
section
set_option maxRecDepth 100000
namespace Go.Proofs.YtibccdcemcgkeaaGreat
set_option maxHeartbeats 1000000 in
theorem cluster_Right_sp {B : HP} {a : Option Addr} (n cap : Nat) (l : List Bs) (sh : SlA B a (l.map vS)) (hn : l.length = n) (hb : n ≤ 1073741824) (hz : ∀ t ∈ l, t.length ≤ 1099511627776) :
    Sp1 Tryz.prog 83 [.slice a n cap] [B] (vB (decide (RightCl l))) [B] := by
 subst hn
 haveI : RdSl a (l.map vS) [B] := ⟨⟨B, sh, .here⟩⟩
 refine Sp.body (n := 37) Tryz.call83 Tryz.func83 rfl rfl rfl ?_
 refine Za (k:=Zr (k:=Vv (k:=Wq (Za (k:=Za (k:=Zr (k:=Vv (k:=Vv (k:=Vv (k:=Wq (Zb (k:=?_))))))))))))
 refine p_loop (fun (i : { j : Nat // j ≤ l.length ∧ ∀ i, i < j → isN (l.getD i []) = true ∧ (0 < i → blt (l.getD (i - 1) []) (l.getD i []) = true) }) => [(0, .slice a l.length cap), (5, .slice a l.length cap), (6, vI l.length), (7, vI i.1)]) (fun (i : { j : Nat // j ≤ l.length ∧ ∀ i, i < j → isN (l.getD i []) = true ∧ (0 < i → blt (l.getD (i - 1) []) (l.getD i []) = true) }) => [B]) (fun (i : { j : Nat // j ≤ l.length ∧ ∀ i, i < j → isN (l.getD i []) = true ∧ (0 < i → blt (l.getD (i - 1) []) (l.getD i []) = true) }) => l.length - i.1) rfl (⟨0, Nat.zero_le _, fun i h => by omega⟩) ?_ ?_ (fun i => ?_)
 · exact ⟨rfl, rfl, rfl, rfl, trivial⟩
 ·
  exact ent_pick
 obtain ⟨j, hj, hok⟩ := i
 dsimp only
 try dsimp only
 refine Za (k:=Zr (k:=Vv (k:=Wq (Za (k:=Zi (t:=fun h8 => ?_) (f:=fun h8 => ?_))))))
 ·
  refine Zk (k:=Ya (Za (k:=Zb (k:=Za (k:=?_)))))
  have hjl : j < l.length := by omega
  have hg : l.getD j [] = l[j] := by simp [hjl]
  have hzj := hz l[j] (List.getElem_mem hjl)
  obtain ⟨t, ht⟩ : ∃ t, t = l.getD j [] := ⟨_, rfl⟩
  rw [← hg, ← ht] at hzj
  have hbad : ∀ (h : ¬ (isN (l.getD j []) = true ∧ (0 < j → blt (l.getD (j - 1) []) (l.getD j []) = true))), decide (RightCl l) = false := fun h => decide_eq_false (fun r => h (r.ok j hjl))
  refine Zr (k:=Vv (k:=Ye 1 (k:=?_)))
  refine r_eload Tryz.underlying9 rfl rfl (get_mapD [] hjl) rfl ?_
  rw [← ht]
  refine Vv (k:=Vv (k:=Wq (Za (k:=Zr (k:=Vv (k:=?_))))))
  refine r_callF (hash_Is_sp t (by omega)) rfl rfl rfl ?_
  refine Vv (k:=Vv (k:=Gi 3 (t:=fun h15 => ?_) (f:=fun h15 => ?_)))
  ·
   refine O1 (k:=O1 (k:=O1 (k:=Ou (k:=Ou (k:=Ou (k:=Ou (k:=Ou (k:=Ou (k:=Ou (k:=O1 (k:=P1 (k:=?_))))))))))))
   refine Wq (Z1 (k:=Za (k:=Zr (k:=Vv (k:=Wq (Zt (k:=Vb (Va (Vi (Vb (Va ?_)))))))))))
   have hn : ¬ (isN (l.getD j []) = true ∧ (0 < j → blt (l.getD (j - 1) []) (l.getD j []) = true)) := fun ⟨o1, o2⟩ => by
    rw [← ht] at o1 o2
    try simp only [isN_fold] at *
    first
    | exact h15 o1
    | (have o3 := o2 (by omega); rw [o3] at h27; exact absurd h27 (by decide))
   refine fin_ret () (vs := [_]) (Cs := []) rfl (.tmp rfl .nil) (by rw [hbad hn]; rfl) trivial ent_pick
  ·
   refine I0 (k:=Vv (k:=I0 (k:=Vv (k:=I0 (k:=Vv (k:=Gi 6 (t:=fun h18 => ?_) (f:=fun h18 => ?_)))))))
   ·
    refine I1 (k:=Vv (k:=I1 (k:=Vv (k:=I1 (k:=Vv (k:=I1 (k:=?_)))))))
    refine r_elemAddr (sz := 1) (m := j - 1) (kk := j - 1) Tryz.underlying27 ti9 rfl rfl rfl (by omega) (by omega) (by rw [List.length_map]; omega) (Nat.mul_one _) rfl ?_
    refine I1 (k:=?_)
    refine r_eload Tryz.underlying9 rfl rfl (get_mapD [] (m := j - 1) (by omega)) rfl ?_
    refine I1 (k:=Vv (k:=I1 (k:=Vv (k:=I0 (k:=P1 (k:=P0 (k:=Wq (Zi (t:=fun h27 => ?_) (f:=fun h27 => ?_)))))))))
    ·
     refine Za (k:=Zr (k:=Vv (k:=Wq (Zt (k:=Vb (Va (Vi (Vb (Va ?_)))))))))
     have hn : ¬ (isN (l.getD j []) = true ∧ (0 < j → blt (l.getD (j - 1) []) (l.getD j []) = true)) := fun ⟨o1, o2⟩ => by
      rw [← ht] at o1 o2
      try simp only [isN_fold] at *
      first
      | exact h15 o1
      | (have o3 := o2 (by omega); rw [o3] at h27; exact absurd h27 (by decide))
     refine fin_ret () (vs := [_]) (Cs := []) rfl (.tmp rfl .nil) (by rw [hbad hn]; rfl) trivial ent_pick
    ·
     refine Zk (k:=Yb (Ya (Zr (k:=Vv (k:=Vv (k:=Wn ?_))))))
     refine to_inv ⟨j + 1, by omega, fun i hi => ?_⟩ (by dsimp only; omega) ⟨rfl, rfl, rfl, rfl, trivial⟩ ent_pick
     by_cases he : i = j
     · subst he
       rw [← ht]
       try simp only [isN_fold] at *
       refine ⟨Classical.not_not.1 h15, fun h0 => ?_⟩
       first
       | (exfalso; omega)
       | (simpa using h27)
     · exact hok i (by omega)
   ·
    refine O0 (k:=O0 (k:=O0 (k:=O0 (k:=O0 (k:=O0 (k:=O0 (k:=I0 (k:=P0 (k:=P0 (k:=Wq (Z0 (k:=?_))))))))))))
    refine Zk (k:=Yb (Ya (Zr (k:=Vv (k:=Vv (k:=Wn ?_))))))
    refine to_inv ⟨j + 1, by omega, fun i hi => ?_⟩ (by dsimp only; omega) ⟨rfl, rfl, rfl, rfl, trivial⟩ ent_pick
    by_cases he : i = j
    · subst he
      rw [← ht]
      try simp only [isN_fold] at *
      refine ⟨Classical.not_not.1 h15, fun h0 => ?_⟩
      first
      | (exfalso; omega)
      | (simpa using h27)
    · exact hok i (by omega)
 ·
  refine Ze (k:=Xa (Xi (Xb (Ya (Za (k:=Zr (k:=Vv (k:=Vv (k:=Vv (k:=Vv (k:=Gi 3 (t:=fun h32 => ?_) (f:=fun h32 => ?_))))))))))))
  ·
   refine I1 (k:=Vv (k:=I1 (k:=Vv (k:=I1 (k:=Vv (k:=P1 (k:=Vv (k:=Wq (Zt (k:=?_))))))))))
   refine fin_ret () (vs := [_]) (Cs := []) rfl (.tmp rfl .nil) ?_ trivial ent_pick
   show vB _ = vB _
   congr 1
   first
   | exact (decide_eq_false (fun h => by have := h.len; omega)).symm
   | exact decide_eq_decide.2 ⟨fun h => ⟨fun i hi => hok i (by omega), by omega⟩, fun h => by have := h.len; omega⟩
  ·
   refine O0 (k:=O0 (k:=O0 (k:=P0 (k:=Vv (k:=Wq (Zt (k:=?_)))))))
   refine fin_ret () (vs := [_]) (Cs := []) rfl (.tmp rfl .nil) ?_ trivial ent_pick
   show vB _ = vB _
   congr 1
   first
   | exact (decide_eq_false (fun h => by have := h.len; omega)).symm
   | exact decide_eq_decide.2 ⟨fun h => ⟨fun i hi => hok i (by omega), by omega⟩, fun h => by have := h.len; omega⟩
def prCl (l : List Bs) : Bs := if RightCl l then clB l else []
set_option maxHeartbeats 1000000 in
theorem cluster_Print_sp {B : HP} {a : Option Addr} (n cap : Nat) (l : List Bs) (sh : SlA B a (l.map vS)) (hn : l.length = n) (hb : n ≤ 1073741824) (hz : ∀ t ∈ l, t.length ≤ 1099511627776) :
    Sp1 Tryz.prog 32 [.slice a n cap] [B] (vS (prCl l)) [B] := by
 have hRt := cluster_Right_sp n cap l sh hn hb hz
 subst hn
 haveI : RdSl a (l.map vS) [B] := ⟨⟨B, sh, .here⟩⟩
 refine Sp.body (n := 24) Tryz.call32 Tryz.func32 rfl rfl rfl ?_
 refine Za (k:=Zr (k:=Vv (k:=Wq (Za (k:=Za (k:=Zr (k:=Vv (k:=?_))))))))
 refine r_call1 hRt rfl rfl rfl ?_
 refine Vv (k:=Wq (Zi (t:=fun h8 => ?_) (f:=fun h8 => ?_)))
 ·
  refine Za (k:=Zr (k:=Vv (k:=Wq (Zt (k:=Va ?_)))))
  have hn : ¬ RightCl l := by simpa using h8
  refine fin_ret () (vs := [_]) (Cs := []) rfl (.tmp rfl .nil) ?_ trivial ent_pick
  rw [prCl, if_neg hn]; rfl
 ·
  have hR : RightCl l := by simpa using h8
  have hsz := cl_small hR
  refine Zk (k:=Ya (Za (k:=Zr (k:=Vv (k:=Wq (Za (k:=Za (k:=Zr (k:=Vv (k:=Vv (k:=Vv (k:=?_))))))))))))
  refine Wq (Zb (k:=?_))
  refine p_loop (fun (i : { x : (Option Addr × Nat) × List CdV // x.2.length ≤ l.length ∧ cdsOf x.2 = clCards (l.take x.2.length) }) => [(3, .slice i.1.1.1 i.1.2.length i.1.1.2), (9, .slice a l.length cap), (10, vI l.length), (11, vI i.1.2.length)]) (fun (i : { x : (Option Addr × Nat) × List CdV // x.2.length ≤ l.length ∧ cdsOf x.2 = clCards (l.take x.2.length) }) => [Row 133 2 (.slice i.1.1.1 i.1.2.length i.1.1.2) i.1.2.length (i.1.2.flatMap CdV.cells), CdM i.1.2, B]) (fun (i : { x : (Option Addr × Nat) × List CdV // x.2.length ≤ l.length ∧ cdsOf x.2 = clCards (l.take x.2.length) }) => l.length - i.1.2.length) rfl (⟨((none, 0), []), Nat.zero_le _, rfl⟩) ?_ ?_ (fun i => ?_)
  · exact ⟨rfl, rfl, rfl, rfl, trivial⟩
  ·
   exact (row_nil (e := 133) (sz := 2)).trans (ent_cdm_nil.trans (show Ent _ [Row 133 2 (.slice none 0 0) 0 [], CdM [], B] from ent_pick))
  obtain ⟨⟨⟨oa, oc⟩, qs⟩, hj, hcd⟩ := i
  dsimp only at hj hcd ⊢
  try dsimp only
  refine Za (k:=Zr (k:=Vv (k:=Wq (Za (k:=Zi (t:=fun h12 => ?_) (f:=fun h12 => ?_))))))
  ·
   refine Zk (k:=Ya (Za (k:=Zb (k:=Za (k:=?_)))))
   have hjl : qs.length < l.length := by omega
   have htk : clCards (l.take (qs.length + 1)) = cdsOf qs ++ [clCard (l.getD qs.length [])] := by rw [List.take_succ_eq_append_getElem hjl, clCards, List.map_append, hcd]; simp [clCards, hjl]
   refine Zr (k:=Ye 1 (k:=?_))
   refine r_eload Tryz.underlying9 rfl rfl (get_mapD [] hjl) rfl ?_
   obtain ⟨x, hx⟩ : ∃ x, x = l.getD qs.length [] := ⟨_, rfl⟩
   rw [← hx] at htk ⊢
   refine Vv (k:=Wq (Zr (k:=Vv (k:=Vv (k:=Zv [_] (cs := [_]) (k:=fun b17 => Vx (Ps [_, _]) (k:=Zv [_] (cs := [_, _]) (k:=fun b19 => ?_))))))))
   refine r_append1 (sz := 2) (bytes := 32) Tryz.underlying119 ti133 rfl rfl rfl rfl rfl rfl rfl (by rfl) (by rfl) (by omega) (by simp only [maxLen]; omega) rfl (fun a20 c20 => ?_)
   refine wo_frzC b17 ?_
   refine Vv (k:=Wn (Yb (Ya (Zr (k:=Vv (k:=Vv (k:=Wn ?_)))))))
   obtain ⟨q, hqq⟩ : ∃ q : CdV, q = ⟨77, some ⟨b17, 0, none⟩, 1, [x]⟩ := ⟨_, rfl⟩
   have hqc : q.cd = clCard x := by rw [hqq]; rfl
   have hql : (qs ++ [q]).length = qs.length + 1 := by simp
   refine to_inv ⟨((a20, c20), qs ++ [q]), ?_, ?_⟩ ?_ ⟨sl_eq hql.symm, rfl, rfl, vI_eq (by dsimp only; omega), trivial⟩ ?_
   · dsimp only; omega
   · dsimp only; rw [hql, htk, cds_snoc, hqc]
   · dsimp only; omega
   · dsimp only
     rw [hql]
     refine (ent_cdm_new (qs := qs) (a := some ⟨b17, 0, none⟩) (c := 1) 77 [x] [vS x] HasC.get HasC.get rfl (Nat.le_refl _)).trans ?_
     rw [← hqq]
     exact ent_step (row_norm (by rfl) (by rw [fm_snoc, hqq]; rfl)) ent_pick
  ·
   refine Ze (k:=Xa (Xi (Xb (Ya (Za (k:=?_))))))
   have hjl : qs.length = l.length := by omega
   rw [hjl, List.take_length] at hcd
   have hPr := card_Print_sp (B := Row 133 2 (.slice oa qs.length oc) qs.length (qs.flatMap CdV.cells)) (a := oa) qs.length oc qs sla_row rfl (by rw [hcd]; omega)
   rw [show (vS (prB (cdsOf qs))) = vS (prCl l) from by rw [prCl, if_pos hR, prB, hcd, if_pos (rightCl_cards hR)]; rfl] at hPr
   refine Zr (k:=Vv (k:=?_))
   refine r_call1 hPr rfl rfl rfl ?_
   refine Vv (k:=Wq (Zt (k:=?_)))
   exact fin_ret () (vs := [_]) (Cs := []) rfl (.tmp rfl .nil) rfl trivial ent_pick
theorem argsOf_flat : ∀ (x : UInt8) (l : List Cd), (argsOf x l).flatten.length ≤ (bodyB l).length := by
 intro x l
 induction l with
 | nil => simp [argsOf]
 | cons c l ih =>
   rw [bodyB_cons, List.length_append, List.length_cons]
   have e : (lineB c).length = (argsB c.args).length + 1 := by simp [lineB]
   have h1 := argsB_len c.args
   have e2 : argsOf x (c :: l) = (if c.l = x then [c.args] else []) ++ argsOf x l := by
    by_cases h : c.l = x <;> simp [argsOf, h]
   rw [e2, List.flatten_append, List.length_append]
   split
   · simp only [List.flatten_cons, List.flatten_nil, List.append_nil]; omega
   · simp only [List.flatten_nil, List.length_nil]; omega
/-- Names that are being gathered. -/
def NmB (b : Nat) (xs : List Bs) : HP := Ex fun z : Option Addr × Nat => Al [Ce b 27 [.slice z.1 xs.length z.2], Row 9 1 (.slice z.1 xs.length z.2) xs.length (xs.map vS)]
theorem fold_nmb {b T : Nat} {xs : List Bs} {v : Value} {Hs R1 Rs : List HP} (a : Option Addr) (k m : Nat) (hm : m = xs.length) [q : OwnC b T [v] Hs R1] (hT : T = 27) (h1 : v = .slice a m k) {n : Nat} {ys : List Value} {e sz : Nat} [q2 : RowC (.slice a m k) e sz n ys R1 Rs] (he : e = 9) (hsz : sz = 1) (hn : n = m) (hy : ys = xs.map vS) : Ent Hs (NmB b xs :: Rs) := by
 subst hT; subst h1; subst he; subst hsz; subst hn; subst hy; subst hm
 refine ent_ex (a, k) ?_
 refine ent_al ?_
 exact Picks.ent (.cons q.get (.cons q2.get .nil))
abbrev nmsH (x : (Option Addr × Nat) × List Bs) : List HP := [Row 9 1 (.slice x.1.1 x.2.length x.1.2) x.2.length (x.2.map vS)]
abbrev nmsV (x : (Option Addr × Nat) × List Bs) : Value := .slice x.1.1 x.2.length x.1.2
set_option maxHeartbeats 2000000 in
theorem cluster_Read_sp (s : Bs) (hs : s.length ≤ 1073741824) : Sp Tryz.prog 25 [vS s] [] (X := (Option Addr × Nat) × List Bs) (fun x => .tuple #[nmsV x, vB (readCl s).isSome]) (fun x => x.2 = (readCl s).getD []) nmsH := by
 refine Sp.body (n := 30) Tryz.call25 Tryz.func25 rfl rfl rfl ?_
 refine Za (k:=Zr (k:=Vv (k:=Vv (k:=Wq (Za (k:=Zr (k:=Vv (k:=?_))))))))
 refine r_callX (card_Read_sp s hs) rfl rfl rfl (fun x11 hx11 => ?_)
 obtain ⟨⟨ca, cc⟩, qs⟩ := x11
 dsimp only [cardV, cardH] at hx11 ⊢
 have hbz : (bodyB (cdsOf qs)).length ≤ 1073741824 := by
  rw [hx11]
  cases e : readC s with
  | none => simp [bodyB]
  | some l =>
    have h1 := congrArg List.length (readC_iff.1 e).2
    rw [printB, sealB_len] at h1
    simp only [Option.getD_some]; omega
 obtain ⟨hqn, hqz⟩ := cds_sizes hbz
 have hz := argsOf_sizes hbz 77
 have hfz := argsOf_flat 77 (cdsOf qs)
 have hof := ofL_argsOf 77 qs
 have hnone : ∀ (h : ∀ c, ReadsCl s c → False), readCl s = none := fun h => the_none h
 have hrl : ∀ l, ReadsCl s l → l = (argsOf 77 (cdsOf qs)).flatten := fun l h => by
  rw [hx11, readC_iff.2 h.reads, Option.getD_some, argsOf_cl, flat_single]
 refine Vv (k:=?_)
 refine wo_pv (pv_extract (v := .slice ca qs.length cc) rfl rfl) rfl ?_
 refine wo_pv (pv_extract (v := vB (readC s).isSome) rfl rfl) rfl ?_
 refine Vv (k:=Vv (k:=Wq (Za (k:=Zr (k:=Zc [.slice none 0 0] (k:=fun b6 => Wq (Za (k:=Za (k:=Zr (k:=Vv (k:=?_)))))))))))
 refine r_callX (card_Of_sp ca qs.length cc 77) rfl rfl rfl (fun x15 _ => ?_)
 refine Wq (Zb (k:=?_))
 refine p_rangeFunc (fun pre => [NmB b6 (pre.map (fun p => p.2.args)).flatten, CdM qs]) (fun j pre => [Pu False]) rfl (card_Of_it qs.length cc x15.1 x15.2 qs 77 (B := Row 133 2 (.slice ca qs.length cc) qs.length (qs.flatMap CdV.cells)) sla_row rfl (by omega)) rfl (fun _ => by rfl) rfl ?_ (fun l pre q hok => ?_) ?_ (fun j pre hs => ?_)
 · (refine ent_app ?_; simp only [List.map_nil, List.flatten_nil]; refine Ent.trans (row_nil (e := 9) (sz := 1)) ?_; exact (fold_nmb (b := b6) (xs := []) none 0 0 (by rfl) (by rfl) (by rfl) (by rfl) (by rfl) (by rfl) (by rfl)).trans ent_pick)
 ·
  obtain ⟨rr, hrr⟩ := hok
  obtain ⟨hqm, _⟩ := ofL_mem (p := q) (by rw [hrr]; simp)
  have hall : argsOf 77 (cdsOf qs) = pre.map (fun p => p.2.args) ++ q.2.args :: rr.map (fun p => p.2.args) := by rw [← hof, hrr]; simp
  refine wc_ent' (ent_cd hqm HasC.get) ?_
  refine wc_front (NmB b6 (pre.map (fun p => p.2.args)).flatten) (wc_exi fun z => wc_al ?_)
  obtain ⟨za, zc⟩ := z
  obtain ⟨qi, ql, qa, qc, xs⟩ := q
  dsimp only at hqm hall
  dsimp only [encO]
  obtain ⟨ys, hys⟩ : ∃ ys, ys = (pre.map (fun p => p.2.args)).flatten := ⟨_, rfl⟩
  have hyl : ys.length + xs.length ≤ 1073741824 := by
   rw [hall, List.flatten_append, ← hys, List.flatten_cons, List.length_append, List.length_append] at hfz
   omega
  rw [← hys]
  refine Zr (k:=Vv (k:=Wg (Zb (k:=Zr (k:=Zd (k:=Vv (k:=?_)))))))
  refine r_appendA (sz := 1) (bytes := 16) Tryz.underlying27 ti9 rfl rfl rfl rfl rfl rfl rfl (by first | rfl | (rw [List.length_map, Nat.mul_one]; try omega) | (rw [flat_len (fun _ => rfl)]; try omega) | (simp; try omega)) (by first | rfl | (simp [oneCell]; done) | (simp [List.all_flatMap, oneCell]; done)) (by omega) (by simp only [maxLen]; omega) rfl (fun a20 c20 => ?_)
  refine Zo (k:=Wn (Yb ?_))
  refine to_round ?_
  rw [List.map_append, List.map_singleton, List.flatten_append, ← hys]
  exact ent_step (fold_nmb a20 c20 (ys.length + xs.length) (by simp) (by rfl) (by rfl) (by rfl) (by rfl) (by rfl) (by simp)) ent_pick
 ·
  skip
  refine Yb (Ya (Za (k:=Za (k:=?_))))
  rw [hof]
  refine wc_front (NmB b6 (argsOf 77 (cdsOf qs)).flatten) (wc_exi fun z => wc_al ?_)
  obtain ⟨za, zc⟩ := z
  dsimp only
  have hem : ∀ t ∈ (argsOf 77 (cdsOf qs)).flatten, t.length ≤ 1099511627776 := fun t ht => by
   obtain ⟨xs, hx, ha⟩ := List.mem_flatten.1 ht
   have := (hz.2 xs hx).2 t ha
   omega
  generalize (argsOf 77 (cdsOf qs)).flatten = out at hfz hrl hem ⊢
  have hPr := cluster_Print_sp (B := Row 9 1 (.slice za out.length zc) out.length (out.map vS)) (a := za) out.length zc out sla_row rfl (by omega) hem
  refine Zr (k:=Vv (k:=Vv (k:=Vv (k:=Gi 2 (t:=fun h23 => ?_) (f:=fun h23 => ?_)))))
  ·
   refine O1 (k:=O1 (k:=O1 (k:=O1 (k:=P1 (k:=Wq (Z1 (k:=Za (k:=Zr (k:=Vv (k:=Vv (k:=Wq ?_)))))))))))
   refine Zt (k:=Va ?_)
   have hn : readCl s = none := hnone fun c h => by
    have e := hrl c h
    have e2 : prCl out = s := by rw [← e, prCl, if_pos h.1]; exact h.2
    have e3 := (reads_len h.reads).1
    first
    | exact h28 e2
    | (rw [show s = [] from by simpa using h23] at e3; simp at e3)
   rw [hn]
   refine fin_ret ((none, 0), []) (vs := [_, _]) (Cs := []) rfl (.tmp rfl (.tmp rfl .nil)) rfl rfl ?_
   exact (row_nil (e := 9) (sz := 1)).trans (show Ent _ [Row 9 1 (.slice none 0 0) 0 []] from ent_pick)
  ·
   refine I0 (k:=Zd (k:=I0 (k:=?_)))
   refine r_call1 hPr rfl rfl rfl ?_
   refine I0 (k:=Vv (k:=I0 (k:=Vv (k:=P0 (k:=Wq (Zi (t:=fun h28 => ?_) (f:=fun h28 => ?_)))))))
   ·
    refine Za (k:=Zr (k:=Vv (k:=Vv (k:=Wq (Zt (k:=Va ?_))))))
    have hn : readCl s = none := hnone fun c h => by
     have e := hrl c h
     have e2 : prCl out = s := by rw [← e, prCl, if_pos h.1]; exact h.2
     have e3 := (reads_len h.reads).1
     first
     | exact h28 e2
     | (rw [show s = [] from by simpa using h23] at e3; simp at e3)
    rw [hn]
    refine fin_ret ((none, 0), []) (vs := [_, _]) (Cs := []) rfl (.tmp rfl (.tmp rfl .nil)) rfl rfl ?_
    exact (row_nil (e := 9) (sz := 1)).trans (show Ent _ [Row 9 1 (.slice none 0 0) 0 []] from ent_pick)
   ·
    refine Zk (k:=Ya (Za (k:=Zr (k:=Zd (k:=Vv (k:=Vv (k:=Wq (Zt (k:=?_)))))))))
    have he : prCl out = s := Classical.not_not.1 h28
    have hk : readCl s = some out := readCl_iff.2 (by
     rw [prCl] at he
     split at he
     · rename_i hR; exact ⟨hR, he⟩
     · exact absurd he.symm h23)
    rw [hk]
    refine fin_ret ((za, zc), out) (vs := [_, _]) (Cs := []) rfl (.tmp rfl (.tmp rfl .nil)) rfl rfl ?_
    exact ent_pick
 ·
  exact wc_no (fun s => by obtain ⟨_, _, _, _, a, _⟩ := s; exact a)
end Go.Proofs.YtibccdcemcgkeaaGreat
end
section
set_option maxRecDepth 100000
namespace Go.Proofs.YtibccdcemcgkeaaGreat
section
variable {r : Option Nat} {P : Program} {n : Nat} {ops : Array Oper} {A : List HP} {L : Loc} {Hs : List HP} {ty : TypeId} {d : Nat} {pos : String} {after : Array Edge}
end
/-! Sorting texts. -/
theorem bits_Len_zero : SpF Tryz.prog 105 [.int .u64 0] (vI 0) := SpF.of_same Tryz.call105 fun w => (Tryz.bits_Len 0 w (by omega) (by omega)).mono fun e w' ⟨h1, h2⟩ => ⟨by rw [h1]; rfl, h2⟩
theorem insertionSort_nil : SpF Tryz.prog 156 [.slice none 0 0, vI 0, vI 0] (.tuple #[]) := by
 refine Sp.body (n := 49) Tryz.call156 Tryz.func156 rfl rfl rfl ?_
 refine Za (k:=Zr (k:=Vv (k:=Vv (k:=Vv (k:=Wq (Zb (k:=?_)))))))
 refine p_loop (fun (i : Unit) => [(0, .slice none 0 0), (1, vI 0), (2, vI 0), (6, vI 1)]) (fun (i : Unit) => []) (fun (i : Unit) => 0) rfl (()) ?_ ?_ (fun i => ?_)
 · exact ⟨rfl, rfl, rfl, rfl, trivial⟩
 ·
  exact Ent.refl _
 try dsimp only
 refine Za (k:=Za (k:=Zr (k:=Vv (k:=Vv (k:=Vv (k:=Wq (Zi (t:=fun h12 => ?_) (f:=fun h12 => ?_))))))))
 ·
  simp at h12
  --done
 ·
  refine Ze (k:=Xa (Xi (Xb ?_)))
  exact fin_end () (vs := []) (Cs := []) rfl .nil rfl trivial ent_nil
theorem pdqsort_nil : SpF Tryz.prog 104 [.slice none 0 0, vI 0, vI 0, vI 0] (.tuple #[]) := by
 refine Sp.body (n := 134) Tryz.call104 Tryz.func104 rfl rfl rfl ?_
 refine Za (k:=Zr (k:=Vv (k:=Wq (Za (k:=Zr (k:=Vv (k:=Wq (Zb (k:=?_)))))))))
 refine p_loop (fun (i : Unit) => [(0, .slice none 0 0), (1, vI 0), (2, vI 0), (3, vI 0)]) (fun (i : Unit) => []) (fun (i : Unit) => 0) rfl (()) ?_ ?_ (fun i => ?_)
 · exact ⟨rfl, rfl, rfl, rfl, trivial⟩
 ·
  exact Ent.refl _
 try dsimp only
 refine Zb (k:=Za (k:=Zr (k:=Vv (k:=Vv (k:=Vv (k:=Vv (k:=Wq (Za (k:=Za (k:=Zr (k:=Vv (k:=?_))))))))))))
 refine Vv (k:=Wq (Zi (t:=fun h23 => ?_) (f:=fun h23 => ?_)))
 ·
  refine Za (k:=Zr (k:=Vv (k:=Vv (k:=Vv (k:=?_)))))
  refine r_callF insertionSort_nil rfl rfl rfl ?_
  refine Wq (Zt (k:=Va (Vb (Vi (Vb ?_)))))
  exact fin_ret () (vs := []) (Cs := []) rfl .nil rfl trivial ent_nil
 ·
  simp at h23
  --done
theorem slices_Sort_nil : SpF Tryz.prog 55 [.slice none 0 0] (.tuple #[]) := by
 refine Sp.body (n := 11) Tryz.call55 Tryz.func55 rfl rfl rfl ?_
 refine Za (k:=Zr (k:=Vv (k:=Vv (k:=Vv (k:=Wq (Zr (k:=Vv (k:=Vv (k:=Vv (k:=?_))))))))))
 refine wo_pv (pv_conv_in (i := 0) rfl Tryz.underlying3 Tryz.underlying105 (by decide)) rfl ?_
 refine r_callF bits_Len_zero rfl rfl rfl ?_
 refine r_callF pdqsort_nil rfl rfl rfl ?_
 refine Wn ?_
 exact fin_end () (vs := []) (Cs := []) rfl .nil rfl trivial ent_nil
theorem sat_grow {w : World} {M : Kn} {h : Res} (t : Sat w M h) (os : Array Obj) : Sat (Go.Sort.grow w os) M h := by
 have old : ∀ i o, w.heap[i]? = some o → (Go.Sort.grow w os).heap[i]? = some o := fun i o e => by
  rw [Go.Sort.heap_grow_old w os (Array.getElem?_eq_some_iff.1 e).1]; exact e
 exact ⟨fun i o e => old i o (t.im i o e), fun i o e => old i o (t.ow i o e), t.dj, t.env.trans ⟨rfl, rfl, rfl, by simp⟩⟩
def sortB (l : List Bs) : List Bs := l.mergeSort fun x y => decide (x ≤ y)
theorem sortB_len (l : List Bs) : (sortB l).length = l.length := by simp [sortB]
theorem slices_Sort_sp (a : Option Addr) (n c : Nat) (l : List Bs) (hn : l.length = n) (hb : n < 4611686018427387904) :
    Sp1 Tryz.prog 55 [.slice a n c] [Row 9 1 (.slice a n c) n (l.map vS)] (.tuple #[]) [Row 9 1 (.slice a n c) n ((sortB l).map vS)] := by
 subst hn
 refine ⟨Tryz.call55, fun w M h hf d t s => ?_⟩
 obtain ⟨h1, h2, d12, e, hr, _⟩ := s
 subst e
 rcases hr with ⟨hv, hl, hx⟩ | ⟨g, cap, cur, hv, hnc, hcm, hcl, hxl, htk, hh⟩
 · have hl0 : l = [] := List.eq_nil_of_length_eq_zero hl
   subst hl0
   cases hv
   refine (slices_Sort_nil.calls w M (h1.add h2) hf d t trivial).mono ?_
   rintro ee w' ⟨x, M', h', rfl, _, le, dj, t', _⟩
   exact ⟨(), M', h', rfl, trivial, le, dj, t', Res.emp, h', Res.emp_dj _, rfl, .inl ⟨rfl, rfl, by simp [sortB]⟩, trivial⟩
 · cases hv
   subst hh
   rw [Nat.mul_one] at hcl htk
   obtain ⟨d1, d2⟩ := Res.dj_add_left.1 d
   have hg : w.heap[g]? = some (.cells cur.toArray 9 (0, 0)) := t.ow _ _ (by simp [Res.add, Res.one])
   have hlt : g < w.heap.size := (Array.getElem?_eq_some_iff.1 hg).1
   have hH : Go.Sort.Holds encStr w g 0 l.toArray := by
    intro j hj
    have hj' : j < l.length := by simpa using hj
    have hc : cur[j]? = some (vS l[j]) := by
     have := congrArg (fun q => q[j]?) htk
     simp only [List.getElem?_take, hj', if_true, List.getElem?_map, List.getElem?_eq_getElem hj', Option.map_some] at this
     exact this
    refine ⟨?_, ?_⟩
    · simp only [World.cell?, Nat.zero_add, hg]
      simp [hc, hj', encStr]
    · simp [World.frozen?, hg]
   have hcall := Tryz.slices_Sort_string g 0 c l w hH hlt hb
   refine CallsIn.mono (callsIn_wide.2 hcall) ?_
   rintro ee w' ⟨rfl, k, os, rfl⟩
   have hs : (l.mergeSort fun x y => decide (x ≤ y)) = sortB l := rfl
   rw [hs]
   have hsl := sortB_len l
   generalize hq : sortB l = q at hsl ⊢
   have hput : (Go.Sort.putRow encStr (Go.Sort.ahead w k) g 0 q.toArray).heap[g]? = some (.cells (q.map vS ++ cur.drop q.length).toArray 9 (0, 0)) := by
    have h0 : (Go.Sort.ahead w k).heap[g]? = some (.cells cur.toArray 9 (0, 0)) := hg
    simp only [Go.Sort.putRow, Go.Sort.mapBlock, Array.getElem?_modify, if_true, h0, Option.map_some, Go.Sort.onCells]
    congr 2
    apply Array.ext'
    simp only [Go.Sort.putCells, Array.toList_mapIdx]
    apply List.ext_getElem?
    intro j
    simp only [List.getElem?_mapIdx, Nat.zero_le, true_and, Nat.zero_add, List.size_toArray, Nat.sub_zero]
    by_cases hj : j < q.length
    · have hjc : j < cur.length := by have := congrArg List.length htk; simp at this; omega
      rw [List.getElem?_append_left (by simpa using hj)]
      simp [hj, hjc, encStr]
    · rw [List.getElem?_append_right (by simpa using Nat.le_of_not_lt hj)]
      simp only [List.length_map, List.getElem?_drop]
      have e : q.length + (j - q.length) = j := by omega
      rw [e]
      cases hc : cur[j]? with
      | none => simp [hc]
      | some v => simp [hc, hj]
   have hoth : ∀ i, i ≠ g → (Go.Sort.putRow encStr (Go.Sort.ahead w k) g 0 q.toArray).heap[i]? = w.heap[i]? := by
    intro i hi
    simp only [Go.Sort.putRow, Go.Sort.mapBlock, Array.getElem?_modify, Ne.symm hi, if_false]
    rfl
   have t1 : Sat w M ((Res.one g (.cells cur.toArray 9 (0, 0))).add (h2.add hf)) := by rw [← Res.add_assoc]; exact t
   have t2 := Sat.setBlk (Res.dj_add_right.2 ⟨d12, d1⟩) t1 hput hoth ⟨rfl, rfl, rfl, by simp⟩
   have dn : (Res.one g (.cells (q.map vS ++ cur.drop q.length).toArray 9 (0, 0))).dj (h2.add hf) := dj_one_any (Res.dj_add_right.2 ⟨d12, d1⟩)
   obtain ⟨dn1, dn2⟩ := Res.dj_add_right.1 dn
   refine ⟨(), M, (Res.one g (.cells (q.map vS ++ cur.drop q.length).toArray 9 (0, 0))).add h2, rfl, trivial, Kn.le_refl _, Res.dj_add_left.2 ⟨dn2, d2⟩, ?_, Res.one g _, h2, dn1, rfl, .inr ⟨g, c, q.map vS ++ cur.drop q.length, rfl, hnc, hcm, ?_, ?_, ?_, rfl⟩, trivial⟩
   · rw [Res.add_assoc]; exact sat_grow t2 os
   · simp; omega
   · simp; omega
   · rw [Nat.mul_one, ← hsl, List.take_left' (by simp)]
end Go.Proofs.YtibccdcemcgkeaaGreat
end
section
set_option maxRecDepth 100000
namespace Go.Proofs.YtibccdcemcgkeaaGreat
theorem sortB_sorted (l : List Bs) : (sortB l).Pairwise (fun x y => x ≤ y) := by
 have := List.pairwise_mergeSort (le := fun x y : Bs => decide (x ≤ y)) (fun a b c h k => by simp at *; exact List.le_trans h k) (fun a b => by simp; exact List.le_total a b) l
 simp only [decide_eq_true_eq] at this
 exact this
theorem sortB_perm (l : List Bs) : (sortB l).Perm l := List.mergeSort_perm l _
end Go.Proofs.YtibccdcemcgkeaaGreat
end
section
namespace Go.Proofs.YtibccdcemcgkeaaGreat
/-! The order of texts. -/
theorem blt_iff : ∀ (a b : Bs), blt a b = true ↔ a < b := by
 intro a
 induction a with
 | nil => intro b; cases b <;> simp [blt, Op.bytesLess]
 | cons x a ih =>
   intro b
   cases b with
   | nil => simp [blt, Op.bytesLess]
   | cons y b =>
     have := ih b
     simp only [blt] at this ⊢
     rw [List.cons_lt_cons_iff, ← this]
     simp only [Op.bytesLess]
     by_cases h : x = y
     · subst h; simp
     · simp [h]
theorem blt_eq (a b : Bs) : blt a b = decide (a < b) := by
 have := blt_iff a b
 cases h : blt a b with
 | true => rw [h] at this; exact (decide_eq_true (this.1 rfl)).symm
 | false => rw [h] at this; exact (decide_eq_false (fun e => by have := this.2 e; cases this)).symm
/-- Sorted lists with the same things in them are the same. -/
theorem sorted_eq {l m : List Bs} (hl : l.Pairwise (· < ·)) (hm : m.Pairwise (· < ·)) (h : ∀ k, k ∈ l ↔ k ∈ m) : l = m := by
 have nl : l.Nodup := hl.imp fun h e => by subst e; exact absurd h (List.lt_irrefl _)
 have nm : m.Nodup := hm.imp fun h e => by subst e; exact absurd h (List.lt_irrefl _)
 exact List.Perm.eq_of_pairwise (fun _ _ _ _ h k => List.le_antisymm h k) (hl.imp fun h => List.le_of_lt h) (hm.imp fun h => List.le_of_lt h) ((List.perm_ext_iff_of_nodup nl nm).2 h)
end Go.Proofs.YtibccdcemcgkeaaGreat
end
section
set_option maxRecDepth 100000
namespace Go.Proofs.YtibccdcemcgkeaaGreat
section
variable {r : Option Nat} {P : Program} {n : Nat} {ops : Array Oper} {os : List Oper} {A : List HP} {L : Loc} {Hs : List HP} {Q : Out} {ty : TypeId} {d : Nat} {pos : String} {after : Array Edge} {c : Code}
theorem zeroCells_one (z : Value) (m : Nat) : (Builtin.zeroCells #[z] m).toList = List.replicate m z := by
 apply List.ext_getElem
 · simp [Builtin.zeroCells]
 · intro i h1 h2
   simp [Builtin.zeroCells, Nat.mod_one]
/-- clear(s[m:]). -/
theorem opt_clear {dst : Option Tmp} {t e : TypeId} {x : Operand} {ti : TypeInfo} {z : Value} {a : Option Addr} {n' c' k m q : Nat} {xs : List Value} (ht : P.underlying t = some (.slice e)) (hi : P.info? e = some ti) (hz : ti.zero = some z) (hzc : z.cells = #[z]) (hz1 : oneCell z = true)
    (hx : ev L x = some (.slice (elemA a m) q (c' - m))) (hq : 0 < q) (hmk : m + q = k) (hkc : m < c') :
    OpT r P n ⟨dst, .call ⟨.builtin .clear, #[x], #[t]⟩, ty, pos, after, none⟩ A L [Row e 1 (.slice a n' c') k xs] (fun _ : Unit => .tuple #[]) (fun _ => True) (fun _ => [Row e 1 (.slice a n' c') k (setAt xs m (List.replicate q z))]) := by
 refine opt_turn (fun ac f w M h1' hf dj tt hr => ?_)
 rcases hr with ⟨h0, h01, e1⟩ | ⟨g, cap, cur, e1, e2, e3, e4, e5, e6, e7⟩
 · omega
 · cases e1
   subst e7
   have hb : w.heap[g]? = some (.cells cur.toArray e (0, 0)) := tt.ow _ _ (by simp [Res.add, Res.one])
   rw [Nat.mul_one] at e4 e5 e6
   have hcl : (cur.take n').length = n' := by rw [e6, e5]
   have hcm : n' ≤ cur.length := by rw [List.length_take] at hcl; omega
   obtain ⟨w', hr, hb', ho', he'⟩ := run_storeCells_ce (P := P) (List.replicate q z) w cur (0 + m) 0 hb (by simp [hz1]) (by simp; omega)
   refine ⟨w', Res.one g (.cells (setAt cur m (List.replicate q z)).toArray e (0, 0)), dj_one_any dj, Sat.setBlk dj tt (by simpa using hb') ho' he', .inr ⟨g, c', setAt cur m (List.replicate q z), rfl, e2, e3, by rw [length_setAt, Nat.mul_one]; exact e4, by rw [length_setAt, Nat.mul_one]; exact e5, ?_, rfl⟩, .inl ?_⟩
   · rw [Nat.mul_one, setAt_take _ _ _ _ (by simp; omega), e6]
   · have hr' : (storeCells ⟨g, m, none⟩ (List.replicate q z)).run P w = .ok () w' := by simpa using hr
     have hq0 : q ≠ 0 := by omega
     simp [execOp, resolve, f.ev hx, elemA, invoke, builtin, Builtin.clear_, run_underlying ht, zeroValue, typeInfo, program, Sem.run, hi, hz, hzc, zeroCells_one, hr']
theorem row_shrink {e sz : Nat} {ad : Option Addr} {n' c' k m : Nat} {xs : List Value} {M : Kn} {h : Res} (x : (Row e sz (.slice ad n' c') k xs).at_ M h) (hm : m ≤ k) (hs : 0 < sz) : (Row e sz (.slice ad m c') m (xs.take (m * sz))).at_ M h := by
 rcases x with ⟨h1, h2, h3⟩ | ⟨g, cap, cur, e1, e2, e3, e4, e5, e6, e7⟩
 · cases h1
   subst h2
   have : m = 0 := by omega
   subst this
   subst h3
   exact .inl ⟨rfl, rfl, by simp⟩
 · cases e1
   refine .inr ⟨g, c', cur, rfl, by omega, e3, e4, ?_, ?_, e7⟩
   · rw [List.length_take, e5]; exact Nat.min_eq_left (Nat.mul_le_mul_right _ hm)
   · rw [← e6, List.take_take, Nat.min_eq_left (Nat.mul_le_mul_right _ hm)]
end
theorem setAt_tk : ∀ (vs l : List Value) (k : Nat), (setAt l k vs).take k = l.take k := by
 intro vs
 induction vs with
 | nil => intros; rfl
 | cons v vs ih =>
   intro l k
   simp only [setAt]
   have h1 : (setAt (l.set k v) (k + 1) vs).take k = ((setAt (l.set k v) (k + 1) vs).take (k + 1)).take k := by rw [List.take_take, Nat.min_eq_left (by omega)]
   rw [h1, ih, List.take_take, Nat.min_eq_left (by omega), List.take_set_of_le (Nat.le_refl _)]
def dedS (l : List Bs) : List Bs := l.foldl (fun acc x => if acc.getLast? = some x then acc else acc ++ [x]) []
theorem dedS_snoc (l : List Bs) (x : Bs) : dedS (l ++ [x]) = if (dedS l).getLast? = some x then dedS l else dedS l ++ [x] := by
 simp only [dedS, List.foldl_append, List.foldl_cons, List.foldl_nil]
 rfl
theorem list_snoc_ind {α : Type} {p : List α → Prop} (h0 : p []) (h1 : ∀ l x, p l → p (l ++ [x])) : ∀ l, p l := by
 have key : ∀ n (l : List α), l.length = n → p l := by
  intro n
  induction n with
  | zero => intro l h; rw [List.eq_nil_of_length_eq_zero h]; exact h0
  | succ n ih =>
    intro l h
    have hl : l ≠ [] := fun e => by rw [e] at h; simp at h
    rw [← List.dropLast_concat_getLast hl]
    exact h1 _ _ (ih _ (by simp [h]))
 exact fun l => key _ l rfl
theorem dedS_last (l : List Bs) : (dedS l).getLast? = l.getLast? := by
 induction l using list_snoc_ind with
 | h0 => rfl
 | h1 l x ih =>
   rw [dedS_snoc]
   split
   · rename_i h; rw [h]; simp
   · simp
theorem dedS_take {l : List Bs} {j : Nat} (h0 : 0 < j) (h : j < l.length) : dedS (l.take (j + 1)) = if l.getD (j - 1) [] = l.getD j [] then dedS (l.take j) else dedS (l.take j) ++ [l.getD j []] := by
 have e : (l.take j).getLast? = some (l.getD (j - 1) []) := by
  rw [List.getLast?_eq_getElem?, List.length_take, Nat.min_eq_left (by omega), List.getElem?_take_of_lt (by omega)]
  simp [show j - 1 < l.length by omega]
 rw [List.take_succ_eq_append_getElem h, dedS_snoc, dedS_last, e]
 have hg : l[j] = l.getD j [] := by simp [h]
 rw [hg]
 simp only [Option.some.injEq]
set_option maxHeartbeats 2000000 in
theorem slices_Compact_sp (a : Option Addr) (n c : Nat) (l : List Bs) (hn : l.length = n) (hb : n ≤ 1073741824) :
    Sp Tryz.prog 56 [.slice a n c] [Row 9 1 (.slice a n c) n (l.map vS)] (X := Nat) (fun k => .slice a k c) (fun k => k = (dedS l).length) (fun k => [Row 9 1 (.slice a k c) k ((dedS l).map vS)]) := by
 subst hn
 refine Sp.body (n := 61) Tryz.call56 Tryz.func56 rfl rfl rfl ?_
 refine wc_know (A := Row 9 1 (.slice a l.length c) l.length (l.map vS)) HasC.get row_know (fun hk => ?_)
 obtain ⟨hlc, _, hsp⟩ := hk
 refine Za (k:=Zr (k:=Vv (k:=Wq (Za (k:=Za (k:=Zr (k:=Vv (k:=Vv (k:=Vv (k:=Wq (Zi (t:=fun h8 => ?_) (f:=fun h8 => ?_))))))))))))
 ·
  refine Za (k:=Zr (k:=Vv (k:=Vv (k:=Wq (Zt (k:=Va ?_))))))
  have hd : dedS l = l := by
   match l, h8 with
   | [], _ => rfl
   | [x], _ => rfl
   | _ :: _ :: _, h => simp at h; omega
  refine fin_ret l.length (vs := [_]) (Cs := []) rfl (.tmp rfl .nil) rfl (by rw [hd]) ?_
  rw [hd]; exact ent_pick
 ·
  refine Zk (k:=Ya (Za (k:=Za (k:=Zr (k:=Vv (k:=Wq (Zb (k:=?_))))))))
  refine p_loop (fun (i : { j : Nat // 1 ≤ j ∧ j ≤ l.length ∧ dedS (l.take j) = l.take j }) => [(0, .slice a l.length c), (3, vI i.1)]) (fun (i : { j : Nat // 1 ≤ j ∧ j ≤ l.length ∧ dedS (l.take j) = l.take j }) => [Row 9 1 (.slice a l.length c) l.length (l.map vS)]) (fun (i : { j : Nat // 1 ≤ j ∧ j ≤ l.length ∧ dedS (l.take j) = l.take j }) => l.length - i.1) rfl (⟨1, Nat.le_refl _, by omega, by cases l <;> rfl⟩) ?_ ?_ (fun i => ?_)
  · exact ⟨rfl, rfl, trivial⟩
  ·
   exact ent_pick
  obtain ⟨j, hj1, hj, hd⟩ := i
  dsimp only
  try dsimp only
  refine Za (k:=Za (k:=Zr (k:=Vv (k:=Vv (k:=Vv (k:=Vv (k:=Wq (Zi (t:=fun h13 => ?_) (f:=fun h13 => ?_)))))))))
  ·
   refine Zk (k:=Ya (Za (k:=Zb (k:=Za (k:=?_)))))
   have hjl : j < l.length := by omega
   have hdt := dedS_take (l := l) (j := j) (by omega) hjl
   rw [hd] at hdt
   refine Dw [Row 9 1 (.slice a l.length c) l.length (l.map vS)] (k:=?_)
   refine Di 0 (t:=Uv) (k:=Di 1 (t:=Uv) (k:=?_))
   refine d_first 2 rfl rfl rfl (by kernel_rfl) (by kernel_rfl) (tl_elemAddr (sz := 1) Tryz.underlying27 ti9 rfl rfl rfl rfl (by omega) (by first | (rw [List.length_map]; omega) | (rw [flat_len (sz := 1) (fun _ => rfl)]; omega) | (simp; omega)) (Nat.mul_one _)) ?_
   refine d_first 3 rfl rfl rfl (by kernel_rfl) (by kernel_rfl) (tl_eload Tryz.underlying9 rfl rfl (get_mapD [] (m := j) hjl)) ?_
   refine Di 4 (t:=Uv) (k:=Di 5 (t:=Uv) (k:=Di 6 (t:=Uv) (k:=?_)))
   refine d_first 7 rfl rfl rfl (by kernel_rfl) (by kernel_rfl) (tl_elemAddr (sz := 1) (m := j - 1) (kk := j - 1) Tryz.underlying27 ti9 rfl rfl rfl (by omega) (by omega) (by rw [List.length_map]; omega) (Nat.mul_one _)) ?_
   refine d_first 8 rfl rfl rfl (by kernel_rfl) (by kernel_rfl) (tl_eload Tryz.underlying9 rfl rfl (get_mapD [] (m := j - 1) (by omega))) ?_
   refine Di 9 (t:=Uv) (k:=Dd (k:=Ya (Zi (t:=fun h25 => ?_) (f:=fun h25 => ?_))))
   ·
    refine Za (k:=Zr (k:=Vv (k:=Vv (k:=?_))))
    refine wo_pv (pv_slslice_fromm (m := j) (kk := j) Tryz.underlying27 ti9 rfl rfl rfl rfl (Nat.mul_one _) (by omega) (by omega) hsp) rfl ?_
    rw [if_pos h25.symm] at hdt
    refine Vv (k:=Wq (Za (k:=Za (k:=Zr (k:=Vv (k:=Wq (Zb (k:=?_))))))))
    refine p_loop (fun (i : { x : List Bs × Nat × Nat // x.1.length = l.length ∧ x.1.take x.2.1 = dedS (l.take (j + x.2.2)) ∧ j ≤ x.2.1 ∧ x.2.1 + 1 ≤ j + x.2.2 ∧ 1 ≤ x.2.2 ∧ x.2.2 ≤ l.length - j ∧ ∀ i, j + x.2.2 ≤ i + 1 → x.1.getD i [] = l.getD i [] }) => [(0, .slice a l.length c), (3, vI i.1.2.1), (4, .slice (elemA a j) (l.length - j) (c - j)), (5, vI i.1.2.2)]) (fun (i : { x : List Bs × Nat × Nat // x.1.length = l.length ∧ x.1.take x.2.1 = dedS (l.take (j + x.2.2)) ∧ j ≤ x.2.1 ∧ x.2.1 + 1 ≤ j + x.2.2 ∧ 1 ≤ x.2.2 ∧ x.2.2 ≤ l.length - j ∧ ∀ i, j + x.2.2 ≤ i + 1 → x.1.getD i [] = l.getD i [] }) => [Row 9 1 (.slice a l.length c) l.length (i.1.1.map vS)]) (fun (i : { x : List Bs × Nat × Nat // x.1.length = l.length ∧ x.1.take x.2.1 = dedS (l.take (j + x.2.2)) ∧ j ≤ x.2.1 ∧ x.2.1 + 1 ≤ j + x.2.2 ∧ 1 ≤ x.2.2 ∧ x.2.2 ≤ l.length - j ∧ ∀ i, j + x.2.2 ≤ i + 1 → x.1.getD i [] = l.getD i [] }) => l.length - j - i.1.2.2) rfl (⟨(l, j, 1), rfl, hdt.symm, Nat.le_refl _, Nat.le_refl _, Nat.le_refl _, (show 1 ≤ l.length - j by omega), fun i _ => rfl⟩) ?_ ?_ (fun i => ?_)
    · exact ⟨rfl, rfl, rfl, rfl, trivial⟩
    ·
     exact ent_pick
    obtain ⟨⟨cur, k, k2⟩, hcl, htk, hjk, hk2, hk21, hk2n, hold⟩ := i
    dsimp only at hcl htk hjk hk2 hk21 hk2n hold ⊢
    have hsl : SlA (Row 9 1 (.slice a l.length c) l.length (cur.map vS)) (elemA a j) ((cur.drop j).map vS) := by
     have h : SlA (Row 9 1 (.slice a l.length c) l.length (cur.map vS)) (fromA a j c j) ((cur.map vS).drop j) := sla_from (e := 9) (sz := 1) (k := l.length) (n' := l.length) (c' := c) (a := a) (xs := cur.map vS) (m := j) (kk := j) (Nat.mul_one _) (by omega)
     rw [show fromA a j c j = elemA a j from by rw [fromA, if_pos (by omega)]] at h
     rw [List.map_drop]
     exact @h
    haveI hrd : RdSl (elemA a j) ((cur.drop j).map vS) [Row 9 1 (.slice a l.length c) l.length (cur.map vS)] := ⟨⟨_, hsl, .here⟩⟩
    have hdl : (cur.drop j).length = l.length - j := by rw [List.length_drop, hcl]
    have hgd : ∀ i, (cur.drop j).getD i [] = cur.getD (j + i) [] := fun i => by simp [List.getD_eq_getElem?_getD, List.getElem?_drop]
    try dsimp only
    refine Za (k:=Za (k:=Zr (k:=Vv (k:=Vv (k:=Vv (k:=Vv (k:=Wq (Zi (t:=fun h32 => ?_) (f:=fun h32 => ?_)))))))))
    ·
     refine Zk (k:=Ya (Za (k:=Zb (k:=Za (k:=?_)))))
     have hkl : k2 < l.length - j := by omega
     have hdt2 := dedS_take (l := l) (j := j + k2) (by omega) (by omega)
     have ho1 := hold (j + k2) (by omega)
     have ho2 := hold (j + k2 - 1) (by omega)
     rw [← ho1, ← ho2, ← htk] at hdt2
     refine Dw [Row 9 1 (.slice a l.length c) l.length (cur.map vS)] (k:=?_)
     refine Di 0 (t:=Uv) (k:=Di 1 (t:=Uv) (k:=?_))
     refine d_first 2 rfl rfl rfl (by kernel_rfl) (by kernel_rfl) (tl_elemAddr (sz := 1) (m := k2) (kk := k2) (xs := (cur.drop j).map vS) Tryz.underlying27 ti9 rfl rfl rfl rfl (by omega) (by rw [List.length_map]; omega) (Nat.mul_one _)) ?_
     refine d_first 3 rfl rfl rfl (by kernel_rfl) (by kernel_rfl) (tl_eload (xs := (cur.drop j).map vS) Tryz.underlying9 rfl rfl (get_mapD [] (m := k2) (by omega))) ?_
     refine Di 4 (t:=Uv) (k:=Di 5 (t:=Uv) (k:=Di 6 (t:=Uv) (k:=?_)))
     refine d_first 7 rfl rfl rfl (by kernel_rfl) (by kernel_rfl) (tl_elemAddr (sz := 1) (m := k2 - 1) (kk := k2 - 1) (xs := (cur.drop j).map vS) Tryz.underlying27 ti9 rfl rfl rfl (by omega) (by omega) (by rw [List.length_map]; omega) (Nat.mul_one _)) ?_
     refine d_first 8 rfl rfl rfl (by kernel_rfl) (by kernel_rfl) (tl_eload (xs := (cur.drop j).map vS) Tryz.underlying9 rfl rfl (get_mapD [] (m := k2 - 1) (by omega))) ?_
     refine Di 9 (t:=Uv) (k:=Dd (k:=Ya (Zi (t:=fun h44 => ?_) (f:=fun h44 => ?_))))
     ·
      refine Za (k:=Zr (k:=Vv (k:=Vv (k:=Vv (k:=Vv (k:=?_))))))
      refine r_elemAddr (sz := 1) (m := k2) (kk := k2) (xs := (cur.drop j).map vS) Tryz.underlying27 ti9 rfl rfl rfl rfl (by omega) (by rw [List.length_map]; omega) (Nat.mul_one _) rfl ?_
      refine r_eload (xs := (cur.drop j).map vS) Tryz.underlying9 rfl rfl (get_mapD [] (m := k2) (by omega)) rfl ?_
      refine Ye 1 (k:=?_)
      refine r_estore ti9 rfl rfl rfl rfl (by first | (rw [List.length_map]; omega) | (rw [flat_len (fun _ => rfl)]; omega) | (simp; omega)) ?_
      refine Wq (Zr (k:=Vv (k:=Vv (k:=Vv (k:=Wn (Yb (Ya (Zr (k:=Vv (k:=Vv (k:=Vv (k:=?_))))))))))))
      refine Wn ?_
      rw [hgd, hgd] at h44
      rw [show j + (k2 - 1) = j + k2 - 1 from by omega] at h44
      first
      | (rw [if_neg (fun e => h44 e.symm)] at hdt2
         refine to_inv ⟨(cur.set k (cur.getD (j + k2) []), k + 1, k2 + 1), ?_, ?_, ?_, ?_, ?_, ?_, ?_⟩ ?_ ⟨rfl, rfl, rfl, rfl, trivial⟩ ?_
         · dsimp only; rw [List.length_set]; exact hcl
         · dsimp only
           rw [show j + (k2 + 1) = j + k2 + 1 from by omega, hdt2, List.take_succ_eq_append_getElem (by rw [List.length_set]; omega)]
           congr 1
           · rw [List.take_set_of_le (Nat.le_refl _)]
           · simp
         · dsimp only; omega
         · dsimp only; omega
         · dsimp only; omega
         · dsimp only; omega
         · intro i hi
           dsimp only at hi ⊢
           rw [List.getD_eq_getElem?_getD, List.getElem?_set_ne (by omega), ← List.getD_eq_getElem?_getD]
           exact hold i (by omega)
         · dsimp only; omega
         · dsimp only
           rw [← hgd]
           exact ent_step (row_norm (by rfl) (by rw [List.map_set])) ent_nil)
      | (have he : cur.getD (j + k2 - 1) [] = cur.getD (j + k2) [] := (Classical.not_not.1 h44).symm
         rw [if_pos he] at hdt2
         refine to_inv ⟨(cur, k, k2 + 1), hcl, ?_, hjk, ?_, ?_, ?_, fun i hi => hold i (by dsimp only at hi; omega)⟩ ?_ ⟨rfl, rfl, rfl, rfl, trivial⟩ ent_pick
         · dsimp only
           rw [show j + (k2 + 1) = j + k2 + 1 from by omega, hdt2]
         · dsimp only; omega
         · dsimp only; omega
         · dsimp only; omega
         · dsimp only; omega)
     ·
      refine Zk (k:=Yb (Ya (Zr (k:=Vv (k:=Vv (k:=Vv (k:=Wn ?_)))))))
      rw [hgd, hgd] at h44
      rw [show j + (k2 - 1) = j + k2 - 1 from by omega] at h44
      first
      | (rw [if_neg (fun e => h44 e.symm)] at hdt2
         refine to_inv ⟨(cur.set k (cur.getD (j + k2) []), k + 1, k2 + 1), ?_, ?_, ?_, ?_, ?_, ?_, ?_⟩ ?_ ⟨rfl, rfl, rfl, rfl, trivial⟩ ?_
         · dsimp only; rw [List.length_set]; exact hcl
         · dsimp only
           rw [show j + (k2 + 1) = j + k2 + 1 from by omega, hdt2, List.take_succ_eq_append_getElem (by rw [List.length_set]; omega)]
           congr 1
           · rw [List.take_set_of_le (Nat.le_refl _)]
           · simp
         · dsimp only; omega
         · dsimp only; omega
         · dsimp only; omega
         · dsimp only; omega
         · intro i hi
           dsimp only at hi ⊢
           rw [List.getD_eq_getElem?_getD, List.getElem?_set_ne (by omega), ← List.getD_eq_getElem?_getD]
           exact hold i (by omega)
         · dsimp only; omega
         · dsimp only
           rw [← hgd]
           exact ent_step (row_norm (by rfl) (by rw [List.map_set])) ent_nil)
      | (have he : cur.getD (j + k2 - 1) [] = cur.getD (j + k2) [] := (Classical.not_not.1 h44).symm
         rw [if_pos he] at hdt2
         refine to_inv ⟨(cur, k, k2 + 1), hcl, ?_, hjk, ?_, ?_, ?_, fun i hi => hold i (by dsimp only at hi; omega)⟩ ?_ ⟨rfl, rfl, rfl, rfl, trivial⟩ ent_pick
         · dsimp only
           rw [show j + (k2 + 1) = j + k2 + 1 from by omega, hdt2]
         · dsimp only; omega
         · dsimp only; omega
         · dsimp only; omega
         · dsimp only; omega)
    ·
     refine Ze (k:=Xa (Xi (Xb (Ya (Za (k:=?_))))))
     have hkl : j + k2 = l.length := by omega
     rw [hkl, List.take_length] at htk
     have hdk : (dedS l).length = k := by rw [← htk, List.length_take, hcl]; omega
     refine Zr (k:=Vv (k:=Vv (k:=?_)))
     refine wo_pv (pv_slslice_fromm (m := k) (kk := k) Tryz.underlying27 ti9 rfl rfl rfl rfl (Nat.mul_one _) (by omega) (by omega) hsp) rfl ?_
     refine wo_opT (by intro c; simp) (opt_clear (z := vS []) Tryz.underlying27 ti9 rfl rfl rfl rfl (show 0 < l.length - k by omega) (show k + (l.length - k) = l.length by omega) (show k < c by omega) (n' := l.length) (xs := cur.map vS)) rfl (fun _ _ => ?_)
     refine Wq (Za (k:=Zr (k:=Vv (k:=Vv (k:=?_)))))
     refine wo_pv (pv_slslice_tom (m := k) Tryz.underlying27 ti9 rfl rfl rfl (by omega)) rfl ?_
     refine Vv (k:=Wq (Zt (k:=Vb (Va (Vi (Vb (Va ?_)))))))
     refine fin_ret k (vs := [_]) (Cs := []) rfl (.tmp rfl .nil) rfl hdk.symm ⟨fun {M h} s => ?_⟩
     obtain ⟨g1, g2, dg, e1, hr, _⟩ := s
     refine ⟨g1, g2, dg, e1, ?_, trivial⟩
     have := row_shrink hr (show k ≤ l.length by omega) (by decide)
     rw [Nat.mul_one, setAt_tk, ← List.map_take, htk] at this
     exact this
   ·
    refine Zk (k:=Yb (Ya (Zr (k:=Vv (k:=Vv (k:=Vv (k:=Wn ?_)))))))
    rw [if_neg (fun e => h25 e.symm)] at hdt
    refine to_inv ⟨j + 1, by omega, by omega, ?_⟩ (by dsimp only; omega) ⟨rfl, rfl, trivial⟩ ent_pick
    rw [hdt, List.take_succ_eq_append_getElem hjl]
    simp [hjl]
  ·
   refine Ze (k:=Xa (Xi (Xb (Ya (Za (k:=Zr (k:=Vv (k:=Vv (k:=Wq (Zt (k:=?_)))))))))))
   have hjl : j = l.length := by omega
   rw [hjl, List.take_length] at hd
   refine fin_ret l.length (vs := [_]) (Cs := []) rfl (.tmp rfl .nil) rfl (by rw [hd]) ?_
   rw [hd]; exact ent_pick
end Go.Proofs.YtibccdcemcgkeaaGreat
end
