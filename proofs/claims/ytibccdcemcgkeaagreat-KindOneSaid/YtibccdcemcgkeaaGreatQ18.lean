/- Texts of this proof, put together: SKind, SRSha, RowZ. -/
import Derived.Laws.IdiomStrings
import Derived.Test.YtibccdcemcgkeaaGreatQ08
import Derived.Test.YtibccdcemcgkeaaGreatQ17
import Derived.Test.YtibccdcemcgkeaaGreatQ09
import Derived.Test.YtibccdcemcgkeaaGreatQ07
set_option linter.unusedVariables false
set_option linter.unusedSimpArgs false
section
set_option maxRecDepth 100000
namespace Go.Proofs.YtibccdcemcgkeaaGreat
noncomputable def kindN (s : Bs) : Int := if (readK s).isSome = true then 2 else if (readCt s).isSome = true then 3 else if (readCl s).isSome = true then 4 else 1
theorem kind_Of_sp (s : Bs) (hs : s.length ≤ 1073741824) : SpF Tryz.prog 15 [vS s] (vI (kindN s)) := by
 refine Sp.body (n := 27) Tryz.call15 Tryz.func15 rfl rfl rfl ?_
 refine Za (k:=Zr (k:=Vv (k:=Wq (Za (k:=Za (k:=Zr (k:=Vv (k:=?_))))))))
 refine r_callX (checkin_Read_sp s hs) rfl rfl rfl (fun x11 hx11 => ?_)
 obtain ⟨ka, k⟩ := x11
 refine Vv (k:=?_)
 refine wo_pv (pv_extract (v := .agg #[vS k.base, vS k.comment, vI k.date, .slice ka.fa k.files.length ka.fc, .slice ka.pa k.parents.length ka.pc, .slice ka.ta k.tags.length ka.tc, vS k.user]) rfl rfl) rfl ?_
 refine wo_pv (pv_extract (v := vB (readK s).isSome) rfl rfl) rfl ?_
 refine Zc [vS [], vS [], .int .i64 0, .slice none 0 0, .slice none 0 0, .slice none 0 0, vS []] (k:=fun b3 => Zp (k:=Vv (k:=Wq (Za (k:=Zr (k:=Vv (k:=Wq (Zi (t:=fun h14 => ?_) (f:=fun h14 => ?_)))))))))
 ·
  refine Za (k:=Zr (k:=Vv (k:=Wq (Zt (k:=Va ?_)))))
  refine fin_ret () (vs := [_]) (Cs := []) rfl (.tmp rfl .nil) ?_ trivial ent_nil
  show vI _ = vI _
  congr 1
  unfold kindN
  first
  | rw [if_pos h14]
  | rw [if_neg (by rw [h14]; simp), if_pos h20]
  | rw [if_neg (by rw [h14]; simp), if_neg (by rw [h20]; simp), if_pos h26]
  | rw [if_neg (by rw [h14]; simp), if_neg (by rw [h20]; simp), if_neg (by rw [h26]; simp)]
 ·
  refine Zk (k:=Ya (Za (k:=Za (k:=Zr (k:=Vv (k:=?_))))))
  refine r_callX (control_Read_sp s hs) rfl rfl rfl (fun x17 hx17 => ?_)
  obtain ⟨⟨ta, tc⟩, ct⟩ := x17
  refine Vv (k:=?_)
  refine wo_pv (pv_extract (v := .agg #[vI ct.date, .slice ta ct.tags.length tc, vS ct.user]) rfl rfl) rfl ?_
  refine wo_pv (pv_extract (v := vB (readCt s).isSome) rfl rfl) rfl ?_
  refine Zc [.int .i64 0, .slice none 0 0, vS []] (k:=fun b5 => Zp (k:=Vv (k:=Wq (Za (k:=Zr (k:=Vv (k:=Wq (Zi (t:=fun h20 => ?_) (f:=fun h20 => ?_)))))))))
  ·
   refine Za (k:=Zr (k:=Vv (k:=Wq (Zt (k:=Va ?_)))))
   refine fin_ret () (vs := [_]) (Cs := []) rfl (.tmp rfl .nil) ?_ trivial ent_nil
   show vI _ = vI _
   congr 1
   unfold kindN
   first
   | rw [if_pos h14]
   | rw [if_neg (by rw [h14]; simp), if_pos h20]
   | rw [if_neg (by rw [h14]; simp), if_neg (by rw [h20]; simp), if_pos h26]
   | rw [if_neg (by rw [h14]; simp), if_neg (by rw [h20]; simp), if_neg (by rw [h26]; simp)]
  ·
   refine Zk (k:=Ya (Za (k:=Za (k:=Zr (k:=Vv (k:=?_))))))
   refine r_callX (cluster_Read_sp s hs) rfl rfl rfl (fun x23 hx23 => ?_)
   obtain ⟨⟨na, nc⟩, nl⟩ := x23
   refine Vv (k:=?_)
   refine wo_pv (pv_extract (v := .slice na nl.length nc) rfl rfl) rfl ?_
   refine wo_pv (pv_extract (v := vB (readCl s).isSome) rfl rfl) rfl ?_
   refine Vv (k:=Vv (k:=Wq (Za (k:=Zr (k:=Vv (k:=Wq (Zi (t:=fun h26 => ?_) (f:=fun h26 => ?_))))))))
   ·
    refine Za (k:=Zr (k:=Vv (k:=Wq (Zt (k:=Va ?_)))))
    refine fin_ret () (vs := [_]) (Cs := []) rfl (.tmp rfl .nil) ?_ trivial ent_nil
    show vI _ = vI _
    congr 1
    unfold kindN
    first
    | rw [if_pos h14]
    | rw [if_neg (by rw [h14]; simp), if_pos h20]
    | rw [if_neg (by rw [h14]; simp), if_neg (by rw [h20]; simp), if_pos h26]
    | rw [if_neg (by rw [h14]; simp), if_neg (by rw [h20]; simp), if_neg (by rw [h26]; simp)]
   ·
    refine Zk (k:=Ya (Za (k:=Zr (k:=Vv (k:=Wq (Zt (k:=?_)))))))
    refine fin_ret () (vs := [_]) (Cs := []) rfl (.tmp rfl .nil) ?_ trivial ent_nil
    show vI _ = vI _
    congr 1
    unfold kindN
    first
    | rw [if_pos h14]
    | rw [if_neg (by rw [h14]; simp), if_pos h20]
    | rw [if_neg (by rw [h14]; simp), if_neg (by rw [h20]; simp), if_pos h26]
    | rw [if_neg (by rw [h14]; simp), if_neg (by rw [h20]; simp), if_neg (by rw [h26]; simp)]
/-- Names that an artifact speaks of, in its order; "" among them. -/
noncomputable def namesP (s : Bs) : List Bs := match readK s with
 | some c => c.base :: c.parents ++ c.files.map (·.2)
 | none => match readCt s with
   | some c => c.tags.map (·.target)
   | none => (readCl s).getD []
theorem readK_right {s : Bs} {c : Ck} (h : readK s = some c) : RightK c := (readK_iff.1 h).1
set_option maxHeartbeats 2000000 in
theorem kind_names_sp (s : Bs) (hs : s.length ≤ 1073741824) : Sp Tryz.prog 54 [vS s] [] (X := Option Addr × Nat) (fun x => .slice x.1 (namesP s).length x.2) (fun _ => True) (fun x => [Row 9 1 (.slice x.1 (namesP s).length x.2) (namesP s).length ((namesP s).map vS)]) := by
 refine Sp.body (n := 67) Tryz.call54 Tryz.func54 rfl rfl rfl ?_
 refine Za (k:=Zr (k:=Vv (k:=Wq (Za (k:=Za (k:=Zr (k:=Vv (k:=?_))))))))
 refine r_callX (checkin_Read_sp s hs) rfl rfl rfl (fun x17 hx17 => ?_)
 obtain ⟨ka, k⟩ := x17
 dsimp only [ckH] at hx17 ⊢
 refine Vv (k:=?_)
 refine wo_pv (pv_extract (v := .agg #[vS k.base, vS k.comment, vI k.date, .slice ka.fa k.files.length ka.fc, .slice ka.pa k.parents.length ka.pc, .slice ka.ta k.tags.length ka.tc, vS k.user]) rfl rfl) rfl ?_
 refine wo_pv (pv_extract (v := vB (readK s).isSome) rfl rfl) rfl ?_
 refine Zc [vS [], vS [], .int .i64 0, .slice none 0 0, .slice none 0 0, .slice none 0 0, vS []] (k:=fun b3 => Zp (k:=Vv (k:=Wq (Za (k:=Zr (k:=Vv (k:=Wq (Zi (t:=fun h20 => ?_) (f:=fun h20 => ?_)))))))))
 ·
  have hk : readK s = some k := by cases e : readK s with
   | none => rw [e] at h20; simp at h20
   | some c => rw [e] at hx17; rw [hx17.1]; rfl
  have hR := readK_right hk
  have hpl := hR.parents.len
  have hfl := hR.files.len
  have hnp : namesP s = k.base :: k.parents ++ k.files.map (·.2) := by rw [namesP, hk]
  rw [hnp]
  refine Za (k:=Zr (k:=Vf 0 9 (k:=Zd (k:=Zv [_] (cs := [_]) (k:=fun b23 => ?_)))))
  refine wo_ent' (ent_row (k := 1) (cap := 1) (sz := 1) (e := 9) (g := b23) (xs := [vS k.base]) (cur := [vS k.base]) (Nat.le_refl _) (by simp [maxLen]) rfl rfl rfl) ?_
  refine Vf 4 27 (k:=Zd (k:=?_))
  refine r_appendA (sz := 1) (bytes := 16) Tryz.underlying27 ti9 rfl rfl rfl rfl rfl rfl rfl (by first | rfl | (rw [List.length_map, Nat.mul_one]; try omega) | (rw [flat_len (fun _ => rfl)]; try omega) | (simp; try omega)) (by first | rfl | (simp [oneCell]; done) | (simp [List.all_flatMap, oneCell]; done)) (by omega) (by simp only [maxLen]; omega) rfl (fun a26 c26 => ?_)
  refine Vv (k:=Wq (Za (k:=Za (k:=Zr (k:=Vf 3 26 (k:=Zd (k:=Vv (k:=Vv (k:=Wq (Zb (k:=?_)))))))))))
  refine p_loop (fun (i : { x : (Option Addr × Nat) × Nat // x.2 ≤ k.files.length }) => [(5, .slice i.1.1.1 (1 + k.parents.length + i.1.2) i.1.1.2), (28, .slice ka.fa k.files.length ka.fc), (29, vI k.files.length), (30, vI i.1.2)]) (fun (i : { x : (Option Addr × Nat) × Nat // x.2 ≤ k.files.length }) => [Row 9 1 (.slice i.1.1.1 (1 + k.parents.length + i.1.2) i.1.1.2) (1 + k.parents.length + i.1.2) ((k.base :: k.parents ++ (k.files.take i.1.2).map (·.2)).map vS), Row 25 2 (.slice ka.fa k.files.length ka.fc) k.files.length (k.files.flatMap flCells)]) (fun (i : { x : (Option Addr × Nat) × Nat // x.2 ≤ k.files.length }) => k.files.length - i.1.2) rfl (⟨((a26, c26), 0), Nat.zero_le _⟩) ?_ ?_ (fun i => ?_)
  · exact ⟨rfl, rfl, rfl, rfl, trivial⟩
  ·
   dsimp only
   exact ent_step (row_norm (by rfl) (by simp)) ent_pick
  obtain ⟨⟨⟨oa, oc⟩, j⟩, hj⟩ := i
  dsimp only at hj ⊢
  try dsimp only
  refine Za (k:=Zr (k:=Vv (k:=Wq (Za (k:=Zi (t:=fun h31 => ?_) (f:=fun h31 => ?_))))))
  ·
   refine Zk (k:=Ya (Za (k:=Zb (k:=Za (k:=?_)))))
   have hjl : j < k.files.length := by omega
   obtain ⟨f, hf⟩ : ∃ f, f = k.files[j] := ⟨_, rfl⟩
   have htk : (k.files.take (j + 1)).map (·.2) = (k.files.take j).map (·.2) ++ [f.2] := by rw [List.take_succ_eq_append_getElem hjl, List.map_append, hf]; rfl
   refine Zr (k:=Ye 2 (k:=?_))
   refine r_eloada (vs := [_, _]) (sz := 2) Tryz.underlying25 rfl ti25 rfl rfl (by rw [flat_len (sz := 2) (fun _ => rfl)]; omega) rfl (by refine get_flat (fun x => ?_) ?_ <;> first | rfl | omega) rfl ?_
   rw [← hf]
   refine Zc [vS [], vS []] (k:=fun b7 => Zp (k:=Wq (Zr (k:=Vv (k:=Vf 1 9 (k:=Zd (k:=Zv [_] (cs := [_]) (k:=fun b37 => ?_))))))))
   refine r_append1 (sz := 1) (bytes := 16) Tryz.underlying27 ti9 rfl rfl rfl rfl rfl rfl rfl (by rfl) (by rfl) (by omega) (by simp only [maxLen]; omega) rfl (fun a38 c38 => ?_)
   refine Vv (k:=Wn (Yb (Ya (Zr (k:=Vv (k:=Vv (k:=Wn ?_)))))))
   refine to_inv ⟨((a38, c38), j + 1), by dsimp only; omega⟩ (by dsimp only; omega) ⟨rfl, rfl, rfl, rfl, trivial⟩ ?_
   dsimp only
   rw [htk]
   exact ent_step (row_norm (by rfl) (by simp)) ent_pick
  ·
   refine Ze (k:=Xa (Xi (Xb (Ya (Za (k:=Zr (k:=Vv (k:=Vv (k:=Wq (Zt (k:=Va ?_)))))))))))
   have hjl : j = k.files.length := by omega
   subst hjl
   rw [List.take_length]
   have hln : (k.base :: k.parents ++ k.files.map (·.2)).length = 1 + k.parents.length + k.files.length := by simp; omega
   refine fin_ret (oa, oc) (vs := [_]) (Cs := []) rfl (.tmp rfl .nil) (by rw [hln]; rfl) trivial ?_
   rw [hln]
   exact ent_pick
 ·
  have hkn : readK s = none := by cases e : readK s with
   | none => rfl
   | some c => rw [e] at h20; simp at h20
  refine Zk (k:=Ya (Za (k:=Za (k:=Zr (k:=Vv (k:=?_))))))
  refine r_callX (control_Read_sp s hs) rfl rfl rfl (fun x43 hx43 => ?_)
  obtain ⟨⟨ta, tc⟩, ct⟩ := x43
  dsimp only [ctH] at hx43 ⊢
  refine Vv (k:=?_)
  refine wo_pv (pv_extract (v := .agg #[vI ct.date, .slice ta ct.tags.length tc, vS ct.user]) rfl rfl) rfl ?_
  refine wo_pv (pv_extract (v := vB (readCt s).isSome) rfl rfl) rfl ?_
  refine Zc [.int .i64 0, .slice none 0 0, vS []] (k:=fun b8 => Zp (k:=Vv (k:=Wq (Za (k:=Zr (k:=Vv (k:=Wq (Zi (t:=fun h46 => ?_) (f:=fun h46 => ?_)))))))))
  ·
   have hk2 : readCt s = some ct := by cases e : readCt s with
    | none => rw [e] at h46; simp at h46
    | some c => rw [e] at hx43; rw [hx43]; rfl
   have hR := (readCt_iff.1 hk2).1
   have htl := hR.tags.len
   have hnp : namesP s = ct.tags.map (·.target) := by rw [namesP, hkn, hk2]
   rw [hnp]
   refine Za (k:=Zr (k:=Vv (k:=Wq (Za (k:=Za (k:=Zr (k:=Vf 1 28 (k:=Zd (k:=Vv (k:=Vv (k:=Wq ?_)))))))))))
   refine Zb (k:=?_)
   refine p_loop (fun (i : { x : (Option Addr × Nat) × Nat // x.2 ≤ ct.tags.length }) => [(10, .slice i.1.1.1 i.1.2 i.1.1.2), (48, .slice ta ct.tags.length tc), (49, vI ct.tags.length), (50, vI i.1.2)]) (fun (i : { x : (Option Addr × Nat) × Nat // x.2 ≤ ct.tags.length }) => [Row 9 1 (.slice i.1.1.1 i.1.2 i.1.1.2) i.1.2 (((ct.tags.take i.1.2).map (·.target)).map vS), Row 66 4 (.slice ta ct.tags.length tc) ct.tags.length (ct.tags.flatMap tgCells)]) (fun (i : { x : (Option Addr × Nat) × Nat // x.2 ≤ ct.tags.length }) => ct.tags.length - i.1.2) rfl (⟨((none, 0), 0), Nat.zero_le _⟩) ?_ ?_ (fun i => ?_)
   · exact ⟨rfl, rfl, rfl, rfl, trivial⟩
   ·
    exact (row_nil (e := 9) (sz := 1)).trans (show Ent _ [Row 9 1 (.slice none 0 0) 0 [], Row 66 4 (.slice ta ct.tags.length tc) ct.tags.length (ct.tags.flatMap tgCells)] from ent_pick)
   obtain ⟨⟨⟨oa, oc⟩, j⟩, hj⟩ := i
   dsimp only at hj ⊢
   try dsimp only
   refine Za (k:=Zr (k:=Vv (k:=Wq (Za (k:=Zi (t:=fun h51 => ?_) (f:=fun h51 => ?_))))))
   ·
    refine Zk (k:=Ya (Za (k:=Zb (k:=Za (k:=?_)))))
    have hjl : j < ct.tags.length := by omega
    obtain ⟨t, ht⟩ : ∃ t, t = ct.tags[j] := ⟨_, rfl⟩
    have htk : (ct.tags.take (j + 1)).map (·.target) = (ct.tags.take j).map (·.target) ++ [t.target] := by rw [List.take_succ_eq_append_getElem hjl, List.map_append, ht]; rfl
    refine Zr (k:=Ye 4 (k:=?_))
    refine r_eloada (vs := [_, _, _, _]) (sz := 4) Tryz.underlying66 rfl ti66 rfl rfl (by rw [flat_len (sz := 4) (fun _ => rfl)]; omega) rfl (by refine get_flat (fun x => ?_) ?_ <;> first | rfl | omega) rfl ?_
    rw [← ht]
    refine Zc [.int .u8 0, vS [], vS [], vS []] (k:=fun b12 => Zp (k:=Wq (Zr (k:=Vv (k:=Vf 2 9 (k:=Zd (k:=Zv [_] (cs := [_]) (k:=fun b57 => ?_))))))))
    refine r_append1 (sz := 1) (bytes := 16) Tryz.underlying27 ti9 rfl rfl rfl rfl rfl rfl rfl (by rfl) (by rfl) (by omega) (by simp only [maxLen]; omega) rfl (fun a58 c58 => ?_)
    refine Vv (k:=Wn (Yb (Ya (Zr (k:=Vv (k:=Vv (k:=Wn ?_)))))))
    refine to_inv ⟨((a58, c58), j + 1), by dsimp only; omega⟩ (by dsimp only; omega) ⟨rfl, rfl, rfl, rfl, trivial⟩ ?_
    dsimp only
    rw [htk]
    exact ent_step (row_norm (by rfl) (by simp)) ent_pick
   ·
    refine Ze (k:=Xa (Xi (Xb (Ya (Za (k:=Zr (k:=Vv (k:=Vv (k:=Wq (Zt (k:=Va ?_)))))))))))
    have hjl : j = ct.tags.length := by omega
    subst hjl
    rw [List.take_length]
    have hln : (ct.tags.map (·.target)).length = ct.tags.length := by simp
    refine fin_ret (oa, oc) (vs := [_]) (Cs := []) rfl (.tmp rfl .nil) (by rw [hln]; rfl) trivial ?_
    rw [hln]
    exact ent_pick
  ·
   refine Zk (k:=Ya (Za (k:=Zr (k:=Vv (k:=?_)))))
   refine r_callX (cluster_Read_sp s hs) rfl rfl rfl (fun x63 hx63 => ?_)
   obtain ⟨⟨na, nc⟩, nl⟩ := x63
   dsimp only [nmsH] at hx63 ⊢
   refine Vv (k:=?_)
   refine wo_pv (pv_extract (v := .slice na nl.length nc) rfl rfl) rfl ?_
   refine wo_pv (pv_extract (v := vB (readCl s).isSome) rfl rfl) rfl ?_
   refine Vv (k:=Vv (k:=Wq (Za (k:=Zr (k:=Vv (k:=Vv (k:=Wq (Zt (k:=?_)))))))))
   have hk2 : readCt s = none := by cases e : readCt s with
    | none => rfl
    | some c => rw [e] at h46; simp at h46
   have hnp : namesP s = nl := by rw [namesP, hkn, hk2, hx63]
   rw [hnp]
   exact fin_ret (na, nc) (vs := [_]) (Cs := []) rfl (.tmp rfl .nil) rfl trivial ent_pick
theorem kind_Names_sp (s : Bs) : Sp Tryz.prog 16 [vS s] [] (X := Nat) (fun b => .func (.func 53) #[] #[.pointer (some ⟨b, 0, none⟩)]) (fun _ => True) (fun b => [Ce b 9 [vS s]]) := by
 refine Sp.body (n := 4) Tryz.call16 Tryz.func16 rfl rfl rfl ?_
 refine Za (k:=Zr (k:=Zx [_] (k:=fun b1 => Vv (k:=Wq (Za (k:=Zr (k:=Vv (k:=Vv (k:=Wq (Zt (k:=?_)))))))))))
 refine fin_ret b1 (vs := [_]) (Cs := []) rfl (.tmp rfl .nil) rfl trivial ?_
 exact ent_pick
/-- Names that an artifact speaks of, rising, each once. -/
noncomputable def namesR (s : Bs) : List Bs := (dedS (sortB (namesP s))).filter (fun x => x ≠ [])
abbrev okN (l : List Bs) : List Bs → Bs → Prop := fun pre w => ∃ r, l = pre ++ w :: r
abbrev stopN (l : List Bs) : List Bs → Prop := fun pre => pre ≠ [] ∧ ∃ r, l = pre ++ r
theorem namesP_len (s : Bs) : (namesP s).length ≤ 100 := by
 unfold namesP
 split
 · rename_i c h
   have hR := readK_right h
   have := hR.parents.len
   have := hR.files.len
   simp; omega
 · split
   · rename_i c h
     have hR := (readCt_iff.1 h).1
     have := hR.tags.len
     simp; omega
   · cases e : readCl s with
     | none => simp
     | some l =>
       have := (readCl_iff.1 e).1.len.2
       simp only [Option.getD_some]; omega
theorem dedS_len (l : List Bs) : (dedS l).length ≤ l.length := by
 induction l using list_snoc_ind with
 | h0 => exact Nat.le_refl _
 | h1 l x ih => rw [dedS_snoc]; split <;> simp <;> omega
set_option maxHeartbeats 1000000 in
theorem kind_Names_it (s : Bs) (hs : s.length ≤ 1073741824) (b : Nat) :
    Iter Tryz.prog 53 [.pointer (some ⟨b, 0, none⟩)] (fun w : Bs => [vS w]) (okN (namesR s)) (stopN (namesR s)) [Ce b 9 [vS s]] [Ce b 9 [vS s]] (namesR s) (fun _ => .tuple #[]) := by
 intro y J Jx ys
 have hnl := namesP_len s
 have hdl := dedS_len (sortB (namesP s))
 rw [sortB_len] at hdl
 refine Sp.body (n := 26) Tryz.call53 Tryz.func53 rfl rfl rfl ?_
 refine Za (k:=Zr (k:=Zd (k:=?_)))
 refine r_callX (kind_names_sp s hs) rfl rfl rfl (fun x7 _ => ?_)
 obtain ⟨na, nc⟩ := x7
 dsimp only
 refine Vv (k:=Wq (Za (k:=Zr (k:=Vv (k:=?_)))))
 refine r_call1 (slices_Sort_sp na (namesP s).length nc (namesP s) rfl (by omega)) rfl rfl rfl ?_
 refine Wq (Za (k:=Zr (k:=Vv (k:=?_))))
 refine r_callX (slices_Compact_sp na (namesP s).length nc (sortB (namesP s)) (sortB_len _) (by omega)) rfl rfl rfl (fun k hk => ?_)
 obtain ⟨l, hl⟩ : ∃ l, l = dedS (sortB (namesP s)) := ⟨_, rfl⟩
 have hnr : namesR s = l.filter (fun x => x ≠ []) := by rw [namesR, ← hl]
 rw [← hl] at hk hdl ⊢
 subst hk
 rw [hnr]
 refine Vv (k:=Vv (k:=Wq (Zb (k:=?_))))
 refine p_loop (fun (i : { j : Nat // j ≤ l.length }) => [(0, y), (11, .slice na l.length nc), (12, vI l.length), (13, vI i.1)]) (fun (i : { j : Nat // j ≤ l.length }) => [J ((l.take i.1).filter (fun x => x ≠ [])), Row 9 1 (.slice na l.length nc) l.length (l.map vS), Ce b 9 [vS s]]) (fun (i : { j : Nat // j ≤ l.length }) => l.length - i.1) rfl (⟨0, Nat.zero_le _⟩) ?_ ?_ (fun i => ?_)
 · exact ⟨rfl, rfl, rfl, rfl, trivial⟩
 ·
  dsimp only
  rw [List.take_zero, List.filter_nil]
  exact ent_pick
 obtain ⟨j, hj⟩ := i
 dsimp only
 try dsimp only
 refine Za (k:=Zr (k:=Vv (k:=Wq (Za (k:=Zi (t:=fun h14 => ?_) (f:=fun h14 => ?_))))))
 ·
  refine Zk (k:=Ya (Za (k:=Zb (k:=Za (k:=?_)))))
  have hjl : j < l.length := by omega
  refine Zr (k:=Ye 1 (k:=?_))
  refine r_eload Tryz.underlying9 rfl rfl (get_mapD [] hjl) rfl ?_
  obtain ⟨w, hw⟩ : ∃ w, w = l.getD j [] := ⟨_, rfl⟩
  have htk : (l.take (j + 1)).filter (fun x => x ≠ []) = (l.take j).filter (fun x => x ≠ []) ++ (if w ≠ [] then [w] else []) := by
   rw [List.take_succ_eq_append_getElem hjl, List.filter_append]
   have : l[j] = w := by rw [hw]; simp [hjl]
   rw [this]
   by_cases h : w = [] <;> simp [h]
  have hsplit : ∃ r, l.filter (fun x => x ≠ []) = (l.take (j + 1)).filter (fun x => x ≠ []) ++ r := ⟨(l.drop (j + 1)).filter (fun x => x ≠ []), by rw [← List.filter_append, List.take_append_drop]⟩
  rw [← hw]
  refine Vv (k:=Wq (Za (k:=Zr (k:=Vv (k:=Vv (k:=Vv (k:=Gi 2 (t:=fun h19 => ?_) (f:=fun h19 => ?_))))))))
  ·
   rw [if_pos h19] at htk
   refine I1 (k:=Vv (k:=I1 (k:=Vv (k:=I1 (k:=?_)))))
   refine r_yield ys ((l.take j).filter (fun x => x ≠ [])) w (by obtain ⟨r, hr⟩ := hsplit; exact ⟨r, by rw [hnr, hr, htk, List.append_assoc]; rfl⟩) rfl rfl rfl ?_ ?_
   ·
    refine I1 (k:=Vv (k:=P1 (k:=Wq (Z0 (k:=Zk (k:=Yb (Ya (Zr (k:=Vv (k:=Vv (k:=Wn ?_)))))))))))
    refine to_inv ⟨j + 1, by omega⟩ (by dsimp only; omega) ⟨rfl, rfl, rfl, rfl, trivial⟩ ?_
    dsimp only
    rw [htk]
    exact ent_pick
   ·
    refine I1 (k:=Vv (k:=P1 (k:=Wq (Z1 (k:=Zt (k:=Vb (Va (Vi (Vb ?_)))))))))
    refine fin_ret (some ((l.take (j + 1)).filter (fun x => x ≠ []))) (vs := []) (Cs := []) rfl .nil rfl (fun p e => by cases e; exact ⟨by rw [htk]; simp, by first | exact hsplit | (rw [hnr]; exact hsplit)⟩) ?_
    simp only [endsAt]
    rw [htk]
    exact ent_pick
  ·
   rw [if_neg h19, List.append_nil] at htk
   refine O0 (k:=O0 (k:=O0 (k:=O0 (k:=P0 (k:=Wq (Z0 (k:=Zk (k:=Yb (Ya (Zr (k:=Vv (k:=?_))))))))))))
   refine Vv (k:=Wn ?_)
   refine to_inv ⟨j + 1, by omega⟩ (by dsimp only; omega) ⟨rfl, rfl, rfl, rfl, trivial⟩ ?_
   dsimp only
   rw [htk]
   exact ent_pick
 ·
  refine Ze (k:=Xa (Xi (Xb ?_)))
  have hjl : j = l.length := by omega
  subst hjl
  rw [List.take_length]
  refine fin_end none (vs := []) (Cs := []) rfl .nil rfl (fun pre e => by cases e) ?_
  simp only [endsAt]
  exact ent_pick
set_option maxHeartbeats 1000000 in
theorem kind_Speaks_sp (s x : Bs) (hs : s.length ≤ 1073741824) : SpF Tryz.prog 17 [vS s, vS x] (vB (decide (x ∈ namesR s))) := by
 refine Sp.body (n := 12) Tryz.call17 Tryz.func17 rfl rfl rfl ?_
 refine Za (k:=Zr (k:=Zx [_] (k:=fun b3 => Zc [.bool false] (k:=fun b4 => Wq (Za (k:=Za (k:=Zr (k:=Vv (k:=?_)))))))))
 refine r_callX (kind_Names_sp s) rfl rfl rfl (fun x7 _ => ?_)
 refine Wq (Zb (k:=?_))
 refine p_rangeFunc (fun pre => [Pu (x ∉ pre), Ce b3 9 [vS x], Ce b4 4 [.bool false]]) (fun j pre => match j with | none => [Pu (x ∈ namesR s), Ce b4 4 [.bool true]] | _ => [Pu False]) rfl (kind_Names_it s hs x7) rfl (fun _ => by rfl) rfl ?_ (fun l pre w hok => ?_) ?_ (fun j pre hs => ?_)
 · (refine ent_app ?_; exact ent_pu (by simp) ent_pick)
 ·
  obtain ⟨rr, hrr⟩ := hok
  refine wc_front (Pu (x ∉ pre)) (wc_pu fun hnp => ?_)
  refine Zr (k:=Vv (k:=Wg (Zb (k:=Za (k:=Zr (k:=Vv (k:=Zd (k:=Vv (k:=Wq (Zi (t:=fun h11 => ?_) (f:=fun h11 => ?_)))))))))))
  ·
   refine Za (k:=Zr (k:=Zo (k:=Wq (Zt (k:=Vb ?_)))))
   refine to_round_ret ?_
   exact ent_pu (by rw [hrr, ← h11]; simp) (ent_step (ce_norm (by rfl) (by rfl)) ent_nil)
  ·
   refine Zk (k:=Yb ?_)
   refine to_round ?_
   refine ent_pu ?_ ent_pick
   simp only [List.mem_append, List.mem_singleton, not_or]
   exact ⟨hnp, fun e => h11 e.symm⟩
 ·
  skip
  refine Yb (Ya (Za (k:=?_)))
  refine wc_front (Pu (x ∉ namesR s)) (wc_pu fun hnin => ?_)
  refine Zr (k:=Zo (k:=Wq (Zt (k:=?_))))
  first
  | (rw [decide_eq_true hin]
     exact fin_ret () (vs := [_]) (Cs := [Ce b4 4 [.bool true]]) rfl (.cell1 (l := [.bool true]) rfl (shows_ce (T := 4)) Tryz.underlying4 rfl rfl .nil) rfl trivial ent_pick)
  | (rw [decide_eq_false hnin]
     exact fin_ret () (vs := [_]) (Cs := [Ce b4 4 [.bool false]]) rfl (.cell1 (l := [.bool false]) rfl (shows_ce (T := 4)) Tryz.underlying4 rfl rfl .nil) rfl trivial ent_pick)
 ·
  rcases j with _ | j
  · refine wc_ent0 (Gs := [Pu (x ∈ namesR s), Ce b4 4 [.bool true]]) (show Ent ([Pu (x ∈ namesR s), Ce b4 4 [.bool true]] ++ _) _ from ent_pick) (wc_pu fun hin => ?_)
    refine Zt (k:=Vb (Va ?_))
    first
    | (rw [decide_eq_true hin]
       exact fin_ret () (vs := [_]) (Cs := [Ce b4 4 [.bool true]]) rfl (.cell1 (l := [.bool true]) rfl (shows_ce (T := 4)) Tryz.underlying4 rfl rfl .nil) rfl trivial ent_pick)
    | (rw [decide_eq_false hnin]
       exact fin_ret () (vs := [_]) (Cs := [Ce b4 4 [.bool false]]) rfl (.cell1 (l := [.bool false]) rfl (shows_ce (T := 4)) Tryz.underlying4 rfl rfl .nil) rfl trivial ent_pick)
  · exact wc_no (fun s => by obtain ⟨_, _, _, _, a, _⟩ := s; exact a)
end Go.Proofs.YtibccdcemcgkeaaGreat
end
section
set_option maxRecDepth 100000
namespace Go.Proofs.YtibccdcemcgkeaaGreat
theorem ref1_turn_sp (x : UInt32) (k : Nat) (hk : k = 1 ∨ k = 5 ∨ k = 30) : SpF Tryz.prog 103 [vW x, .int .u64 k] (vW (rotl x k)) := by
 rcases hk with rfl | rfl | rfl
 · skip
   refine Sp.body (n := 13) Tryz.call103 Tryz.func103 rfl rfl rfl ?_
   refine Za (k:=Zr (k:=Vv (k:=Wq (Za (k:=Zr (k:=Vv (k:=Vv (k:=?_))))))))
   refine wo_pv (pv_shlW (m := 1) rfl rfl rfl (by omega)) rfl ?_
   refine Vv (k:=Vv (k:=?_))
   refine wo_pv (pv_subw rfl rfl) rfl ?_
   refine wo_pv (pv_shrW (m := 31) rfl rfl (by decide) (by omega)) rfl ?_
   refine wo_pv (pv_orW rfl rfl) rfl ?_
   refine Vv (k:=Wq (Zt (k:=?_)))
   exact fin_ret () (vs := [_]) (Cs := []) rfl (.tmp rfl .nil) rfl trivial ent_nil
 · skip
   refine Sp.body (n := 13) Tryz.call103 Tryz.func103 rfl rfl rfl ?_
   refine Za (k:=Zr (k:=Vv (k:=Wq (Za (k:=Zr (k:=Vv (k:=Vv (k:=?_))))))))
   refine wo_pv (pv_shlW (m := 5) rfl rfl rfl (by omega)) rfl ?_
   refine Vv (k:=Vv (k:=?_))
   refine wo_pv (pv_subw rfl rfl) rfl ?_
   refine wo_pv (pv_shrW (m := 27) rfl rfl (by decide) (by omega)) rfl ?_
   refine wo_pv (pv_orW rfl rfl) rfl ?_
   refine Vv (k:=Wq (Zt (k:=?_)))
   exact fin_ret () (vs := [_]) (Cs := []) rfl (.tmp rfl .nil) rfl trivial ent_nil
 · skip
   refine Sp.body (n := 13) Tryz.call103 Tryz.func103 rfl rfl rfl ?_
   refine Za (k:=Zr (k:=Vv (k:=Wq (Za (k:=Zr (k:=Vv (k:=Vv (k:=?_))))))))
   refine wo_pv (pv_shlW (m := 30) rfl rfl rfl (by omega)) rfl ?_
   refine Vv (k:=Vv (k:=?_))
   refine wo_pv (pv_subw rfl rfl) rfl ?_
   refine wo_pv (pv_shrW (m := 2) rfl rfl (by decide) (by omega)) rfl ?_
   refine wo_pv (pv_orW rfl rfl) rfl ?_
   refine Vv (k:=Wq (Zt (k:=?_)))
   exact fin_ret () (vs := [_]) (Cs := []) rfl (.tmp rfl .nil) rfl trivial ent_nil
theorem ref1_block_sp {B : HP} {a : Option Addr} (c : Nat) (h : W5) (b : Bs) (hb : b.length = 64) (sh : SlA B a (vUs b)) : Sp1 Tryz.prog 48 [.agg (h.list.map vW).toArray, .slice a 64 c] [B] (.agg ((takeW h b).list.map vW).toArray) [B] := by
 haveI : RdSl a (vUs b) [B] := ⟨⟨B, sh, .here⟩⟩
 have hvl : (vUs b).length = 64 := by simp [vUs, hb]
 refine Sp.body (n := 177) Tryz.call48 Tryz.func48 rfl rfl rfl ?_
 refine Za (k:=Zr (k:=Zx [_, _, _, _, _] (k:=fun b2 => Zc [.int .u32 0, .int .u32 0, .int .u32 0, .int .u32 0, .int .u32 0] (k:=fun b4 => Wq (Za (k:=Zr (k:=Zc [.int .u32 0, .int .u32 0, .int .u32 0, .int .u32 0, .int .u32 0, .int .u32 0, .int .u32 0, .int .u32 0, .int .u32 0, .int .u32 0, .int .u32 0, .int .u32 0, .int .u32 0, .int .u32 0, .int .u32 0, .int .u32 0, .int .u32 0, .int .u32 0, .int .u32 0, .int .u32 0, .int .u32 0, .int .u32 0, .int .u32 0, .int .u32 0, .int .u32 0, .int .u32 0, .int .u32 0, .int .u32 0, .int .u32 0, .int .u32 0, .int .u32 0, .int .u32 0, .int .u32 0, .int .u32 0, .int .u32 0, .int .u32 0, .int .u32 0, .int .u32 0, .int .u32 0, .int .u32 0, .int .u32 0, .int .u32 0, .int .u32 0, .int .u32 0, .int .u32 0, .int .u32 0, .int .u32 0, .int .u32 0, .int .u32 0, .int .u32 0, .int .u32 0, .int .u32 0, .int .u32 0, .int .u32 0, .int .u32 0, .int .u32 0, .int .u32 0, .int .u32 0, .int .u32 0, .int .u32 0, .int .u32 0, .int .u32 0, .int .u32 0, .int .u32 0, .int .u32 0, .int .u32 0, .int .u32 0, .int .u32 0, .int .u32 0, .int .u32 0, .int .u32 0, .int .u32 0, .int .u32 0, .int .u32 0, .int .u32 0, .int .u32 0, .int .u32 0, .int .u32 0, .int .u32 0, .int .u32 0] (k:=fun b5 => Wq (Za (k:=Za (k:=Zr (k:=?_))))))))))))
 refine Vv (k:=Wq (Zb (k:=?_)))
 refine p_loop (fun (i : { j : Nat // j ≤ 16 }) => [(1, .slice a 64 c), (2, .pointer (some ⟨b2, 0, none⟩)), (4, .pointer (some ⟨b4, 0, none⟩)), (5, .pointer (some ⟨b5, 0, none⟩)), (14, vI i.1)]) (fun (i : { j : Nat // j ≤ 16 }) => [Ce b5 165 ((spreadL b i.1 ++ List.replicate (80 - i.1) 0).map vW), Ce b2 103 (h.list.map vW), Ce b4 103 ((List.replicate 5 (0 : UInt32)).map vW), B]) (fun (i : { j : Nat // j ≤ 16 }) => 16 - i.1) rfl (⟨0, Nat.zero_le _⟩) ?_ ?_ (fun i => ?_)
 · exact ⟨rfl, rfl, rfl, rfl, rfl, trivial⟩
 ·
  exact ent_step (ce_norm (by rfl) (by rfl)) (ent_step (ce_norm (by rfl) (by rfl)) (ent_step (ce_norm (by rfl) (by rfl)) ent_pick))
 obtain ⟨j, hj⟩ := i
 dsimp only
 have hsp := spreadL_len b j
 try dsimp only
 refine Za (k:=Zr (k:=Vv (k:=Wq (Za (k:=Zi (t:=fun h15 => ?_) (f:=fun h15 => ?_))))))
 ·
  refine Zk (k:=Ya (Za (k:=Zb (k:=Za (k:=Zr (k:=Vv (k:=Vv (k:=Wq (Dw [B] (k:=?_))))))))))
  refine Di 0 (t:=Uv) (k:=Di 1 (t:=Uv) (k:=Di 2 (t:=Uv) (k:=Di 3 (t:=Uv) (k:=?_))))
  refine d_first 4 rfl rfl rfl (by kernel_rfl) (by kernel_rfl) (tl_elemAddr (sz := 1) (m := 4 * j) Tryz.underlying89 ti5 rfl rfl rfl (by omega) (by omega) (by omega) (Nat.mul_one _)) ?_
  refine d_first 5 rfl rfl rfl (by kernel_rfl) (by kernel_rfl) (tl_eload Tryz.underlying5 rfl rfl (vUs_get (by omega))) ?_
  refine d_first 6 rfl rfl rfl (by kernel_rfl) (by kernel_rfl) (tl_pv (pv_convW rfl Tryz.underlying5 Tryz.underlying102)) ?_
  refine d_first 7 rfl rfl rfl (by kernel_rfl) (by kernel_rfl) (tl_pv (pv_shlW (m := 24) rfl rfl rfl (by omega))) ?_
  refine Di 8 (t:=Uv) (k:=Di 9 (t:=Uv) (k:=Di 10 (t:=Uv) (k:=Di 11 (t:=Uv) (k:=?_))))
  refine d_first 12 rfl rfl rfl (by kernel_rfl) (by kernel_rfl) (tl_elemAddr (sz := 1) (m := 4 * j + 1) Tryz.underlying89 ti5 rfl rfl rfl (by omega) (by omega) (by omega) (Nat.mul_one _)) ?_
  refine d_first 13 rfl rfl rfl (by kernel_rfl) (by kernel_rfl) (tl_eload Tryz.underlying5 rfl rfl (vUs_get (by omega))) ?_
  refine d_first 14 rfl rfl rfl (by kernel_rfl) (by kernel_rfl) (tl_pv (pv_convW rfl Tryz.underlying5 Tryz.underlying102)) ?_
  refine d_first 15 rfl rfl rfl (by kernel_rfl) (by kernel_rfl) (tl_pv (pv_shlW (m := 16) rfl rfl rfl (by omega))) ?_
  refine d_first 16 rfl rfl rfl (by kernel_rfl) (by kernel_rfl) (tl_pv (pv_orW rfl rfl)) ?_
  refine Di 17 (t:=Uv) (k:=Di 18 (t:=Uv) (k:=Di 19 (t:=Uv) (k:=Di 20 (t:=Uv) (k:=?_))))
  refine d_first 21 rfl rfl rfl (by kernel_rfl) (by kernel_rfl) (tl_elemAddr (sz := 1) (m := 4 * j + 2) Tryz.underlying89 ti5 rfl rfl rfl (by omega) (by omega) (by omega) (Nat.mul_one _)) ?_
  refine d_first 22 rfl rfl rfl (by kernel_rfl) (by kernel_rfl) (tl_eload Tryz.underlying5 rfl rfl (vUs_get (by omega))) ?_
  refine d_first 23 rfl rfl rfl (by kernel_rfl) (by kernel_rfl) (tl_pv (pv_convW rfl Tryz.underlying5 Tryz.underlying102)) ?_
  refine d_first 24 rfl rfl rfl (by kernel_rfl) (by kernel_rfl) (tl_pv (pv_shlW (m := 8) rfl rfl rfl (by omega))) ?_
  refine d_first 25 rfl rfl rfl (by kernel_rfl) (by kernel_rfl) (tl_pv (pv_orW rfl rfl)) ?_
  refine Di 26 (t:=Uv) (k:=Di 27 (t:=Uv) (k:=Di 28 (t:=Uv) (k:=Di 29 (t:=Uv) (k:=?_))))
  refine d_first 30 rfl rfl rfl (by kernel_rfl) (by kernel_rfl) (tl_elemAddr (sz := 1) (m := 4 * j + 3) Tryz.underlying89 ti5 rfl rfl rfl (by omega) (by omega) (by omega) (Nat.mul_one _)) ?_
  refine d_first 31 rfl rfl rfl (by kernel_rfl) (by kernel_rfl) (tl_eload Tryz.underlying5 rfl rfl (vUs_get (by omega))) ?_
  refine d_first 32 rfl rfl rfl (by kernel_rfl) (by kernel_rfl) (tl_pv (pv_convW rfl Tryz.underlying5 Tryz.underlying102)) ?_
  refine d_first 33 rfl rfl rfl (by kernel_rfl) (by kernel_rfl) (tl_pv (pv_orW rfl rfl)) ?_
  refine d_first 34 rfl rfl rfl (by kernel_rfl) (by kernel_rfl) (tl_pv (pv_aindex1 Tryz.underlying165 ti102 rfl rfl rfl (by first | rfl | omega) (by omega))) ?_
  refine Dn 35 (k:=No (k:=Dd (k:=Yb (Ya (Zr (k:=Vv (k:=Vv (k:=Wn ?_))))))))
  refine to_inv ⟨j + 1, by omega⟩ (by dsimp only; omega) ⟨rfl, rfl, rfl, rfl, rfl, trivial⟩ ?_
  dsimp only
  rw [← sp_set (b := b) (j := j) (by omega) (blkW b j) (by rw [if_pos (by omega)])]
  exact ent_step (ce_norm (by rfl) (by rw [List.map_set]; rfl)) ent_pick
 ·
  refine Ze (k:=Xa (Xi (Xb (Ya (Za (k:=Za (k:=Zr (k:=Vv (k:=Wq (Zb (k:=?_)))))))))))
  refine p_loop (fun (i : { j : Nat // 16 ≤ j ∧ j ≤ 80 }) => [(2, .pointer (some ⟨b2, 0, none⟩)), (4, .pointer (some ⟨b4, 0, none⟩)), (5, .pointer (some ⟨b5, 0, none⟩)), (7, vI i.1)]) (fun (i : { j : Nat // 16 ≤ j ∧ j ≤ 80 }) => [Ce b5 165 ((spreadL b i.1 ++ List.replicate (80 - i.1) 0).map vW), Ce b2 103 (h.list.map vW), Ce b4 103 ((List.replicate 5 (0 : UInt32)).map vW), B]) (fun (i : { j : Nat // 16 ≤ j ∧ j ≤ 80 }) => 80 - i.1) rfl (⟨16, by omega, by omega⟩) ?_ ?_ (fun i => ?_)
  · exact ⟨rfl, rfl, rfl, rfl, trivial⟩
  ·
   have hj16 : j = 16 := by omega
   subst hj16
   exact ent_pick
  obtain ⟨m, hm1, hm2⟩ := i
  dsimp only
  have hsl : (spreadL b m ++ List.replicate (80 - m) (0 : UInt32)).length = 80 := by rw [List.length_append, spreadL_len, List.length_replicate]; omega
  have hsp := spreadL_len b m
  try dsimp only
  refine Za (k:=Za (k:=Zr (k:=Vv (k:=Vv (k:=Wq (Zi (t:=fun h54 => ?_) (f:=fun h54 => ?_)))))))
  ·
   refine Zk (k:=Ya (Za (k:=Zb (k:=Dw [Ce b5 165 ((spreadL b m ++ List.replicate (80 - m) 0).map vW)] (k:=?_)))))
   refine Di 0 (t:=Uv) (k:=Di 1 (t:=Uv) (k:=Di 2 (t:=Uv) (k:=?_)))
   refine d_first 3 rfl rfl rfl (by kernel_rfl) (by kernel_rfl) (tl_pv (pv_aindex1 (m := m - 3) Tryz.underlying165 ti102 rfl rfl rfl (by omega) (by omega))) ?_
   refine d_first 4 rfl rfl rfl (by kernel_rfl) (by kernel_rfl) (tl_load Tryz.underlying102 rfl rfl ((vW_getD (m := m - 3) (by omega)).trans (by rw [sp_get (by omega) (by omega)]))) ?_
   refine Di 5 (t:=Uv) (k:=Di 6 (t:=Uv) (k:=?_))
   refine d_first 7 rfl rfl rfl (by kernel_rfl) (by kernel_rfl) (tl_pv (pv_aindex1 (m := m - 8) Tryz.underlying165 ti102 rfl rfl rfl (by omega) (by omega))) ?_
   refine d_first 8 rfl rfl rfl (by kernel_rfl) (by kernel_rfl) (tl_load Tryz.underlying102 rfl rfl ((vW_getD (m := m - 8) (by omega)).trans (by rw [sp_get (by omega) (by omega)]))) ?_
   refine d_first 9 rfl rfl rfl (by kernel_rfl) (by kernel_rfl) (tl_pv (pv_xorW rfl rfl)) ?_
   refine Di 10 (t:=Uv) (k:=Di 11 (t:=Uv) (k:=?_))
   refine d_first 12 rfl rfl rfl (by kernel_rfl) (by kernel_rfl) (tl_pv (pv_aindex1 (m := m - 14) Tryz.underlying165 ti102 rfl rfl rfl (by omega) (by omega))) ?_
   refine d_first 13 rfl rfl rfl (by kernel_rfl) (by kernel_rfl) (tl_load Tryz.underlying102 rfl rfl ((vW_getD (m := m - 14) (by omega)).trans (by rw [sp_get (by omega) (by omega)]))) ?_
   refine d_first 14 rfl rfl rfl (by kernel_rfl) (by kernel_rfl) (tl_pv (pv_xorW rfl rfl)) ?_
   refine Di 15 (t:=Uv) (k:=Di 16 (t:=Uv) (k:=?_))
   refine d_first 17 rfl rfl rfl (by kernel_rfl) (by kernel_rfl) (tl_pv (pv_aindex1 (m := m - 16) Tryz.underlying165 ti102 rfl rfl rfl (by omega) (by omega))) ?_
   refine d_first 18 rfl rfl rfl (by kernel_rfl) (by kernel_rfl) (tl_load Tryz.underlying102 rfl rfl ((vW_getD (m := m - 16) (by omega)).trans (by rw [sp_get (by omega) (by omega)]))) ?_
   refine d_first 19 rfl rfl rfl (by kernel_rfl) (by kernel_rfl) (tl_pv (pv_xorW rfl rfl)) ?_
   refine Dn 20 (k:=?_)
   refine an_callF (ref1_turn_sp _ 1 (.inl rfl)) rfl rfl rfl ?_
   refine d_first 21 rfl rfl rfl (by kernel_rfl) (by kernel_rfl) (tl_pv (pv_aindex1 Tryz.underlying165 ti102 rfl rfl rfl (by first | rfl | omega) (by omega))) ?_
   refine d_last 22 (by kernel_rfl) rfl (by kernel_rfl) (by kernel_rfl) ?_
   refine No (k:=Yb (Ya (Zr (k:=Vv (k:=Vv (k:=Vv (k:=Wn ?_)))))))
   refine to_inv ⟨m + 1, by omega, by omega⟩ (by dsimp only; omega) ⟨rfl, rfl, rfl, rfl, trivial⟩ ?_
   dsimp only
   rw [← sp_set (b := b) (j := m) (by omega) (nextW (spreadL b m) m) (by rw [if_neg (by omega)])]
   exact ent_step (ce_norm (by rfl) (by rw [List.map_set]; rfl)) ent_pick
  ·
   refine Ze (k:=Xa (Xi (Xb (Ya (Za (k:=?_))))))
   have hm80 : m = 80 := by omega
   subst hm80
   rw [Nat.sub_self, List.replicate_zero, List.append_nil]
   have htk : takeW h b = (let s := roundsW (spreadL b 80) h 80; ⟨h.a + s.a, h.b + s.b, h.c + s.c, h.d + s.d, h.e + s.e⟩) := rfl
   generalize spreadL b 80 = ws at hsp htk ⊢
   refine Zr (k:=Zm [_, _, _, _, _] (k:=Zc [.int .u32 0, .int .u32 0, .int .u32 0, .int .u32 0, .int .u32 0] (k:=fun b8 => Zp (k:=Wq (Za (k:=Za (k:=Zr (k:=Vv (k:=Wq (Zb (k:=?_)))))))))))
   refine p_loop (fun (i : { j : Nat // j ≤ 80 }) => [(2, .pointer (some ⟨b2, 0, none⟩)), (4, .pointer (some ⟨b4, 0, none⟩)), (5, .pointer (some ⟨b5, 0, none⟩)), (8, .pointer (some ⟨b8, 0, none⟩)), (80, vI i.1)]) (fun (i : { j : Nat // j ≤ 80 }) => [Ce b8 103 ((roundsW ws h i.1).list.map vW), Ce b5 165 (ws.map vW), Ce b2 103 (h.list.map vW), Ce b4 103 ((List.replicate 5 (0 : UInt32)).map vW), B]) (fun (i : { j : Nat // j ≤ 80 }) => 80 - i.1) rfl (⟨0, Nat.zero_le _⟩) ?_ ?_ (fun i => ?_)
   · exact ⟨rfl, rfl, rfl, rfl, rfl, trivial⟩
   ·
    exact ent_step (ce_norm (by rfl) (by rfl)) ent_pick
   obtain ⟨q, hq⟩ := i
   dsimp only
   try dsimp only
   refine Za (k:=Zr (k:=Vv (k:=Wq (Za (k:=Zi (t:=fun h81 => ?_) (f:=fun h81 => ?_))))))
   ·
    refine Zk (k:=Ya (Za (k:=Zb (k:=Za (k:=?_)))))
    obtain ⟨s, hs⟩ : ∃ s, s = roundsW ws h q := ⟨_, rfl⟩
    have hs2 : roundsW ws h (q + 1) = roundW ws q s := by rw [hs]; rfl
    rw [← hs]
    have hsl5 : s.list.length = 5 := rfl
    have hmx : mixW q s.b s.c s.d = if q / 20 = 0 then ((s.b &&& s.c) ||| (~~~s.b &&& s.d), 0x5a827999) else if q / 20 = 1 then (s.b ^^^ s.c ^^^ s.d, 0x6ed9eba1) else if q / 20 = 2 then ((s.b &&& s.c) ||| (s.b &&& s.d) ||| (s.c &&& s.d), 0x8f1bbcdc) else (s.b ^^^ s.c ^^^ s.d, 0xca62c1d6) := rfl
    refine Zr (k:=Vv (k:=Vv (k:=Wq (Za (k:=Zr (k:=?_))))))
    refine wo_pv (pv_aindex1 (m := 1) Tryz.underlying103 ti102 rfl rfl rfl (by first | rfl | omega) (by omega)) rfl ?_
    refine Zd (k:=?_)
    refine wo_pv (pv_aindex1 (m := 2) Tryz.underlying103 ti102 rfl rfl rfl (by first | rfl | omega) (by omega)) rfl ?_
    refine Zd (k:=?_)
    refine wo_pv (pv_andW rfl rfl) rfl ?_
    refine wo_pv (pv_aindex1 (m := 1) Tryz.underlying103 ti102 rfl rfl rfl (by first | rfl | omega) (by omega)) rfl ?_
    refine Zd (k:=?_)
    refine wo_pv (pv_notW rfl) rfl ?_
    refine wo_pv (pv_aindex1 (m := 3) Tryz.underlying103 ti102 rfl rfl rfl (by first | rfl | omega) (by omega)) rfl ?_
    refine Zd (k:=?_)
    refine wo_pv (pv_andW rfl rfl) rfl ?_
    refine wo_pv (pv_orW rfl rfl) rfl ?_
    refine Vv (k:=Vv (k:=Wq ?_))
    refine p_cut (fun (u : Unit) => [(2, .pointer (some ⟨b2, 0, none⟩)), (4, .pointer (some ⟨b4, 0, none⟩)), (5, .pointer (some ⟨b5, 0, none⟩)), (8, .pointer (some ⟨b8, 0, none⟩)), (9, vI q), (10, vW (mixW q s.b s.c s.d).1), (11, vW (mixW q s.b s.c s.d).2), (80, vI q)]) (fun (u : Unit) => [Ce b8 103 (s.list.map vW), Ce b5 165 (ws.map vW), Ce b2 103 (h.list.map vW), Ce b4 103 ((List.replicate 5 (0 : UInt32)).map vW), B]) rfl (fun u => ?_) ?_
    ·
     try dsimp only
     refine Za (k:=Dw [Ce b8 103 (s.list.map vW), Ce b5 165 (ws.map vW)] (k:=?_))
     refine d_first 0 rfl rfl rfl (by kernel_rfl) (by kernel_rfl) (tl_pv (pv_aindex1 (m := 0) Tryz.underlying103 ti102 rfl rfl rfl (by first | rfl | omega) (by omega))) ?_
     refine Di 1 (t:=Ul) (k:=Di 3 (t:=Uv) (k:=?_))
     refine d_first 5 rfl rfl rfl (by kernel_rfl) (by kernel_rfl) (tl_pv (pv_aindex1 (m := 4) Tryz.underlying103 ti102 rfl rfl rfl (by first | rfl | omega) (by omega))) ?_
     refine Di 6 (t:=Ul) (k:=Di 8 (t:=Uv) (k:=Di 10 (t:=Uv) (k:=?_)))
     refine d_first 11 rfl rfl rfl (by kernel_rfl) (by kernel_rfl) (tl_pv (pv_aindex1 Tryz.underlying165 ti102 rfl rfl rfl (by first | rfl | omega) (by omega))) ?_
     refine d_first 12 rfl rfl rfl (by kernel_rfl) (by kernel_rfl) (tl_load Tryz.underlying102 rfl rfl (vW_getD (m := q) (by omega))) ?_
     refine Dn 2 (k:=?_)
     refine an_callF (ref1_turn_sp _ 5 (.inr (.inl rfl))) rfl rfl rfl ?_
     refine d_first 4 rfl rfl rfl (by kernel_rfl) (by kernel_rfl) (tl_pv (pv_addW rfl rfl)) ?_
     refine d_first 7 rfl rfl rfl (by kernel_rfl) (by kernel_rfl) (tl_pv (pv_addW rfl rfl)) ?_
     refine d_first 9 rfl rfl rfl (by kernel_rfl) (by kernel_rfl) (tl_pv (pv_addW rfl rfl)) ?_
     refine d_first 13 rfl rfl rfl (by kernel_rfl) (by kernel_rfl) (tl_pv (pv_addW rfl rfl)) ?_
     refine Di 14 (t:=Uv) (k:=Dd (k:=Ya (Dw [Ce b8 103 (s.list.map vW)] (k:=?_))))
     refine Di 0 (t:=Uv) (k:=?_)
     refine d_first 1 rfl rfl rfl (by kernel_rfl) (by kernel_rfl) (tl_pv (pv_aindex1 (m := 0) Tryz.underlying103 ti102 rfl rfl rfl (by first | rfl | omega) (by omega))) ?_
     refine Di 2 (t:=Ul) (k:=?_)
     refine d_first 3 rfl rfl rfl (by kernel_rfl) (by kernel_rfl) (tl_pv (pv_aindex1 (m := 1) Tryz.underlying103 ti102 rfl rfl rfl (by first | rfl | omega) (by omega))) ?_
     refine Di 4 (t:=Ul) (k:=?_)
     refine d_first 6 rfl rfl rfl (by kernel_rfl) (by kernel_rfl) (tl_pv (pv_aindex1 (m := 2) Tryz.underlying103 ti102 rfl rfl rfl (by first | rfl | omega) (by omega))) ?_
     refine Di 7 (t:=Ul) (k:=?_)
     refine d_first 8 rfl rfl rfl (by kernel_rfl) (by kernel_rfl) (tl_pv (pv_aindex1 (m := 3) Tryz.underlying103 ti102 rfl rfl rfl (by first | rfl | omega) (by omega))) ?_
     refine Di 9 (t:=Ul) (k:=Dn 5 (k:=?_))
     refine an_callF (ref1_turn_sp _ 30 (.inr (.inr rfl))) rfl rfl rfl ?_
     refine d_first 10 rfl rfl rfl (by kernel_rfl) (by kernel_rfl) (tl_pv (pv_buildA (vs := [_, _, _, _, _]) Tryz.underlying103 ti102 rfl rfl rfl ti103 rfl rfl)) ?_
     refine d_last 11 (by kernel_rfl) rfl (by kernel_rfl) (by kernel_rfl) ?_
     refine Na (k:=Yb (Ya (Zr (k:=Vv (k:=Vv (k:=Wn ?_))))))
     refine to_inv ⟨q + 1, by omega⟩ (by dsimp only; omega) ⟨rfl, rfl, rfl, rfl, rfl, trivial⟩ ?_
     dsimp only
     rw [hs2]
     exact ent_step (ce_norm (by rfl) (by rfl)) ent_pick
    ·
     refine Zb (k:=Za (k:=Zr (k:=Vv (k:=Vv (k:=Vv (k:=Wq (Zi (t:=fun h95 => ?_) (f:=fun h95 => ?_))))))))
     ·
      refine Zr (k:=?_)
      refine wo_pv (pv_aindex1 (m := 1) Tryz.underlying103 ti102 rfl rfl rfl (by first | rfl | omega) (by omega)) rfl ?_
      refine Zd (k:=?_)
      refine wo_pv (pv_aindex1 (m := 2) Tryz.underlying103 ti102 rfl rfl rfl (by first | rfl | omega) (by omega)) rfl ?_
      refine Zd (k:=?_)
      refine wo_pv (pv_xorW rfl rfl) rfl ?_
      refine wo_pv (pv_aindex1 (m := 3) Tryz.underlying103 ti102 rfl rfl rfl (by first | rfl | omega) (by omega)) rfl ?_
      refine Zd (k:=?_)
      refine wo_pv (pv_xorW rfl rfl) rfl ?_
      refine Vv (k:=Vv (k:=Wn (Yb ?_)))
      first
      | (rw [if_neg (by omega), if_neg (by omega), if_neg (by omega)] at hmx
         rw [hmx]
         exact to_inv () trivial ⟨rfl, rfl, rfl, rfl, rfl, rfl, rfl, rfl, trivial⟩ ent_pick)
      | (rw [if_neg (by omega), if_neg (by omega), if_pos (by omega)] at hmx
         rw [hmx]
         exact to_inv () trivial ⟨rfl, rfl, rfl, rfl, rfl, rfl, rfl, rfl, trivial⟩ ent_pick)
      | (rw [if_neg (by omega), if_pos (by omega)] at hmx
         rw [hmx]
         exact to_inv () trivial ⟨rfl, rfl, rfl, rfl, rfl, rfl, rfl, rfl, trivial⟩ ent_pick)
      | (rw [if_pos (by omega)] at hmx
         rw [hmx]
         exact to_inv () trivial ⟨rfl, rfl, rfl, rfl, rfl, rfl, rfl, rfl, trivial⟩ ent_pick)
     ·
      refine Za (k:=Zr (k:=Vv (k:=Vv (k:=Vv (k:=Wq (Zi (t:=fun h106 => ?_) (f:=fun h106 => ?_)))))))
      ·
       refine Zr (k:=?_)
       refine wo_pv (pv_aindex1 (m := 1) Tryz.underlying103 ti102 rfl rfl rfl (by first | rfl | omega) (by omega)) rfl ?_
       refine Zd (k:=?_)
       refine wo_pv (pv_aindex1 (m := 2) Tryz.underlying103 ti102 rfl rfl rfl (by first | rfl | omega) (by omega)) rfl ?_
       refine Zd (k:=?_)
       refine wo_pv (pv_andW rfl rfl) rfl ?_
       refine wo_pv (pv_aindex1 (m := 1) Tryz.underlying103 ti102 rfl rfl rfl (by first | rfl | omega) (by omega)) rfl ?_
       refine Zd (k:=?_)
       refine wo_pv (pv_aindex1 (m := 3) Tryz.underlying103 ti102 rfl rfl rfl (by first | rfl | omega) (by omega)) rfl ?_
       refine Zd (k:=?_)
       refine wo_pv (pv_andW rfl rfl) rfl ?_
       refine wo_pv (pv_orW rfl rfl) rfl ?_
       refine wo_pv (pv_aindex1 (m := 2) Tryz.underlying103 ti102 rfl rfl rfl (by first | rfl | omega) (by omega)) rfl ?_
       refine Zd (k:=?_)
       refine wo_pv (pv_aindex1 (m := 3) Tryz.underlying103 ti102 rfl rfl rfl (by first | rfl | omega) (by omega)) rfl ?_
       refine Zd (k:=?_)
       refine wo_pv (pv_andW rfl rfl) rfl ?_
       refine wo_pv (pv_orW rfl rfl) rfl ?_
       refine Vv (k:=Vv (k:=Wn (Yb ?_)))
       first
       | (rw [if_neg (by omega), if_neg (by omega), if_neg (by omega)] at hmx
          rw [hmx]
          exact to_inv () trivial ⟨rfl, rfl, rfl, rfl, rfl, rfl, rfl, rfl, trivial⟩ ent_pick)
       | (rw [if_neg (by omega), if_neg (by omega), if_pos (by omega)] at hmx
          rw [hmx]
          exact to_inv () trivial ⟨rfl, rfl, rfl, rfl, rfl, rfl, rfl, rfl, trivial⟩ ent_pick)
       | (rw [if_neg (by omega), if_pos (by omega)] at hmx
          rw [hmx]
          exact to_inv () trivial ⟨rfl, rfl, rfl, rfl, rfl, rfl, rfl, rfl, trivial⟩ ent_pick)
       | (rw [if_pos (by omega)] at hmx
          rw [hmx]
          exact to_inv () trivial ⟨rfl, rfl, rfl, rfl, rfl, rfl, rfl, rfl, trivial⟩ ent_pick)
      ·
       refine Za (k:=Zr (k:=Vv (k:=Vv (k:=Vv (k:=Wq (Zi (t:=fun h126 => ?_) (f:=fun h126 => ?_)))))))
       ·
        refine Zr (k:=?_)
        refine wo_pv (pv_aindex1 (m := 1) Tryz.underlying103 ti102 rfl rfl rfl (by first | rfl | omega) (by omega)) rfl ?_
        refine Zd (k:=?_)
        refine wo_pv (pv_aindex1 (m := 2) Tryz.underlying103 ti102 rfl rfl rfl (by first | rfl | omega) (by omega)) rfl ?_
        refine Zd (k:=?_)
        refine wo_pv (pv_xorW rfl rfl) rfl ?_
        refine wo_pv (pv_aindex1 (m := 3) Tryz.underlying103 ti102 rfl rfl rfl (by first | rfl | omega) (by omega)) rfl ?_
        refine Zd (k:=?_)
        refine wo_pv (pv_xorW rfl rfl) rfl ?_
        refine Vv (k:=Vv (k:=Wn (Yb ?_)))
        first
        | (rw [if_neg (by omega), if_neg (by omega), if_neg (by omega)] at hmx
           rw [hmx]
           exact to_inv () trivial ⟨rfl, rfl, rfl, rfl, rfl, rfl, rfl, rfl, trivial⟩ ent_pick)
        | (rw [if_neg (by omega), if_neg (by omega), if_pos (by omega)] at hmx
           rw [hmx]
           exact to_inv () trivial ⟨rfl, rfl, rfl, rfl, rfl, rfl, rfl, rfl, trivial⟩ ent_pick)
        | (rw [if_neg (by omega), if_pos (by omega)] at hmx
           rw [hmx]
           exact to_inv () trivial ⟨rfl, rfl, rfl, rfl, rfl, rfl, rfl, rfl, trivial⟩ ent_pick)
        | (rw [if_pos (by omega)] at hmx
           rw [hmx]
           exact to_inv () trivial ⟨rfl, rfl, rfl, rfl, rfl, rfl, rfl, rfl, trivial⟩ ent_pick)
       ·
        refine Zk (k:=Yb ?_)
        first
        | (rw [if_neg (by omega), if_neg (by omega), if_neg (by omega)] at hmx
           rw [hmx]
           exact to_inv () trivial ⟨rfl, rfl, rfl, rfl, rfl, rfl, rfl, rfl, trivial⟩ ent_pick)
        | (rw [if_neg (by omega), if_neg (by omega), if_pos (by omega)] at hmx
           rw [hmx]
           exact to_inv () trivial ⟨rfl, rfl, rfl, rfl, rfl, rfl, rfl, rfl, trivial⟩ ent_pick)
        | (rw [if_neg (by omega), if_pos (by omega)] at hmx
           rw [hmx]
           exact to_inv () trivial ⟨rfl, rfl, rfl, rfl, rfl, rfl, rfl, rfl, trivial⟩ ent_pick)
        | (rw [if_pos (by omega)] at hmx
           rw [hmx]
           exact to_inv () trivial ⟨rfl, rfl, rfl, rfl, rfl, rfl, rfl, rfl, trivial⟩ ent_pick)
   ·
    refine Ze (k:=Xa (Xi (Xb (Ya (Za (k:=Za (k:=?_)))))))
    have hq80 : q = 80 := by omega
    subst hq80
    obtain ⟨s, hs⟩ : ∃ s, s = roundsW ws h 80 := ⟨_, rfl⟩
    dsimp only at htk
    rw [← hs] at htk ⊢
    have hh5 : h.list.length = 5 := rfl
    have hs5 : s.list.length = 5 := rfl
    refine Zr (k:=Vv (k:=Wq (Zb (k:=?_))))
    refine p_loop (fun (i : { m : Nat // m ≤ 5 }) => [(2, .pointer (some ⟨b2, 0, none⟩)), (4, .pointer (some ⟨b4, 0, none⟩)), (8, .pointer (some ⟨b8, 0, none⟩)), (163, vI i.1)]) (fun (i : { m : Nat // m ≤ 5 }) => [Ce b2 103 ((addL h.list s.list i.1).map vW), Ce b8 103 (s.list.map vW), Ce b4 103 ((List.replicate 5 (0 : UInt32)).map vW), B]) (fun (i : { m : Nat // m ≤ 5 }) => 5 - i.1) rfl (⟨0, Nat.zero_le _⟩) ?_ ?_ (fun i => ?_)
    · exact ⟨rfl, rfl, rfl, rfl, trivial⟩
    ·
     exact ent_step (ce_norm (by rfl) (by rfl)) ent_pick
    obtain ⟨m, hm⟩ := i
    dsimp only
    have hal := addL_len (h := h.list) (s := s.list) (i := m) rfl hm
    try dsimp only
    refine Za (k:=Zr (k:=Vv (k:=Wq (Za (k:=Zi (t:=fun h164 => ?_) (f:=fun h164 => ?_))))))
    ·
     refine Zk (k:=Ya (Za (k:=Zb (k:=Za (k:=Zr (k:=Vv (k:=Vv (k:=Wq (Dw [Ce b8 103 (s.list.map vW)] (k:=?_))))))))))
     refine Di 0 (t:=Uv) (k:=Di 1 (t:=Uv) (k:=?_))
     refine d_first 2 rfl rfl rfl (by kernel_rfl) (by kernel_rfl) (tl_pv (pv_aindex1 Tryz.underlying103 ti102 rfl rfl rfl (by first | rfl | omega) (by omega))) ?_
     refine Di 4 (t:=Uv) (k:=?_)
     refine d_first 5 rfl rfl rfl (by kernel_rfl) (by kernel_rfl) (tl_pv (pv_aindex1 Tryz.underlying103 ti102 rfl rfl rfl (by first | rfl | omega) (by omega))) ?_
     refine d_first 6 rfl rfl rfl (by kernel_rfl) (by kernel_rfl) (tl_load Tryz.underlying102 rfl rfl (vW_getD (m := m) (by omega))) ?_
     refine Dn 3 (k:=?_)
     refine an_load Tryz.underlying102 rfl rfl ((vW_getD (m := m) (by omega)).trans (by rw [addL_get (hh5.trans hs5.symm) (by omega)])) rfl ?_
     refine d_first 7 rfl rfl rfl (by kernel_rfl) (by kernel_rfl) (tl_pv (pv_addW rfl rfl)) ?_
     refine d_first 8 rfl rfl rfl (by kernel_rfl) (by kernel_rfl) (tl_pv (pv_aindex1 Tryz.underlying103 ti102 rfl rfl rfl (by first | rfl | omega) (by omega))) ?_
     refine Dn 9 (k:=No (k:=Dd (k:=Yb (Ya (Zr (k:=Vv (k:=Vv (k:=Wn ?_))))))))
     refine to_inv ⟨m + 1, by omega⟩ (by dsimp only; omega) ⟨rfl, rfl, rfl, rfl, trivial⟩ ?_
     dsimp only
     rw [← addL_set (hh5.trans hs5.symm) (by omega)]
     exact ent_step (ce_norm (by rfl) (by rw [List.map_set])) ent_pick
    ·
     refine Ze (k:=Xa (Xi (Xb (Ya (Za (k:=?_))))))
     have hm5 : m = 5 := by omega
     subst hm5
     have hfin : addL h.list s.list 5 = (takeW h b).list := by rw [htk]; rfl
     rw [hfin]
     generalize takeW h b = tk
     refine Zr (k:=Zm [_, _, _, _, _] (k:=Zp (k:=Wq (Zt (k:=?_)))))
     refine fin_ret () (vs := [_]) (Cs := [Ce b4 103 (tk.list.map vW)]) rfl (.cell (l := tk.list.map vW) (us := tk.list.map vW) rfl (shows_ce (T := 103)) Tryz.underlying103 rfl ti103 (Nat.le_refl 5) rfl .nil) rfl trivial ?_
     exact (ce_norm (b := b4) (l := tk.list.map vW) (T := 103) (by rfl) (by rfl)).trans ent_pick
end Go.Proofs.YtibccdcemcgkeaaGreat
end
section
namespace Go.Proofs.YtibccdcemcgkeaaGreat
section
variable {P : Program}
theorem run_store_cez {w : World} {b off : Nat} {T : TypeId} {l : List Value} {v : Value} {fz : Nat × Nat} (hb : w.heap[b]? = some (.cells l.toArray T fz)) (hz : l.length ≤ fz.1) (h1 : oneCell v = true) (ho : off < l.length) :
    (store ⟨b, off, none⟩ v).run P w = .ok () (w.setCell ⟨b, off, none⟩ v) := by
 have hc : w.cell? ⟨b, off, none⟩ = some l[off] := by simp [World.cell?, hb, ho]
 obtain ⟨lo, hi⟩ := fz
 dsimp only at hz
 have hf : w.frozen? ⟨b, off, none⟩ = false := by
  simp [World.frozen?, hb]; omega
 cases v <;> simp_all [store, Sem.run, oneCell]
theorem setCell_atz {w : World} {b off : Nat} {T : TypeId} {l : List Value} {v : Value} {fz : Nat × Nat} (hb : w.heap[b]? = some (.cells l.toArray T fz)) :
    (w.setCell ⟨b, off, none⟩ v).heap[b]? = some (.cells (l.set off v).toArray T fz) := by
 simp [World.setCell, Array.getElem?_modify, hb]
theorem run_storeCells_cez {b T : Nat} {fz : Nat × Nat} : ∀ (vs : List Value) (w : World) (l : List Value) (off i : Nat), w.heap[b]? = some (.cells l.toArray T fz) → l.length ≤ fz.1 → vs.all oneCell = true → off + i + vs.length ≤ l.length →
    ∃ w', (storeCells ⟨b, off, none⟩ vs i).run P w = .ok () w' ∧ w'.heap[b]? = some (.cells (setAt l (off + i) vs).toArray T fz) ∧ (∀ j, j ≠ b → w'.heap[j]? = w.heap[j]?) ∧ Env w w' := by
 intro vs
 induction vs with
 | nil => intro w l off i hb _ _ _; exact ⟨w, by simp [storeCells], hb, fun _ _ => rfl, Env.refl w⟩
 | cons v vs ih =>
   intro w l off i hb hz h1 hl
   simp only [List.all_cons, Bool.and_eq_true] at h1
   simp only [List.length_cons] at hl
   have hst := run_store_cez (P := P) (off := off + i) hb hz h1.1 (by omega)
   obtain ⟨w', hr, hb', ho', he'⟩ := ih (w.setCell ⟨b, off + i, none⟩ v) (l.set (off + i) v) off (i + 1) (setCell_atz hb) (by simpa using hz) h1.2 (by simp; omega)
   refine ⟨w', ?_, hb', fun j hj => (ho' j hj).trans (setCell_other hj), (env_setCell _ _ _).trans he'⟩
   simp only [storeCells, Sem.run_bind, addr_add, hst, Result.andThen_ok]
   exact hr
end
/-- A slice of bytes that is one's own, in a block that may bear a mark behind its cells. -/
def RowZAt (v : Value) (n : Nat) (xs : List Value) (e : TypeId) (M : Kn) (h : Res) : Prop :=
 ∃ g cap cur fz, v = .slice (some ⟨g, 0, none⟩) n cap ∧ n ≤ cap ∧ cap ≤ maxLen ∧ List.length cur = cap ∧ xs.length = n ∧ cur.take n = xs ∧ (fz = (0, 0) ∨ cap ≤ fz.1) ∧ h = Res.one g (.cells cur.toArray e fz)
def RowZ (e : TypeId) (v : Value) (n : Nat) (xs : List Value) : HP := ⟨RowZAt v n xs e, fun _ e => e⟩
theorem sla_rowz {e : TypeId} {k n c : Nat} {a : Option Addr} {xs : List Value} : SlA (RowZ e (.slice a n c) k xs) a xs := fun x => by
 obtain ⟨g, cap, cur, fz, h1, h2, h3, h4, h5, h6, h7, h8⟩ := x
 cases h1
 exact .inr ⟨g, 0, cur, e, fz, rfl, .inr (by rw [h8]; exact Res.one_same _ _), by rw [List.drop_zero, h5]; exact h6⟩
instance (priority := 1000) {e : TypeId} {k n c : Nat} {a : Option Addr} {xs : List Value} {r : List HP} : RdSl a xs (RowZ e (.slice a n c) k xs :: r) := ⟨⟨_, sla_rowz, .here⟩⟩
section
variable {r : Option Nat} {P : Program} {n : Nat} {ops : Array Oper} {os : List Oper} {L : Loc} {Hs : List HP} {Q : Out} {ty : TypeId} {d : Nat} {pos : String} {after : Array Edge}
theorem r_s2b {src dt e : TypeId} {x : Operand} {s : Bs} (hs : P.underlying src = some .string) (ht : P.underlying dt = some (.slice e)) (he : P.underlying e = some (.int .u8)) (hx : ev L x = some (vS s)) (hl : s.length ≤ maxLen) (hd : Nat.blt d n = true)
    (K : ∀ b cap, wo r P n ops os ((d, .slice (some ⟨b, 0, none⟩) s.length cap) :: L) (RowZ e (.slice (some ⟨b, 0, none⟩) s.length cap) s.length (vUs s) :: Hs) Q) : wo r P n ops (⟨some d, .convert src dt x, ty, pos, after, none⟩ :: os) L Hs Q := by
 intro a M m st w hf dj t
 have hsz : (⟨s.toArray⟩ : ByteArray).size = s.length := rfl
 have hge := grownCap_ge w s.length 0 e
 have hcm : grownCap w s.length 0 e ≤ maxLen := grownCap_le_maxLen w s.length 0 e hl
 have hrow : bytesRow ⟨s.toArray⟩ (grownCap w s.length 0 e) = (vUs s ++ List.replicate (grownCap w s.length 0 e - s.length) (vU 0)).toArray := by
  apply Array.ext'
  simp [bytesRow, vUs, hsz]
 have hrl : (vUs s ++ List.replicate (grownCap w s.length 0 e - s.length) (vU 0)).length = grownCap w s.length 0 e := by simp [vUs]; omega
 have hrun : (execOp a.eval ⟨some d, .convert src dt x, ty, pos, after, none⟩).run P w = .ok (.value (.slice (some ⟨w.heap.size, 0, none⟩) s.length (grownCap w s.length 0 e))) (w.drew.alloc (.cells (vUs s ++ List.replicate (grownCap w s.length 0 e - s.length) (vU 0)).toArray e (grownCap w s.length 0 e, grownCap w s.length 0 e + 1))) := by
  have h1 := run_bytes_of_string (P := P) w src dt e ⟨s.toArray⟩ hs ht he
  rw [hsz, hrow] at h1
  simp only [List.size_toArray, hrl] at h1
  simp only [execOp, st.1.ev hx, Sem.run_bind]
  rw [show (vS s) = Value.string ⟨s.toArray⟩ from rfl, h1]; rfl
 simp only [wpL, Region.wanted, if_true]
 rw [Oper.semAt_eq _ _ _ (by intro c; simp), hrun]
 generalize hcap : grownCap w s.length 0 e = cap at *
 generalize hcells : vUs s ++ List.replicate (cap - s.length) (vU 0) = cur at *
 have t2 := t.drew.alloc (.cells cur.toArray e (cap, cap + 1))
 obtain ⟨f1, f2⟩ := fresh_none t.drew
 obtain ⟨f3, f4⟩ := Res.add_none.1 f2
 rw [← Res.add_assoc] at t2
 refine K w.heap.size cap _ M ((Res.one w.heap.size (.cells cur.toArray e (cap, cap + 1))).add m) ⟨st.1.put hd, ?_⟩ _ hf (Res.dj_add_left.2 ⟨one_dj f4, dj⟩) t2
 obtain ⟨g1, g2, dg, e1, y, s2⟩ := st.2
 subst e1
 obtain ⟨f5, f6⟩ := Res.add_none.1 f3
 have hvl : (vUs s).length = s.length := by simp [vUs]
 have htk : cur.take s.length = vUs s := by rw [← hcells]; exact List.take_left' hvl
 replace f5 : g1 w.heap.size = none := f5
 replace f6 : g2 w.heap.size = none := f6
 exact ⟨g1, (Res.one w.heap.size _).add g2, Res.dj_add_right.2 ⟨Res.dj_comm (one_dj f5), dg⟩, by rw [← Res.add_assoc, Res.add_comm (one_dj f5), Res.add_assoc], y,
  Res.one w.heap.size _, g2, one_dj f6, rfl, ⟨w.heap.size, cap, cur, (cap, cap + 1), rfl, hge, hcm, hrl, by simp [vUs], htk, .inr (Nat.le_refl _), rfl⟩, s2⟩
end
end Go.Proofs.YtibccdcemcgkeaaGreat
end
