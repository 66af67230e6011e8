/- Texts of this proof, put together: LawKindSpeaks, KeepOf. -/
import Derived.Test.YtibccdcemcgkeaaGreatQ08
import Derived.Test.YtibccdcemcgkeaaGreatQ22
import Derived.Test.YtibccdcemcgkeaaGreatQ11
set_option linter.unusedVariables false
set_option linter.unusedSimpArgs false
section
set_option maxRecDepth 100000
namespace Go.Proofs.YtibccdcemcgkeaaGreat
set_option maxHeartbeats 4000000 in
theorem KindSpeaks_sp {Bx Bf Bp Bt Bv By : HP} {xa fa0 pa0 ta va ya : Option Addr} (base d u tb tb2 : Int) (xc fc0 pc0 tc vc yc : Nat) (text files pars tags vals text2 : List Int) (hx : text.length ≤ 9223372036854775807) (hf : files.length ≤ 9223372036854775807) (hp : pars.length ≤ 9223372036854775807) (ht : tags.length ≤ 9223372036854775807) (hv : vals.length ≤ 9223372036854775807) (hy : text2.length ≤ 9223372036854775807)
    (shx : SlA Bx xa (text.map vI)) (shf : SlA Bf fa0 (files.map vI)) (shp : SlA Bp pa0 (pars.map vI)) (sht : SlA Bt ta (tags.map vI)) (shv : SlA Bv va (vals.map vI)) (shy : SlA By ya (text2.map vI)) :
    Sp1 Tryz.prog 6 [.agg #[vI base, vI d, vI u, vI tb, .slice xa text.length xc, .slice fa0 files.length fc0, .slice pa0 pars.length pc0, .slice ta tags.length tc, .slice va vals.length vc], .agg #[vI tb2, .slice ya text2.length yc]] [Bx, Bf, Bp, Bt, Bv, By] (vB true) [Bx, Bf, Bp, Bt, Bv, By] := by
 have hCk := keep_Checkin_sp base d u tb xc fc0 pc0 tc vc text files pars tags vals hx hf hp ht hv shx shf shp sht shv
 have hTx := keep_Text_sp yc tb2 text2 hy shy
 have htz := textB_len tb2 text2
 obtain ⟨htk, htn⟩ := kind_none (noZ_readC (textB_noZ tb2 text2))
 have hk1 := text_one
 refine Sp.body (n := 93) Tryz.call6 Tryz.func6 rfl rfl rfl ?_
 refine Za (k:=Zr (k:=Zx [_, _, _, _, _, _, _, _, _] (k:=fun b2 => Zx [_, _] (k:=fun b3 => Zc [.bool false] (k:=fun b4 => Wq (Za (k:=Zr (k:=Zm [_, _, _, _, _, _, _, _, _] (k:=?_)))))))))
 refine r_callX hCk rfl rfl rfl (fun x16 hx16 => ?_)
 obtain ⟨ka, c⟩ := x16
 obtain ⟨hK, hpc⟩ := hx16
 dsimp only [ckH] at hK hpc ⊢
 change wo _ _ _ _ _ ((16, .agg #[vS c.base, vS c.comment, vI c.date, .slice ka.fa c.files.length ka.fc, .slice ka.pa c.parents.length ka.pc, .slice ka.ta c.tags.length ka.tc, vS c.user]) :: _) _ _
 have hR := hK.right
 have hread : readK (ckB c) = some c := readK_iff.2 ⟨hR, rfl⟩
 have hsm := ck_small hR
 have hfn := hR.files.len
 have hpn := hR.parents.len
 have hsl : (ckB c).length ≤ 1073741824 := by rw [ckB, printB, sealB_len]; omega
 refine Zc [vS [], vS [], .int .i64 0, .slice none 0 0, .slice none 0 0, .slice none 0 0, vS []] (k:=fun b5 => Zp (k:=Wq (Za (k:=Zr (k:=Zm [_, _, _, _, _, _, _] (k:=?_))))))
 refine r_call1 (checkin_Print_sp (Bf := Row 25 2 (.slice ka.fa c.files.length ka.fc) c.files.length (c.files.flatMap flCells)) (Bt := Row 66 4 (.slice ka.ta c.tags.length ka.tc) c.tags.length (c.tags.flatMap tgCells)) ka c hK.z sla_row sla_row hpc) rfl rfl rfl ?_
 rw [show prK c = ckB c from by rw [prK, if_pos hR]]
 generalize hs : ckB c = s at hread hsl ⊢
 have hkm := namesK_mem hread
 have hkl := ksOf_len (namesR_sorted s) hkm
 have hkind := kindN_K hread
 refine Vv (k:=Wq (Za (k:=Zr (k:=?_))))
 refine r_mkmap rfl (fun b19 => ?_)
 refine Zc [.map none] (k:=fun b7 => Zo (k:=Wq ?_))
 refine p_cut (fun (l : { l : List Bs // l = if c.base = [] then [] else [c.base] }) => [(3, .pointer (some ⟨b3, 0, none⟩)), (4, .pointer (some ⟨b4, 0, none⟩)), (5, .pointer (some ⟨b5, 0, none⟩)), (6, vS s), (7, .pointer (some ⟨b7, 0, none⟩))]) (fun (l : { l : List Bs // l = if c.base = [] then [] else [c.base] }) => [MapS b19 (ksOf l.1), Ce b7 61 [.map (some b19)], Ce b5 30 [vS c.base, vS c.comment, vI c.date, .slice ka.fa c.files.length ka.fc, .slice ka.pa c.parents.length ka.pc, .slice ka.ta c.tags.length ka.tc, vS c.user], Row 25 2 (.slice ka.fa c.files.length ka.fc) c.files.length (c.files.flatMap flCells), SlI ka.pa (c.parents.map vS), Ce b3 39 [vI tb2, .slice ya text2.length yc], Ce b4 4 [vB false], By, Bx, Bf, Bp, Bt, Bv]) rfl (fun l => ?_) ?_
 ·
  obtain ⟨l, hl⟩ := l
  dsimp only
  try dsimp only
  refine Za (k:=Za (k:=Zr (k:=Vf 3 26 (k:=Zd (k:=Vv (k:=Vv (k:=Wq (Zb (k:=?_)))))))))
  refine p_loop (fun (i : { x : List Bs × Nat // x.2 ≤ c.files.length ∧ x.1 = l ++ ((c.files.take x.2).map (·.2)).filter (· ≠ []) }) => [(3, .pointer (some ⟨b3, 0, none⟩)), (4, .pointer (some ⟨b4, 0, none⟩)), (5, .pointer (some ⟨b5, 0, none⟩)), (6, vS s), (7, .pointer (some ⟨b7, 0, none⟩)), (27, .slice ka.fa c.files.length ka.fc), (28, vI c.files.length), (29, vI i.1.2)]) (fun (i : { x : List Bs × Nat // x.2 ≤ c.files.length ∧ x.1 = l ++ ((c.files.take x.2).map (·.2)).filter (· ≠ []) }) => [MapS b19 (ksOf i.1.1), Ce b7 61 [.map (some b19)], Ce b5 30 [vS c.base, vS c.comment, vI c.date, .slice ka.fa c.files.length ka.fc, .slice ka.pa c.parents.length ka.pc, .slice ka.ta c.tags.length ka.tc, vS c.user], Row 25 2 (.slice ka.fa c.files.length ka.fc) c.files.length (c.files.flatMap flCells), SlI ka.pa (c.parents.map vS), Ce b3 39 [vI tb2, .slice ya text2.length yc], Ce b4 4 [vB false], By, Bx, Bf, Bp, Bt, Bv]) (fun (i : { x : List Bs × Nat // x.2 ≤ c.files.length ∧ x.1 = l ++ ((c.files.take x.2).map (·.2)).filter (· ≠ []) }) => c.files.length - i.1.2) rfl (⟨(l, 0), Nat.zero_le _, by simp⟩) ?_ ?_ (fun i => ?_)
  · exact ⟨rfl, rfl, rfl, rfl, rfl, rfl, rfl, rfl, trivial⟩
  ·
   exact ent_pick
  obtain ⟨⟨ns, j⟩, hj, hns⟩ := i
  dsimp only at hj hns ⊢
  try dsimp only
  refine Za (k:=Zr (k:=Vv (k:=Wq (Za (k:=Zi (t:=fun h30 => ?_) (f:=fun h30 => ?_))))))
  ·
   refine Zk (k:=Ya (Za (k:=Zb (k:=Za (k:=?_)))))
   have hjl : j < c.files.length := by omega
   obtain ⟨f, hf2⟩ : ∃ f, f = c.files[j] := ⟨_, rfl⟩
   have htk2 : ((c.files.take (j + 1)).map (·.2)).filter (· ≠ []) = ((c.files.take j).map (·.2)).filter (· ≠ []) ++ if f.2 = [] then [] else [f.2] := by
    rw [List.take_succ_eq_append_getElem hjl, List.map_append, List.filter_append, ← hf2]
    by_cases e : f.2 = [] <;> simp [e]
   refine Zr (k:=Ye 2 (k:=?_))
   refine r_eloada (vs := [_, _]) (sz := 2) Tryz.underlying25 rfl ti25 rfl rfl (by rw [flat_len (sz := 2) (fun _ => rfl)]; omega) rfl (by refine get_flat (fun x => ?_) ?_ <;> first | rfl | omega) rfl ?_
   rw [← hf2]
   refine Zc [vS [], vS []] (k:=fun b9 => Zp (k:=Wq (Za (k:=Zr (k:=Vf 1 9 (k:=Zd (k:=Vv (k:=Wq (Zi (t:=fun h35 => ?_) (f:=fun h35 => ?_))))))))))
   ·
    refine Zr (k:=Zd (k:=Vf 1 9 (k:=Zd (k:=?_))))
    refine r_mapUpdate Tryz.underlying61 Tryz.underlying9 rfl rfl rfl ?_
    refine Wn (Yb (Ya (Zr (k:=Vv (k:=Vv (k:=Wn ?_))))))
    first
    | (refine to_inv ⟨(ns ++ [f.2], j + 1), by dsimp only; omega, by dsimp only; rw [htk2, if_neg h35, ← List.append_assoc, hns]⟩ (by dsimp only; omega) ⟨rfl, rfl, rfl, rfl, rfl, rfl, rfl, rfl, trivial⟩ ?_
       dsimp only
       rw [ksOf_snoc]
       exact ent_pick)
    | (refine to_inv ⟨(ns, j + 1), by dsimp only; omega, by dsimp only; rw [htk2, if_pos (Classical.not_not.1 h35), List.append_nil, hns]⟩ (by dsimp only; omega) ⟨rfl, rfl, rfl, rfl, rfl, rfl, rfl, rfl, trivial⟩ ent_pick)
   ·
    refine Zk (k:=Yb (Ya (Zr (k:=Vv (k:=Vv (k:=Wn ?_))))))
    first
    | (refine to_inv ⟨(ns ++ [f.2], j + 1), by dsimp only; omega, by dsimp only; rw [htk2, if_neg h35, ← List.append_assoc, hns]⟩ (by dsimp only; omega) ⟨rfl, rfl, rfl, rfl, rfl, rfl, rfl, rfl, trivial⟩ ?_
       dsimp only
       rw [ksOf_snoc]
       exact ent_pick)
    | (refine to_inv ⟨(ns, j + 1), by dsimp only; omega, by dsimp only; rw [htk2, if_pos (Classical.not_not.1 h35), List.append_nil, hns]⟩ (by dsimp only; omega) ⟨rfl, rfl, rfl, rfl, rfl, rfl, rfl, rfl, trivial⟩ ent_pick)
  ·
   refine Ze (k:=Xa (Xi (Xb (Ya (Za (k:=Za (k:=?_)))))))
   have hjl : j = c.files.length := by omega
   rw [hjl, List.take_length] at hns
   refine Zr (k:=Vf 4 27 (k:=Zd (k:=Vv (k:=Vv (k:=Wq (Zb (k:=?_)))))))
   refine p_loop (fun (i : { x : List Bs × Nat // x.2 ≤ c.parents.length ∧ x.1 = ns ++ c.parents.take x.2 }) => [(3, .pointer (some ⟨b3, 0, none⟩)), (4, .pointer (some ⟨b4, 0, none⟩)), (5, .pointer (some ⟨b5, 0, none⟩)), (6, vS s), (7, .pointer (some ⟨b7, 0, none⟩)), (41, .slice ka.pa c.parents.length ka.pc), (42, vI c.parents.length), (43, vI i.1.2)]) (fun (i : { x : List Bs × Nat // x.2 ≤ c.parents.length ∧ x.1 = ns ++ c.parents.take x.2 }) => [MapS b19 (ksOf i.1.1), Ce b7 61 [.map (some b19)], Ce b5 30 [vS c.base, vS c.comment, vI c.date, .slice ka.fa c.files.length ka.fc, .slice ka.pa c.parents.length ka.pc, .slice ka.ta c.tags.length ka.tc, vS c.user], Row 25 2 (.slice ka.fa c.files.length ka.fc) c.files.length (c.files.flatMap flCells), SlI ka.pa (c.parents.map vS), Ce b3 39 [vI tb2, .slice ya text2.length yc], Ce b4 4 [vB false], By, Bx, Bf, Bp, Bt, Bv]) (fun (i : { x : List Bs × Nat // x.2 ≤ c.parents.length ∧ x.1 = ns ++ c.parents.take x.2 }) => c.parents.length - i.1.2) rfl (⟨(ns, 0), Nat.zero_le _, by simp⟩) ?_ ?_ (fun i => ?_)
   · exact ⟨rfl, rfl, rfl, rfl, rfl, rfl, rfl, rfl, trivial⟩
   ·
    exact ent_pick
   obtain ⟨⟨ms, m⟩, hm, hms⟩ := i
   dsimp only at hm hms ⊢
   try dsimp only
   refine Za (k:=Zr (k:=Vv (k:=Wq (Za (k:=Zi (t:=fun h44 => ?_) (f:=fun h44 => ?_))))))
   ·
    refine Zk (k:=Ya (Za (k:=Zb (k:=Za (k:=?_)))))
    have hml : m < c.parents.length := by omega
    have htk3 : c.parents.take (m + 1) = c.parents.take m ++ [c.parents.getD m []] := by rw [List.take_succ_eq_append_getElem hml]; simp [hml]
    refine Zr (k:=Ye 1 (k:=?_))
    refine r_eload Tryz.underlying9 rfl rfl (get_mapD [] hml) rfl ?_
    refine Vv (k:=Wq (Zr (k:=Zd (k:=Vv (k:=?_)))))
    refine r_mapUpdate Tryz.underlying61 Tryz.underlying9 rfl rfl rfl ?_
    refine Wn (Yb (Ya (Zr (k:=Vv (k:=Vv (k:=Wn ?_))))))
    refine to_inv ⟨(ms ++ [c.parents.getD m []], m + 1), by dsimp only; omega, by dsimp only; rw [htk3, ← List.append_assoc, hms]⟩ (by dsimp only; omega) ⟨rfl, rfl, rfl, rfl, rfl, rfl, rfl, rfl, trivial⟩ ?_
    dsimp only
    rw [ksOf_snoc]
    exact ent_pick
   ·
    refine Ze (k:=Xa (Xi (Xb (Ya (Za (k:=Za (k:=?_)))))))
    have hml : m = c.parents.length := by omega
    rw [hml, List.take_length, hns, hl] at hms
    have hnk : ms = nsK c := hms
    rw [hnk]
    refine Zr (k:=?_)
    refine r_callF (kind_Of_sp "text".toUTF8.data.toList (by decide)) rfl rfl rfl ?_
    refine Vv (k:=Wq (Zi (t:=fun h51 => ?_) (f:=fun h51 => ?_)))
    ·
     exact absurd hk1 h51
     --done
    ·
     refine Zk (k:=Ya (Za (k:=Zr (k:=Zc [.int .i64 0] (k:=fun b12 => Zc [vS []] (k:=fun b13 => Zo (k:=Zo (k:=Wq (Za (k:=Za (k:=Zr (k:=?_))))))))))))
     refine Vv (k:=?_)
     refine r_callX (kind_Names_sp s) rfl rfl rfl (fun x53 _ => ?_)
     refine Wq (Zb (k:=?_))
     refine p_rangeFunc (fun pre => [Ce b12 3 [vI pre.length], Ce b13 9 [vS (pre.getLast?.getD [])], MapS b19 (ksOf (nsK c)), Ce b7 61 [.map (some b19)], Ce b3 39 [vI tb2, .slice ya text2.length yc], Ce b4 4 [vB false], By, Bx, Bf, Bp, Bt, Bv]) (fun j pre => [Pu False]) rfl (kind_Names_it s hsl x53) rfl (fun _ => by rfl) rfl ?_ (fun l pre w hok => ?_) ?_ (fun j pre hs => ?_)
     · (refine ent_app ?_; exact ent_step (ce_norm (by rfl) (by rfl)) (ent_step (ce_norm (by rfl) (by rfl)) ent_pick))
     ·
      obtain ⟨rr, hrr⟩ := hok
      have hin : w ∈ nsK c := (hkm w).2 (by rw [hrr]; simp)
      have hso := namesR_sorted s
      rw [hrr] at hso
      have hlast : 0 < pre.length → blt (pre.getLast?.getD []) w = true := fun h => by
       rcases hg : pre.getLast? with _ | z
       · rw [List.getLast?_eq_none_iff.1 hg] at h; simp at h
       · rw [Option.getD_some, blt_iff]
         exact (List.pairwise_append.1 hso).2.2 z (List.mem_of_getLast? hg) w (by simp)
      have hpl : pre.length ≤ 100 := by
       have h1 := congrArg List.length hrr
       have h2 := namesP_len s
       have h3 := dedS_len (sortB (namesP s))
       have h4 : (namesR s).length ≤ (dedS (sortB (namesP s))).length := List.length_filter_le _ _
       rw [sortB_len] at h3
       simp at h1; omega
      refine Zr (k:=Vv (k:=Wg (Zb (k:=Za (k:=Za (k:=Zr (k:=Zd (k:=Vv (k:=?_)))))))))
      refine r_lookup (v := vB true) Tryz.underlying61 Tryz.underlying9 ti4 rfl rfl rfl (by rw [ksOf_look, if_pos hin]; rfl) rfl ?_
      refine Vv (k:=Vv (k:=Gi 4 (t:=fun h59 => ?_) (f:=fun h59 => ?_)))
      ·
       refine O1 (k:=O1 (k:=O1 (k:=Ou (k:=Ou (k:=Ou (k:=O1 (k:=P1 (k:=Wq (Z1 (k:=Za (k:=Zr (k:=?_))))))))))))
       refine Zo (k:=Wq (Zt (k:=Va (Vb ?_))))
       exfalso
       first
       | exact hF
       | (simp at h59; done)
       | (have h0 := (blt_iff _ _).1 (hlast (by omega))
          rw [Bool.or_eq_true] at h67
          rcases h67 with h | h
          · exact List.lt_irrefl _ (List.lt_trans h0 ((blt_iff _ _).1 h))
          · rw [of_decide_eq_true h] at h0; exact List.lt_irrefl _ h0)
      ·
       refine I0 (k:=Zd (k:=I0 (k:=Vv (k:=I0 (k:=Vv (k:=Gi 7 (t:=fun h62 => ?_) (f:=fun h62 => ?_)))))))
       ·
        refine I1 (k:=Vv (k:=I1 (k:=Zd (k:=I1 (k:=Vv (k:=I0 (k:=P1 (k:=P0 (k:=Wq (Zi (t:=fun h67 => ?_) (f:=fun h67 => ?_)))))))))))
        ·
         refine Za (k:=Zr (k:=Zo (k:=Wq (Zt (k:=Va (Vb ?_))))))
         exfalso
         first
         | exact hF
         | (simp at h59; done)
         | (have h0 := (blt_iff _ _).1 (hlast (by omega))
            rw [Bool.or_eq_true] at h67
            rcases h67 with h | h
            · exact List.lt_irrefl _ (List.lt_trans h0 ((blt_iff _ _).1 h))
            · rw [of_decide_eq_true h] at h0; exact List.lt_irrefl _ h0)
        ·
         refine Zk (k:=Ya (Zr (k:=Zd (k:=Vv (k:=Vv (k:=Zo (k:=Zo (k:=Wn (Yb ?_)))))))))
         refine to_round ?_
         exact ent_step (ce_norm (by rfl) (by simp)) (ent_step (ce_norm (by rfl) (by simp)) ent_pick)
       ·
        refine O0 (k:=O0 (k:=O0 (k:=I0 (k:=P0 (k:=P0 (k:=Wq (Z0 (k:=Zk (k:=Ya (Zr (k:=Zd (k:=?_))))))))))))
        refine Vv (k:=Vv (k:=Zo (k:=Zo (k:=Wn (Yb ?_)))))
        refine to_round ?_
        exact ent_step (ce_norm (by rfl) (by simp)) (ent_step (ce_norm (by rfl) (by simp)) ent_pick)
     ·
      skip
      refine Yb (Ya (Za (k:=Za (k:=Zr (k:=Zm [_, _] (k:=?_))))))
      refine r_call1 hTx rfl rfl rfl ?_
      refine r_callX (kind_Names_sp (textB tb2 text2)) rfl rfl rfl (fun x73 _ => ?_)
      refine Wq (Zb (k:=?_))
      refine p_rangeFunc (fun pre => [Ce b12 3 [vI (namesR s).length], MapS b19 (ksOf (nsK c)), Ce b7 61 [.map (some b19)], Ce b3 39 [vI tb2, .slice ya text2.length yc], Ce b4 4 [vB false], By, Bx, Bf, Bp, Bt, Bv]) (fun j pre => [Pu False]) rfl (kind_Names_it (textB tb2 text2) (by omega) x73) rfl (fun _ => by rfl) rfl ?_ (fun l pre w2 hok => ?_) ?_ (fun j pre hs => ?_)
      · (refine ent_app ?_; exact ent_pick)
      ·
       obtain ⟨rr, hrr⟩ := hok
       have hF : False := by rw [htn] at hrr; simp at hrr
       refine Zk (k:=Yg (Zb (k:=Za (k:=Zr (k:=Zo (k:=Wq (Zt (k:=Vb ?_))))))))
       exfalso
       first
       | exact hF
       | (simp at h59; done)
       | (have h0 := (blt_iff _ _).1 (hlast (by omega))
          rw [Bool.or_eq_true] at h67
          rcases h67 with h | h
          · exact List.lt_irrefl _ (List.lt_trans h0 ((blt_iff _ _).1 h))
          · rw [of_decide_eq_true h] at h0; exact List.lt_irrefl _ h0)
      ·
       skip
       refine Yb (Ya (Za (k:=Zr (k:=Zd (k:=Zd (k:=?_))))))
       refine r_mlen Tryz.underlying61 rfl rfl ?_
       refine Vv (k:=Vv (k:=Gi 4 (t:=fun h79 => ?_) (f:=fun h79 => ?_)))
       ·
        refine I1 (k:=Vv (k:=I1 (k:=?_)))
        refine r_callF (kind_Of_sp s hsl) rfl rfl rfl ?_
        refine I1 (k:=Vv (k:=P1 (k:=Vv (k:=Gi 9 (t:=fun h84 => ?_) (f:=fun h84 => ?_)))))
        ·
         refine I1 (k:=Zm [_, _] (k:=I1 (k:=?_)))
         refine r_call1 hTx rfl rfl rfl ?_
         refine I1 (k:=?_)
         refine r_callF (kind_Of_sp (textB tb2 text2) (by omega)) rfl rfl rfl ?_
         refine I1 (k:=Vv (k:=P1 (k:=Vv (k:=Gi 15 (t:=fun h90 => ?_) (f:=fun h90 => ?_)))))
         ·
          refine I1 (k:=?_)
          refine r_call1 KindRuns_sp rfl rfl rfl ?_
          refine P1 (k:=Zo (k:=Wq (Zt (k:=?_))))
          exact fin_ret () (vs := [_]) (Cs := [Ce b4 4 [vB true]]) rfl (.cell1 (l := [vB true]) rfl (shows_ce (T := 4)) Tryz.underlying4 rfl rfl .nil) rfl trivial ent_pick
         ·
          exact absurd htk h90
          --done
        ·
         exact absurd hkind h84
         --done
       ·
        exact absurd (show ((namesR s).length : Int) = (((ksOf (nsK c)).length : Nat) : Int) by omega) h79
        --done
      ·
       exact wc_no (fun s => by obtain ⟨_, _, _, _, a, _⟩ := s; exact a)
     ·
      exact wc_no (fun s => by obtain ⟨_, _, _, _, a, _⟩ := s; exact a)
 ·
  refine Za (k:=Zr (k:=Vf 0 9 (k:=Zd (k:=Vv (k:=Wq (Zi (t:=fun h22 => ?_) (f:=fun h22 => ?_)))))))
  ·
   refine Zr (k:=Zd (k:=Vf 0 9 (k:=Zd (k:=?_))))
   refine r_mapUpdate Tryz.underlying61 Tryz.underlying9 rfl rfl rfl ?_
   refine Wn ?_
   first
   | (refine to_inv ⟨[c.base], (if_neg h22).symm⟩ trivial ⟨rfl, rfl, rfl, rfl, rfl, trivial⟩ ?_
      dsimp only [ksOf, List.foldl_cons, List.foldl_nil]
      exact ent_pick)
   | (refine to_inv ⟨[], (if_pos (Classical.not_not.1 h22)).symm⟩ trivial ⟨rfl, rfl, rfl, rfl, rfl, trivial⟩ ?_
      dsimp only [ksOf, List.foldl_cons, List.foldl_nil]
      exact ent_pick)
  ·
   refine Zk (k:=?_)
   first
   | (refine to_inv ⟨[c.base], (if_neg h22).symm⟩ trivial ⟨rfl, rfl, rfl, rfl, rfl, trivial⟩ ?_
      dsimp only [ksOf, List.foldl_cons, List.foldl_nil]
      exact ent_pick)
   | (refine to_inv ⟨[], (if_pos (Classical.not_not.1 h22)).symm⟩ trivial ⟨rfl, rfl, rfl, rfl, rfl, trivial⟩ ?_
      dsimp only [ksOf, List.foldl_cons, List.foldl_nil]
      exact ent_pick)
end Go.Proofs.YtibccdcemcgkeaaGreat
end
section
namespace Go.Proofs.YtibccdcemcgkeaaGreat
/-- A list of whole numbers in memory. -/
structure IntsV where
 a : Option Addr
 c : Nat
 l : List Int
def IntsV.cell (x : IntsV) : Value := .slice x.a x.l.length x.c
def IntsV.ok (w : World) (x : IntsV) : Prop := x.l.length ≤ 9223372036854775807 ∧ At w (SlI x.a (x.l.map vI))
theorem ints_of {H : Type} {enc : TypeId × Value → H} {w : World} {spare : Nat → Bool} {held : Bool} {fuel : Nat} {cs : List Value} {x : DataW H × List MemPlace}
    (h : DataW.trod enc Tryz.prog w 0 spare held fuel 37 cs = some x) : ∃ q : IntsV, cs = [q.cell] ∧ q.ok w := by
 have ei : Tryz.prog.cellsOf 3 = 1 := by kernel_rfl
 obtain ⟨a, k, l, g, b, s, _⟩ := od_ints Tryz.underlying37 Tryz.underlying3 (by rw [ei]; decide) h
 exact ⟨⟨a, k, l⟩, g, b, s⟩
theorem keepText_of {H : Type} {enc : TypeId × Value → H} {w : World} {spare : Nat → Bool} {held : Bool} {fuel : Nat} {cs : List Value} {x : DataW H × List MemPlace}
    (h : DataW.trod enc Tryz.prog w 0 spare held fuel 39 cs = some x) : ∃ (b : Int) (q : IntsV), cs = [vI b, q.cell] ∧ q.ok w := by
 have hl := od_len Tryz.underlying39 h
 have e2 : Tryz.prog.cellsOf 39 = 2 := by kernel_rfl
 have ei : Tryz.prog.cellsOf 3 = 1 := by kernel_rfl
 have es : Tryz.prog.cellsOf 37 = 1 := by kernel_rfl
 rw [e2] at hl
 obtain ⟨m0, y0, f0⟩ := od_field Tryz.underlying39 h 0 3 0 1 rfl ei
 obtain ⟨m1, y1, f1⟩ := od_field Tryz.underlying39 h 1 37 1 1 rfl es
 match cs, hl with
 | [c0, c1], _ =>
   simp only [List.drop_zero, List.drop_succ_cons, List.take_succ_cons, List.take_zero] at f0 f1
   obtain ⟨n0, g0, _, _⟩ := DataW.trod_int Tryz.underlying3 f0
   obtain ⟨q, g1, hq⟩ := ints_of f1
   cases g0; cases g1
   exact ⟨n0, q, rfl, hq⟩
theorem keepCheckin_of {H : Type} {enc : TypeId × Value → H} {w : World} {spare : Nat → Bool} {held : Bool} {fuel : Nat} {cs : List Value} {x : DataW H × List MemPlace}
    (h : DataW.trod enc Tryz.prog w 0 spare held fuel 41 cs = some x) : ∃ (base d u tb : Int) (q1 q2 q3 q4 q5 : IntsV), cs = [vI base, vI d, vI u, vI tb, q1.cell, q2.cell, q3.cell, q4.cell, q5.cell] ∧ q1.ok w ∧ q2.ok w ∧ q3.ok w ∧ q4.ok w ∧ q5.ok w := by
 have hl := od_len Tryz.underlying41 h
 have e9 : Tryz.prog.cellsOf 41 = 9 := by kernel_rfl
 have e2 : Tryz.prog.cellsOf 39 = 2 := by kernel_rfl
 have ei : Tryz.prog.cellsOf 3 = 1 := by kernel_rfl
 have es : Tryz.prog.cellsOf 37 = 1 := by kernel_rfl
 rw [e9] at hl
 obtain ⟨m0, y0, f0⟩ := od_field Tryz.underlying41 h 0 3 0 1 rfl ei
 obtain ⟨m1, y1, f1⟩ := od_field Tryz.underlying41 h 1 3 1 1 rfl ei
 obtain ⟨m2, y2, f2⟩ := od_field Tryz.underlying41 h 2 3 2 1 rfl ei
 obtain ⟨m3, y3, f3⟩ := od_field Tryz.underlying41 h 3 39 3 2 rfl e2
 obtain ⟨m4, y4, f4⟩ := od_field Tryz.underlying41 h 4 37 5 1 rfl es
 obtain ⟨m5, y5, f5⟩ := od_field Tryz.underlying41 h 5 37 6 1 rfl es
 obtain ⟨m6, y6, f6⟩ := od_field Tryz.underlying41 h 6 37 7 1 rfl es
 obtain ⟨m7, y7, f7⟩ := od_field Tryz.underlying41 h 7 37 8 1 rfl es
 match cs, hl with
 | [c0, c1, c2, c3, c4, c5, c6, c7, c8], _ =>
   simp only [List.drop_zero, List.drop_succ_cons, List.take_succ_cons, List.take_zero] at f0 f1 f2 f3 f4 f5 f6 f7
   obtain ⟨n0, g0, _, _⟩ := DataW.trod_int Tryz.underlying3 f0
   obtain ⟨n1, g1, _, _⟩ := DataW.trod_int Tryz.underlying3 f1
   obtain ⟨n2, g2, _, _⟩ := DataW.trod_int Tryz.underlying3 f2
   obtain ⟨b, q1, g3, h1⟩ := keepText_of f3
   obtain ⟨q2, g4, h2⟩ := ints_of f4
   obtain ⟨q3, g5, h3⟩ := ints_of f5
   obtain ⟨q4, g6, h4⟩ := ints_of f6
   obtain ⟨q5, g7, h5⟩ := ints_of f7
   cases g0; cases g1; cases g2; cases g3; cases g4; cases g5; cases g6; cases g7
   exact ⟨n0, n1, n2, b, q1, q2, q3, q4, q5, rfl, h1, h2, h3, h4, h5⟩
end Go.Proofs.YtibccdcemcgkeaaGreat
end
