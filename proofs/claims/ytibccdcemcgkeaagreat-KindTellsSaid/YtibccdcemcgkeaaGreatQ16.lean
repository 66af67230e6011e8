/- Texts of this proof, put together: SCt, SCl, SMaps, SFrom, PMap. -/
import Derived.Sort.Row
import Derived.Test.YtibccdcemcgkeaaGreatQ15
set_option linter.unusedVariables false
set_option linter.unusedSimpArgs false
namespace Go.Proofs.YtibccdcemcgkeaaGreat
section
set_option maxRecDepth 100000
def ctVals (ta : Option Addr) (tc : Nat) (c : Ct) : List Value := [vI c.date, .slice ta c.tags.length tc, vS c.user]
def ct0 : Ct := ⟨0, [], []⟩
theorem zb82ret1 {G : Prop} (h : G := by
    refine fin_ret () (vs := [_]) (Cs := []) rfl (.tmp rfl .nil) ?_ trivial ent_pick
    show vB _ = vB _
    congr 1
    first
    | exact (decide_eq_false (fun h => h22 h.tags)).symm
    | exact (decide_eq_false (fun h => by have := h.some; have := h.date; omega)).symm
    | exact decide_eq_decide.2 ⟨fun h => ⟨by omega, by omega, h22, h⟩, fun h => h.user⟩) : G := h
set_option maxHeartbeats 1000000 in
theorem control_Right_sp {Bt : HP} (ta : Option Addr) (tc : Nat) (c : Ct) (zu : c.user.length ≤ 1099511627) (zt : TgZ c.tags) (sht : SlA Bt ta (c.tags.flatMap tgCells)) :
    Sp1 Tryz.prog 82 [.agg (ctVals ta tc c).toArray] [Bt] (vB (decide (RightCt c))) [Bt] := by
 have hT := checkin_RightTags_sp false c.tags.length tc c.tags sht rfl zt.n (fun t ht => by have := zt.z t ht; omega)
 refine Sp.body (n := 27) Tryz.call82 Tryz.func82 rfl rfl rfl ?_
 refine Qc (k:=Zx [_, _, _] (k:=fun b1 => Vv (k:=Wq (Qc (k:=Qx 0 3 (k:=Qv (k:=Gi 3 (t:=fun h6 => ?_) (f:=fun h6 => ?_))))))))
 ·
  refine I1 (k:=Vf 0 3 (k:=I1 (k:=Zd (k:=J1 (k:=P1 (k:=Vv (k:=Gi 8 (t:=fun h11 => ?_) (f:=fun h11 => ?_))))))))
  ·
   refine I1 (k:=Vf 1 28 (k:=I1 (k:=Zd (k:=J1 (k:=J1 (k:=P1 (k:=Vv (k:=Gi 14 (t:=fun h17 => ?_) (f:=fun h17 => ?_)))))))))
   ·
    refine I1 (k:=Vf 1 28 (k:=I1 (k:=Zd (k:=I1 (k:=?_)))))
    refine r_call1 hT rfl rfl rfl ?_
    refine P1 (k:=Vv (k:=Gi 19 (t:=fun h22 => ?_) (f:=fun h22 => ?_)))
    ·
     refine I1 (k:=Vf 2 9 (k:=I1 (k:=Zd (k:=I1 (k:=?_)))))
     refine r_callF (escape_Word_sp c.user (by omega)) rfl rfl rfl ?_
     refine P1 (k:=Vv (k:=Wq (Zt (k:=?_))))
     exact zb82ret1
    ·
     refine O0 (k:=O0 (k:=O0 (k:=P0 (k:=Vv (k:=Wq (Zt (k:=?_)))))))
     exact zb82ret1
   ·
    refine O0 (k:=O0 (k:=O0 (k:=P0 (k:=Vv (k:=O0 (k:=O0 (k:=O0 (k:=P0 (k:=Vv (k:=Wq (Zt (k:=?_))))))))))))
    exact zb82ret1
  ·
   refine O0 (k:=O0 (k:=O0 (k:=O0 (k:=P0 (k:=Vv (k:=O0 (k:=O0 (k:=O0 (k:=P0 (k:=Vv (k:=O0 (k:=?_))))))))))))
   refine O0 (k:=O0 (k:=P0 (k:=Vv (k:=Wq (Zt (k:=?_))))))
   exact zb82ret1
 ·
  refine O0 (k:=O0 (k:=O0 (k:=P0 (k:=Vv (k:=O0 (k:=O0 (k:=O0 (k:=O0 (k:=P0 (k:=Vv (k:=O0 (k:=?_))))))))))))
  refine O0 (k:=O0 (k:=P0 (k:=Vv (k:=O0 (k:=O0 (k:=O0 (k:=P0 (k:=Vv (k:=Wq (Zt (k:=?_)))))))))))
  exact zb82ret1
def prCt (c : Ct) : Bs := if RightCt c then ctB c else []
set_option maxHeartbeats 2000000 in
theorem control_Print_sp {Bt : HP} (ta : Option Addr) (tc : Nat) (c : Ct) (zu : c.user.length ≤ 1099511627) (zt : TgZ c.tags) (sht : SlA Bt ta (c.tags.flatMap tgCells)) :
    Sp1 Tryz.prog 30 [.agg (ctVals ta tc c).toArray] [Bt] (vS (prCt c)) [Bt] := by
 have hRt := control_Right_sp ta tc c zu zt sht
 have hTC := checkin_TagCards_sp c.tags.length tc c.tags sht rfl zt
 refine Sp.body (n := 26) Tryz.call30 Tryz.func30 rfl rfl rfl ?_
 refine Qc (k:=Zx [_, _, _] (k:=fun b1 => Vv (k:=Wq (Za (k:=Qc (k:=Zm [_, _, _] (k:=?_)))))))
 refine r_call1 hRt rfl rfl rfl ?_
 refine Vv (k:=Wq (Zi (t:=fun h6 => ?_) (f:=fun h6 => ?_)))
 ·
  refine Qc (k:=Vv (k:=Wq (Zt (k:=Va ?_))))
  have hn : ¬ RightCt c := by simpa using h6
  refine fin_ret () (vs := [_]) (Cs := []) rfl (.tmp rfl .nil) ?_ trivial ent_pick
  rw [prCt, if_neg hn]; rfl
 ·
  have hR : RightCt c := by simpa using h6
  have hsz := ct_small hR
  have htl := hR.tags.len
  have hDec : SpF Tryz.prog 78 [vI c.date] (vS (decN c.date.toNat)) := by
   have h1 := hR.date
   have := digit_Dec_sp c.date.toNat (by omega)
   rwa [Int.toNat_of_nonneg h1.1] at this
  refine Zk (k:=Ya (Qc (k:=Qx 0 3 (k:=?_))))
  refine r_callF hDec rfl rfl rfl ?_
  refine Zv [_] (cs := [_]) (k:=fun b10 => Vx (Ps [_, _]) (k:=Zv [_] (cs := [_, _]) (k:=fun b12 => ?_)))
  refine wo_frzC b10 ?_
  refine wo_ent' (ent_cdm_one (a := some ⟨b10, 0, none⟩) (c := 1) 68 [decN c.date.toNat] [vS (decN c.date.toNat)] HasC.get rfl (Nat.le_refl _)) ?_
  refine wo_ent' (ent_row (k := 1) (cap := 1) (sz := 2) (e := 133) (g := b12) (xs := ([⟨68, some ⟨b10, 0, none⟩, 1, [decN c.date.toNat]⟩] : List CdV).flatMap CdV.cells) (cur := [vU 68, .slice (some ⟨b10, 0, none⟩) 1 1]) (Nat.le_refl _) (by simp [maxLen]) rfl rfl rfl) ?_
  obtain ⟨ds, hds⟩ : ∃ ds : List CdV, ds = [⟨68, some ⟨b10, 0, none⟩, 1, [decN c.date.toNat]⟩] := ⟨_, rfl⟩
  rw [← hds]
  refine Vv (k:=Wq (Qc (k:=Vv (k:=Qx 1 28 (k:=?_)))))
  refine r_callX hTC rfl rfl rfl (fun x16 hx16 => ?_)
  obtain ⟨⟨ga, gc⟩, tqs⟩ := x16
  dsimp only [cardV, cardH] at hx16 ⊢
  have htq := cdsLen hx16
  rw [List.length_map] at htq
  refine r_appendA (sz := 2) (bytes := 32) Tryz.underlying119 ti133 rfl rfl rfl rfl rfl rfl rfl (cells_len tqs) (cells_one tqs) (by omega) (by simp only [maxLen]; omega) rfl (fun a17 c17 => ?_)
  refine Vv (k:=Wq (Qc (k:=Vv (k:=Qx 2 9 (k:=Zv [_] (cs := [_]) (k:=fun b21 => Vx (Ps [_, _]) (k:=Zv [_] (cs := [_, _]) (k:=fun b23 => ?_))))))))
  refine r_append1 (sz := 2) (bytes := 32) Tryz.underlying119 ti133 rfl rfl rfl rfl rfl rfl rfl (by rfl) (by rfl) (by omega) (by simp only [maxLen]; omega) rfl (fun a24 c24 => ?_)
  refine wo_frzC b21 ?_
  obtain ⟨al, hal⟩ : ∃ al : List CdV, al = ds ++ tqs ++ [⟨85, some ⟨b21, 0, none⟩, 1, [c.user]⟩] := ⟨_, rfl⟩
  have halc : cdsOf al = ctCards c := by rw [hal, cdsOf_app, cdsOf_app, hx16, hds, ctCards]; simp [cdsOf, CdV.cd]
  have hall : al.length = 1 + tqs.length + 1 := by rw [hal, hds]; simp; omega
  have hxx : ds.flatMap CdV.cells ++ tqs.flatMap CdV.cells ++ [vU 85, .slice (some ⟨b21, 0, none⟩) 1 1] = al.flatMap CdV.cells := by rw [hal]; simp [CdV.cells]
  have hPr := card_Print_sp (B := Row 133 2 (.slice a24 (1 + tqs.length + 1) c24) (1 + tqs.length + 1) (ds.flatMap CdV.cells ++ tqs.flatMap CdV.cells ++ [vU 85, .slice (some ⟨b21, 0, none⟩) 1 1])) (a := a24) (1 + tqs.length + 1) c24 al (by rw [← hxx]; exact sla_row) hall (by rw [halc]; omega)
  rw [show (vS (prB (cdsOf al))) = vS (prCt c) from by rw [prCt, if_pos hR, prB, halc, if_pos (rightCt_cards hR)]; rfl] at hPr
  refine wo_ent' (ent_cdm_app (qs := ds) (rs := tqs) HasC.get HasC.get) ?_
  refine wo_ent' (ent_cdm_new (qs := ds ++ tqs) (a := some ⟨b21, 0, none⟩) (c := 1) 85 [c.user] [vS c.user] HasC.get HasC.get rfl (Nat.le_refl _)) ?_
  rw [← hal]
  refine r_call1 hPr rfl rfl rfl ?_
  refine Vv (k:=Wq (Zt (k:=?_)))
  exact fin_ret () (vs := [_]) (Cs := []) rfl (.tmp rfl .nil) rfl trivial ent_pick
theorem ctLoop_le {N : Nat} : ∀ (l : List Cd) (st : Int × Bs), st.2.length ≤ N → (∀ c ∈ l, ∀ a ∈ c.args, a.length ≤ N) → (ctLoop l st).2.length ≤ N := by
 intro l
 induction l with
 | nil => intro st h _; exact h
 | cons x r ih =>
   intro st h hz
   have hr := fun c hc => hz c (List.mem_cons_of_mem x hc)
   simp only [ctLoop]
   split
   · exact h
   · rename_i hx
     have h0 : (x.args.getD 0 []).length ≤ N := hz x (by simp) _ (by
      have hp : 0 < x.args.length := by omega
      simp [hp])
     split
     · split
       · exact ih _ h hr
       · exact h
     · split
       · exact ih _ h0 hr
       · exact ih _ h hr
theorem ctLoop_step {l : List Cd} {j : Nat} (h : j < l.length) (st : Int × Bs) : ctLoop (l.drop j) st = (if (l.getD j cd0).args.length = 0 then st
    else if (l.getD j cd0).l.toNat = 68 then (match readDec ((l.getD j cd0).args.getD 0 []) with | some n => ctLoop (l.drop (j + 1)) ((n : Int), st.2) | none => (0, st.2))
    else if (l.getD j cd0).l.toNat = 85 then ctLoop (l.drop (j + 1)) (st.1, (l.getD j cd0).args.getD 0 []) else ctLoop (l.drop (j + 1)) st) := by
 have e : l.drop j = l.getD j cd0 :: l.drop (j + 1) := by
  rw [List.drop_eq_getElem_cons h]; simp [h]
 rw [e, ctLoop]
 rfl
def prgCtC (l : List Cd) : Ct := ⟨(ctLoop l (0, [])).1, (readT (argsOf 84 l)).getD [], (ctLoop l (0, [])).2⟩
theorem reads_prgCt {s : Bs} {l : List Cd} (hl : ReadsC s l) {c : Ct} (h : ReadsCt s c) : (readT (argsOf 84 l)).isSome = true ∧ c = prgCtC l := by
 have e : prgCt l = some c := by rw [hl.uniq h.reads]; exact prgCt_cards h.1
 unfold prgCt at e
 cases e2 : readT (argsOf 84 l) with
 | none => rw [e2] at e; cases e
 | some t => rw [e2] at e; cases e; rw [prgCtC, e2]; exact ⟨rfl, rfl⟩
abbrev ctH (x : (Option Addr × Nat) × Ct) : List HP := [Row 66 4 (.slice x.1.1 x.2.tags.length x.1.2) x.2.tags.length (x.2.tags.flatMap tgCells)]
theorem zb24join20 {G : Prop} (h : G := by
    first
    | (have hjl : j = qs.length := by omega
       rw [List.drop_of_length_le (by omega)] at hlp
       have e : ctLoop (cdsOf qs) (0, []) = (day, user) := hlp.symm
       rw [e]
       exact to_inv () trivial ⟨rfl, rfl, rfl, trivial⟩ (ent_step (ce_norm (by rfl) (by rfl)) ent_pick))
    | (rw [if_pos (by omega)] at hst
       rw [hst]
       exact to_inv () trivial ⟨rfl, rfl, rfl, trivial⟩ (ent_step (ce_norm (by rfl) (by rfl)) ent_pick))
    | (have hn : readDec (q.args.getD 0 []) = none := by cases e : readDec (q.args.getD 0 []) with
         | none => rfl
         | some v => rw [e] at h52; simp at h52
       rw [hn] at hst
       rw [hn]
       dsimp only at hst
       rw [hst]
       exact to_inv () trivial ⟨rfl, rfl, rfl, trivial⟩ (ent_step (ce_norm (by rfl) (by rfl)) ent_pick))) : G := h
theorem zb24next0 {G : Prop} (h : G := by
    first
    | (obtain ⟨v, hv⟩ : ∃ v, readDec (q.args.getD 0 []) = some v := by cases e : readDec (q.args.getD 0 []) with
         | none => rw [e] at h52; simp at h52
         | some v => exact ⟨v, rfl⟩
       rw [hv] at hst
       rw [hv]
       dsimp only at hst
       exact to_inv ⟨(j + 1, (v : Int), user), by dsimp only; omega, hst.symm⟩ (by dsimp only; omega) ⟨rfl, rfl, rfl, rfl, rfl, rfl, trivial⟩ (ent_step (ce_norm (by rfl) (by rfl)) ent_pick))
    | exact to_inv ⟨(j + 1, day, q.args.getD 0 []), by dsimp only; omega, hst.symm⟩ (by dsimp only; omega) ⟨rfl, rfl, rfl, rfl, rfl, rfl, trivial⟩ ent_pick
    | exact to_inv ⟨(j + 1, day, user), by dsimp only; omega, hst.symm⟩ (by dsimp only; omega) ⟨rfl, rfl, rfl, rfl, rfl, rfl, trivial⟩ ent_pick) : G := h
set_option maxHeartbeats 4000000 in
theorem control_Read_sp (s : Bs) (hs : s.length ≤ 1073741824) : Sp Tryz.prog 24 [vS s] [] (X := (Option Addr × Nat) × Ct) (fun x => .tuple #[.agg (ctVals x.1.1 x.1.2 x.2).toArray, vB (readCt s).isSome]) (fun x => x.2 = (readCt s).getD ct0) ctH := by
 refine Sp.body (n := 67) Tryz.call24 Tryz.func24 rfl rfl rfl ?_
 refine Qc (k:=Zc [.int .i64 0, .slice none 0 0, vS []] (k:=fun b2 => Vv (k:=Wq (Zs (k:=Qc (k:=Zc [.int .i64 0, .slice none 0 0, vS []] (k:=fun b4 => Wq (Qc (k:=?_)))))))))
 refine Vv (k:=?_)
 refine r_callX (card_Read_sp s hs) rfl rfl rfl (fun x12 hx12 => ?_)
 obtain ⟨⟨ca, cc⟩, qs⟩ := x12
 dsimp only [cardV, cardH] at hx12 ⊢
 refine Vv (k:=?_)
 refine wo_pv (pv_extract (v := .slice ca qs.length cc) rfl rfl) rfl ?_
 refine wo_pv (pv_extract (v := vB (readC s).isSome) rfl rfl) rfl ?_
 refine Qv (k:=Wq (Za (k:=Qc (k:=Qv (k:=Wq (Zi (t:=fun h16 => ?_) (f:=fun h16 => ?_)))))))
 ·
  refine Qc (k:=Zm [_, _, _] (k:=Zp (k:=Vv (k:=Wq (Zt (k:=Va (Vs ?_)))))))
  have hn : readCt s = none := the_none fun c h => by
   rw [readC_iff.2 h.reads] at h16; simp at h16
  rw [hn]
  refine fin_ret ((none, 0), ct0) (vs := [_, _]) (Cs := [Ce b2 54 (ctVals none 0 ct0)]) rfl (.cell (l := ctVals none 0 ct0) (us := ctVals none 0 ct0) rfl (shows_ce (T := 54)) Tryz.underlying54 rfl ti54 (by exact Nat.le_of_ble_eq_true rfl) rfl (.tmp rfl .nil)) rfl rfl ?_
  exact (row_nil (e := 66) (sz := 4)).trans (show Ent _ [Row 66 4 (.slice none 0 0) 0 [], Ce b2 54 [vI 0, .slice none 0 0, vS []]] from ent_pick)
 ·
  have hl : readC s = some (cdsOf qs) := by cases e : readC s with
   | none => rw [e] at h16; simp at h16
   | some l => rw [e] at hx12; rw [hx12]; rfl
  have hrd := readC_iff.1 hl
  have hbz : (bodyB (cdsOf qs)).length ≤ 1073741824 := by
   have h1 := congrArg List.length hrd.2
   rw [printB, sealB_len] at h1; omega
  obtain ⟨hqn, hqz⟩ := cds_sizes hbz
  have hz := fun x => argsOf_sizes hbz x
  have hza : ∀ c ∈ cdsOf qs, ∀ a ∈ c.args, a.length ≤ 1073741824 := fun c hc a ha => Nat.le_trans (mem_le_args ha) (Nat.le_trans ((bodyB_args (cdsOf qs)).2 c hc) hbz)
  have hnone : ∀ (h : ∀ c, ReadsCt s c → False), readCt s = none := fun h => the_none h
  have hll : (cdsOf qs).length = qs.length := by simp [cdsOf]
  refine Zk (k:=Ya (Qc (k:=Vv (k:=?_))))
  refine r_callX (checkin_ReadTags_sp (B := Row 133 2 (.slice ca qs.length cc) qs.length (qs.flatMap CdV.cells)) (a := ca) qs.length cc qs sla_row rfl hbz) rfl rfl rfl (fun x20 hx20 => ?_)
  obtain ⟨⟨ta, tc⟩, ts⟩ := x20
  dsimp only [tagV, tagH] at hx20 ⊢
  refine Vv (k:=?_)
  refine wo_pv (pv_extract (v := .slice ta ts.length tc) rfl rfl) rfl ?_
  refine wo_pv (pv_extract (v := vB (readT (argsOf 84 (cdsOf qs))).isSome) rfl rfl) rfl ?_
  refine Qv (k:=Wq (Za (k:=Qc (k:=Qv (k:=Wq (Zi (t:=fun h24 => ?_) (f:=fun h24 => ?_)))))))
  ·
   refine Qc (k:=Zm [_, _, _] (k:=Zp (k:=Vv (k:=Wq (Zt (k:=Va (Vs ?_)))))))
   have hn : readCt s = none := hnone fun c h => by
    have o1 := (reads_prgCt hrd h).1
    rw [o1] at h24; exact absurd h24 (by decide)
   rw [hn]
   refine fin_ret ((none, 0), ct0) (vs := [_, _]) (Cs := [Ce b2 54 (ctVals none 0 ct0)]) rfl (.cell (l := ctVals none 0 ct0) (us := ctVals none 0 ct0) rfl (shows_ce (T := 54)) Tryz.underlying54 rfl ti54 (by exact Nat.le_of_ble_eq_true rfl) rfl (.tmp rfl .nil)) rfl rfl ?_
   exact (row_nil (e := 66) (sz := 4)).trans (show Ent _ [Row 66 4 (.slice none 0 0) 0 [], Ce b2 54 [vI 0, .slice none 0 0, vS []]] from ent_pick)
  ·
   refine Zk (k:=Ya (Qc (k:=Vv (k:=Vf 1 28 (k:=Zo (k:=Wq (Za (k:=Zl (k:=Ya ?_)))))))))
   refine p_cut (fun (u : Unit) => [(0, vS s), (2, .pointer (some ⟨b2, 0, none⟩)), (4, .pointer (some ⟨b4, 0, none⟩))]) (fun (u : Unit) => [Ce b4 54 [vI (ctLoop (cdsOf qs) (0, [])).1, .slice ta ts.length tc, vS (ctLoop (cdsOf qs) (0, [])).2], Row 66 4 (.slice ta ts.length tc) ts.length (ts.flatMap tgCells), Ce b2 54 [vI 0, .slice none 0 0, vS []]]) rfl (fun u => ?_) ?_
   ·
    try dsimp only
    refine Za (k:=Qc (k:=?_))
    have hTZ : TgZ ts := by
     rw [hx20]
     cases e : readT (argsOf 84 (cdsOf qs)) with
     | none => exact ⟨by simp, fun t ht => by simp at ht⟩
     | some us =>
       obtain ⟨r1, r2⟩ := readT_le (N := 1073741824) (fun xs hx a ha => ((hz 84).2 xs hx).2 a ha) e
       have := (hz 84).1
       exact ⟨by simp only [Option.getD_some]; omega, fun t ht => by have := r2 t ht; omega⟩
    have hul := ctLoop_le (N := 1073741824) (cdsOf qs) (0, []) (by simp) hza
    obtain ⟨pc, hpc⟩ : ∃ pc : Ct, pc = ⟨(ctLoop (cdsOf qs) (0, [])).1, ts, (ctLoop (cdsOf qs) (0, [])).2⟩ := ⟨_, rfl⟩
    have hpe : pc = prgCtC (cdsOf qs) := by rw [hpc, hx20]; rfl
    have hPr := control_Print_sp (Bt := Row 66 4 (.slice ta ts.length tc) ts.length (ts.flatMap tgCells)) ta tc pc (by rw [hpc]; dsimp only; omega) (by rw [hpc]; exact hTZ) (by rw [hpc]; exact sla_row)
    have hcv : (.agg (ctVals ta tc pc).toArray : Value) = .agg #[vI (ctLoop (cdsOf qs) (0, [])).1, .slice ta ts.length tc, vS (ctLoop (cdsOf qs) (0, [])).2] := by rw [hpc]; rfl
    rw [hcv] at hPr
    refine Zm [_, _, _] (k:=?_)
    refine r_call1 hPr rfl rfl rfl ?_
    refine Qv (k:=Wq (Zi (t:=fun h64 => ?_) (f:=fun h64 => ?_)))
    ·
     refine Qc (k:=Vx (Ps [.int .i64 0, .slice none 0 0, vS []]) (k:=Zp (k:=Vv (k:=Wq (Zt (k:=Va (Vs ?_)))))))
     have hn : readCt s = none := hnone fun c h => by
      have e := (reads_prgCt hrd h).2
      have e2 : prCt pc = s := by rw [hpe, ← e, prCt, if_pos h.1]; exact h.2
      exact h64 e2
     rw [hn]
     refine fin_ret ((none, 0), ct0) (vs := [_, _]) (Cs := [Ce b2 54 (ctVals none 0 ct0)]) rfl (.cell (l := ctVals none 0 ct0) (us := ctVals none 0 ct0) rfl (shows_ce (T := 54)) Tryz.underlying54 rfl ti54 (by exact Nat.le_of_ble_eq_true rfl) rfl (.tmp rfl .nil)) rfl rfl ?_
     exact (row_nil (e := 66) (sz := 4)).trans (show Ent _ [Row 66 4 (.slice none 0 0) 0 [], Ce b2 54 [vI 0, .slice none 0 0, vS []]] from ent_pick)
    ·
     refine Zk (k:=Ya (Qc (k:=Zm [_, _, _] (k:=Zp (k:=Vv (k:=Wq (Zt (k:=Vs ?_))))))))
     have he : prCt pc = s := Classical.not_not.1 h64
     have hk : readCt s = some pc := readCt_iff.2 (by
      rw [prCt] at he
      split at he
      · rename_i hR; exact ⟨hR, he⟩
      · have := (reads_len hrd).1
        rw [← he] at this; simp at this)
     rw [hk]
     refine fin_ret ((ta, tc), pc) (vs := [_, _]) (Cs := [Ce b2 54 [vI (ctLoop (cdsOf qs) (0, [])).1, .slice ta ts.length tc, vS (ctLoop (cdsOf qs) (0, [])).2]]) rfl (.cell (l := [vI (ctLoop (cdsOf qs) (0, [])).1, .slice ta ts.length tc, vS (ctLoop (cdsOf qs) (0, [])).2]) rfl (shows_ce (T := 54)) Tryz.underlying54 rfl ti54 (by exact Nat.le_of_ble_eq_true rfl) rfl (.tmp rfl .nil)) ?_ rfl ?_
     · show Value.tuple #[_, _] = Value.tuple #[_, _]
       rw [hcv]; rfl
     · rw [hpc]
       exact ent_pick
   ·
    refine Qc (k:=Qv (k:=Vv (k:=Wq (Zb (k:=?_)))))
    refine p_loop (fun (i : { x : Nat × Int × Bs // x.1 ≤ qs.length ∧ ctLoop ((cdsOf qs).drop x.1) x.2 = ctLoop (cdsOf qs) (0, []) }) => [(0, vS s), (2, .pointer (some ⟨b2, 0, none⟩)), (4, .pointer (some ⟨b4, 0, none⟩)), (28, .slice ca qs.length cc), (29, vI qs.length), (30, vI i.1.1)]) (fun (i : { x : Nat × Int × Bs // x.1 ≤ qs.length ∧ ctLoop ((cdsOf qs).drop x.1) x.2 = ctLoop (cdsOf qs) (0, []) }) => [Ce b4 54 [vI i.1.2.1, .slice ta ts.length tc, vS i.1.2.2], Row 66 4 (.slice ta ts.length tc) ts.length (ts.flatMap tgCells), Ce b2 54 [vI 0, .slice none 0 0, vS []], Row 133 2 (.slice ca qs.length cc) qs.length (qs.flatMap CdV.cells), CdM qs]) (fun (i : { x : Nat × Int × Bs // x.1 ≤ qs.length ∧ ctLoop ((cdsOf qs).drop x.1) x.2 = ctLoop (cdsOf qs) (0, []) }) => qs.length - i.1.1) rfl (⟨(0, 0, []), Nat.zero_le _, rfl⟩) ?_ ?_ (fun i => ?_)
    · exact ⟨rfl, rfl, rfl, rfl, rfl, rfl, trivial⟩
    ·
     exact ent_pick
    obtain ⟨⟨j, day, user⟩, hj, hlp⟩ := i
    dsimp only at hj hlp ⊢
    try dsimp only
    refine Qc (k:=Vv (k:=Wq (Za (k:=Zi (t:=fun h31 => ?_) (f:=fun h31 => ?_)))))
    ·
     refine Zk (k:=Ya (Za (k:=Zb (k:=Za (k:=?_)))))
     have hjl : j < qs.length := by omega
     have hst := ctLoop_step (l := cdsOf qs) (j := j) (by omega) (day, user)
     rw [hlp, cds_getD hjl] at hst
     have hqm : qs[j] ∈ qs := List.getElem_mem hjl
     obtain ⟨q, hq⟩ : ∃ q, q = qs[j] := ⟨_, rfl⟩
     rw [← hq] at hst hqm
     have hqzz := hqz q hqm
     have hq0 : ∀ i, i < q.args.length → (q.args.getD i []).length ≤ 1073741824 := fun i hi => Nat.le_trans (mem_le_args (by simp [hi])) hqzz.1
     rw [show q.cd.args = q.args from rfl, show q.cd.l = q.l from rfl] at hst
     dsimp only at hst
     refine wc_ent' (ent_cd hqm HasC.get) ?_
     refine Zr (k:=Ye 2 (k:=?_))
     refine r_eloada (vs := [_, _]) (sz := 2) Tryz.underlying133 rfl ti133 rfl rfl (by rw [flat_len (sz := 2) (fun _ => rfl)]; omega) rfl (by refine get_flat (fun x => ?_) ?_ <;> first | rfl | omega) rfl ?_
     rw [← hq]
     refine Zc [.int .u8 0, .slice none 0 0] (k:=fun b9 => Zp (k:=Wq (Za (k:=Qc (k:=Qx 1 27 (k:=Qv (k:=Wq (Zi (t:=fun h37 => ?_) (f:=fun h37 => ?_)))))))))
     ·
      refine Ze (k:=Xa (Xo (k:=Xa (Xi (Xb ?_)))))
      exact zb24join20
     ·
      refine Zk (k:=Ya (Qc (k:=Qx 0 5 (k:=Wq (Zb (k:=Qc (k:=Qv (k:=?_))))))))
      refine Wq (Zi (t:=fun h40 => ?_) (f:=fun h40 => ?_))
      ·
       refine Qc (k:=Qx 1 27 (k:=Ye 1 (m := 0) (k:=Yl (hv:=by exact get_mapD [] (m := 0) (by omega)) (k:=?_))))
       have hq00 := hq0 0 (by omega)
       rw [if_neg (by omega), if_pos (by omega)] at hst
       refine r_callF (digit_ReadDec_sp _ (by omega)) rfl rfl rfl ?_
       refine Vv (k:=?_)
       refine wo_pv (pv_extract (v := vI (((readDec (q.args.getD 0 [])).getD 0 : Nat) : Int)) rfl rfl) rfl ?_
       refine wo_pv (pv_extract (v := vB (readDec (q.args.getD 0 [])).isSome) rfl rfl) rfl ?_
       refine Vf 0 3 (k:=Zo (k:=Vv (k:=Wq (Qc (k:=Qv (k:=Wq (Zi (t:=fun h52 => ?_) (f:=fun h52 => ?_))))))))
       ·
        refine Ze (k:=Xo (k:=Xo (k:=Xa (Xi (Xb ?_)))))
        exact zb24join20
       ·
        refine Zk (k:=Yb (Yb (Ya (Zr (k:=Qv (k:=Wn ?_))))))
        exact zb24next0
      ·
       refine Qc (k:=Qv (k:=Wq (Zi (t:=fun h53 => ?_) (f:=fun h53 => ?_))))
       ·
        refine Zr (k:=Qx 1 27 (k:=Ye 1 (m := 0) (k:=Yl (hv:=by exact get_mapD [] (m := 0) (by omega)) (k:=?_))))
        rw [if_neg (by omega), if_neg (by omega), if_pos (by omega)] at hst
        refine Vf 2 9 (k:=Zo (k:=Wn (Yb (Yb (Ya (Zr (k:=Qv (k:=Wn ?_))))))))
        exact zb24next0
       ·
        rw [if_neg (by omega), if_neg (by omega), if_neg (by omega)] at hst
        refine Zk (k:=Yb (Yb (Ya (Zr (k:=Qv (k:=Wn ?_))))))
        exact zb24next0
    ·
     refine Ze (k:=Xa (Xi (Xb ?_)))
     exact zb24join20
end
section
set_option maxRecDepth 100000
theorem zb83ret5 {G : Prop} (h : G := by
    have hn : ¬ (isN (l.getD j []) = true ∧ (0 < j → blt (l.getD (j - 1) []) (l.getD j []) = true)) := fun ⟨o1, o2⟩ => by
     rw [← ht] at o1 o2
     try simp only [isN_fold] at *
     first
     | exact h15 o1
     | (have o3 := o2 (by omega); rw [o3] at h27; exact absurd h27 (by decide))
    refine fin_ret () (vs := [_]) (Cs := []) rfl (.tmp rfl .nil) (by rw [hbad hn]; rfl) trivial ent_pick) : G := h
theorem zb83next0 {G : Prop} (h : G := by
    refine to_inv ⟨j + 1, by omega, fun i hi => ?_⟩ (by dsimp only; omega) ⟨rfl, rfl, rfl, rfl, trivial⟩ ent_pick
    by_cases he : i = j
    · subst he
      rw [← ht]
      try simp only [isN_fold] at *
      refine ⟨Classical.not_not.1 h15, fun h0 => ?_⟩
      first
      | (exfalso; omega)
      | (simpa using h27)
    · exact hok i (by omega)) : G := h
theorem zb83ret7 {G : Prop} (h : G := by
    refine fin_ret () (vs := [_]) (Cs := []) rfl (.tmp rfl .nil) ?_ trivial ent_pick
    show vB _ = vB _
    congr 1
    first
    | exact (decide_eq_false (fun h => by have := h.len; omega)).symm
    | exact decide_eq_decide.2 ⟨fun h => ⟨fun i hi => hok i (by omega), by omega⟩, fun h => by have := h.len; omega⟩) : G := h
set_option maxHeartbeats 1000000 in
theorem cluster_Right_sp {B : HP} {a : Option Addr} (n cap : Nat) (l : List Bs) (sh : SlA B a (l.map vS)) (hn : l.length = n) (hb : n ≤ 1073741824) (hz : ∀ t ∈ l, t.length ≤ 1099511627776) :
    Sp1 Tryz.prog 83 [.slice a n cap] [B] (vB (decide (RightCl l))) [B] := by
 subst hn
 haveI : RdSl a (l.map vS) [B] := ⟨⟨B, sh, .here⟩⟩
 refine Sp.body (n := 37) Tryz.call83 Tryz.func83 rfl rfl rfl ?_
 refine Qc (k:=Vv (k:=Wq (Za (k:=Qc (k:=Qv (k:=Vv (k:=Wq (Zb (k:=?_)))))))))
 refine p_loop (fun (i : { j : Nat // j ≤ l.length ∧ ∀ i, i < j → isN (l.getD i []) = true ∧ (0 < i → blt (l.getD (i - 1) []) (l.getD i []) = true) }) => [(0, .slice a l.length cap), (5, .slice a l.length cap), (6, vI l.length), (7, vI i.1)]) (fun (i : { j : Nat // j ≤ l.length ∧ ∀ i, i < j → isN (l.getD i []) = true ∧ (0 < i → blt (l.getD (i - 1) []) (l.getD i []) = true) }) => [B]) (fun (i : { j : Nat // j ≤ l.length ∧ ∀ i, i < j → isN (l.getD i []) = true ∧ (0 < i → blt (l.getD (i - 1) []) (l.getD i []) = true) }) => l.length - i.1) rfl (⟨0, Nat.zero_le _, fun i h => by omega⟩) ?_ ?_ (fun i => ?_)
 · exact ⟨rfl, rfl, rfl, rfl, trivial⟩
 ·
  exact ent_pick
 obtain ⟨j, hj, hok⟩ := i
 dsimp only
 try dsimp only
 refine Qc (k:=Vv (k:=Wq (Za (k:=Zi (t:=fun h8 => ?_) (f:=fun h8 => ?_)))))
 ·
  refine Zk (k:=Ya (Za (k:=Zb (k:=Za (k:=?_)))))
  have hjl : j < l.length := by omega
  have hg : l.getD j [] = l[j] := by simp [hjl]
  have hzj := hz l[j] (List.getElem_mem hjl)
  obtain ⟨t, ht⟩ : ∃ t, t = l.getD j [] := ⟨_, rfl⟩
  rw [← hg, ← ht] at hzj
  have hbad : ∀ (h : ¬ (isN (l.getD j []) = true ∧ (0 < j → blt (l.getD (j - 1) []) (l.getD j []) = true))), decide (RightCl l) = false := fun h => decide_eq_false (fun r => h (r.ok j hjl))
  refine Zr (k:=Vv (k:=Ye 1 (k:=Yl (hv:=by exact get_mapD [] hjl) (k:=?_))))
  rw [← ht]
  refine Qv (k:=Wq (Qc (k:=Vv (k:=?_))))
  refine r_callF (hash_Is_sp t (by omega)) rfl rfl rfl ?_
  refine Qv (k:=Gi 3 (t:=fun h15 => ?_) (f:=fun h15 => ?_))
  ·
   refine O1 (k:=O1 (k:=O1 (k:=Ou (k:=Ou (k:=Ou (k:=Ou (k:=Ou (k:=Ou (k:=Ou (k:=O1 (k:=P1 (k:=?_))))))))))))
   refine Wq (Z1 (k:=Qc (k:=Vv (k:=Wq (Zt (k:=Vb (Va (Vi (Vb (Va ?_))))))))))
   exact zb83ret5
  ·
   refine J0 (k:=J0 (k:=J0 (k:=Gi 6 (t:=fun h18 => ?_) (f:=fun h18 => ?_))))
   ·
    refine J1 (k:=J1 (k:=J1 (k:=I1 (k:=?_))))
    refine r_elemAddr (sz := 1) (m := j - 1) (kk := j - 1) Tryz.underlying27 ti9 rfl rfl rfl (by omega) (by omega) (by rw [List.length_map]; omega) (Nat.mul_one _) rfl ?_
    refine I1 (k:=Yl (hv:=by exact get_mapD [] (m := j - 1) (by omega)) (k:=J1 (k:=J1 (k:=I0 (k:=P1 (k:=P0 (k:=Wq (Zi (t:=fun h27 => ?_) (f:=fun h27 => ?_)))))))))
    ·
     refine Qc (k:=Vv (k:=Wq (Zt (k:=Vb (Va (Vi (Vb (Va ?_))))))))
     exact zb83ret5
    ·
     refine Zk (k:=Yb (Ya (Zr (k:=Qv (k:=Wn ?_)))))
     exact zb83next0
   ·
    refine O0 (k:=O0 (k:=O0 (k:=O0 (k:=O0 (k:=O0 (k:=O0 (k:=I0 (k:=P0 (k:=P0 (k:=Wq (Z0 (k:=?_))))))))))))
    refine Zk (k:=Yb (Ya (Zr (k:=Qv (k:=Wn ?_)))))
    exact zb83next0
 ·
  refine Ze (k:=Xa (Xi (Xb (Ya (Qc (k:=Qv (k:=Qv (k:=Gi 3 (t:=fun h32 => ?_) (f:=fun h32 => ?_)))))))))
  ·
   refine J1 (k:=J1 (k:=J1 (k:=P1 (k:=Vv (k:=Wq (Zt (k:=?_)))))))
   exact zb83ret7
  ·
   refine O0 (k:=O0 (k:=O0 (k:=P0 (k:=Vv (k:=Wq (Zt (k:=?_)))))))
   exact zb83ret7
def prCl (l : List Bs) : Bs := if RightCl l then clB l else []
set_option maxHeartbeats 1000000 in
theorem cluster_Print_sp {B : HP} {a : Option Addr} (n cap : Nat) (l : List Bs) (sh : SlA B a (l.map vS)) (hn : l.length = n) (hb : n ≤ 1073741824) (hz : ∀ t ∈ l, t.length ≤ 1099511627776) :
    Sp1 Tryz.prog 32 [.slice a n cap] [B] (vS (prCl l)) [B] := by
 have hRt := cluster_Right_sp n cap l sh hn hb hz
 subst hn
 haveI : RdSl a (l.map vS) [B] := ⟨⟨B, sh, .here⟩⟩
 refine Sp.body (n := 24) Tryz.call32 Tryz.func32 rfl rfl rfl ?_
 refine Qc (k:=Vv (k:=Wq (Za (k:=Qc (k:=Vv (k:=?_))))))
 refine r_call1 hRt rfl rfl rfl ?_
 refine Vv (k:=Wq (Zi (t:=fun h8 => ?_) (f:=fun h8 => ?_)))
 ·
  refine Qc (k:=Vv (k:=Wq (Zt (k:=Va ?_))))
  have hn : ¬ RightCl l := by simpa using h8
  refine fin_ret () (vs := [_]) (Cs := []) rfl (.tmp rfl .nil) ?_ trivial ent_pick
  rw [prCl, if_neg hn]; rfl
 ·
  have hR : RightCl l := by simpa using h8
  have hsz := cl_small hR
  refine Zk (k:=Ya (Qc (k:=Vv (k:=Wq (Za (k:=Qc (k:=Qv (k:=Vv (k:=?_)))))))))
  refine Wq (Zb (k:=?_))
  refine p_loop (fun (i : { x : (Option Addr × Nat) × List CdV // x.2.length ≤ l.length ∧ cdsOf x.2 = clCards (l.take x.2.length) }) => [(3, .slice i.1.1.1 i.1.2.length i.1.1.2), (9, .slice a l.length cap), (10, vI l.length), (11, vI i.1.2.length)]) (fun (i : { x : (Option Addr × Nat) × List CdV // x.2.length ≤ l.length ∧ cdsOf x.2 = clCards (l.take x.2.length) }) => [Row 133 2 (.slice i.1.1.1 i.1.2.length i.1.1.2) i.1.2.length (i.1.2.flatMap CdV.cells), CdM i.1.2, B]) (fun (i : { x : (Option Addr × Nat) × List CdV // x.2.length ≤ l.length ∧ cdsOf x.2 = clCards (l.take x.2.length) }) => l.length - i.1.2.length) rfl (⟨((none, 0), []), Nat.zero_le _, rfl⟩) ?_ ?_ (fun i => ?_)
  · exact ⟨rfl, rfl, rfl, rfl, trivial⟩
  ·
   exact (row_nil (e := 133) (sz := 2)).trans (ent_cdm_nil.trans (show Ent _ [Row 133 2 (.slice none 0 0) 0 [], CdM [], B] from ent_pick))
  obtain ⟨⟨⟨oa, oc⟩, qs⟩, hj, hcd⟩ := i
  dsimp only at hj hcd ⊢
  try dsimp only
  refine Qc (k:=Vv (k:=Wq (Za (k:=Zi (t:=fun h12 => ?_) (f:=fun h12 => ?_)))))
  ·
   refine Zk (k:=Ya (Za (k:=Zb (k:=Za (k:=?_)))))
   have hjl : qs.length < l.length := by omega
   have htk : clCards (l.take (qs.length + 1)) = cdsOf qs ++ [clCard (l.getD qs.length [])] := by rw [List.take_succ_eq_append_getElem hjl, clCards, List.map_append, hcd]; simp [clCards, hjl]
   refine Zr (k:=Ye 1 (k:=Yl (hv:=by exact get_mapD [] hjl) (k:=?_)))
   obtain ⟨x, hx⟩ : ∃ x, x = l.getD qs.length [] := ⟨_, rfl⟩
   rw [← hx] at htk ⊢
   refine Vv (k:=Wq (Zr (k:=Qv (k:=Zv [_] (cs := [_]) (k:=fun b17 => Vx (Ps [_, _]) (k:=Zv [_] (cs := [_, _]) (k:=fun b19 => ?_)))))))
   refine r_append1 (sz := 2) (bytes := 32) Tryz.underlying119 ti133 rfl rfl rfl rfl rfl rfl rfl (by rfl) (by rfl) (by omega) (by simp only [maxLen]; omega) rfl (fun a20 c20 => ?_)
   refine wo_frzC b17 ?_
   refine Vv (k:=Wn (Yb (Ya (Zr (k:=Qv (k:=Wn ?_))))))
   obtain ⟨q, hqq⟩ : ∃ q : CdV, q = ⟨77, some ⟨b17, 0, none⟩, 1, [x]⟩ := ⟨_, rfl⟩
   have hqc : q.cd = clCard x := by rw [hqq]; rfl
   have hql : (qs ++ [q]).length = qs.length + 1 := by simp
   refine to_inv ⟨((a20, c20), qs ++ [q]), ?_, ?_⟩ ?_ ⟨sl_eq hql.symm, rfl, rfl, vI_eq (by dsimp only; omega), trivial⟩ ?_
   · dsimp only; omega
   · dsimp only; rw [hql, htk, cds_snoc, hqc]
   · dsimp only; omega
   · dsimp only
     rw [hql]
     refine (ent_cdm_new (qs := qs) (a := some ⟨b17, 0, none⟩) (c := 1) 77 [x] [vS x] HasC.get HasC.get rfl (Nat.le_refl _)).trans ?_
     rw [← hqq]
     exact ent_step (row_norm (by rfl) (by rw [fm_snoc, hqq]; rfl)) ent_pick
  ·
   refine Ze (k:=Xa (Xi (Xb (Ya (Za (k:=?_))))))
   have hjl : qs.length = l.length := by omega
   rw [hjl, List.take_length] at hcd
   have hPr := card_Print_sp (B := Row 133 2 (.slice oa qs.length oc) qs.length (qs.flatMap CdV.cells)) (a := oa) qs.length oc qs sla_row rfl (by rw [hcd]; omega)
   rw [show (vS (prB (cdsOf qs))) = vS (prCl l) from by rw [prCl, if_pos hR, prB, hcd, if_pos (rightCl_cards hR)]; rfl] at hPr
   refine Zr (k:=Vv (k:=?_))
   refine r_call1 hPr rfl rfl rfl ?_
   refine Vv (k:=Wq (Zt (k:=?_)))
   exact fin_ret () (vs := [_]) (Cs := []) rfl (.tmp rfl .nil) rfl trivial ent_pick
theorem argsOf_flat : ∀ (x : UInt8) (l : List Cd), (argsOf x l).flatten.length ≤ (bodyB l).length := by
 intro x l
 induction l with
 | nil => simp [argsOf]
 | cons c l ih =>
   rw [bodyB_cons, List.length_append, List.length_cons]
   have e : (lineB c).length = (argsB c.args).length + 1 := by simp [lineB]
   have h1 := argsB_len c.args
   have e2 : argsOf x (c :: l) = (if c.l = x then [c.args] else []) ++ argsOf x l := by
    by_cases h : c.l = x <;> simp [argsOf, h]
   rw [e2, List.flatten_append, List.length_append]
   split
   · simp only [List.flatten_cons, List.flatten_nil, List.append_nil]; omega
   · simp only [List.flatten_nil, List.length_nil]; omega
/-- Names that are being gathered. -/
def NmB (b : Nat) (xs : List Bs) : HP := Ex fun z : Option Addr × Nat => Al [Ce b 27 [.slice z.1 xs.length z.2], Row 9 1 (.slice z.1 xs.length z.2) xs.length (xs.map vS)]
theorem fold_nmb {b T : Nat} {xs : List Bs} {v : Value} {Hs R1 Rs : List HP} (a : Option Addr) (k m : Nat) (hm : m = xs.length) [q : OwnC b T [v] Hs R1] (hT : T = 27) (h1 : v = .slice a m k) {n : Nat} {ys : List Value} {e sz : Nat} [q2 : RowC (.slice a m k) e sz n ys R1 Rs] (he : e = 9) (hsz : sz = 1) (hn : n = m) (hy : ys = xs.map vS) : Ent Hs (NmB b xs :: Rs) := by
 subst hT; subst h1; subst he; subst hsz; subst hn; subst hy; subst hm
 refine ent_ex (a, k) ?_
 refine ent_al ?_
 exact Picks.ent (.cons q.get (.cons q2.get .nil))
abbrev nmsH (x : (Option Addr × Nat) × List Bs) : List HP := [Row 9 1 (.slice x.1.1 x.2.length x.1.2) x.2.length (x.2.map vS)]
abbrev nmsV (x : (Option Addr × Nat) × List Bs) : Value := .slice x.1.1 x.2.length x.1.2
theorem zb25ret7 {G : Prop} (h : G := by
    have hn : readCl s = none := hnone fun c h => by
     have e := hrl c h
     have e2 : prCl out = s := by rw [← e, prCl, if_pos h.1]; exact h.2
     have e3 := (reads_len h.reads).1
     first
     | exact h28 e2
     | (rw [show s = [] from by simpa using h23] at e3; simp at e3)
    rw [hn]
    refine fin_ret ((none, 0), []) (vs := [_, _]) (Cs := []) rfl (.tmp rfl (.tmp rfl .nil)) rfl rfl ?_
    exact (row_nil (e := 9) (sz := 1)).trans (show Ent _ [Row 9 1 (.slice none 0 0) 0 []] from ent_pick)) : G := h
set_option maxHeartbeats 2000000 in
theorem cluster_Read_sp (s : Bs) (hs : s.length ≤ 1073741824) : Sp Tryz.prog 25 [vS s] [] (X := (Option Addr × Nat) × List Bs) (fun x => .tuple #[nmsV x, vB (readCl s).isSome]) (fun x => x.2 = (readCl s).getD []) nmsH := by
 refine Sp.body (n := 30) Tryz.call25 Tryz.func25 rfl rfl rfl ?_
 refine Qc (k:=Qv (k:=Wq (Qc (k:=Vv (k:=?_)))))
 refine r_callX (card_Read_sp s hs) rfl rfl rfl (fun x11 hx11 => ?_)
 obtain ⟨⟨ca, cc⟩, qs⟩ := x11
 dsimp only [cardV, cardH] at hx11 ⊢
 have hbz : (bodyB (cdsOf qs)).length ≤ 1073741824 := by
  rw [hx11]
  cases e : readC s with
  | none => simp [bodyB]
  | some l =>
    have h1 := congrArg List.length (readC_iff.1 e).2
    rw [printB, sealB_len] at h1
    simp only [Option.getD_some]; omega
 obtain ⟨hqn, hqz⟩ := cds_sizes hbz
 have hz := argsOf_sizes hbz 77
 have hfz := argsOf_flat 77 (cdsOf qs)
 have hof := ofL_argsOf 77 qs
 have hnone : ∀ (h : ∀ c, ReadsCl s c → False), readCl s = none := fun h => the_none h
 have hrl : ∀ l, ReadsCl s l → l = (argsOf 77 (cdsOf qs)).flatten := fun l h => by
  rw [hx11, readC_iff.2 h.reads, Option.getD_some, argsOf_cl, flat_single]
 refine Vv (k:=?_)
 refine wo_pv (pv_extract (v := .slice ca qs.length cc) rfl rfl) rfl ?_
 refine wo_pv (pv_extract (v := vB (readC s).isSome) rfl rfl) rfl ?_
 refine Qv (k:=Wq (Qc (k:=Zc [.slice none 0 0] (k:=fun b6 => Wq (Za (k:=Qc (k:=Vv (k:=?_))))))))
 refine r_callX (card_Of_sp ca qs.length cc 77) rfl rfl rfl (fun x15 _ => ?_)
 refine Wq (Zb (k:=?_))
 refine p_rangeFunc (fun pre => [NmB b6 (pre.map (fun p => p.2.args)).flatten, CdM qs]) (fun j pre => [Pu False]) rfl (card_Of_it qs.length cc x15.1 x15.2 qs 77 (B := Row 133 2 (.slice ca qs.length cc) qs.length (qs.flatMap CdV.cells)) sla_row rfl (by omega)) rfl (fun _ => by rfl) rfl ?_ (fun l pre q hok => ?_) ?_ (fun j pre hs => ?_)
 · (refine ent_app ?_; simp only [List.map_nil, List.flatten_nil]; refine Ent.trans (row_nil (e := 9) (sz := 1)) ?_; exact (fold_nmb (b := b6) (xs := []) none 0 0 (by rfl) (by rfl) (by rfl) (by rfl) (by rfl) (by rfl) (by rfl)).trans ent_pick)
 ·
  obtain ⟨rr, hrr⟩ := hok
  obtain ⟨hqm, _⟩ := ofL_mem (p := q) (by rw [hrr]; simp)
  have hall : argsOf 77 (cdsOf qs) = pre.map (fun p => p.2.args) ++ q.2.args :: rr.map (fun p => p.2.args) := by rw [← hof, hrr]; simp
  refine wc_ent' (ent_cd hqm HasC.get) ?_
  refine wc_front (NmB b6 (pre.map (fun p => p.2.args)).flatten) (wc_exi fun z => wc_al ?_)
  obtain ⟨za, zc⟩ := z
  obtain ⟨qi, ql, qa, qc, xs⟩ := q
  dsimp only at hqm hall
  dsimp only [encO]
  obtain ⟨ys, hys⟩ : ∃ ys, ys = (pre.map (fun p => p.2.args)).flatten := ⟨_, rfl⟩
  have hyl : ys.length + xs.length ≤ 1073741824 := by
   rw [hall, List.flatten_append, ← hys, List.flatten_cons, List.length_append, List.length_append] at hfz
   omega
  rw [← hys]
  refine Zr (k:=Vv (k:=Wg (Zb (k:=Zr (k:=Zd (k:=Vv (k:=?_)))))))
  refine r_appendA (sz := 1) (bytes := 16) Tryz.underlying27 ti9 rfl rfl rfl rfl rfl rfl rfl (by first | rfl | (rw [List.length_map, Nat.mul_one]; try omega) | (rw [flat_len (fun _ => rfl)]; try omega) | (simp; try omega)) (by first | rfl | (simp [oneCell]; done) | (simp [List.all_flatMap, oneCell]; done)) (by omega) (by simp only [maxLen]; omega) rfl (fun a20 c20 => ?_)
  refine Zo (k:=Wn (Yb ?_))
  refine to_round ?_
  rw [List.map_append, List.map_singleton, List.flatten_append, ← hys]
  exact ent_step (fold_nmb a20 c20 (ys.length + xs.length) (by simp) (by rfl) (by rfl) (by rfl) (by rfl) (by rfl) (by simp)) ent_pick
 ·
  skip
  refine Yb (Ya (Za (k:=Za (k:=?_))))
  rw [hof]
  refine wc_front (NmB b6 (argsOf 77 (cdsOf qs)).flatten) (wc_exi fun z => wc_al ?_)
  obtain ⟨za, zc⟩ := z
  dsimp only
  have hem : ∀ t ∈ (argsOf 77 (cdsOf qs)).flatten, t.length ≤ 1099511627776 := fun t ht => by
   obtain ⟨xs, hx, ha⟩ := List.mem_flatten.1 ht
   have := (hz.2 xs hx).2 t ha
   omega
  generalize (argsOf 77 (cdsOf qs)).flatten = out at hfz hrl hem ⊢
  have hPr := cluster_Print_sp (B := Row 9 1 (.slice za out.length zc) out.length (out.map vS)) (a := za) out.length zc out sla_row rfl (by omega) hem
  refine Zr (k:=Qv (k:=Vv (k:=Gi 2 (t:=fun h23 => ?_) (f:=fun h23 => ?_))))
  ·
   refine O1 (k:=O1 (k:=O1 (k:=O1 (k:=P1 (k:=Wq (Z1 (k:=Qc (k:=Qv (k:=Wq ?_)))))))))
   refine Zt (k:=Va ?_)
   exact zb25ret7
  ·
   refine I0 (k:=Zd (k:=I0 (k:=?_)))
   refine r_call1 hPr rfl rfl rfl ?_
   refine J0 (k:=J0 (k:=P0 (k:=Wq (Zi (t:=fun h28 => ?_) (f:=fun h28 => ?_)))))
   ·
    refine Qc (k:=Qv (k:=Wq (Zt (k:=Va ?_))))
    exact zb25ret7
   ·
    refine Zk (k:=Ya (Qc (k:=Zd (k:=Qv (k:=Wq (Zt (k:=?_)))))))
    have he : prCl out = s := Classical.not_not.1 h28
    have hk : readCl s = some out := readCl_iff.2 (by
     rw [prCl] at he
     split at he
     · rename_i hR; exact ⟨hR, he⟩
     · exact absurd he.symm h23)
    rw [hk]
    refine fin_ret ((za, zc), out) (vs := [_, _]) (Cs := []) rfl (.tmp rfl (.tmp rfl .nil)) rfl rfl ?_
    exact ent_pick
 ·
  exact wc_no (fun s => by obtain ⟨_, _, _, _, a, _⟩ := s; exact a)
end
section
set_option maxRecDepth 100000
section
variable {r : Option Nat} {P : Program} {n : Nat} {ops : Array Oper} {A : List HP} {L : Loc} {Hs : List HP} {ty : TypeId} {d : Nat} {pos : String} {after : Array Edge}
end
/-! Sorting texts. -/
theorem bits_Len_zero : SpF Tryz.prog 105 [.int .u64 0] (vI 0) := SpF.of_same Tryz.call105 fun w => (Tryz.bits_Len 0 w (by omega) (by omega)).mono fun e w' ⟨h1, h2⟩ => ⟨by rw [h1]; rfl, h2⟩
theorem insertionSort_nil : SpF Tryz.prog 156 [.slice none 0 0, vI 0, vI 0] (.tuple #[]) := by
 refine Sp.body (n := 49) Tryz.call156 Tryz.func156 rfl rfl rfl ?_
 refine Qc (k:=Qv (k:=Vv (k:=Wq (Zb (k:=?_)))))
 refine p_loop (fun (i : Unit) => [(0, .slice none 0 0), (1, vI 0), (2, vI 0), (6, vI 1)]) (fun (i : Unit) => []) (fun (i : Unit) => 0) rfl (()) ?_ ?_ (fun i => ?_)
 · exact ⟨rfl, rfl, rfl, rfl, trivial⟩
 ·
  exact Ent.refl _
 try dsimp only
 refine Za (k:=Qc (k:=Qv (k:=Vv (k:=Wq (Zi (t:=fun h12 => ?_) (f:=fun h12 => ?_))))))
 ·
  simp at h12
  --done
 ·
  refine Ze (k:=Xa (Xi (Xb ?_)))
  exact fin_end () (vs := []) (Cs := []) rfl .nil rfl trivial ent_nil
theorem pdqsort_nil : SpF Tryz.prog 104 [.slice none 0 0, vI 0, vI 0, vI 0] (.tuple #[]) := by
 refine Sp.body (n := 134) Tryz.call104 Tryz.func104 rfl rfl rfl ?_
 refine Qc (k:=Vv (k:=Wq (Qc (k:=Vv (k:=Wq (Zb (k:=?_)))))))
 refine p_loop (fun (i : Unit) => [(0, .slice none 0 0), (1, vI 0), (2, vI 0), (3, vI 0)]) (fun (i : Unit) => []) (fun (i : Unit) => 0) rfl (()) ?_ ?_ (fun i => ?_)
 · exact ⟨rfl, rfl, rfl, rfl, trivial⟩
 ·
  exact Ent.refl _
 try dsimp only
 refine Zb (k:=Qc (k:=Qv (k:=Qv (k:=Wq (Za (k:=Qc (k:=Vv (k:=?_))))))))
 refine Vv (k:=Wq (Zi (t:=fun h23 => ?_) (f:=fun h23 => ?_)))
 ·
  refine Qc (k:=Qv (k:=Vv (k:=?_)))
  refine r_callF insertionSort_nil rfl rfl rfl ?_
  refine Wq (Zt (k:=Va (Vb (Vi (Vb ?_)))))
  exact fin_ret () (vs := []) (Cs := []) rfl .nil rfl trivial ent_nil
 ·
  simp at h23
  --done
theorem slices_Sort_nil : SpF Tryz.prog 55 [.slice none 0 0] (.tuple #[]) := by
 refine Sp.body (n := 11) Tryz.call55 Tryz.func55 rfl rfl rfl ?_
 refine Qc (k:=Qv (k:=Vv (k:=Wq (Zr (k:=Qv (k:=Vv (k:=?_)))))))
 refine wo_pv (pv_conv_in (i := 0) rfl Tryz.underlying3 Tryz.underlying105 (by decide)) rfl ?_
 refine r_callF bits_Len_zero rfl rfl rfl ?_
 refine r_callF pdqsort_nil rfl rfl rfl ?_
 refine Wn ?_
 exact fin_end () (vs := []) (Cs := []) rfl .nil rfl trivial ent_nil
theorem sat_grow {w : World} {M : Kn} {h : Res} (t : Sat w M h) (os : Array Obj) : Sat (Go.Sort.grow w os) M h := by
 have old : ∀ i o, w.heap[i]? = some o → (Go.Sort.grow w os).heap[i]? = some o := fun i o e => by
  rw [Go.Sort.heap_grow_old w os (Array.getElem?_eq_some_iff.1 e).1]; exact e
 exact ⟨fun i o e => old i o (t.im i o e), fun i o e => old i o (t.ow i o e), t.dj, t.env.trans ⟨rfl, rfl, rfl, by simp⟩⟩
def sortB (l : List Bs) : List Bs := l.mergeSort fun x y => decide (x ≤ y)
theorem sortB_len (l : List Bs) : (sortB l).length = l.length := by simp [sortB]
theorem slices_Sort_sp (a : Option Addr) (n c : Nat) (l : List Bs) (hn : l.length = n) (hb : n < 4611686018427387904) :
    Sp1 Tryz.prog 55 [.slice a n c] [Row 9 1 (.slice a n c) n (l.map vS)] (.tuple #[]) [Row 9 1 (.slice a n c) n ((sortB l).map vS)] := by
 subst hn
 refine ⟨Tryz.call55, fun w M h hf d t s => ?_⟩
 obtain ⟨h1, h2, d12, e, hr, _⟩ := s
 subst e
 rcases hr with ⟨hv, hl, hx⟩ | ⟨g, cap, cur, hv, hnc, hcm, hcl, hxl, htk, hh⟩
 · have hl0 : l = [] := List.eq_nil_of_length_eq_zero hl
   subst hl0
   cases hv
   refine (slices_Sort_nil.calls w M (h1.add h2) hf d t trivial).mono ?_
   rintro ee w' ⟨x, M', h', rfl, _, le, dj, t', _⟩
   exact ⟨(), M', h', rfl, trivial, le, dj, t', Res.emp, h', Res.emp_dj _, rfl, .inl ⟨rfl, rfl, by simp [sortB]⟩, trivial⟩
 · cases hv
   subst hh
   rw [Nat.mul_one] at hcl htk
   obtain ⟨d1, d2⟩ := Res.dj_add_left.1 d
   have hg : w.heap[g]? = some (.cells cur.toArray 9 (0, 0)) := t.ow _ _ (by simp [Res.add, Res.one])
   have hlt : g < w.heap.size := (Array.getElem?_eq_some_iff.1 hg).1
   have hH : Go.Sort.Holds encStr w g 0 l.toArray := by
    intro j hj
    have hj' : j < l.length := by simpa using hj
    have hc : cur[j]? = some (vS l[j]) := by
     have := congrArg (fun q => q[j]?) htk
     simp only [List.getElem?_take, hj', if_true, List.getElem?_map, List.getElem?_eq_getElem hj', Option.map_some] at this
     exact this
    refine ⟨?_, ?_⟩
    · simp only [World.cell?, Nat.zero_add, hg]
      simp [hc, hj', encStr]
    · simp [World.frozen?, hg]
   have hcall := Tryz.slices_Sort_string g 0 c l w hH hlt hb
   refine CallsIn.mono (callsIn_wide.2 hcall) ?_
   rintro ee w' ⟨rfl, k, os, rfl⟩
   have hs : (l.mergeSort fun x y => decide (x ≤ y)) = sortB l := rfl
   rw [hs]
   have hsl := sortB_len l
   generalize hq : sortB l = q at hsl ⊢
   have hput : (Go.Sort.putRow encStr (Go.Sort.ahead w k) g 0 q.toArray).heap[g]? = some (.cells (q.map vS ++ cur.drop q.length).toArray 9 (0, 0)) := by
    have h0 : (Go.Sort.ahead w k).heap[g]? = some (.cells cur.toArray 9 (0, 0)) := hg
    simp only [Go.Sort.putRow, Go.Sort.mapBlock, Array.getElem?_modify, if_true, h0, Option.map_some, Go.Sort.onCells]
    congr 2
    apply Array.ext'
    simp only [Go.Sort.putCells, Array.toList_mapIdx]
    apply List.ext_getElem?
    intro j
    simp only [List.getElem?_mapIdx, Nat.zero_le, true_and, Nat.zero_add, List.size_toArray, Nat.sub_zero]
    by_cases hj : j < q.length
    · have hjc : j < cur.length := by have := congrArg List.length htk; simp at this; omega
      rw [List.getElem?_append_left (by simpa using hj)]
      simp [hj, hjc, encStr]
    · rw [List.getElem?_append_right (by simpa using Nat.le_of_not_lt hj)]
      simp only [List.length_map, List.getElem?_drop]
      have e : q.length + (j - q.length) = j := by omega
      rw [e]
      cases hc : cur[j]? with
      | none => simp [hc]
      | some v => simp [hc, hj]
   have hoth : ∀ i, i ≠ g → (Go.Sort.putRow encStr (Go.Sort.ahead w k) g 0 q.toArray).heap[i]? = w.heap[i]? := by
    intro i hi
    simp only [Go.Sort.putRow, Go.Sort.mapBlock, Array.getElem?_modify, Ne.symm hi, if_false]
    rfl
   have t1 : Sat w M ((Res.one g (.cells cur.toArray 9 (0, 0))).add (h2.add hf)) := by rw [← Res.add_assoc]; exact t
   have t2 := Sat.setBlk (Res.dj_add_right.2 ⟨d12, d1⟩) t1 hput hoth ⟨rfl, rfl, rfl, by simp⟩
   have dn : (Res.one g (.cells (q.map vS ++ cur.drop q.length).toArray 9 (0, 0))).dj (h2.add hf) := dj_one_any (Res.dj_add_right.2 ⟨d12, d1⟩)
   obtain ⟨dn1, dn2⟩ := Res.dj_add_right.1 dn
   refine ⟨(), M, (Res.one g (.cells (q.map vS ++ cur.drop q.length).toArray 9 (0, 0))).add h2, rfl, trivial, Kn.le_refl _, Res.dj_add_left.2 ⟨dn2, d2⟩, ?_, Res.one g _, h2, dn1, rfl, .inr ⟨g, c, q.map vS ++ cur.drop q.length, rfl, hnc, hcm, ?_, ?_, ?_, rfl⟩, trivial⟩
   · rw [Res.add_assoc]; exact sat_grow t2 os
   · simp; omega
   · simp; omega
   · rw [Nat.mul_one, ← hsl, List.take_left' (by simp)]
end
section
set_option maxRecDepth 100000
theorem sortB_sorted (l : List Bs) : (sortB l).Pairwise (fun x y => x ≤ y) := by
 have := List.pairwise_mergeSort (le := fun x y : Bs => decide (x ≤ y)) (fun a b c h k => by simp at *; exact List.le_trans h k) (fun a b => by simp; exact List.le_total a b) l
 simp only [decide_eq_true_eq] at this
 exact this
theorem sortB_perm (l : List Bs) : (sortB l).Perm l := List.mergeSort_perm l _
end
/-! The order of texts. -/
theorem blt_iff : ∀ (a b : Bs), blt a b = true ↔ a < b := by
 intro a
 induction a with
 | nil => intro b; cases b <;> simp [blt, Op.bytesLess]
 | cons x a ih =>
   intro b
   cases b with
   | nil => simp [blt, Op.bytesLess]
   | cons y b =>
     have := ih b
     simp only [blt] at this ⊢
     rw [List.cons_lt_cons_iff, ← this]
     simp only [Op.bytesLess]
     by_cases h : x = y
     · subst h; simp
     · simp [h]
theorem blt_eq (a b : Bs) : blt a b = decide (a < b) := by
 have := blt_iff a b
 cases h : blt a b with
 | true => rw [h] at this; exact (decide_eq_true (this.1 rfl)).symm
 | false => rw [h] at this; exact (decide_eq_false (fun e => by have := this.2 e; cases this)).symm
/-- Sorted lists with the same things in them are the same. -/
theorem sorted_eq {l m : List Bs} (hl : l.Pairwise (· < ·)) (hm : m.Pairwise (· < ·)) (h : ∀ k, k ∈ l ↔ k ∈ m) : l = m := by
 have nl : l.Nodup := hl.imp fun h e => by subst e; exact absurd h (List.lt_irrefl _)
 have nm : m.Nodup := hm.imp fun h e => by subst e; exact absurd h (List.lt_irrefl _)
 exact List.Perm.eq_of_pairwise (fun _ _ _ _ h k => List.le_antisymm h k) (hl.imp fun h => List.le_of_lt h) (hm.imp fun h => List.le_of_lt h) ((List.perm_ext_iff_of_nodup nl nm).2 h)
end Go.Proofs.YtibccdcemcgkeaaGreat
