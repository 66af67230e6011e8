/- Texts of this proof, put together: SCt, SMaps, SFrom, PMap. -/
import Derived.Sort.Row
import Derived.Test.YtdnoacgopfcpbaaGreatQ14
set_option linter.unusedVariables false
set_option linter.unusedSimpArgs false
namespace Go.Proofs.YtdnoacgopfcpbaaGreat
section
set_option maxRecDepth 100000
def ctVals (ta : Option Addr) (tc : Nat) (c : Ct) : List Value := [vI c.date, .slice ta c.tags.length tc, vS c.user]
def ct0 : Ct := ⟨0, [], []⟩
theorem zb244ret1 {G : Prop} (h : G := by
    refine fin_ret () (vs := [_]) (Cs := []) rfl (.tmp rfl .nil) ?_ trivial ent_pick
    show vB _ = vB _
    congr 1
    first
    | exact (decide_eq_false (fun h => h22 h.tags)).symm
    | exact (decide_eq_false (fun h => by have := h.some; have := h.date; omega)).symm
    | exact decide_eq_decide.2 ⟨fun h => ⟨by omega, by omega, h22, h⟩, fun h => h.user⟩) : G := h
set_option maxHeartbeats 1000000 in
theorem control_Right_sp {Bt : HP} (ta : Option Addr) (tc : Nat) (c : Ct) (zu : c.user.length ≤ 1099511627) (zt : TgZ c.tags) (sht : SlA Bt ta (c.tags.flatMap tgCells)) :
    Sp1 Tryz.prog 244 [.agg (ctVals ta tc c).toArray] [Bt] (vB (decide (RightCt c))) [Bt] := by
 have hT := checkin_RightTags_sp false c.tags.length tc c.tags sht rfl zt.n (fun t ht => by have := zt.z t ht; omega)
 refine Sp.body (n := 27) Tryz.call244 Tryz.func244 rfl rfl rfl ?_
 refine Qc (k:=Zx [_, _, _] (k:=fun b1 => Vv (k:=Wq (Qc (k:=Qx 0 3 (k:=Qv (k:=Gi 3 (t:=fun h6 => ?_) (f:=fun h6 => ?_))))))))
 ·
  refine I1 (k:=Vf 0 3 (k:=I1 (k:=Zd (k:=J1 (k:=P1 (k:=Vv (k:=Gi 8 (t:=fun h11 => ?_) (f:=fun h11 => ?_))))))))
  ·
   refine I1 (k:=Vf 1 28 (k:=I1 (k:=Zd (k:=J1 (k:=J1 (k:=P1 (k:=Vv (k:=Gi 14 (t:=fun h17 => ?_) (f:=fun h17 => ?_)))))))))
   ·
    refine I1 (k:=Vf 1 28 (k:=I1 (k:=Zd (k:=I1 (k:=?_)))))
    refine r_call1 hT rfl rfl rfl ?_
    refine P1 (k:=Vv (k:=Gi 19 (t:=fun h22 => ?_) (f:=fun h22 => ?_)))
    ·
     refine I1 (k:=Vf 2 9 (k:=I1 (k:=Zd (k:=I1 (k:=?_)))))
     refine r_callF (escape_Word_sp c.user (by omega)) rfl rfl rfl ?_
     refine P1 (k:=Vv (k:=Wq (Zt (k:=?_))))
     exact zb244ret1
    ·
     refine O0 (k:=O0 (k:=O0 (k:=P0 (k:=Vv (k:=Wq (Zt (k:=?_)))))))
     exact zb244ret1
   ·
    refine O0 (k:=O0 (k:=O0 (k:=P0 (k:=Vv (k:=O0 (k:=O0 (k:=O0 (k:=P0 (k:=Vv (k:=Wq (Zt (k:=?_))))))))))))
    exact zb244ret1
  ·
   refine O0 (k:=O0 (k:=O0 (k:=O0 (k:=P0 (k:=Vv (k:=O0 (k:=O0 (k:=O0 (k:=P0 (k:=Vv (k:=O0 (k:=?_))))))))))))
   refine O0 (k:=O0 (k:=P0 (k:=Vv (k:=Wq (Zt (k:=?_))))))
   exact zb244ret1
 ·
  refine O0 (k:=O0 (k:=O0 (k:=P0 (k:=Vv (k:=O0 (k:=O0 (k:=O0 (k:=O0 (k:=P0 (k:=Vv (k:=O0 (k:=?_))))))))))))
  refine O0 (k:=O0 (k:=P0 (k:=Vv (k:=O0 (k:=O0 (k:=O0 (k:=P0 (k:=Vv (k:=Wq (Zt (k:=?_)))))))))))
  exact zb244ret1
def prCt (c : Ct) : Bs := if RightCt c then ctB c else []
set_option maxHeartbeats 2000000 in
theorem control_Print_sp {Bt : HP} (ta : Option Addr) (tc : Nat) (c : Ct) (zu : c.user.length ≤ 1099511627) (zt : TgZ c.tags) (sht : SlA Bt ta (c.tags.flatMap tgCells)) :
    Sp1 Tryz.prog 231 [.agg (ctVals ta tc c).toArray] [Bt] (vS (prCt c)) [Bt] := by
 have hRt := control_Right_sp ta tc c zu zt sht
 have hTC := checkin_TagCards_sp c.tags.length tc c.tags sht rfl zt
 refine Sp.body (n := 26) Tryz.call231 Tryz.func231 rfl rfl rfl ?_
 refine Qc (k:=Zx [_, _, _] (k:=fun b1 => Vv (k:=Wq (Za (k:=Qc (k:=Zm [_, _, _] (k:=?_)))))))
 refine r_call1 hRt rfl rfl rfl ?_
 refine Vv (k:=Wq (Zi (t:=fun h6 => ?_) (f:=fun h6 => ?_)))
 ·
  refine Qc (k:=Vv (k:=Wq (Zt (k:=Va ?_))))
  have hn : ¬ RightCt c := by simpa using h6
  refine fin_ret () (vs := [_]) (Cs := []) rfl (.tmp rfl .nil) ?_ trivial ent_pick
  rw [prCt, if_neg hn]; rfl
 ·
  have hR : RightCt c := by simpa using h6
  have hsz := ct_small hR
  have htl := hR.tags.len
  have hDec : SpF Tryz.prog 159 [vI c.date] (vS (decN c.date.toNat)) := by
   have h1 := hR.date
   have := digit_Dec_sp c.date.toNat (by omega)
   rwa [Int.toNat_of_nonneg h1.1] at this
  refine Zk (k:=Ya (Qc (k:=Qx 0 3 (k:=?_))))
  refine r_callF hDec rfl rfl rfl ?_
  refine Zv [_] (cs := [_]) (k:=fun b10 => Vx (Ps [_, _]) (k:=Zv [_] (cs := [_, _]) (k:=fun b12 => ?_)))
  refine wo_frzC b10 ?_
  refine wo_ent' (ent_cdm_one (a := some ⟨b10, 0, none⟩) (c := 1) 68 [decN c.date.toNat] [vS (decN c.date.toNat)] HasC.get rfl (Nat.le_refl _)) ?_
  refine wo_ent' (ent_row (k := 1) (cap := 1) (sz := 2) (e := 220) (g := b12) (xs := ([⟨68, some ⟨b10, 0, none⟩, 1, [decN c.date.toNat]⟩] : List CdV).flatMap CdV.cells) (cur := [vU 68, .slice (some ⟨b10, 0, none⟩) 1 1]) (Nat.le_refl _) (by simp [maxLen]) rfl rfl rfl) ?_
  obtain ⟨ds, hds⟩ : ∃ ds : List CdV, ds = [⟨68, some ⟨b10, 0, none⟩, 1, [decN c.date.toNat]⟩] := ⟨_, rfl⟩
  rw [← hds]
  refine Vv (k:=Wq (Qc (k:=Vv (k:=Qx 1 28 (k:=?_)))))
  refine r_callX hTC rfl rfl rfl (fun x16 hx16 => ?_)
  obtain ⟨⟨ga, gc⟩, tqs⟩ := x16
  dsimp only [cardV, cardH] at hx16 ⊢
  have htq := cdsLen hx16
  rw [List.length_map] at htq
  refine r_appendA (sz := 2) (bytes := 32) Tryz.underlying170 ti220 rfl rfl rfl rfl rfl rfl rfl (cells_len tqs) (cells_one tqs) (by omega) (by simp only [maxLen]; omega) rfl (fun a17 c17 => ?_)
  refine Vv (k:=Wq (Qc (k:=Vv (k:=Qx 2 9 (k:=Zv [_] (cs := [_]) (k:=fun b21 => Vx (Ps [_, _]) (k:=Zv [_] (cs := [_, _]) (k:=fun b23 => ?_))))))))
  refine r_append1 (sz := 2) (bytes := 32) Tryz.underlying170 ti220 rfl rfl rfl rfl rfl rfl rfl (by rfl) (by rfl) (by omega) (by simp only [maxLen]; omega) rfl (fun a24 c24 => ?_)
  refine wo_frzC b21 ?_
  obtain ⟨al, hal⟩ : ∃ al : List CdV, al = ds ++ tqs ++ [⟨85, some ⟨b21, 0, none⟩, 1, [c.user]⟩] := ⟨_, rfl⟩
  have halc : cdsOf al = ctCards c := by rw [hal, cdsOf_app, cdsOf_app, hx16, hds, ctCards]; simp [cdsOf, CdV.cd]
  have hall : al.length = 1 + tqs.length + 1 := by rw [hal, hds]; simp; omega
  have hxx : ds.flatMap CdV.cells ++ tqs.flatMap CdV.cells ++ [vU 85, .slice (some ⟨b21, 0, none⟩) 1 1] = al.flatMap CdV.cells := by rw [hal]; simp [CdV.cells]
  have hPr := card_Print_sp (B := Row 220 2 (.slice a24 (1 + tqs.length + 1) c24) (1 + tqs.length + 1) (ds.flatMap CdV.cells ++ tqs.flatMap CdV.cells ++ [vU 85, .slice (some ⟨b21, 0, none⟩) 1 1])) (a := a24) (1 + tqs.length + 1) c24 al (by rw [← hxx]; exact sla_row) hall (by rw [halc]; omega)
  rw [show (vS (prB (cdsOf al))) = vS (prCt c) from by rw [prCt, if_pos hR, prB, halc, if_pos (rightCt_cards hR)]; rfl] at hPr
  refine wo_ent' (ent_cdm_app (qs := ds) (rs := tqs) HasC.get HasC.get) ?_
  refine wo_ent' (ent_cdm_new (qs := ds ++ tqs) (a := some ⟨b21, 0, none⟩) (c := 1) 85 [c.user] [vS c.user] HasC.get HasC.get rfl (Nat.le_refl _)) ?_
  rw [← hal]
  refine r_call1 hPr rfl rfl rfl ?_
  refine Vv (k:=Wq (Zt (k:=?_)))
  exact fin_ret () (vs := [_]) (Cs := []) rfl (.tmp rfl .nil) rfl trivial ent_pick
theorem ctLoop_le {N : Nat} : ∀ (l : List Cd) (st : Int × Bs), st.2.length ≤ N → (∀ c ∈ l, ∀ a ∈ c.args, a.length ≤ N) → (ctLoop l st).2.length ≤ N := by
 intro l
 induction l with
 | nil => intro st h _; exact h
 | cons x r ih =>
   intro st h hz
   have hr := fun c hc => hz c (List.mem_cons_of_mem x hc)
   simp only [ctLoop]
   split
   · exact h
   · rename_i hx
     have h0 : (x.args.getD 0 []).length ≤ N := hz x (by simp) _ (by
      have hp : 0 < x.args.length := by omega
      simp [hp])
     split
     · split
       · exact ih _ h hr
       · exact h
     · split
       · exact ih _ h0 hr
       · exact ih _ h hr
theorem ctLoop_step {l : List Cd} {j : Nat} (h : j < l.length) (st : Int × Bs) : ctLoop (l.drop j) st = (if (l.getD j cd0).args.length = 0 then st
    else if (l.getD j cd0).l.toNat = 68 then (match readDec ((l.getD j cd0).args.getD 0 []) with | some n => ctLoop (l.drop (j + 1)) ((n : Int), st.2) | none => (0, st.2))
    else if (l.getD j cd0).l.toNat = 85 then ctLoop (l.drop (j + 1)) (st.1, (l.getD j cd0).args.getD 0 []) else ctLoop (l.drop (j + 1)) st) := by
 have e : l.drop j = l.getD j cd0 :: l.drop (j + 1) := by
  rw [List.drop_eq_getElem_cons h]; simp [h]
 rw [e, ctLoop]
 rfl
def prgCtC (l : List Cd) : Ct := ⟨(ctLoop l (0, [])).1, (readT (argsOf 84 l)).getD [], (ctLoop l (0, [])).2⟩
theorem reads_prgCt {s : Bs} {l : List Cd} (hl : ReadsC s l) {c : Ct} (h : ReadsCt s c) : (readT (argsOf 84 l)).isSome = true ∧ c = prgCtC l := by
 have e : prgCt l = some c := by rw [hl.uniq h.reads]; exact prgCt_cards h.1
 unfold prgCt at e
 cases e2 : readT (argsOf 84 l) with
 | none => rw [e2] at e; cases e
 | some t => rw [e2] at e; cases e; rw [prgCtC, e2]; exact ⟨rfl, rfl⟩
abbrev ctH (x : (Option Addr × Nat) × Ct) : List HP := [Row 60 4 (.slice x.1.1 x.2.tags.length x.1.2) x.2.tags.length (x.2.tags.flatMap tgCells)]
theorem zb213join20 {G : Prop} (h : G := by
    first
    | (have hjl : j = qs.length := by omega
       rw [List.drop_of_length_le (by omega)] at hlp
       have e : ctLoop (cdsOf qs) (0, []) = (day, user) := hlp.symm
       rw [e]
       exact to_inv () trivial ⟨rfl, rfl, rfl, trivial⟩ (ent_step (ce_norm (by rfl) (by rfl)) ent_pick))
    | (rw [if_pos (by omega)] at hst
       rw [hst]
       exact to_inv () trivial ⟨rfl, rfl, rfl, trivial⟩ (ent_step (ce_norm (by rfl) (by rfl)) ent_pick))
    | (have hn : readDec (q.args.getD 0 []) = none := by cases e : readDec (q.args.getD 0 []) with
         | none => rfl
         | some v => rw [e] at h52; simp at h52
       rw [hn] at hst
       rw [hn]
       dsimp only at hst
       rw [hst]
       exact to_inv () trivial ⟨rfl, rfl, rfl, trivial⟩ (ent_step (ce_norm (by rfl) (by rfl)) ent_pick))) : G := h
theorem zb213next0 {G : Prop} (h : G := by
    first
    | (obtain ⟨v, hv⟩ : ∃ v, readDec (q.args.getD 0 []) = some v := by cases e : readDec (q.args.getD 0 []) with
         | none => rw [e] at h52; simp at h52
         | some v => exact ⟨v, rfl⟩
       rw [hv] at hst
       rw [hv]
       dsimp only at hst
       exact to_inv ⟨(j + 1, (v : Int), user), by dsimp only; omega, hst.symm⟩ (by dsimp only; omega) ⟨rfl, rfl, rfl, rfl, rfl, rfl, trivial⟩ (ent_step (ce_norm (by rfl) (by rfl)) ent_pick))
    | exact to_inv ⟨(j + 1, day, q.args.getD 0 []), by dsimp only; omega, hst.symm⟩ (by dsimp only; omega) ⟨rfl, rfl, rfl, rfl, rfl, rfl, trivial⟩ ent_pick
    | exact to_inv ⟨(j + 1, day, user), by dsimp only; omega, hst.symm⟩ (by dsimp only; omega) ⟨rfl, rfl, rfl, rfl, rfl, rfl, trivial⟩ ent_pick) : G := h
set_option maxHeartbeats 4000000 in
theorem control_Read_sp (s : Bs) (hs : s.length ≤ 1073741824) : Sp Tryz.prog 213 [vS s] [] (X := (Option Addr × Nat) × Ct) (fun x => .tuple #[.agg (ctVals x.1.1 x.1.2 x.2).toArray, vB (readCt s).isSome]) (fun x => x.2 = (readCt s).getD ct0) ctH := by
 refine Sp.body (n := 67) Tryz.call213 Tryz.func213 rfl rfl rfl ?_
 refine Qc (k:=Zc [.int .i64 0, .slice none 0 0, vS []] (k:=fun b2 => Vv (k:=Wq (Zs (k:=Qc (k:=Zc [.int .i64 0, .slice none 0 0, vS []] (k:=fun b4 => Wq (Qc (k:=?_)))))))))
 refine Vv (k:=?_)
 refine r_callX (card_Read_sp s hs) rfl rfl rfl (fun x12 hx12 => ?_)
 obtain ⟨⟨ca, cc⟩, qs⟩ := x12
 dsimp only [cardV, cardH] at hx12 ⊢
 refine Vv (k:=?_)
 refine wo_pv (pv_extract (v := .slice ca qs.length cc) rfl rfl) rfl ?_
 refine wo_pv (pv_extract (v := vB (readC s).isSome) rfl rfl) rfl ?_
 refine Qv (k:=Wq (Za (k:=Qc (k:=Qv (k:=Wq (Zi (t:=fun h16 => ?_) (f:=fun h16 => ?_)))))))
 ·
  refine Qc (k:=Zm [_, _, _] (k:=Zp (k:=Vv (k:=Wq (Zt (k:=Va (Vs ?_)))))))
  have hn : readCt s = none := the_none fun c h => by
   rw [readC_iff.2 h.reads] at h16; simp at h16
  rw [hn]
  refine fin_ret ((none, 0), ct0) (vs := [_, _]) (Cs := [Ce b2 70 (ctVals none 0 ct0)]) rfl (.cell (l := ctVals none 0 ct0) (us := ctVals none 0 ct0) rfl (shows_ce (T := 70)) Tryz.underlying70 rfl ti70 (by exact Nat.le_of_ble_eq_true rfl) rfl (.tmp rfl .nil)) rfl rfl ?_
  exact (row_nil (e := 60) (sz := 4)).trans (show Ent _ [Row 60 4 (.slice none 0 0) 0 [], Ce b2 70 [vI 0, .slice none 0 0, vS []]] from ent_pick)
 ·
  have hl : readC s = some (cdsOf qs) := by cases e : readC s with
   | none => rw [e] at h16; simp at h16
   | some l => rw [e] at hx12; rw [hx12]; rfl
  have hrd := readC_iff.1 hl
  have hbz : (bodyB (cdsOf qs)).length ≤ 1073741824 := by
   have h1 := congrArg List.length hrd.2
   rw [printB, sealB_len] at h1; omega
  obtain ⟨hqn, hqz⟩ := cds_sizes hbz
  have hz := fun x => argsOf_sizes hbz x
  have hza : ∀ c ∈ cdsOf qs, ∀ a ∈ c.args, a.length ≤ 1073741824 := fun c hc a ha => Nat.le_trans (mem_le_args ha) (Nat.le_trans ((bodyB_args (cdsOf qs)).2 c hc) hbz)
  have hnone : ∀ (h : ∀ c, ReadsCt s c → False), readCt s = none := fun h => the_none h
  have hll : (cdsOf qs).length = qs.length := by simp [cdsOf]
  refine Zk (k:=Ya (Qc (k:=Vv (k:=?_))))
  refine r_callX (checkin_ReadTags_sp (B := Row 220 2 (.slice ca qs.length cc) qs.length (qs.flatMap CdV.cells)) (a := ca) qs.length cc qs sla_row rfl hbz) rfl rfl rfl (fun x20 hx20 => ?_)
  obtain ⟨⟨ta, tc⟩, ts⟩ := x20
  dsimp only [tagV, tagH] at hx20 ⊢
  refine Vv (k:=?_)
  refine wo_pv (pv_extract (v := .slice ta ts.length tc) rfl rfl) rfl ?_
  refine wo_pv (pv_extract (v := vB (readT (argsOf 84 (cdsOf qs))).isSome) rfl rfl) rfl ?_
  refine Qv (k:=Wq (Za (k:=Qc (k:=Qv (k:=Wq (Zi (t:=fun h24 => ?_) (f:=fun h24 => ?_)))))))
  ·
   refine Qc (k:=Zm [_, _, _] (k:=Zp (k:=Vv (k:=Wq (Zt (k:=Va (Vs ?_)))))))
   have hn : readCt s = none := hnone fun c h => by
    have o1 := (reads_prgCt hrd h).1
    rw [o1] at h24; exact absurd h24 (by decide)
   rw [hn]
   refine fin_ret ((none, 0), ct0) (vs := [_, _]) (Cs := [Ce b2 70 (ctVals none 0 ct0)]) rfl (.cell (l := ctVals none 0 ct0) (us := ctVals none 0 ct0) rfl (shows_ce (T := 70)) Tryz.underlying70 rfl ti70 (by exact Nat.le_of_ble_eq_true rfl) rfl (.tmp rfl .nil)) rfl rfl ?_
   exact (row_nil (e := 60) (sz := 4)).trans (show Ent _ [Row 60 4 (.slice none 0 0) 0 [], Ce b2 70 [vI 0, .slice none 0 0, vS []]] from ent_pick)
  ·
   refine Zk (k:=Ya (Qc (k:=Vv (k:=Vf 1 28 (k:=Zo (k:=Wq (Za (k:=Zl (k:=Ya ?_)))))))))
   refine p_cut (fun (u : Unit) => [(0, vS s), (2, .pointer (some ⟨b2, 0, none⟩)), (4, .pointer (some ⟨b4, 0, none⟩))]) (fun (u : Unit) => [Ce b4 70 [vI (ctLoop (cdsOf qs) (0, [])).1, .slice ta ts.length tc, vS (ctLoop (cdsOf qs) (0, [])).2], Row 60 4 (.slice ta ts.length tc) ts.length (ts.flatMap tgCells), Ce b2 70 [vI 0, .slice none 0 0, vS []]]) rfl (fun u => ?_) ?_
   ·
    try dsimp only
    refine Za (k:=Qc (k:=?_))
    have hTZ : TgZ ts := by
     rw [hx20]
     cases e : readT (argsOf 84 (cdsOf qs)) with
     | none => exact ⟨by simp, fun t ht => by simp at ht⟩
     | some us =>
       obtain ⟨r1, r2⟩ := readT_le (N := 1073741824) (fun xs hx a ha => ((hz 84).2 xs hx).2 a ha) e
       have := (hz 84).1
       exact ⟨by simp only [Option.getD_some]; omega, fun t ht => by have := r2 t ht; omega⟩
    have hul := ctLoop_le (N := 1073741824) (cdsOf qs) (0, []) (by simp) hza
    obtain ⟨pc, hpc⟩ : ∃ pc : Ct, pc = ⟨(ctLoop (cdsOf qs) (0, [])).1, ts, (ctLoop (cdsOf qs) (0, [])).2⟩ := ⟨_, rfl⟩
    have hpe : pc = prgCtC (cdsOf qs) := by rw [hpc, hx20]; rfl
    have hPr := control_Print_sp (Bt := Row 60 4 (.slice ta ts.length tc) ts.length (ts.flatMap tgCells)) ta tc pc (by rw [hpc]; dsimp only; omega) (by rw [hpc]; exact hTZ) (by rw [hpc]; exact sla_row)
    have hcv : (.agg (ctVals ta tc pc).toArray : Value) = .agg #[vI (ctLoop (cdsOf qs) (0, [])).1, .slice ta ts.length tc, vS (ctLoop (cdsOf qs) (0, [])).2] := by rw [hpc]; rfl
    rw [hcv] at hPr
    refine Zm [_, _, _] (k:=?_)
    refine r_call1 hPr rfl rfl rfl ?_
    refine Qv (k:=Wq (Zi (t:=fun h64 => ?_) (f:=fun h64 => ?_)))
    ·
     refine Qc (k:=Vx (Ps [.int .i64 0, .slice none 0 0, vS []]) (k:=Zp (k:=Vv (k:=Wq (Zt (k:=Va (Vs ?_)))))))
     have hn : readCt s = none := hnone fun c h => by
      have e := (reads_prgCt hrd h).2
      have e2 : prCt pc = s := by rw [hpe, ← e, prCt, if_pos h.1]; exact h.2
      exact h64 e2
     rw [hn]
     refine fin_ret ((none, 0), ct0) (vs := [_, _]) (Cs := [Ce b2 70 (ctVals none 0 ct0)]) rfl (.cell (l := ctVals none 0 ct0) (us := ctVals none 0 ct0) rfl (shows_ce (T := 70)) Tryz.underlying70 rfl ti70 (by exact Nat.le_of_ble_eq_true rfl) rfl (.tmp rfl .nil)) rfl rfl ?_
     exact (row_nil (e := 60) (sz := 4)).trans (show Ent _ [Row 60 4 (.slice none 0 0) 0 [], Ce b2 70 [vI 0, .slice none 0 0, vS []]] from ent_pick)
    ·
     refine Zk (k:=Ya (Qc (k:=Zm [_, _, _] (k:=Zp (k:=Vv (k:=Wq (Zt (k:=Vs ?_))))))))
     have he : prCt pc = s := Classical.not_not.1 h64
     have hk : readCt s = some pc := readCt_iff.2 (by
      rw [prCt] at he
      split at he
      · rename_i hR; exact ⟨hR, he⟩
      · have := (reads_len hrd).1
        rw [← he] at this; simp at this)
     rw [hk]
     refine fin_ret ((ta, tc), pc) (vs := [_, _]) (Cs := [Ce b2 70 [vI (ctLoop (cdsOf qs) (0, [])).1, .slice ta ts.length tc, vS (ctLoop (cdsOf qs) (0, [])).2]]) rfl (.cell (l := [vI (ctLoop (cdsOf qs) (0, [])).1, .slice ta ts.length tc, vS (ctLoop (cdsOf qs) (0, [])).2]) rfl (shows_ce (T := 70)) Tryz.underlying70 rfl ti70 (by exact Nat.le_of_ble_eq_true rfl) rfl (.tmp rfl .nil)) ?_ rfl ?_
     · show Value.tuple #[_, _] = Value.tuple #[_, _]
       rw [hcv]; rfl
     · rw [hpc]
       exact ent_pick
   ·
    refine Qc (k:=Qv (k:=Vv (k:=Wq (Zb (k:=?_)))))
    refine p_loop (fun (i : { x : Nat × Int × Bs // x.1 ≤ qs.length ∧ ctLoop ((cdsOf qs).drop x.1) x.2 = ctLoop (cdsOf qs) (0, []) }) => [(0, vS s), (2, .pointer (some ⟨b2, 0, none⟩)), (4, .pointer (some ⟨b4, 0, none⟩)), (28, .slice ca qs.length cc), (29, vI qs.length), (30, vI i.1.1)]) (fun (i : { x : Nat × Int × Bs // x.1 ≤ qs.length ∧ ctLoop ((cdsOf qs).drop x.1) x.2 = ctLoop (cdsOf qs) (0, []) }) => [Ce b4 70 [vI i.1.2.1, .slice ta ts.length tc, vS i.1.2.2], Row 60 4 (.slice ta ts.length tc) ts.length (ts.flatMap tgCells), Ce b2 70 [vI 0, .slice none 0 0, vS []], Row 220 2 (.slice ca qs.length cc) qs.length (qs.flatMap CdV.cells), CdM qs]) (fun (i : { x : Nat × Int × Bs // x.1 ≤ qs.length ∧ ctLoop ((cdsOf qs).drop x.1) x.2 = ctLoop (cdsOf qs) (0, []) }) => qs.length - i.1.1) rfl (⟨(0, 0, []), Nat.zero_le _, rfl⟩) ?_ ?_ (fun i => ?_)
    · exact ⟨rfl, rfl, rfl, rfl, rfl, rfl, trivial⟩
    ·
     exact ent_pick
    obtain ⟨⟨j, day, user⟩, hj, hlp⟩ := i
    dsimp only at hj hlp ⊢
    try dsimp only
    refine Qc (k:=Vv (k:=Wq (Za (k:=Zi (t:=fun h31 => ?_) (f:=fun h31 => ?_)))))
    ·
     refine Zk (k:=Ya (Za (k:=Zb (k:=Za (k:=?_)))))
     have hjl : j < qs.length := by omega
     have hst := ctLoop_step (l := cdsOf qs) (j := j) (by omega) (day, user)
     rw [hlp, cds_getD hjl] at hst
     have hqm : qs[j] ∈ qs := List.getElem_mem hjl
     obtain ⟨q, hq⟩ : ∃ q, q = qs[j] := ⟨_, rfl⟩
     rw [← hq] at hst hqm
     have hqzz := hqz q hqm
     have hq0 : ∀ i, i < q.args.length → (q.args.getD i []).length ≤ 1073741824 := fun i hi => Nat.le_trans (mem_le_args (by simp [hi])) hqzz.1
     rw [show q.cd.args = q.args from rfl, show q.cd.l = q.l from rfl] at hst
     dsimp only at hst
     refine wc_ent' (ent_cd hqm HasC.get) ?_
     refine Zr (k:=Ye 2 (k:=?_))
     refine r_eloada (vs := [_, _]) (sz := 2) Tryz.underlying220 rfl ti220 rfl rfl (by rw [flat_len (sz := 2) (fun _ => rfl)]; omega) rfl (by refine get_flat (fun x => ?_) ?_ <;> first | rfl | omega) rfl ?_
     rw [← hq]
     refine Zc [.int .u8 0, .slice none 0 0] (k:=fun b9 => Zp (k:=Wq (Za (k:=Qc (k:=Qx 1 27 (k:=Qv (k:=Wq (Zi (t:=fun h37 => ?_) (f:=fun h37 => ?_)))))))))
     ·
      refine Ze (k:=Xa (Xo (k:=Xa (Xi (Xb ?_)))))
      exact zb213join20
     ·
      refine Zk (k:=Ya (Qc (k:=Qx 0 5 (k:=Wq (Zb (k:=Qc (k:=Qv (k:=?_))))))))
      refine Wq (Zi (t:=fun h40 => ?_) (f:=fun h40 => ?_))
      ·
       refine Qc (k:=Qx 1 27 (k:=Ye 1 (m := 0) (k:=Yl (hv:=by exact get_mapD [] (m := 0) (by omega)) (k:=?_))))
       have hq00 := hq0 0 (by omega)
       rw [if_neg (by omega), if_pos (by omega)] at hst
       refine r_callF (digit_ReadDec_sp _ (by omega)) rfl rfl rfl ?_
       refine Vv (k:=?_)
       refine wo_pv (pv_extract (v := vI (((readDec (q.args.getD 0 [])).getD 0 : Nat) : Int)) rfl rfl) rfl ?_
       refine wo_pv (pv_extract (v := vB (readDec (q.args.getD 0 [])).isSome) rfl rfl) rfl ?_
       refine Vf 0 3 (k:=Zo (k:=Vv (k:=Wq (Qc (k:=Qv (k:=Wq (Zi (t:=fun h52 => ?_) (f:=fun h52 => ?_))))))))
       ·
        refine Ze (k:=Xo (k:=Xo (k:=Xa (Xi (Xb ?_)))))
        exact zb213join20
       ·
        refine Zk (k:=Yb (Yb (Ya (Zr (k:=Qv (k:=Wn ?_))))))
        exact zb213next0
      ·
       refine Qc (k:=Qv (k:=Wq (Zi (t:=fun h53 => ?_) (f:=fun h53 => ?_))))
       ·
        refine Zr (k:=Qx 1 27 (k:=Ye 1 (m := 0) (k:=Yl (hv:=by exact get_mapD [] (m := 0) (by omega)) (k:=?_))))
        rw [if_neg (by omega), if_neg (by omega), if_pos (by omega)] at hst
        refine Vf 2 9 (k:=Zo (k:=Wn (Yb (Yb (Ya (Zr (k:=Qv (k:=Wn ?_))))))))
        exact zb213next0
       ·
        rw [if_neg (by omega), if_neg (by omega), if_neg (by omega)] at hst
        refine Zk (k:=Yb (Yb (Ya (Zr (k:=Qv (k:=Wn ?_))))))
        exact zb213next0
    ·
     refine Ze (k:=Xa (Xi (Xb ?_)))
     exact zb213join20
end
section
set_option maxRecDepth 100000
section
variable {r : Option Nat} {P : Program} {n : Nat} {ops : Array Oper} {A : List HP} {L : Loc} {Hs : List HP} {ty : TypeId} {d : Nat} {pos : String} {after : Array Edge}
theorem opt_mapsClone {dst : Option Tmp} {t : TypeId} {x : Operand} {g b : Nat} {ks : Ks} {ts : Array TypeId} (hg : ∀ (args : Array Value) (w : World), (callFunc g args).run P w = ((Extern.MapsClone.clone args).run P w).andThen fun v w' => .ok (.value v) w') (hx : ev L x = some (.iface t (.map (some b)))) :
    OpT r P n ⟨dst, .call ⟨.value (.func g), #[x], ts⟩, ty, pos, after, none⟩ A L [MapS b ks] (fun i : Nat => .iface t (.map (some i))) (fun _ => True) (fun i => [Al [MapS b ks, MapS i ks]]) := by
 refine opt_turnX (fun a f w M h1 hf dj tt hm => ?_)
 obtain ⟨es, clock, e1, g'⟩ := hm
 subst e1
 have hb : w.heap[b]? = some (.map es clock) := tt.ow _ _ (by simp [Res.add, Res.one])
 obtain ⟨f1, f2⟩ := fresh_none tt
 have t2 := tt.alloc (.map es clock)
 have hd2 : (Res.one w.heap.size (.map es clock)).dj ((Res.one b (.map es clock)).add hf) := one_dj f2
 obtain ⟨d1, d2⟩ := Res.dj_add_right.1 hd2
 refine ⟨w.heap.size, w.alloc (.map es clock), (Res.one b (.map es clock)).add (Res.one w.heap.size (.map es clock)), trivial, Res.dj_add_left.2 ⟨dj, d2⟩, ?_, ⟨Res.one b (.map es clock), Res.one w.heap.size (.map es clock), Res.dj_comm d1, rfl, ⟨es, clock, rfl, g'⟩, Res.one w.heap.size (.map es clock), Res.emp, Res.dj_emp _, (Res.add_emp _).symm, ⟨es, clock, rfl, g'⟩, trivial⟩, ?_⟩
 · rw [Res.add_comm (Res.dj_comm d1), Res.add_assoc]; exact t2
 · have hc := run_maps_clone_sl (P := P) w t hb
   have hfv : a.eval (.func g) = .func (.func g) #[] #[] := rfl
   have hargs : #[x].map a.eval = #[.iface t (.map (some b))] := by simp [f.ev hx]
   simp only [execOp, resolve, hfv, Deferred.ofValue, hargs, Sem.run_bind, Sem.run_pure, Result.andThen_ok, invoke]
   simp [hg, hc]
theorem pv_mkIface2 {t k e : TypeId} {x : Operand} {v : Value} (hx : ev L x = some v) (ht : P.underlying t = some (.map k e)) : PV P n L (.makeInterface t x) ty (.iface t v) :=
 ⟨by intro c; simp, fun a f w _ _ _ _ => by simp [execOp, f.ev hx, run_makeInterface (P := P) (w := w) t v (by simp [Program.concrete, ht])]⟩
theorem pv_assertMap {x : Operand} {xT t k e : TypeId} {v : Value} (ht : P.underlying t = some (.map k e)) (hx : ev L x = some (.iface t v)) : PV P n L (.typeAssert x xT t false) ty v :=
 ⟨by intro c; simp, fun a f w _ _ _ _ => by simp only [execOp, f.ev hx, Sem.run_bind, run_typeAssert_map_sl w t xT k e v ht, Result.andThen_ok, Sem.run_pure]⟩
end
set_option maxHeartbeats 2000000 in
theorem maps_Clone_sp (b : Nat) (ks : Ks) : Sp Tryz.prog 95 [.map (some b)] [MapS b ks] (X := Nat) (fun i => .map (some i)) (fun _ => True) (fun i => [MapS b ks, MapS i ks]) := by
 refine Sp.body (n := 9) Tryz.call95 Tryz.func95 rfl rfl rfl ?_
 refine Qc (k:=Vv (k:=Wq (Za (k:=Qc (k:=Vv (k:=?_))))))
 refine wo_pv (pv_meql_nil Tryz.underlying31 rfl rfl) rfl ?_
 refine Wq (Zi (t:=fun h4 => ?_) (f:=fun h4 => ?_))
 ·
  simp at h4
  --done
 ·
  refine Zk (k:=Ya (Qc (k:=Vv (k:=?_))))
  refine wo_pv (pv_mkIface2 rfl Tryz.underlying31) rfl ?_
  refine wo_opT (by intro c; simp) (opt_mapsClone (b := b) (ks := ks) (fun args w => run_callFunc_extern Tryz.func135 (by kernel_rfl) (by kernel_rfl) (by kernel_rfl) (e := Extern.MapsClone.clone) (by kernel_rfl) args w) rfl) rfl (fun i _ => ?_)
  refine wo_al ?_
  refine wo_pv (pv_assertMap Tryz.underlying31 rfl) rfl ?_
  refine Vv (k:=Wq (Zt (k:=?_)))
  refine fin_ret i (vs := [_]) (Cs := []) rfl (.tmp rfl .nil) rfl trivial ?_
  exact ent_pick
theorem maps_Keys_sp (m : Option Nat) : Sp Tryz.prog 66 [.map m] [] (X := Nat) (fun b => .func (.func 121) #[] #[.pointer (some ⟨b, 0, none⟩)]) (fun _ => True) (fun b => [Ce b 31 [.map m]]) := by
 refine Sp.body (n := 4) Tryz.call66 Tryz.func66 rfl rfl rfl ?_
 refine Qc (k:=Zx [_] (k:=fun b1 => Vv (k:=Wq (Qc (k:=Qv (k:=Wq (Zt (k:=?_))))))))
 refine fin_ret b1 (vs := [_]) (Cs := []) rfl (.tmp rfl .nil) rfl trivial ?_
 exact ent_pick
abbrev okK (ks : Ks) : List Bs → Bs → Prop := fun pre k => k ∈ ks.map (·.1) ∧ k ∉ pre ∧ pre.length < ks.length
theorem maps_Keys_it (c b : Nat) (ks : Ks) : IterU Tryz.prog 121 [.pointer (some ⟨c, 0, none⟩)] (fun k : Bs => [vS k]) (okK ks) (fun _ => True)
    [Ce c 31 [.map (some b)], MapS b ks] [Ce c 31 [.map (some b)], MapS b ks] (fun l => l.Perm (ks.map (·.1))) (fun _ => .tuple #[]) := by
 intro y J Jx ys
 refine Sp.body (n := 14) Tryz.call121 Tryz.func121 rfl rfl rfl ?_
 refine Qc (k:=Zd (k:=?_))
 refine r_range Tryz.underlying31 rfl rfl (fun b5 => ?_)
 refine Wq (Zb (k:=?_))
 refine p_loop (fun (i : List Bs) => [(0, y), (5, .pointer (some ⟨b5, 0, none⟩))]) (fun (i : List Bs) => [J i, Ce c 31 [.map (some b)], MapIt b b5 ks i]) (fun (i : List Bs) => ks.length - i.length) rfl ([]) ?_ ?_ (fun i => ?_)
 · exact ⟨rfl, rfl, trivial⟩
 ·
  exact ent_pick
 refine wc_know (A := MapIt b b5 ks i) (.there (.there .here)) mapit_len (fun hlen => ?_)
 try dsimp only
 refine Qc (k:=?_)
 refine r_next rfl rfl (fun o6 ho6 => ?_)
 refine wo_pv (pv_nx0 rfl) rfl ?_
 refine Wq (Za (k:=Zi (t:=fun h7 => ?_) (f:=fun h7 => ?_)))
 ·
  obtain ⟨⟨k, v⟩, rfl⟩ := Option.isSome_iff_exists.1 h7
  obtain ⟨hm, hk⟩ := ho6
  have hk1 : k ∈ ks.map (·.1) := List.mem_map_of_mem (f := fun p : Bs × Value => p.1) hm
  have hl2 : i.length < ks.length := by
   have := nodup_len (l := i ++ [k]) (m := ks.map (·.1)) (by rw [List.nodup_append]; exact ⟨hlen.2.1, by simp, fun a ha c hc e => by simp only [List.mem_singleton] at hc; subst hc; subst e; exact hk ha⟩) (fun x hx => by rcases List.mem_append.1 hx with h | h; exact hlen.2.2 x h; simp only [List.mem_singleton] at h; subst h; exact hk1)
   rw [List.length_append, List.length_singleton, List.length_map] at this
   omega
  dsimp only [nxD]
  refine Zk (k:=Ya (Zb (k:=Qc (k:=?_))))
  refine r_entry (b := b) (ks := ks) (done := i) (k := k) (v := v) hm rfl rfl ?_
  refine Qv (k:=Wq (Qc (k:=Qv (k:=?_))))
  refine r_yield ys i k ⟨hk1, hk, hl2⟩ rfl rfl rfl ?_ ?_
  ·
   refine Vv (k:=Wq (Z0 (k:=Zk (k:=Yb ?_))))
   refine to_inv (i ++ [k]) ?_ ⟨rfl, rfl, trivial⟩ ?_
   · rw [List.length_append, List.length_singleton]; omega
   · exact ent_pick
  ·
   refine Vv (k:=Wq (Z1 (k:=Zt (k:=Vb (Vi (Vb ?_))))))
   refine fin_ret (some (i ++ [k]), []) (vs := []) (Cs := []) rfl .nil rfl ⟨fun pre e => trivial, fun e => by cases e⟩ ?_
   simp only [endsAt]
   refine ent_cons (ent_cons ?_)
   refine (mapit_done (i := b5)).trans ?_
   exact ent_pick
 ·
  have hnone : o6 = none := by cases o6 with
   | none => rfl
   | some p => simp at h7
  subst hnone
  dsimp only [nxD]
  refine Ze (k:=Xa (Xi (Xb ?_)))
  refine tw_know (A := MapIt b b5 ks i) .here (fun x => mapit_perm x ho6) (fun hperm => ?_)
  refine fin_end (none, i) (vs := []) (Cs := []) rfl .nil rfl ⟨(fun pre e => by cases e), fun _ => hperm⟩ ?_
  simp only [endsAt]
  refine ent_cons (ent_cons ?_)
  refine (mapit_done (i := b5)).trans ?_
  exact ent_pick
/-- slices.AppendSeq, to nothing, of what is walked to its end. -/
theorem slices_AppendSeq_sp {g : Nat} {lb : List Value} {ok : List Bs → Bs → Prop} {stopped : List Bs → Prop} {As Bs' : List HP} {fin : List Bs → Prop} {val : Option (List Bs) → Value}
    (it : IterU Tryz.prog g lb (fun k : Bs => [vS k]) ok stopped As Bs' fin val) (N : Nat) (hN : N ≤ 4398046511104) (hlim : ∀ pre x, ok pre x → pre.length < N) [hp : PicksC As As []] :
    Sp Tryz.prog 167 [.slice none 0 0, .func (.func g) #[] lb.toArray] As (X := (Option Addr × Nat) × List Bs) (fun x => .slice x.1.1 x.2.length x.1.2) (fun x => fin x.2) (fun x => Row 9 1 (.slice x.1.1 x.2.length x.1.2) x.2.length (x.2.map vS) :: Bs') := by
 refine Sp.body (n := 13) Tryz.call167 Tryz.func167 rfl rfl rfl ?_
 refine Qc (k:=Zx [_] (k:=fun b2 => Vv (k:=Wq (Za (k:=Qc (k:=Vv (k:=Wq (Zb (k:=?_)))))))))
 refine p_rangeFuncU (fun pre => [Ex fun s : Option Addr × Nat => Al [Ce b2 27 [.slice s.1 pre.length s.2], Row 9 1 (.slice s.1 pre.length s.2) pre.length (pre.map vS)]]) (fun j pre => [Pu False]) rfl it rfl (fun _ => by rfl) rfl ?_ (fun l pre k hok => ?_) (fun all hfin => ?_) (fun j pre hs => ?_)
 · (refine ent_app ?_; refine ent_ex (none, 0) (ent_al ?_); exact ent_cons (ent_step row_nil ent_pick))
 ·
  have hpl := hlim pre k hok
  refine wc_exi fun s => wc_al ?_
  refine Zr (k:=Vv (k:=Wg (Zb (k:=Zr (k:=Zd (k:=Vv (k:=Zv [_] (cs := [_]) (k:=fun b10 => ?_))))))))
  refine r_append1 (sz := 1) (bytes := 16) Tryz.underlying27 ti9 rfl rfl rfl rfl rfl rfl rfl (by rfl) (by rfl) (by omega) (by simp only [maxLen]; omega) rfl (fun a11 c11 => ?_)
  refine Zo (k:=Wn (Yb ?_))
  refine to_round ?_
  refine ent_ex (a11, c11) (ent_al ?_)
  simp only [List.length_append, List.length_singleton, List.map_append, List.map_cons, List.map_nil]
  exact ent_pick
 ·
  simp only [List.singleton_append]
  refine Yb (Ya (Za (k:=?_)))
  refine wc_exi fun s => wc_al ?_
  refine Zr (k:=Zd (k:=Vv (k:=Wq (Zt (k:=?_)))))
  refine fin_ret ((s.1, s.2), all) (vs := [_]) (Cs := []) rfl (.tmp rfl .nil) rfl hfin ?_
  rw [List.append_nil]
  exact ent_cons ent_tail
 ·
  exact wc_no (fun s => by obtain ⟨_, _, _, _, a, _⟩ := s; exact a)
theorem slices_Collect_sp {g : Nat} {lb : List Value} {ok : List Bs → Bs → Prop} {stopped : List Bs → Prop} {As Bs' : List HP} {fin : List Bs → Prop} {val : Option (List Bs) → Value}
    (it : IterU Tryz.prog g lb (fun k : Bs => [vS k]) ok stopped As Bs' fin val) (N : Nat) (hN : N ≤ 4398046511104) (hlim : ∀ pre x, ok pre x → pre.length < N) [hp : PicksC As As []] :
    Sp Tryz.prog 120 [.func (.func g) #[] lb.toArray] As (X := (Option Addr × Nat) × List Bs) (fun x => .slice x.1.1 x.2.length x.1.2) (fun x => fin x.2) (fun x => Row 9 1 (.slice x.1.1 x.2.length x.1.2) x.2.length (x.2.map vS) :: Bs') := by
 refine Sp.body (n := 5) Tryz.call120 Tryz.func120 rfl rfl rfl ?_
 refine Qc (k:=Vv (k:=Wq (Qc (k:=Vv (k:=?_)))))
 refine r_callX (slices_AppendSeq_sp it N hN hlim) rfl rfl rfl (fun x hx => ?_)
 refine Vv (k:=Wq (Zt (k:=?_)))
 refine fin_ret x (vs := [_]) (Cs := []) rfl (.tmp rfl .nil) rfl hx ?_
 simp only [List.append_nil]
 exact Ent.refl _
/-! Sorting texts. -/
theorem bits_Len_zero : SpF Tryz.prog 101 [.int .u64 0] (vI 0) := SpF.of_same Tryz.call101 fun w => (Tryz.bits_Len 0 w (by omega) (by omega)).mono fun e w' ⟨h1, h2⟩ => ⟨by rw [h1]; rfl, h2⟩
theorem insertionSort_nil : SpF Tryz.prog 181 [.slice none 0 0, vI 0, vI 0] (.tuple #[]) := by
 refine Sp.body (n := 49) Tryz.call181 Tryz.func181 rfl rfl rfl ?_
 refine Qc (k:=Qv (k:=Vv (k:=Wq (Zb (k:=?_)))))
 refine p_loop (fun (i : Unit) => [(0, .slice none 0 0), (1, vI 0), (2, vI 0), (6, vI 1)]) (fun (i : Unit) => []) (fun (i : Unit) => 0) rfl (()) ?_ ?_ (fun i => ?_)
 · exact ⟨rfl, rfl, rfl, rfl, trivial⟩
 ·
  exact Ent.refl _
 try dsimp only
 refine Za (k:=Qc (k:=Qv (k:=Vv (k:=Wq (Zi (t:=fun h12 => ?_) (f:=fun h12 => ?_))))))
 ·
  simp at h12
  --done
 ·
  refine Ze (k:=Xa (Xi (Xb ?_)))
  exact fin_end () (vs := []) (Cs := []) rfl .nil rfl trivial ent_nil
theorem pdqsort_nil : SpF Tryz.prog 132 [.slice none 0 0, vI 0, vI 0, vI 0] (.tuple #[]) := by
 refine Sp.body (n := 134) Tryz.call132 Tryz.func132 rfl rfl rfl ?_
 refine Qc (k:=Vv (k:=Wq (Qc (k:=Vv (k:=Wq (Zb (k:=?_)))))))
 refine p_loop (fun (i : Unit) => [(0, .slice none 0 0), (1, vI 0), (2, vI 0), (3, vI 0)]) (fun (i : Unit) => []) (fun (i : Unit) => 0) rfl (()) ?_ ?_ (fun i => ?_)
 · exact ⟨rfl, rfl, rfl, rfl, trivial⟩
 ·
  exact Ent.refl _
 try dsimp only
 refine Zb (k:=Qc (k:=Qv (k:=Qv (k:=Wq (Za (k:=Qc (k:=Vv (k:=?_))))))))
 refine Vv (k:=Wq (Zi (t:=fun h23 => ?_) (f:=fun h23 => ?_)))
 ·
  refine Qc (k:=Qv (k:=Vv (k:=?_)))
  refine r_callF insertionSort_nil rfl rfl rfl ?_
  refine Wq (Zt (k:=Va (Vb (Vi (Vb ?_)))))
  exact fin_ret () (vs := []) (Cs := []) rfl .nil rfl trivial ent_nil
 ·
  simp at h23
  --done
theorem slices_Sort_nil : SpF Tryz.prog 85 [.slice none 0 0] (.tuple #[]) := by
 refine Sp.body (n := 11) Tryz.call85 Tryz.func85 rfl rfl rfl ?_
 refine Qc (k:=Qv (k:=Vv (k:=Wq (Zr (k:=Qv (k:=Vv (k:=?_)))))))
 refine wo_pv (pv_conv_in (i := 0) rfl Tryz.underlying3 Tryz.underlying97 (by decide)) rfl ?_
 refine r_callF bits_Len_zero rfl rfl rfl ?_
 refine r_callF pdqsort_nil rfl rfl rfl ?_
 refine Wn ?_
 exact fin_end () (vs := []) (Cs := []) rfl .nil rfl trivial ent_nil
theorem sat_grow {w : World} {M : Kn} {h : Res} (t : Sat w M h) (os : Array Obj) : Sat (Go.Sort.grow w os) M h := by
 have old : ∀ i o, w.heap[i]? = some o → (Go.Sort.grow w os).heap[i]? = some o := fun i o e => by
  rw [Go.Sort.heap_grow_old w os (Array.getElem?_eq_some_iff.1 e).1]; exact e
 exact ⟨fun i o e => old i o (t.im i o e), fun i o e => old i o (t.ow i o e), t.dj, t.env.trans ⟨rfl, rfl, rfl, by simp, up_rfl⟩⟩
def sortB (l : List Bs) : List Bs := l.mergeSort fun x y => decide (x ≤ y)
theorem sortB_len (l : List Bs) : (sortB l).length = l.length := by simp [sortB]
theorem slices_Sort_sp (a : Option Addr) (n c : Nat) (l : List Bs) (hn : l.length = n) (hb : n < 4611686018427387904) :
    Sp1 Tryz.prog 85 [.slice a n c] [Row 9 1 (.slice a n c) n (l.map vS)] (.tuple #[]) [Row 9 1 (.slice a n c) n ((sortB l).map vS)] := by
 subst hn
 refine ⟨Tryz.call85, fun w M h hf d t s => ?_⟩
 obtain ⟨h1, h2, d12, e, hr, _⟩ := s
 subst e
 rcases hr with ⟨hv, hl, hx⟩ | ⟨g, cap, cur, hv, hnc, hcm, hcl, hxl, htk, hh⟩
 · have hl0 : l = [] := List.eq_nil_of_length_eq_zero hl
   subst hl0
   cases hv
   refine (slices_Sort_nil.calls w M (h1.add h2) hf d t trivial).mono ?_
   rintro ee w' ⟨x, M', h', rfl, _, le, dj, t', _⟩
   exact ⟨(), M', h', rfl, trivial, le, dj, t', Res.emp, h', Res.emp_dj _, rfl, .inl ⟨rfl, rfl, by simp [sortB]⟩, trivial⟩
 · cases hv
   subst hh
   rw [Nat.mul_one] at hcl htk
   obtain ⟨d1, d2⟩ := Res.dj_add_left.1 d
   have hg : w.heap[g]? = some (.cells cur.toArray 9 (0, 0)) := t.ow _ _ (by simp [Res.add, Res.one])
   have hlt : g < w.heap.size := (Array.getElem?_eq_some_iff.1 hg).1
   have hH : Go.Sort.Holds encStr w g 0 l.toArray := by
    intro j hj
    have hj' : j < l.length := by simpa using hj
    have hc : cur[j]? = some (vS l[j]) := by
     have := congrArg (fun q => q[j]?) htk
     simp only [List.getElem?_take, hj', if_true, List.getElem?_map, List.getElem?_eq_getElem hj', Option.map_some] at this
     exact this
    refine ⟨?_, ?_⟩
    · simp only [World.cell?, Nat.zero_add, hg]
      simp [hc, hj', encStr]
    · simp [World.frozen?, hg]
   have hcall := Tryz.slices_Sort_string g 0 c l w hH hlt hb
   refine CallsIn.mono (callsIn_wide.2 hcall) ?_
   rintro ee w' ⟨rfl, k, os, rfl⟩
   have hs : (l.mergeSort fun x y => decide (x ≤ y)) = sortB l := rfl
   rw [hs]
   have hsl := sortB_len l
   generalize hq : sortB l = q at hsl ⊢
   have hput : (Go.Sort.putRow encStr (Go.Sort.ahead w k) g 0 q.toArray).heap[g]? = some (.cells (q.map vS ++ cur.drop q.length).toArray 9 (0, 0)) := by
    have h0 : (Go.Sort.ahead w k).heap[g]? = some (.cells cur.toArray 9 (0, 0)) := hg
    simp only [Go.Sort.putRow, Go.Sort.mapBlock, Array.getElem?_modify, if_true, h0, Option.map_some, Go.Sort.onCells]
    congr 2
    apply Array.ext'
    simp only [Go.Sort.putCells, Array.toList_mapIdx]
    apply List.ext_getElem?
    intro j
    simp only [List.getElem?_mapIdx, Nat.zero_le, true_and, Nat.zero_add, List.size_toArray, Nat.sub_zero]
    by_cases hj : j < q.length
    · have hjc : j < cur.length := by have := congrArg List.length htk; simp at this; omega
      rw [List.getElem?_append_left (by simpa using hj)]
      simp [hj, hjc, encStr]
    · rw [List.getElem?_append_right (by simpa using Nat.le_of_not_lt hj)]
      simp only [List.length_map, List.getElem?_drop]
      have e : q.length + (j - q.length) = j := by omega
      rw [e]
      cases hc : cur[j]? with
      | none => simp [hc]
      | some v => simp [hc, hj]
   have hoth : ∀ i, i ≠ g → (Go.Sort.putRow encStr (Go.Sort.ahead w k) g 0 q.toArray).heap[i]? = w.heap[i]? := by
    intro i hi
    simp only [Go.Sort.putRow, Go.Sort.mapBlock, Array.getElem?_modify, Ne.symm hi, if_false]
    rfl
   have t1 : Sat w M ((Res.one g (.cells cur.toArray 9 (0, 0))).add (h2.add hf)) := by rw [← Res.add_assoc]; exact t
   have t2 := Sat.setBlk (Res.dj_add_right.2 ⟨d12, d1⟩) t1 hput hoth ⟨rfl, rfl, rfl, by simp, up_add k up_rfl⟩
   have dn : (Res.one g (.cells (q.map vS ++ cur.drop q.length).toArray 9 (0, 0))).dj (h2.add hf) := dj_one_any (Res.dj_add_right.2 ⟨d12, d1⟩)
   obtain ⟨dn1, dn2⟩ := Res.dj_add_right.1 dn
   refine ⟨(), M, (Res.one g (.cells (q.map vS ++ cur.drop q.length).toArray 9 (0, 0))).add h2, rfl, trivial, Kn.le_refl _, Res.dj_add_left.2 ⟨dn2, d2⟩, ?_, Res.one g _, h2, dn1, rfl, .inr ⟨g, c, q.map vS ++ cur.drop q.length, rfl, hnc, hcm, ?_, ?_, ?_, rfl⟩, trivial⟩
   · rw [Res.add_assoc]; exact sat_grow t2 os
   · simp; omega
   · simp; omega
   · rw [Nat.mul_one, ← hsl, List.take_left' (by simp)]
end
section
set_option maxRecDepth 100000
theorem sortB_sorted (l : List Bs) : (sortB l).Pairwise (fun x y => x ≤ y) := by
 have := List.pairwise_mergeSort (le := fun x y : Bs => decide (x ≤ y)) (fun a b c h k => by simp at *; exact List.le_trans h k) (fun a b => by simp; exact List.le_total a b) l
 simp only [decide_eq_true_eq] at this
 exact this
theorem sortB_perm (l : List Bs) : (sortB l).Perm l := List.mergeSort_perm l _
theorem sortB_eq {l m : List Bs} (h : l.Perm m) : sortB l = sortB m :=
 List.Perm.eq_of_pairwise (fun _ _ _ _ h k => List.le_antisymm h k) (sortB_sorted l) (sortB_sorted m) ((sortB_perm l).trans (h.trans (sortB_perm m).symm))
theorem slices_Sorted_sp {g : Nat} {lb : List Value} {ok : List Bs → Bs → Prop} {stopped : List Bs → Prop} {As Bs' : List HP} {fin : List Bs → Prop} {val : Option (List Bs) → Value}
    (it : IterU Tryz.prog g lb (fun k : Bs => [vS k]) ok stopped As Bs' fin val) (N : Nat) (hN : N ≤ 4398046511104) (hlim : ∀ pre x, ok pre x → pre.length < N) (hfin : ∀ l, fin l → l.length ≤ N) [hp : PicksC As As []] :
    Sp Tryz.prog 65 [.func (.func g) #[] lb.toArray] As (X := (Option Addr × Nat) × List Bs) (fun x => .slice x.1.1 x.2.length x.1.2) (fun x => fin x.2) (fun x => Row 9 1 (.slice x.1.1 x.2.length x.1.2) x.2.length ((sortB x.2).map vS) :: Bs') := by
 refine Sp.body (n := 9) Tryz.call65 Tryz.func65 rfl rfl rfl ?_
 refine Qc (k:=Vv (k:=Wq (Qc (k:=Vv (k:=?_)))))
 refine r_callX (slices_Collect_sp it N hN hlim) rfl rfl rfl (fun x hx => ?_)
 have hxl := hfin x.2 hx
 refine Vv (k:=Wq (Qc (k:=Vv (k:=?_))))
 refine r_call1 (slices_Sort_sp x.1.1 x.2.length x.1.2 x.2 rfl (by omega)) rfl rfl rfl ?_
 refine Wq (Qc (k:=Qv (k:=Wq (Zt (k:=?_)))))
 refine fin_ret x (vs := [_]) (Cs := []) rfl (.tmp rfl .nil) rfl hx ?_
 simp only [List.append_nil]
 exact Ent.refl _
/-- The keys of some rows, rising. -/
def keysS (ks : Ks) : List Bs := sortB (ks.map (·.1))
theorem keysS_len (ks : Ks) : (keysS ks).length = ks.length := by rw [keysS, sortB_len]; simp
theorem keysS_mem {ks : Ks} {k : Bs} : k ∈ keysS ks ↔ k ∈ ks.map (·.1) := (sortB_perm _).mem_iff
theorem mlook_mem {ks : Ks} {k : Bs} (h : k ∈ ks.map (·.1)) : (mlook ks k).isSome = true := by
 induction ks with
 | nil => simp at h
 | cons p r ih =>
   simp only [mlook]
   by_cases e : p.1 = k
   · simp [e]
   · simp only [e, if_false]
     refine ih ?_
     simp only [List.map_cons, List.mem_cons] at h
     rcases h with h | h
     · exact absurd h.symm e
     · exact h
abbrev okL {α : Type} (all : List α) : List α → α → Prop := fun pre x => ∃ r, all = pre ++ x :: r
abbrev stopL {α : Type} (all : List α) : List α → Prop := fun pre => pre ≠ [] ∧ ∃ r, all = pre ++ r
end
theorem mlook_mput (ks : Ks) (k k' : Bs) (v : Value) : mlook (mput ks k v) k' = if k = k' then some v else mlook ks k' := by
 induction ks with
 | nil => simp [mput, mlook]
 | cons p r ih =>
   simp only [mput]
   by_cases h : p.1 = k
   · rw [if_pos h]
     by_cases h2 : k = k'
     · simp [mlook, h2]
     · simp [mlook, h2, h]
   · rw [if_neg h]
     simp only [mlook, ih]
     by_cases h2 : k = k'
     · subst h2; simp [h]
     · simp [h2]
theorem mlook_none {ks : Ks} {k : Bs} (h : k ∉ ks.map (·.1)) : mlook ks k = none := by
 induction ks with
 | nil => rfl
 | cons p r ih =>
   simp only [List.map_cons, List.mem_cons, not_or] at h
   simp only [mlook, Ne.symm h.1, if_false]
   exact ih h.2
theorem mlook_isSome {ks : Ks} {k : Bs} : (mlook ks k).isSome = true ↔ k ∈ ks.map (·.1) := by
 constructor
 · intro h
   apply Classical.byContradiction
   intro hc
   rw [mlook_none hc] at h; cases h
 · exact mlook_mem
theorem mlook_of_mem {ks : Ks} {k : Bs} {v : Value} (hn : (ks.map (·.1)).Nodup) (h : (k, v) ∈ ks) : mlook ks k = some v := by
 induction ks with
 | nil => simp at h
 | cons p r ih =>
   simp only [List.map_cons, List.nodup_cons] at hn
   simp only [mlook]
   rcases List.mem_cons.1 h with rfl | h
   · simp
   · have : p.1 ≠ k := fun e => hn.1 (e ▸ List.mem_map_of_mem (f := fun p : Bs × Value => p.1) h)
     simp only [this, if_false]
     exact ih hn.2 h
theorem mem_of_mlook {ks : Ks} {k : Bs} {v : Value} (h : mlook ks k = some v) : (k, v) ∈ ks := by
 induction ks with
 | nil => simp [mlook] at h
 | cons p r ih =>
   simp only [mlook] at h
   split at h
   · rename_i e; simp only [Option.some.injEq] at h; subst h; subst e; simp
   · simp [ih h]
/-! The order of texts. -/
theorem blt_iff : ∀ (a b : Bs), blt a b = true ↔ a < b := by
 intro a
 induction a with
 | nil => intro b; cases b <;> simp [blt, Op.bytesLess]
 | cons x a ih =>
   intro b
   cases b with
   | nil => simp [blt, Op.bytesLess]
   | cons y b =>
     have := ih b
     simp only [blt] at this ⊢
     rw [List.cons_lt_cons_iff, ← this]
     simp only [Op.bytesLess]
     by_cases h : x = y
     · subst h; simp
     · simp [h]
theorem blt_eq (a b : Bs) : blt a b = decide (a < b) := by
 have := blt_iff a b
 cases h : blt a b with
 | true => rw [h] at this; exact (decide_eq_true (this.1 rfl)).symm
 | false => rw [h] at this; exact (decide_eq_false (fun e => by have := this.2 e; cases this)).symm
theorem keysS_lt {ks : Ks} (hn : (ks.map (·.1)).Nodup) : (keysS ks).Pairwise (· < ·) := by
 have h1 := sortB_sorted (ks.map (·.1))
 have h2 : (keysS ks).Nodup := (sortB_perm _).nodup_iff.2 hn
 have h3 : (keysS ks).Pairwise (fun a b => a ≤ b ∧ a ≠ b) := List.Pairwise.and h1 h2
 exact h3.imp fun ⟨a, b⟩ => Std.lt_of_le_of_ne a b
/-- Sorted lists with the same things in them are the same. -/
theorem sorted_eq {l m : List Bs} (hl : l.Pairwise (· < ·)) (hm : m.Pairwise (· < ·)) (h : ∀ k, k ∈ l ↔ k ∈ m) : l = m := by
 have nl : l.Nodup := hl.imp fun h e => by subst e; exact absurd h (List.lt_irrefl _)
 have nm : m.Nodup := hm.imp fun h e => by subst e; exact absurd h (List.lt_irrefl _)
 exact List.Perm.eq_of_pairwise (fun _ _ _ _ h k => List.le_antisymm h k) (hl.imp fun h => List.le_of_lt h) (hm.imp fun h => List.le_of_lt h) ((List.perm_ext_iff_of_nodup nl nm).2 h)
/-- A row's bytes; nothing, if there is none. -/
def bytesV : Value → Bs
 | .string b => b.data.toList
 | _ => []
def getB (K : Ks) (k : Bs) : Bs := bytesV ((mlook K k).getD (vS []))
/-- The store holds texts alone, none too long. -/
def TxtK (K : Ks) : Prop := ∀ p ∈ K, ∃ s, p.2 = vS s ∧ s.length ≤ 1073741824
theorem TxtK.get {K : Ks} (h : TxtK K) (k : Bs) : (mlook K k).getD (vS []) = vS (getB K k) ∧ (getB K k).length ≤ 1073741824 := by
 unfold getB
 cases e : mlook K k with
 | none => exact ⟨rfl, Nat.zero_le _⟩
 | some v =>
   obtain ⟨s, hs, hl⟩ := h _ (mem_of_mlook e)
   dsimp only at hs
   subst hs
   exact ⟨rfl, hl⟩
end Go.Proofs.YtdnoacgopfcpbaaGreat
