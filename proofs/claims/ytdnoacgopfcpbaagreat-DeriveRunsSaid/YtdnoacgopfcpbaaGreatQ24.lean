/- Texts of this proof, put together: SChanges, MapE, SDerive, SDerive2, P18, P18R, P19, SR17b, P17R, P20R, SFiles0, LawLinksRuns. -/
import Derived.Test.YtdnoacgopfcpbaaGreatQ23
set_option linter.unusedVariables false
set_option linter.unusedSimpArgs false
namespace Go.Proofs.YtdnoacgopfcpbaaGreat
section
set_option maxRecDepth 100000
abbrev ChI (b : Nat) (acc : List Ml) : HP := Ex fun s : Option Addr × Nat => Al [Ce b 34 [.slice s.1 acc.length s.2], Row 39 4 (.slice s.1 acc.length s.2) acc.length (acc.flatMap mlCells)]
theorem zb18join10 {G : Prop} (h : G := by
    first
    | (have hs1 : (ofF H nm).isSome = true := by assumption
       have hf1 : ¬ firstB ck = [] := by assumption
       have ho : oldF H ck (ofF H nm) = ofF H (firstB ck) := by rw [oldF, if_neg (by rw [hs1]; simp), if_neg hf1]
       rw [ho]
       exact to_inv ⟨(pa, pc), hxp⟩ trivial ⟨rfl, rfl, rfl, rfl, rfl, rfl, trivial⟩ ent_pick)
    | (have hs1 : (ofF H nm).isSome = true := by assumption
       have hf1 : firstB ck = [] := Classical.not_not.1 (by assumption)
       have ho : oldF H ck (ofF H nm) = some [] := by rw [oldF, if_neg (by rw [hs1]; simp), if_pos hf1]
       rw [ho]
       refine to_inv ⟨(none, 0), Nat.le_refl _, fun b e => by cases e⟩ trivial ⟨rfl, rfl, rfl, rfl, by rw [hs1]; rfl, rfl, trivial⟩ ?_
       simp only [Option.getD_some, Option.getD_none, List.flatMap_nil]
       exact sli_nil.trans ent_pick)
    | (have hs1 : (ofF H nm).isSome = false := by first | assumption | simpa using h25
       have ho : oldF H ck (ofF H nm) = none := by rw [oldF, if_pos hs1]
       rw [ho]
       refine to_inv ⟨(none, 0), Nat.le_refl _, fun b e => by cases e⟩ trivial ⟨rfl, rfl, rfl, rfl, by rw [hs1]; rfl, rfl, trivial⟩ ?_
       simp only [Option.getD_some, Option.getD_none, List.flatMap_nil]
       exact sli_nil.trans ent_pick)) : G := h
set_option maxHeartbeats 8000000 in
theorem links_Changes_sp (b : Nat) (H : Ks) (hH : TxtK H) (hn : H.length ≤ 10000) (hOf : ∀ name, OfSp Tryz.prog 59 b H name) :
    Sp Tryz.prog 18 [.map (some b)] [MapS b H] (X := Option Addr × Nat) (fun x => .slice x.1 (chgF H (cksL H)).length x.2) (fun _ => True) (fun x => [Row 39 4 (.slice x.1 (chgF H (cksL H)).length x.2) (chgF H (cksL H)).length ((chgF H (cksL H)).flatMap mlCells), MapS b H]) := by
 refine Sp.body (n := 53) Tryz.call18 Tryz.func18 rfl rfl rfl ?_
 refine Qc (k:=Zx [_] (k:=fun b1 => Vv (k:=Wq (Qc (k:=Zc [.slice none 0 0] (k:=fun b3 => Wq (Za (k:=Qc (k:=?_)))))))))
 refine Zd (k:=?_)
 refine r_callX (links_Checkins_sp (some b)) rfl rfl rfl (fun cb _ => ?_)
 refine Wq (Zb (k:=?_))
 refine p_rangeFuncX (fun pre => [ChI b3 (chgF H (pre.map ckKey)), Ce b1 31 [.map (some b)], MapS b H]) (fun j pre => [Pu False]) (fun pre => [ChI b3 (chgF H (pre.map ckKey)), Ce b1 31 [.map (some b)]]) rfl (links_Checkins_it cb b H hH (by omega)) rfl (fun _ => by rfl) rfl (fun pre => ?_) (fun pre => ?_) ?_ (fun l pre x hok => ?_) (fun all hfin => ?_) (fun j pre hs => ?_)
 · exact ent_pick
 · exact ent_pick
 · (refine ent_app ?_; refine ent_ex (none, 0) (ent_al ?_); dsimp only; rw [show chgF H (([] : List CkN).map ckKey) = [] from rfl]; exact ent_cons (ent_step row_nil ent_pick))
 ·
  have hpl := okC_len hok
  have hcl : (chgF H (pre.map ckKey)).length ≤ 48 * pre.length := by
   have := chgF_len H (pre.map ckKey)
   rwa [List.length_map] at this
  have hsn : chgF H ((pre ++ [x]).map ckKey) = chgF H (pre.map ckKey) ++ chgOf H (ckKey x) := by rw [List.map_append, List.map_cons, List.map_nil, chgF_snoc]
  obtain ⟨nm, xa, ck⟩ := x
  dsimp only [ckV, ckVals, ckKey] at hsn ⊢
  generalize chgF H (pre.map ckKey) = acc0 at hsn hcl ⊢
  have hpl2 : ck.parents.length ≤ 3 := by
   have := (readK_iff.1 hok.2.2).1.parents.len
   dsimp only at this
   omega
  have hFi := links_First_sp (B := SlI xa.pa (ck.parents.map vS)) xa ck (by omega) sla_sli
  have hcg : chgOf H (nm, ck) = match oldF H ck (ofF H nm) with
   | none => []
   | some old => (diffF old ((ofF H nm).getD [])).map (wthC nm) := rfl
  have hol := ofF_len (H := H) (n := nm)
  have holl := oldF_len (H := H) (c := ck) (own := ofF H nm)
  unfold CkM
  refine wc_al ?_
  refine wc_ent' (ent_pick1 (.there (.there (.there .here)))) ?_
  refine wc_exi fun s => wc_al ?_
  refine Qc (k:=Vv (k:=Wq (Zr (k:=Zc [vS [], vS [], .int .i64 0, .slice none 0 0, .slice none 0 0, .slice none 0 0, vS []] (k:=fun b5 => Zp (k:=Wg (Zb (k:=Qc (k:=Zd (k:=?_))))))))))
  refine Vv (k:=?_)
  refine r_callX (hOf nm) rfl rfl rfl (fun xo hxo => ?_)
  obtain ⟨oa, oc⟩ := xo
  dsimp only at hxo ⊢
  refine Vv (k:=?_)
  refine wo_pv (pv_extract (v := .slice oa ((ofF H nm).getD []).length oc) rfl rfl) rfl ?_
  refine wo_pv (pv_extract (v := vB (ofF H nm).isSome) rfl rfl) rfl ?_
  refine Qv (k:=Wq (Qc (k:=Vv (k:=Wq ?_))))
  refine p_cut (fun (i : { x : Option Addr × Nat // ((oldF H ck (ofF H nm)).getD []).length ≤ x.2 ∧ ∀ b, x.1 = some b → b.spot = none }) => [(1, .pointer (some ⟨b1, 0, none⟩)), (3, .pointer (some ⟨b3, 0, none⟩)), (4, vS nm), (6, .slice oa ((ofF H nm).getD []).length oc), (7, vB (oldF H ck (ofF H nm)).isSome), (8, .slice i.1.1 ((oldF H ck (ofF H nm)).getD []).length i.1.2)]) (fun (i : { x : Option Addr × Nat // ((oldF H ck (ofF H nm)).getD []).length ≤ x.2 ∧ ∀ b, x.1 = some b → b.spot = none }) => [Ce b3 34 [.slice s.1 acc0.length s.2], Row 39 4 (.slice s.1 acc0.length s.2) acc0.length (acc0.flatMap mlCells), SlI oa (((ofF H nm).getD []).flatMap flCells), SlI i.1.1 (((oldF H ck (ofF H nm)).getD []).flatMap flCells), Ce b1 31 [.map (some b)], MapS b H]) rfl (fun i => ?_) ?_
  ·
   obtain ⟨⟨la, lc⟩, hl1, hl2⟩ := i
   dsimp only at hl1 hl2 ⊢
   try dsimp only
   refine Za (k:=Qc (k:=Qv (k:=Wq (Zi (t:=fun h36 => ?_) (f:=fun h36 => ?_)))))
   ·
    refine Ze (k:=Xa (Xb ?_))
    first
    | (have hnone : oldF H ck (ofF H nm) = none := by
         cases e : oldF H ck (ofF H nm) with
         | none => rfl
         | some q => rw [e] at h36; simp at h36
       rw [hnone] at hcg
       refine to_round ?_
       rw [hsn, hcg, List.append_nil]
       refine ent_ex s (ent_al ?_)
       exact ent_pick)
    | (have hjl : D.take j = D := List.take_of_length_le (by omega)
       refine to_round ?_
       try dsimp only
       rw [hsn, hcg, hjl]
       refine ent_ex (sa, sc) (ent_al ?_)
       exact ent_pick)
   ·
    obtain ⟨old, hold⟩ : ∃ q, oldF H ck (ofF H nm) = some q := Option.isSome_iff_exists.1 (by simpa using h36)
    rw [hold] at hcg hl1 holl ⊢
    simp only [Option.getD_some] at hcg hl1 holl ⊢
    have hDf := files_Diff_sp la oa lc oc old ((ofF H nm).getD []) hl1 hxo.1 hl2 hxo.2 (by omega)
    have hdl := diffF_len old ((ofF H nm).getD [])
    refine Zk (k:=Ya (Qc (k:=Qv (k:=?_))))
    refine r_callX hDf rfl rfl rfl (fun xd _ => ?_)
    obtain ⟨da, dc⟩ := xd
    dsimp only at hcg ⊢
    generalize diffF old ((ofF H nm).getD []) = D at hcg hdl ⊢
    refine Qv (k:=Wq (Zb (k:=?_)))
    refine p_loop (fun (i : { x : (Option Addr × Nat) × Nat // x.2 ≤ D.length }) => [(3, .pointer (some ⟨b3, 0, none⟩)), (4, vS nm), (39, .slice da D.length dc), (40, vI D.length), (41, vI i.1.2)]) (fun (i : { x : (Option Addr × Nat) × Nat // x.2 ≤ D.length }) => [Ce b3 34 [.slice i.1.1.1 (acc0 ++ (D.take i.1.2).map (wthC nm)).length i.1.1.2], Row 39 4 (.slice i.1.1.1 (acc0 ++ (D.take i.1.2).map (wthC nm)).length i.1.1.2) (acc0 ++ (D.take i.1.2).map (wthC nm)).length ((acc0 ++ (D.take i.1.2).map (wthC nm)).flatMap mlCells), Row 39 4 (.slice da D.length dc) D.length (D.flatMap mlCells), Ce b1 31 [.map (some b)], MapS b H]) (fun (i : { x : (Option Addr × Nat) × Nat // x.2 ≤ D.length }) => D.length - i.1.2) rfl (⟨(s, 0), Nat.zero_le _⟩) ?_ ?_ (fun i => ?_)
    · exact ⟨rfl, rfl, rfl, rfl, rfl, trivial⟩
    ·
     dsimp only
     rw [List.take_zero, List.map_nil, List.append_nil]
     exact ent_pick
    obtain ⟨⟨⟨sa, sc⟩, j⟩, hj⟩ := i
    dsimp only at hj ⊢
    have hml : (acc0 ++ (D.take j).map (wthC nm)).length = acc0.length + j := by rw [List.length_append, List.length_map, List.length_take]; omega
    try dsimp only
    refine Qc (k:=Vv (k:=Wq (Za (k:=Zi (t:=fun h42 => ?_) (f:=fun h42 => ?_)))))
    ·
     refine Zk (k:=Ya (Za (k:=Zb (k:=Qc (k:=Ye 4 (k:=?_))))))
     refine r_eloada (vs := [vS (D[j]'(by omega)).chk, vS (D[j]'(by omega)).name, vS (D[j]'(by omega)).old, vS (D[j]'(by omega)).new]) (sz := 4) Tryz.underlying39 rfl ti39 rfl rfl (by rw [flat_len (sz := 4) (fun _ => rfl)]; omega) rfl (get_flat (f := mlCells) (fun _ => rfl) (by omega)) rfl ?_
     refine Zc [vS [], vS [], vS [], vS []] (k:=fun b11 => Zp (k:=Wq (Qc (k:=Vv (k:=Vf 0 9 (k:=Zo (k:=Wq (Zr (k:=Zd (k:=Zm [_, _, _, _] (k:=?_)))))))))))
     refine Zv [_] (cs := [_, _, _, _]) (k:=fun b49 => ?_)
     refine r_append1 (sz := 4) (bytes := 64) Tryz.underlying34 ti39 rfl rfl rfl rfl rfl rfl rfl (by rfl) (by rfl) (by omega) (by simp only [maxLen]; omega) rfl (fun a50 c50 => ?_)
     refine Zo (k:=Wn (Yb (Ya (Zr (k:=Qv (k:=Wn ?_))))))
     have hjl : j < D.length := by omega
     have hst : acc0 ++ ((D.take (j + 1)).map (wthC nm)) = acc0 ++ ((D.take j).map (wthC nm)) ++ [⟨nm, D[j].name, D[j].old, D[j].new⟩] := by
      rw [List.take_succ_eq_append_getElem hjl, List.map_append, ← List.append_assoc]
      rfl
     refine to_inv ⟨((a50, c50), j + 1), by dsimp only; omega⟩ (by dsimp only; omega) ⟨rfl, rfl, rfl, rfl, rfl, trivial⟩ ?_
     dsimp only
     rw [hst]
     simp only [List.length_append, List.length_cons, List.length_nil, Nat.zero_add, List.flatMap_append, List.flatMap_cons, List.flatMap_nil, List.append_nil, mlCells]
     exact ent_pick
    ·
     refine Ze (k:=Xa (Xi (Xb (Yb ?_))))
     first
     | (have hnone : oldF H ck (ofF H nm) = none := by
          cases e : oldF H ck (ofF H nm) with
          | none => rfl
          | some q => rw [e] at h36; simp at h36
        rw [hnone] at hcg
        refine to_round ?_
        rw [hsn, hcg, List.append_nil]
        refine ent_ex s (ent_al ?_)
        exact ent_pick)
     | (have hjl : D.take j = D := List.take_of_length_le (by omega)
        refine to_round ?_
        try dsimp only
        rw [hsn, hcg, hjl]
        refine ent_ex (sa, sc) (ent_al ?_)
        exact ent_pick)
  ·
   refine Qc (k:=Zm [_, _, _, _, _, _, _] (k:=?_))
   refine r_call1 hFi rfl rfl rfl ?_
   refine Vv (k:=Wq (Qc (k:=Qv (k:=Gi 1 (t:=fun h25 => ?_) (f:=fun h25 => ?_)))))
   ·
    refine J1 (k:=J1 (k:=P1 (k:=Wq (Zi (t:=fun h28 => ?_) (f:=fun h28 => ?_)))))
    ·
     refine Zr (k:=Zd (k:=Vv (k:=?_)))
     refine r_callX (hOf (firstB ck)) rfl rfl rfl (fun xp hxp => ?_)
     obtain ⟨pa, pc⟩ := xp
     dsimp only at hxp ⊢
     refine Vv (k:=?_)
     refine wo_pv (pv_extract (v := .slice pa ((ofF H (firstB ck)).getD []).length pc) rfl rfl) rfl ?_
     refine wo_pv (pv_extract (v := vB (ofF H (firstB ck)).isSome) rfl rfl) rfl ?_
     refine Qv (k:=Wn ?_)
     exact zb18join10
    ·
     refine Zk (k:=?_)
     exact zb18join10
   ·
    refine O0 (k:=O0 (k:=P0 (k:=Wq (Z0 (k:=Zk (k:=?_))))))
    exact zb18join10
 ·
  simp only [List.cons_append, List.nil_append]
  rw [show chgF H (all.map ckKey) = chgF H (cksL H) from by rw [show all.map ckKey = cksL H from hfin]]
  refine Yb (Ya (Za (k:=?_)))
  refine wc_exi fun s => wc_al ?_
  refine Zr (k:=Zd (k:=Vv (k:=Wq (Zt (k:=?_)))))
  exact fin_ret s (vs := [_]) (Cs := []) rfl (.tmp rfl .nil) rfl trivial ent_pick
 ·
  exact wc_no (fun s => by obtain ⟨_, _, _, _, a, _⟩ := s; exact a)
end
section
/-- A map with a new entry at k that is not filled yet; its age. -/
def MapN (b : Nat) (ks : Ks) (k : List UInt8) (st : Nat) : HP :=
 ⟨fun _ h => ∃ (es : Array MapEntry) (z : Value), h = Res.one b (.map (es.push { key := vS k, val := z, born := st }) (st + 1)) ∧ MapG es st ks ∧ mfind ks k 0 = none, fun _ e => e⟩
section
variable {r : Option Nat} {P : Program} {n : Nat} {ops : Array Oper} {os : List Oper} {A : List HP} {L : Loc} {Hs : List HP} {Q : Out} {ty : TypeId} {d : Nat} {pos : String} {after : Array Edge}
theorem opt_mapEntry {dst : Option Tmp} {t kt e : TypeId} {i : TypeInfo} {z : Value} {x y : Operand} {b : Nat} {ks : Ks} {k : List UInt8} (ht : P.underlying t = some (.map kt e)) (hk : P.underlying kt = some .string) (hi : P.info? e = some i) (hz : i.zero = some z)
    (hx : ev L x = some (.map (some b))) (hy : ev L y = some (vS k)) (hno : k ∉ ks.map (·.1)) :
    OpT r P n ⟨dst, .mapEntry t x y, ty, pos, after, none⟩ A L [MapS b ks] (fun st : Nat => .tuple #[z, vI st]) (fun _ => True) (fun st => [MapN b ks k st]) := by
 refine opt_turnX (fun a f w M h1 hf dj tt hm => ?_)
 obtain ⟨es, clock, e1, g⟩ := hm
 subst e1
 have hb : w.heap[b]? = some (.map es clock) := tt.ow _ _ (by simp [Res.add, Res.one])
 have hc := run_checkKey (P := P) hk false k w 9999
 have hfk := run_findKey (P := P) hk g k w
 have hzv : (zeroValue e).run P w = .ok z w := by simp [zeroValue, typeInfo, program, Sem.run, hi, hz]
 have hm : mfind ks k 0 = none := by
  cases hm : mfind ks k 0 with
  | none => rfl
  | some p =>
    obtain ⟨j, u⟩ := p
    obtain ⟨m, _, hlt, _, h4, _⟩ := mfind_some hm
    exact absurd (List.mem_iff_getElem?.2 ⟨m, by rw [List.getElem?_map, h4]; rfl⟩) hno
 rw [hm] at hfk
 refine ⟨clock, _, Res.one b (.map (es.push { key := vS k, val := z, born := clock }) (clock + 1)), trivial, dj_one_any dj, sat_setBlock _ dj tt, ⟨es, z, rfl, g, hm⟩, ?_⟩
 simp [execOp, f.ev hx, f.ev hy, Instr.mapEntry, run_underlying ht, MapKept.run_getObj_map hb, hc, hfk, hzv, MapKept.run_setObj_map _ hb, goInt]
theorem opt_entryStore {t : TypeId} {x y z : Operand} {b st : Nat} {ks : Ks} {k : List UInt8} {v : Value} (hx : ev L x = some (.map (some b))) (hy : ev L y = some (vI st)) (hz : ev L z = some v) :
    OpT r P n ⟨none, .entryStore t x y z, ty, pos, after, none⟩ A L [MapN b ks k st] (fun _ : Unit => undef) (fun _ => True) (fun _ => [MapS b (mput ks k v)]) := by
 refine opt_turn (fun a f w M h1 hf dj tt hm => ?_)
 obtain ⟨es, z0, e1, g, hm⟩ := hm
 subst e1
 have hb : w.heap[b]? = some (.map (es.push { key := vS k, val := z0, born := st }) (st + 1)) := tt.ow _ _ (by simp [Res.add, Res.one])
 have hfi : (es.push { key := vS k, val := z0, born := st }).findIdx? (fun e => (e.born : Int) == (st : Int)) = some es.size := by
  rw [Array.findIdx?_push]
  have h0 : es.findIdx? (fun e => (e.born : Int) == (st : Int)) = none := by
   rw [Array.findIdx?_eq_none_iff]
   intro e he
   have := g.old e (by simpa using he)
   simp only [beq_eq_false_iff_ne, ne_eq]
   omega
  rw [h0]
  simp
 have hmd : (es.push { key := vS k, val := z0, born := st }).modify es.size (fun e => { e with val := v }) = es.push { key := vS k, val := v, born := st } := by
  apply Array.ext'
  rw [Array.toList_modify, Array.toList_push, Array.toList_push]
  apply List.ext_getElem?
  intro j
  rw [List.getElem?_modify]
  by_cases hj : es.size = j
  · subst hj
    simp
  · simp only [hj, if_false]
    by_cases h2 : j < es.size
    · rw [List.getElem?_append_left (by simpa using h2), List.getElem?_append_left (by simpa using h2)]; simp
    · rw [List.getElem?_append_right (by simp; omega), List.getElem?_append_right (by simp; omega)]
      have : j - es.toList.length ≠ 0 := by simp; omega
      cases h3 : j - es.toList.length with
      | zero => exact absurd h3 this
      | succ q => simp
 refine ⟨_, Res.one b (.map (es.push { key := vS k, val := v, born := st }) (st + 1)), dj_one_any dj, sat_setBlock _ dj tt, ⟨_, _, rfl, g.put k v hm⟩, .inr ⟨?_, rfl⟩⟩
 have hai : (asIntOf (vI (st : Int))).run P w = .ok (IntKind.i64, (st : Int)) w := rfl
 simp [execOp, f.ev hx, f.ev hy, f.ev hz, Instr.entryStore, hai, MapKept.run_getObj_map hb, asInt, hfi, hmd, MapKept.run_setObj_map _ hb]
end
end
section
set_option maxRecDepth 100000
/-- Tables, as they lie in memory. -/
structure DvS where
 pa : Option Addr
 pc : Nat
 pl : List Pl
 ma : Option Addr
 mc : Nat
 ml : List Ml
 ta : Option Addr
 tc : Nat
 tg : List Tgd
 la : Option Addr
 lc : Nat
 lf : List Lf
abbrev DvS.v (t : DvS) : List Value := [.slice t.pa t.pl.length t.pc, .slice t.ma t.ml.length t.mc, .slice t.ta t.tg.length t.tc, .slice t.la t.lf.length t.lc]
abbrev DvS.hs (t : DvS) : List HP := [Row 37 3 (.slice t.pa t.pl.length t.pc) t.pl.length (t.pl.flatMap plCells), Row 39 4 (.slice t.ma t.ml.length t.mc) t.ml.length (t.ml.flatMap mlCells), Row 90 6 (.slice t.ta t.tg.length t.tc) t.tg.length (t.tg.flatMap tgdVals), Row 63 2 (.slice t.la t.lf.length t.lc) t.lf.length (t.lf.flatMap lfCells)]
/-- The tables of what is held. -/
structure TabP (H : Ks) (x : DvS) : Prop where
 pl : x.pl.Perm (plF (cksL H)) ∧ x.pl.Pairwise fun x y => ltOf (fun x y => cmp2 (plKey x) (plKey y)) y x = false
 ml : x.ml = chgF H (cksL H)
 tg : x.tg = tblT (cksL H) (lastL H)
 lf : x.lf.Perm (lvL H) ∧ x.lf.Pairwise fun x y => ltOf (fun x y => cmp2 (lfKey x) (lfKey y)) y x = false
set_option maxHeartbeats 4000000 in
theorem derive_Rebuild_sp (b : Nat) (H : Ks) (hH : TxtK H) (hnd : (H.map (·.1)).Nodup) (hn : H.length ≤ 1000) (hOf : ∀ name, OfSp Tryz.prog 59 b H name) :
    Sp Tryz.prog 43 [.map (some b)] [MapS b H] (X := DvS) (fun x => .agg x.v.toArray) (TabP H) (fun x => x.hs ++ [MapS b H]) := by
 have hP := links_Parents_sp b H hH (by omega)
 have hM := links_Changes_sp b H hH (by omega) hOf
 have hT := tags_Table_sp b H hH hnd hn
 have hL := heads_Leaves_sp b H hH hnd (by omega)
 refine Sp.body (n := 12) Tryz.call43 Tryz.func43 rfl rfl rfl ?_
 refine Qc (k:=Zc [.slice none 0 0, .slice none 0 0, .slice none 0 0, .slice none 0 0] (k:=fun b2 => Wq (Qc (k:=Vv (k:=?_)))))
 refine r_callX hP rfl rfl rfl (fun x4 hx4 => ?_)
 obtain ⟨⟨pa, pc⟩, pl⟩ := x4
 dsimp only at hx4 ⊢
 refine Vv (k:=?_)
 refine r_callX hM rfl rfl rfl (fun x6 _ => ?_)
 obtain ⟨ma, mc⟩ := x6
 dsimp only
 refine Vv (k:=?_)
 refine r_callX hT rfl rfl rfl (fun x8 _ => ?_)
 obtain ⟨ta, tc⟩ := x8
 dsimp only
 refine Vv (k:=?_)
 refine r_callX hL rfl rfl rfl (fun x10 hx10 => ?_)
 obtain ⟨⟨la, lc⟩, lf⟩ := x10
 dsimp only at hx10 ⊢
 refine Vx (Ps [_, _, _, _]) (k:=Zp (k:=Wq (Zt (k:=?_))))
 refine fin_ret ⟨pa, pc, pl, ma, mc, chgF H (cksL H), ta, tc, tblT (cksL H) (lastL H), la, lc, lf⟩ (vs := [_]) (Cs := [Ce b2 82 [.slice pa pl.length pc, .slice ma (chgF H (cksL H)).length mc, .slice ta (tblT (cksL H) (lastL H)).length tc, .slice la lf.length lc]]) rfl (.cell (l := [.slice pa pl.length pc, .slice ma (chgF H (cksL H)).length mc, .slice ta (tblT (cksL H) (lastL H)).length tc, .slice la lf.length lc]) rfl (shows_ce (T := 82)) Tryz.underlying82 rfl ti82 (by exact Nat.le_of_ble_eq_true rfl) rfl .nil) rfl ⟨hx4, rfl, rfl, hx10⟩ ?_
 dsimp only [DvS.hs]
 exact (ce_norm (b := b2) (T := 82) (l' := [.slice pa pl.length pc, .slice ma (chgF H (cksL H)).length mc, .slice ta (tblT (cksL H) (lastL H)).length tc, .slice la lf.length lc]) (by rfl) (by rfl)).trans ent_pick
theorem zb42ret {G : Prop} (h : G := by
    refine fin_ret () (vs := [_]) (Cs := []) rfl (.tmp rfl .nil) ?_ trivial ent_pick
    simp_all [pack]) : G := h
set_option maxHeartbeats 4000000 in
theorem derive_Same_sp (x y : DvS) (hx : x.pl.length ≤ 1000000 ∧ x.ml.length ≤ 1000000 ∧ x.tg.length ≤ 1000000 ∧ x.lf.length ≤ 1000000) :
    Sp1 Tryz.prog 42 [.agg x.v.toArray, .agg y.v.toArray] (x.hs ++ y.hs) (vB (decide (x.pl = y.pl) && (decide (x.ml = y.ml) && (decide (x.tg = y.tg) && decide (x.lf = y.lf))))) (x.hs ++ y.hs) := by
 obtain ⟨pa, pc, pl, ma, mc, ml, ta, tc, tl, la, lc, ll⟩ := x
 obtain ⟨pa', pc', pl', ma', mc', ml', ta', tc', tl', la', lc', ll'⟩ := y
 dsimp only [DvS.v, DvS.hs] at hx ⊢
 obtain ⟨h1, h2, h3, h4⟩ := hx
 have e1 := slices_EqualPl_sp (As := [Row 37 3 (.slice pa pl.length pc) pl.length (pl.flatMap plCells), Row 37 3 (.slice pa' pl'.length pc') pl'.length (pl'.flatMap plCells)]) (a := pa) (a' := pa') pl.length pl'.length pc pc' pl pl' rfl rfl (by omega)
 have e2 := slices_EqualMl_sp (As := [Row 39 4 (.slice ma ml.length mc) ml.length (ml.flatMap mlCells), Row 39 4 (.slice ma' ml'.length mc') ml'.length (ml'.flatMap mlCells)]) (a := ma) (a' := ma') ml.length ml'.length mc mc' ml ml' rfl rfl (by omega)
 have e3 := slices_EqualTg_sp (As := [Row 90 6 (.slice ta tl.length tc) tl.length (tl.flatMap tgdVals), Row 90 6 (.slice ta' tl'.length tc') tl'.length (tl'.flatMap tgdVals)]) (a := ta) (a' := ta') tl.length tl'.length tc tc' tl tl' rfl rfl (by omega)
 have e4 := slices_EqualLf_sp (As := [Row 63 2 (.slice la ll.length lc) ll.length (ll.flatMap lfCells), Row 63 2 (.slice la' ll'.length lc') ll'.length (ll'.flatMap lfCells)]) (a := la) (a' := la') ll.length ll'.length lc lc' ll ll' rfl rfl (by omega)
 refine Sp.body (n := 31) Tryz.call42 Tryz.func42 rfl rfl rfl ?_
 refine Qc (k:=Zx [_, _, _, _] (k:=fun b2 => Zx [_, _, _, _] (k:=fun b3 => Vv (k:=Wq (Qc (k:=Qx 0 32 (k:=Qx 0 32 (k:=?_))))))))
 refine r_call1 e1 rfl rfl rfl ?_
 refine Vv (k:=Gi 5 (t:=fun h10 => ?_) (f:=fun h10 => ?_))
 ·
  refine I1 (k:=Vf 1 34 (k:=I1 (k:=Zd (k:=I1 (k:=Vf 1 34 (k:=I1 (k:=Zd (k:=I1 (k:=?_)))))))))
  refine r_call1 e2 rfl rfl rfl ?_
  refine P1 (k:=Vv (k:=Gi 12 (t:=fun h17 => ?_) (f:=fun h17 => ?_)))
  ·
   refine I1 (k:=Vf 2 80 (k:=I1 (k:=Zd (k:=I1 (k:=Vf 2 80 (k:=I1 (k:=Zd (k:=I1 (k:=?_)))))))))
   refine r_call1 e3 rfl rfl rfl ?_
   refine P1 (k:=Vv (k:=Gi 19 (t:=fun h24 => ?_) (f:=fun h24 => ?_)))
   ·
    refine I1 (k:=Vf 3 64 (k:=I1 (k:=Zd (k:=I1 (k:=Vf 3 64 (k:=I1 (k:=Zd (k:=I1 (k:=?_)))))))))
    refine r_call1 e4 rfl rfl rfl ?_
    refine P1 (k:=Vv (k:=Wq (Zt (k:=?_))))
    exact zb42ret
   ·
    refine O0 (k:=O0 (k:=O0 (k:=O0 (k:=O0 (k:=P0 (k:=Vv (k:=Wq (Zt (k:=?_)))))))))
    exact zb42ret
  ·
   refine O0 (k:=O0 (k:=O0 (k:=O0 (k:=O0 (k:=P0 (k:=Vv (k:=O0 (k:=O0 (k:=O0 (k:=O0 (k:=O0 (k:=?_))))))))))))
   refine P0 (k:=Vv (k:=Wq (Zt (k:=?_))))
   exact zb42ret
 ·
  refine O0 (k:=O0 (k:=O0 (k:=O0 (k:=O0 (k:=P0 (k:=Vv (k:=O0 (k:=O0 (k:=O0 (k:=O0 (k:=O0 (k:=?_))))))))))))
  refine P0 (k:=Vv (k:=O0 (k:=O0 (k:=O0 (k:=O0 (k:=O0 (k:=P0 (k:=Vv (k:=Wq (Zt (k:=?_)))))))))))
  exact zb42ret
end
section
set_option maxRecDepth 100000
section
variable {r : Option Nat} {P : Program} {n : Nat} {ops : Array Oper} {os : List Oper} {L : Loc} {Hs : List HP} {Q : Out} {ty : TypeId} {d : Nat} {pos : String} {after : Array Edge}
theorem r_mapEntry {t kt e : TypeId} {i : TypeInfo} {z : Value} {x y : Operand} {b : Nat} {ks : Ks} {k : List UInt8} {Rs : List HP} (ht : P.underlying t = some (.map kt e)) (hk : P.underlying kt = some .string) (hi : P.info? e = some i) (hz : i.zero = some z)
    (hx : ev L x = some (.map (some b))) (hy : ev L y = some (vS k)) (hno : k ∉ ks.map (·.1)) [h : MapPC b ks Hs Rs] (hd : Nat.blt d n = true)
    (K : ∀ st : Nat, wo r P n ops os ((d, .tuple #[z, vI st]) :: L) (MapN b ks k st :: Rs) Q) : wo r P n ops (⟨some d, .mapEntry t x y, ty, pos, after, none⟩ :: os) L Hs Q := by
 haveI : PicksC [MapS b ks] Hs Rs := ⟨.cons h.get .nil⟩
 exact wo_opT (by intro c; simp) (opt_mapEntry ht hk hi hz hx hy hno) (by simpa [dstOk] using hd) (fun st _ => K st)
theorem r_entryStore {t : TypeId} {x y z : Operand} {b st : Nat} {ks : Ks} {k : List UInt8} {v : Value} {Rs : List HP} (hx : ev L x = some (.map (some b))) (hy : ev L y = some (vI st)) (hz : ev L z = some v) [h : PicksC [MapN b ks k st] Hs Rs]
    (K : wo r P n ops os L (MapS b (mput ks k v) :: Rs) Q) : wo r P n ops (⟨none, .entryStore t x y z, ty, pos, after, none⟩ :: os) L Hs Q :=
 wo_opT (by intro c; simp) (opt_entryStore hx hy hz (ks := ks) (k := k)) rfl (fun _ _ => K)
end
abbrev DvC (p m : Nat) (t : DvS) (st : Bool) : HP := Ce p 153 [.map (some m), .slice t.pa t.pl.length t.pc, .slice t.ma t.ml.length t.mc, .slice t.ta t.tg.length t.tc, .slice t.la t.lf.length t.lc, .bool st]
def dv0 : DvS := ⟨none, 0, [], none, 0, [], none, 0, [], none, 0, []⟩
theorem derive_New_sp : Sp Tryz.prog 39 [] [] (X := Nat × Nat) (fun x => .pointer (some ⟨x.1, 0, none⟩)) (fun _ => True) (fun x => [Ce x.1 153 [.map (some x.2), .slice none 0 0, .slice none 0 0, .slice none 0 0, .slice none 0 0, .bool false], MapS x.2 []]) := by
 refine Sp.body (n := 4) Tryz.call39 Tryz.func39 rfl rfl rfl ?_
 refine Qc (k:=Vv (k:=Wq (Qc (k:=?_))))
 refine r_mkmap rfl (fun b1 => ?_)
 refine Vx (Ps [_, .slice none 0 0, .slice none 0 0, .slice none 0 0, .slice none 0 0, .bool false]) (k:=Zx [_, _, _, _, _, _] (k:=fun b3 => Vv (k:=Wq (Zt (k:=?_)))))
 exact fin_ret (b3, b1) (vs := [_]) (Cs := []) rfl (.tmp rfl .nil) rfl trivial ent_pick
set_option maxHeartbeats 2000000 in
theorem derive_Add_sp (p m : Nat) (t : DvS) (st : Bool) (K : Ks) (name content : Bs) (hno : name ∉ K.map (·.1)) :
    Sp1 Tryz.prog 40 [.pointer (some ⟨p, 0, none⟩), vS name, vS content] [DvC p m t st, MapS m K] (.tuple #[]) [DvC p m t true, MapS m (mput K name (vS content))] := by
 have hlk : (mlook K name).isSome = false := by
  cases h : mlook K name with
  | none => rfl
  | some v => exact absurd (mlook_isSome.1 (by rw [h]; rfl)) hno
 refine Sp.body (n := 30) Tryz.call40 Tryz.func40 rfl rfl rfl ?_
 refine Qc (k:=Qv (k:=Qx 0 31 (k:=Vv (k:=?_))))
 refine r_lookup (ok := true) (v := .tuple #[(mlook K name).getD (vS []), .bool (mlook K name).isSome]) Tryz.underlying31 Tryz.underlying9 ti9 rfl rfl rfl rfl rfl ?_
 rw [hlk]
 refine Vv (k:=?_)
 refine wo_pv (pv_extract (v := (mlook K name).getD (vS [])) rfl rfl) rfl ?_
 refine wo_pv (pv_extract (v := .bool false) rfl rfl) rfl ?_
 refine Qv (k:=Wq (Qc (k:=Qv (k:=Wq (Zi (t:=fun h18 => ?_) (f:=fun h18 => ?_))))))
 ·
  skip
  refine Zr (k:=Qv (k:=Qx 0 31 (k:=Qv (k:=Vv (k:=?_)))))
  refine r_mapEntry Tryz.underlying31 Tryz.underlying9 ti9 rfl rfl rfl hno rfl (fun st26 => ?_)
  refine wo_pv (pv_extract (v := vI st26) rfl rfl) rfl ?_
  refine r_entryStore (ks := K) (k := name) rfl rfl rfl ?_
  refine Vv (k:=Vf 5 4 (k:=Zo (k:=Wn ?_)))
  exact fin_end () (vs := []) (Cs := []) rfl .nil rfl trivial ent_pick
 ·
  simp at h18
  --done
set_option maxHeartbeats 2000000 in
theorem derive_Held_sp (p m : Nat) (t : DvS) (st : Bool) (K : Ks) :
    Sp Tryz.prog 44 [.pointer (some ⟨p, 0, none⟩)] [DvC p m t st, MapS m K] (X := Nat) (fun i => .map (some i)) (fun _ => True) (fun i => [DvC p m t st, MapS m K, MapS i K]) := by
 refine Sp.body (n := 8) Tryz.call44 Tryz.func44 rfl rfl rfl ?_
 refine Qc (k:=Vv (k:=Wq (Qc (k:=Qv (k:=Qx 0 31 (k:=?_))))))
 refine r_callX (maps_Clone_sp m K) rfl rfl rfl (fun i _ => ?_)
 refine Vv (k:=Wq (Zt (k:=?_)))
 exact fin_ret i (vs := [_]) (Cs := []) rfl (.tmp rfl .nil) rfl trivial ent_pick
/-- Another place for the same tables. -/
def DvS.at_ (t : DvS) (x : (Option Addr × Nat) × (Option Addr × Nat) × (Option Addr × Nat) × (Option Addr × Nat)) : DvS := ⟨x.1.1, x.1.2, t.pl, x.2.1.1, x.2.1.2, t.ml, x.2.2.1.1, x.2.2.1.2, t.tg, x.2.2.2.1, x.2.2.2.2, t.lf⟩
structure DvS.Sm (t : DvS) : Prop where
 pl : t.pl.length ≤ 1000000
 ml : t.ml.length ≤ 1000000
 tg : t.tg.length ≤ 1000000
 lf : t.lf.length ≤ 1000000
set_option maxHeartbeats 4000000 in
theorem derive_Tables_sp (p m : Nat) (t : DvS) (K : Ks) (hH : TxtK K) (hnd : (K.map (·.1)).Nodup) (hn : K.length ≤ 1000) (hOf : ∀ name, OfSp Tryz.prog 59 m K name) (hS : ∀ t, TabP K t → t.Sm) :
    Sp Tryz.prog 41 [.pointer (some ⟨p, 0, none⟩)] ([DvC p m t true, MapS m K] ++ t.hs) (X := DvS × (Option Addr × Nat) × (Option Addr × Nat) × (Option Addr × Nat) × (Option Addr × Nat)) (fun x => .agg (x.1.at_ x.2).v.toArray) (fun x => TabP K x.1) (fun x => (x.1.at_ x.2).hs ++ ([DvC p m x.1 false, MapS m K] ++ x.1.hs)) := by
 have hR := derive_Rebuild_sp m K hH hnd hn hOf
 refine Sp.body (n := 36) Tryz.call41 Tryz.func41 rfl rfl rfl ?_
 refine Qc (k:=Zc [.slice none 0 0, .slice none 0 0, .slice none 0 0, .slice none 0 0] (k:=fun b2 => Wq (Za (k:=Qc (k:=Qv (k:=Qx 5 4 (k:=Wq ?_)))))))
 refine Zi (t:=fun h7 => ?_) (f:=fun h7 => ?_)
 ·
  refine Zr (k:=Qv (k:=Qv (k:=Qx 0 31 (k:=?_))))
  refine r_callX hR rfl rfl rfl (fun t14 ht14 => ?_)
  have hsm := hS t14 ht14
  obtain ⟨pa, pc, pl, ma, mc, ml, ta, tc, tl, la, lc, ll⟩ := t14
  obtain ⟨h1, h2, h3, h4⟩ := hsm
  dsimp only [DvS.v, DvS.hs] at h1 h2 h3 h4 ⊢
  refine Vv (k:=Vf 1 82 (k:=Zp (k:=Vv (k:=Vf 5 4 (k:=Zo (k:=Wq (Qc (k:=Qv (k:=Vf 1 82 (k:=?_))))))))))
  refine Zm [_, _, _, _] (k:=Zc [.slice none 0 0, .slice none 0 0, .slice none 0 0, .slice none 0 0] (k:=fun b3 => Zp (k:=Wq (Za (k:=?_)))))
  refine wc_ent' (ce_norm (b := b3) (T := 82) (l' := [.slice pa pl.length pc, .slice ma ml.length mc, .slice ta tl.length tc, .slice la ll.length lc]) (by rfl) (by rfl)) ?_
  refine Dw [Ce b3 82 [.slice pa pl.length pc, .slice ma ml.length mc, .slice ta tl.length tc, .slice la ll.length lc]] (k:=?_)
  refine Di 0 (t:=Uf 0 32) (k:=Di 1 (t:=Ul) (k:=Di 3 (t:=Uf 1 34) (k:=Di 4 (t:=Ul) (k:=Di 6 (t:=Uf 2 80) (k:=Di 7 (t:=Ul) (k:=Di 9 (t:=Uf 3 64) (k:=Di 10 (t:=Ul) (k:=Dn 2 (k:=?_)))))))))
  refine an_callX (slices_ClonePl_sp pa pc pl h1) rfl rfl rfl (fun x25 _ => ?_)
  obtain ⟨qa, qc⟩ := x25
  dsimp only
  refine Dn 5 (k:=?_)
  refine an_callX (slices_CloneMl_sp ma mc ml h2) rfl rfl rfl (fun x28 _ => ?_)
  obtain ⟨ra, rc⟩ := x28
  dsimp only
  refine Dn 8 (k:=?_)
  refine an_callX (slices_CloneTg_sp ta tc tl h3) rfl rfl rfl (fun x31 _ => ?_)
  obtain ⟨sa, sc⟩ := x31
  dsimp only
  refine Dn 11 (k:=?_)
  refine an_callX (slices_CloneLf_sp la lc ll h4) rfl rfl rfl (fun x34 _ => ?_)
  obtain ⟨ua, uc⟩ := x34
  dsimp only
  refine Di 12 (t:=Ux (Ps [_, _, _, _])) (k:=Dn 13 (k:=Na (k:=Dd (k:=Ya (Zt (k:=?_))))))
  refine fin_ret (⟨pa, pc, pl, ma, mc, ml, ta, tc, tl, la, lc, ll⟩, (qa, qc), (ra, rc), (sa, sc), (ua, uc)) (vs := [_]) (Cs := [Ce b2 82 [.slice qa pl.length qc, .slice ra ml.length rc, .slice sa tl.length sc, .slice ua ll.length uc]]) rfl (.cell (l := [.slice qa pl.length qc, .slice ra ml.length rc, .slice sa tl.length sc, .slice ua ll.length uc]) rfl (shows_ce (T := 82)) Tryz.underlying82 rfl ti82 (by exact Nat.le_of_ble_eq_true rfl) rfl .nil) rfl ht14 ?_
  dsimp only [DvS.hs, DvS.at_, DvC]
  simp only [List.cons_append, List.nil_append]
  exact ent_pick
 ·
  cases h7
  --done
end
section
def me : Bs := [109, 101]
def ckMe (ps : List Bs) (ts : List Tg) (u : Bs) (d : Int) : Ck := ⟨[], [], d, [], ps, ts, u⟩
theorem right_me {ps : List Bs} {ts : List Tg} {u : Bs} {d : Int} (hp : ∀ p ∈ ps, isN p = true) (hn : ps.Nodup) (hl : ps.length ≤ 3) (ht : RightT true ts) (hu : wordP u) (hd : 0 ≤ d ∧ d ≤ 1073741824) : RightK (ckMe ps ts u d) := by
 refine ⟨.inl rfl, Nat.zero_le _, hd, ⟨fun i hi => absurd hi (Nat.not_lt_zero _), Nat.zero_le _⟩, ⟨fun i hi => ?_, by show (ps.length : Int) ≤ 3; omega⟩, ht, hu⟩
 have hi : i < ps.length := hi
 have hg : ps.getD i [] = ps[i] := by simp [hi]
 show isN (ps.getD i []) = true ∧ ps.getD i [] ∉ ps.take i
 rw [hg]
 refine ⟨hp _ (List.getElem_mem hi), fun hm => ?_⟩
 obtain ⟨j, hj, e⟩ := List.getElem_of_mem hm
 rw [List.length_take] at hj
 rw [List.getElem_take] at e
 have := nodup_inj hn (by omega) hi e
 omega
theorem right_z {c : Ck} (h : RightK c) : CkZ c := by
 have e := (prgCk_some (prgCk_cards h)).2.2.2.2.2.2
 have := ckZ_prg (ck_small h) (by decide)
 rwa [← e] at this
theorem right_read {c : Ck} (h : RightK c) : readK (ckB c) = some c := readK_iff.2 ⟨h, rfl⟩
theorem ckB_len {c : Ck} (h : RightK c) : (ckB c).length ≤ 10043 := by
 have := ck_small h
 rw [ckB, printB, sealB_len]; omega
theorem opsB_ck {c : Ck} (h : RightK c) (n : Bs) : opsB n (ckB c) = (c.tags.map fun t => { t with target := n }, c.date) := by rw [opsB, right_read h]
/-! What is held. -/
structure HeldP (K : Ks) (L : List (Bs × Bs)) : Prop where
 perm : K.Perm (L.map fun p => (p.1, vS p.2))
 nd : (L.map (·.1)).Nodup
 tx : ∀ p ∈ L, p.2.length ≤ 1073741824
namespace HeldP
variable {K : Ks} {L : List (Bs × Bs)} (h : HeldP K L)
include h
theorem keys : (K.map (·.1)).Perm (L.map (·.1)) := by
 have := h.perm.map (·.1)
 rwa [List.map_map] at this
theorem knd : (K.map (·.1)).Nodup := h.keys.nodup_iff.2 h.nd
theorem txt : TxtK K := fun p hp => by
 obtain ⟨q, hq, e⟩ := List.mem_map.1 (h.perm.mem_iff.1 hp)
 rw [← e]
 exact ⟨q.2, rfl, h.tx q hq⟩
theorem len : K.length = L.length := by have := h.perm.length_eq; rwa [List.length_map] at this
theorem get {p : Bs × Bs} (hp : p ∈ L) : getB K p.1 = p.2 := by
 have hm : (p.1, vS p.2) ∈ K := h.perm.mem_iff.2 (List.mem_map_of_mem (f := fun p : Bs × Bs => (p.1, vS p.2)) hp)
 unfold getB
 rw [mlook_of_mem h.knd hm]
 simp [bytesV, vS]
theorem mem {n : Bs} : n ∈ keysS K ↔ n ∈ L.map (·.1) := by rw [keysS_mem]; exact h.keys.mem_iff
theorem sd {s : Sd} : s ∈ sdL K ↔ ∃ p ∈ L, ∃ t ∈ (opsB p.1 p.2).1, s = ⟨t, (opsB p.1 p.2).2, p.1⟩ := by
 unfold sdL sdF
 rw [List.mem_flatMap]
 constructor
 · rintro ⟨n, hn, hs⟩
   obtain ⟨p, hp, rfl⟩ := List.mem_map.1 (h.mem.1 hn)
   obtain ⟨t, ht, e⟩ := List.mem_map.1 hs
   rw [h.get hp] at ht e
   exact ⟨p, hp, t, ht, e.symm⟩
 · rintro ⟨p, hp, t, ht, e⟩
   refine ⟨p.1, h.mem.2 (List.mem_map_of_mem (f := fun p : Bs × Bs => p.1) hp), ?_⟩
   refine List.mem_map.2 ⟨t, ?_, ?_⟩
   · rw [h.get hp]; exact ht
   · rw [h.get hp]; exact e.symm
theorem cks {x : Bs × Ck} : x ∈ cksL K ↔ ∃ p ∈ L, p.1 = x.1 ∧ readK p.2 = some x.2 := by
 unfold cksL
 rw [cks_mem]
 constructor
 · rintro ⟨h1, h2⟩
   obtain ⟨p, hp, e⟩ := List.mem_map.1 (h.mem.1 h1)
   rw [← e, h.get hp] at h2
   exact ⟨p, hp, e, h2⟩
 · rintro ⟨p, hp, e, h2⟩
   rw [← e]
   exact ⟨h.mem.2 (List.mem_map_of_mem (f := fun p : Bs × Bs => p.1) hp), by rw [h.get hp]; exact h2⟩
theorem cnd : ((cksL K).map (·.1)).Nodup := ((sortB_perm _).nodup_iff.2 h.knd).sublist (cksF_sub K _)
theorem ck {n : Bs} {s : Bs} {c : Ck} (hp : (n, s) ∈ L) (hr : readK s = some c) : clook (cksL K) n = some c := by
 have hm : (n, c) ∈ cksL K := h.cks.2 ⟨(n, s), hp, rfl, hr⟩
 have hn := h.cnd
 generalize cksL K = C at hm hn
 induction C with
 | nil => cases hm
 | cons a r ih =>
   simp only [List.map_cons, List.nodup_cons] at hn
   rw [clook]
   rcases List.mem_cons.1 hm with e | e
   · subst e; rw [if_pos rfl]
   · rw [if_neg (fun e2 => hn.1 (by rw [e2]; exact List.mem_map_of_mem (f := fun p : Bs × Ck => p.1) e))]
     exact ih e hn.2
theorem put {n s : Bs} (hn : n ∉ L.map (·.1)) (hs : s.length ≤ 1073741824) : HeldP (mput K n (vS s)) (L ++ [(n, s)]) := by
 have hk : n ∉ K.map (·.1) := fun hm => hn (h.keys.mem_iff.1 hm)
 have hp : ∀ (ks : Ks), n ∉ ks.map (·.1) → mput ks n (vS s) = ks ++ [(n, vS s)] := by
  intro ks
  induction ks with
  | nil => intro _; rfl
  | cons p r ih =>
    intro hn
    simp only [List.map_cons, List.mem_cons, not_or] at hn
    rw [mput, if_neg (fun e => hn.1 e.symm), ih hn.2]; rfl
 refine ⟨?_, ?_, fun p hp => ?_⟩
 · rw [hp K hk, List.map_append]
   exact h.perm.append_right _
 · rw [List.map_append, List.nodup_append]
   exact ⟨h.nd, by simp, fun a ha b hb e => hn (by simp at hb; rw [← hb, ← e]; exact ha)⟩
 · rcases List.mem_append.1 hp with hp | hp
   · exact h.tx p hp
   · rw [List.mem_singleton.1 hp]; exact hs
end HeldP
theorem names_none {K : Ks} (h : ∀ s, s ∉ sdL K) : lastL K = [] ∧ namesL (lastL K) = [] := by
 have : sdL K = [] := List.eq_nil_iff_forall_not_mem.2 h
 have e : lastL K = [] := by rw [lastL, this]; rfl
 rw [e]
 exact ⟨rfl, by simp [namesL, sortB, dedS]⟩
theorem tbl_none {K : Ks} (hn : namesL (lastL K) = []) : tblT (cksL K) (lastL K) = [] := by rw [tblT_eq, hn]; rfl
end
theorem me_word : wordP me := by decide
theorem right_t0 : RightT true [] := ⟨fun i hi => absurd hi (Nat.not_lt_zero _), by decide⟩
/-! The runs. -/
/-- A way along first parents on which nothing is said. -/
theorem wayF_no {C : List (Bs × Ck)} {l : Ls} {tag name : Bs} (P : Bs → Prop) (h1 : ∀ n, P n → llook l (tag, n) = none) (h2 : ∀ n c, P n → clook C n = some c → P (firstB c)) : ∀ (k : Nat) (n : Bs), P n → wayF C l tag name k n = none := by
 intro k
 induction k with
 | zero => intro n _; rfl
 | succ k ih =>
   intro n hn
   rw [wayF]
   cases e : clook C n with
   | none => rfl
   | some c =>
     dsimp only
     rw [h1 n hn]
     exact ih _ (h2 n c hn e)
theorem brF_none {C : List (Bs × Ck)} {l : Ls} {n : Bs} (h : ofT C l brB n = none) : brF C l n = trB := by rw [brF, h]; simp [tgd0]
theorem brH_no {K : Ks} (P : Bs → Prop) (h1 : ∀ n, P n → llook (lastL K) (brB, n) = none) (h2 : ∀ n c, P n → clook (cksL K) n = some c → P (firstB c)) {n : Bs} (hn : P n) : brH K n = trB := brF_none (wayF_no P h1 h2 _ _ hn)
theorem mem_lvL {K : Ks} {y : Lf} : y ∈ lvL K ↔ ∃ x ∈ cksL K, (∀ z ∈ cksL K, ¬ inC (brH K) x.1 z) ∧ y = ⟨brH K x.1, x.1⟩ := by
 unfold lvL lvF
 rw [List.mem_flatMap]
 constructor
 · rintro ⟨x, hx, hy⟩
   unfold lvOf inB at hy
   split at hy
   · cases hy
   · rename_i h
     rw [List.mem_singleton] at hy
     refine ⟨x, hx, fun z hz hc => h (decide_eq_true ⟨z, hz, hc⟩), hy⟩
 · rintro ⟨x, hx, h, rfl⟩
   refine ⟨x, hx, ?_⟩
   rw [lvOf, if_neg (by rw [inB, decide_eq_true_iff]; rintro ⟨z, hz, hc⟩; exact h z hz hc)]
   exact List.mem_singleton.2 rfl
theorem lvL_nodup {K : Ks} (hc : ((cksL K).map (·.1)).Nodup) : ((lvL K).map lfKey).Nodup := by
 unfold lvL
 generalize cksL K = C at hc ⊢
 have key : ∀ (D l : List (Bs × Ck)), (l.map (·.1)).Nodup → ((lvF (brH K) D l).map lfKey).Nodup := by
  intro D l
  induction l with
  | nil => intro _; simp [lvF]
  | cons a l ih =>
    intro h
    simp only [List.map_cons, List.nodup_cons] at h
    have h2 := ih h.2
    unfold lvF at *
    rw [List.flatMap_cons, List.map_append]
    unfold lvOf
    split
    · exact h2
    · simp only [List.map_cons, List.map_nil, List.cons_append, List.nil_append, List.nodup_cons]
      refine ⟨fun hm => ?_, h2⟩
      obtain ⟨y, hy, e⟩ := List.mem_map.1 hm
      obtain ⟨x, hx, hy⟩ := List.mem_flatMap.1 hy
      split at hy
      · cases hy
      · rw [List.mem_singleton] at hy
        subst hy
        have : x.1 = a.1 := congrArg Prod.snd e
        exact h.1 (by rw [← this]; exact List.mem_map_of_mem (f := fun p : Bs × Ck => p.1) hx)
 exact key C C hc
/-! The runs. -/
def hA : Ck := ckMe [] [] me 0
def hX : Bs := shaB (ckB hA)
def hT : List Tg := [⟨42, brB, [42], [98]⟩]
def hB : Ck := ckMe [hX] hT me 0
def hC : Ck := ckMe [hX] [] me 0
def hL : List (Bs × Bs) := [(hX, ckB hA), ([98], ckB hB), ([99], ckB hC)]
theorem hA_right : RightK hA := right_me (by simp) List.nodup_nil (by decide) right_t0 me_word (by decide)
theorem hX_n : isN hX = true := isN_sha _
theorem hX_len : hX.length = 40 := isN_len hX_n
def hK : Ks := mput (mput (mput [] hX (vS (ckB hA))) [98] (vS (ckB hB))) [99] (vS (ckB hC))
theorem hX_b : hX ≠ [98] := fun e => by have := hX_len; rw [e] at this; simp at this
theorem hX_nil : hX ≠ [] := fun e => by have := hX_len; rw [e] at this; simp at this
theorem HeldP.nil : HeldP [] [] := ⟨List.Perm.nil, List.nodup_nil, fun p h => by cases h⟩
section
set_option maxRecDepth 100000
structure CkR where
 done : List Bs
 l : List Bs
 a : Option Addr
 c : Nat
structure CkR.Ok (H : Ks) (x : CkR) : Prop where
 so : x.l.Pairwise (· < ·)
 mem : ∀ n, n ∈ x.l ↔ n ∈ x.done ∧ (readK (getB H n)).isSome = true
 le : x.l.length ≤ x.done.length
end
section
theorem readK_noZ {s : Bs} (h : (90 : UInt8) ∉ s) : readK s = none := (readC_nk (noZ_readC h)).1
theorem readK_nil : readK [] = none := readK_noZ (by simp)
theorem getB_none {K : Ks} {n : Bs} (h : n ∉ K.map (·.1)) : getB K n = [] := by
 unfold getB
 rw [mlook_none h]
 rfl
theorem HeldP.nobase {K : Ks} {L : List (Bs × Bs)} (h : HeldP K L) (hb : ∀ p ∈ L, ∀ c, readK p.2 = some c → c.base = []) : NoBase K := fun n c hc => by
 by_cases hn : n ∈ L.map (·.1)
 · obtain ⟨p, hp, rfl⟩ := List.mem_map.1 hn
   rw [h.get hp] at hc
   exact hb p hp c hc
 · rw [getB_none (fun hm => hn (h.keys.mem_iff.1 hm)), readK_nil] at hc
   cases hc
/-- The check-ins that are held, one by one. -/
theorem HeldP.cks_eq {K : Ks} {L : List (Bs × Bs)} (h : HeldP K L) (hs : (L.map (·.1)).Pairwise (· < ·)) : cksL K = L.flatMap fun p => match readK p.2 with
    | none => []
    | some c => [(p.1, c)] := by
 have hk : keysS K = L.map (·.1) := sorted_eq (keysS_lt h.knd) hs fun k => h.mem
 unfold cksL cksF
 rw [hk, List.flatMap_map]
 have hm : ∀ p ∈ L, ckOf K p.1 = match readK p.2 with
  | none => []
  | some c => [(p.1, c)] := fun p hp => by rw [ckOf, h.get hp]; cases readK p.2 <;> rfl
 clear hk hs h
 induction L with
 | nil => rfl
 | cons a L ih => rw [List.flatMap_cons, List.flatMap_cons, hm a (by simp), ih fun p hp => hm p (by simp [hp])]
theorem ofF_plain {K : Ks} {n : Bs} {c : Ck} (h : readK (getB K n) = some c) (hb : c.base = []) : ofF K n = some c.files := by rw [ofF, h]; exact if_pos hb
theorem ofF_none {K : Ks} {n : Bs} (h : readK (getB K n) = none) : ofF K n = none := by rw [ofF, h]
theorem rightF_one {nm x : Bs} (hn : wordP nm) (hx : isN x = true) : RightF true [(nm, x)] :=
 ⟨fun i hi => by
  have : i = 0 := by simp at hi; omega
  subst this
  exact ⟨hn, fun h => by omega, .inl hx⟩, by simp⟩
theorem rightP_list {ps : List Bs} (hp : ∀ p ∈ ps, isN p = true) (hn : ps.Nodup) (hl : ps.length ≤ 3) : RightP ps 3 := (right_me (ts := []) (u := me) (d := 0) hp hn hl right_t0 me_word (by decide)).parents
/-! The runs. -/
section
variable {x : Bs} (hx : isN x = true)
include hx
end
end
section
def drB (f : Bs) : Ck := ⟨[], [], 0, [([102], f)], [hX], [], me⟩
def drK1 (f : Bs) : Ks := [([98], vS (ckB (drB f)))]
def drK2 (f : Bs) : Ks := [([98], vS (ckB (drB f))), (hX, vS (ckB hA))]
theorem drB_right {f : Bs} (hf : isN f = true) : RightK (drB f) := ⟨.inl rfl, Nat.zero_le _, by show (0 : Int) ≤ 0 ∧ (0 : Int) ≤ 1073741824; decide, rightF_one (by decide) hf, (show RightP [hX] 3 from rightP_list (by simpa using hX_n) (by simp) (by simp)), right_t0, me_word⟩
theorem dr1_held {f : Bs} (hf : isN f = true) : HeldP (drK1 f) [([98], ckB (drB f))] := by
 refine ⟨List.Perm.refl _, by simp, fun p hp => ?_⟩
 have h1 := ckB_len (drB_right hf)
 rw [List.mem_singleton.1 hp]
 dsimp only
 omega
theorem dr2_held {f : Bs} (hf : isN f = true) : HeldP (drK2 f) [([98], ckB (drB f)), (hX, ckB hA)] := by
 refine ⟨List.Perm.refl _, by simp [Ne.symm hX_b], fun p hp => ?_⟩
 have h1 := ckB_len (drB_right hf)
 have h2 := ckB_len hA_right
 simp only [List.mem_cons, List.not_mem_nil, or_false] at hp
 rcases hp with rfl | rfl <;> dsimp only <;> omega
section
variable {f : Bs}
theorem dr1_cks (hf : isN f = true) : cksL (drK1 f) = [([98], drB f)] := by
 rw [(dr1_held hf).cks_eq (by simp)]
 simp [right_read (drB_right hf)]
theorem dr2_cks (hf : isN f = true) : (cksL (drK2 f)).Perm [([98], drB f), (hX, hA)] := by
 have hn : (cksL (drK2 f)).Nodup := List.Pairwise.of_map (fun p : Bs × Ck => p.1) (fun a b h e => h (by rw [e])) (dr2_held hf).cnd
 refine (List.perm_ext_iff_of_nodup hn (by simp [Ne.symm hX_b])).2 fun x => ?_
 rw [(dr2_held hf).cks]
 obtain ⟨n, c⟩ := x
 constructor
 · rintro ⟨p, hp, h1, h2⟩
   simp only [List.mem_cons, List.not_mem_nil, or_false] at hp
   rcases hp with rfl | rfl
   · dsimp only at h1 h2
     rw [right_read (drB_right hf)] at h2
     cases h2; rw [← h1]; simp
   · dsimp only at h1 h2
     rw [right_read hA_right] at h2
     cases h2; rw [← h1]; simp
 · intro hx
   simp only [List.mem_cons, List.not_mem_nil, or_false, Prod.mk.injEq] at hx
   rcases hx with ⟨rfl, rfl⟩ | ⟨rfl, rfl⟩
   · exact ⟨([98], ckB (drB f)), by simp, rfl, right_read (drB_right hf)⟩
   · exact ⟨(hX, ckB hA), by simp, rfl, right_read hA_right⟩
theorem dr_nob {K : Ks} {L : List (Bs × Bs)} (hf : isN f = true) (h : HeldP K L) (hL : ∀ p ∈ L, p.2 = ckB (drB f) ∨ p.2 = ckB hA) : NoBase K ∧ sdL K = [] := by
 refine ⟨h.nobase fun p hp c hc => ?_, ?_⟩
 · rcases hL p hp with e | e
   · rw [e, right_read (drB_right hf)] at hc; cases hc; rfl
   · rw [e, right_read hA_right] at hc; cases hc; rfl
 · refine List.eq_nil_iff_forall_not_mem.2 fun s hs => ?_
   obtain ⟨p, hp, t, ht, _⟩ := h.sd.1 hs
   have e1 := opsB_ck (drB_right hf) p.1
   have e2 := opsB_ck hA_right p.1
   rcases hL p hp with e | e
   · rw [e, e1] at ht; simp [drB] at ht
   · rw [e, e2] at ht; simp [hA, ckMe] at ht
theorem brH_none {K : Ks} (h : sdL K = []) (n : Bs) : brH K n = trB := brH_no (fun _ => True) (fun n _ => lastF_none fun s hs e => by rw [show sdL K = [] from h] at hs; cases hs) (fun _ _ _ _ => trivial) trivial
theorem tbl_empty {K : Ks} (h : sdL K = []) : tblT (cksL K) (lastL K) = [] := tbl_none (names_none (fun s hs => by rw [h] at hs; cases hs)).2
theorem dr_x {f : Bs} : getB (drK1 f) hX = [] := getB_none (by simp [drK1, hX_b])
theorem dr1_tab (hf : isN f = true) {x : DvS} (h : TabP (drK1 f) x) : x.pl = [⟨[98], hX, true⟩] ∧ x.ml = [] ∧ x.tg = [] ∧ x.lf.length ≤ 1 := by
 have hh := dr1_held hf
 obtain ⟨hb, hs⟩ := dr_nob hf hh (fun p hp => .inl (by rw [List.mem_singleton.1 hp]))
 have e1 : readK (getB (drK1 f) [98]) = some (drB f) := by rw [hh.get (p := ([98], ckB (drB f))) (by simp)]; exact right_read (drB_right hf)
 refine ⟨?_, ?_, ?_, ?_⟩
 · have h1 := h.pl.1
   rw [dr1_cks hf, show plF [([98], drB f)] = [⟨[98], hX, true⟩] from by simp [plF, plOf, drB, firstB]] at h1
   exact List.perm_singleton.1 h1
 · rw [h.ml, dr1_cks hf]
   have : oldF (drK1 f) (drB f) (ofF (drK1 f) [98]) = none := by
    rw [oldF, ofF_plain e1 rfl, if_neg (by simp), show firstB (drB f) = hX from rfl, if_neg hX_nil, ofF_none (by rw [dr_x]; exact readK_nil)]
   unfold chgF chgOf
   simp [this]
 · rw [h.tg]; exact tbl_empty hs
 · rw [h.lf.1.length_eq]
   have := lvF_len (brH (drK1 f)) (cksL (drK1 f)) (cksL (drK1 f))
   rw [dr1_cks hf] at this
   unfold lvL
   rw [dr1_cks hf]
   exact this
theorem dr2_tab (hf : isN f = true) {x : DvS} (h : TabP (drK2 f) x) : x.pl = [⟨[98], hX, true⟩] ∧ x.ml = [⟨[98], [102], [], f⟩] ∧ x.tg = [] ∧ x.lf = [⟨trB, [98]⟩] := by
 have hh := dr2_held hf
 have hp := dr2_cks hf
 obtain ⟨hb, hs⟩ := dr_nob hf hh (fun p hp => by
  simp only [List.mem_cons, List.not_mem_nil, or_false] at hp
  rcases hp with rfl | rfl
  · exact .inl rfl
  · exact .inr rfl)
 have hbr := brH_none hs
 have e1 : readK (getB (drK2 f) [98]) = some (drB f) := by rw [hh.get (p := ([98], ckB (drB f))) (by simp)]; exact right_read (drB_right hf)
 have e2 : readK (getB (drK2 f) hX) = some hA := by rw [hh.get (p := (hX, ckB hA)) (by simp)]; exact right_read hA_right
 have hne : f ≠ [] := fun e => by have := isN_len hf; rw [e] at this; simp at this
 refine ⟨?_, ?_, ?_, ?_⟩
 · have h1 := h.pl.1.trans (hp.flatMap_right plOf)
   rw [show ([([98], drB f), (hX, hA)] : List (Bs × Ck)).flatMap plOf = [⟨[98], hX, true⟩] from by simp [plOf, drB, hA, ckMe, firstB]] at h1
   exact List.perm_singleton.1 h1
 · rw [h.ml]
   have o1 : chgOf (drK2 f) ([98], drB f) = [⟨[98], [102], [], f⟩] := by
    have h1 : oldF (drK2 f) (drB f) (ofF (drK2 f) [98]) = some [] := by
     rw [oldF, ofF_plain e1 rfl, if_neg (by simp), show firstB (drB f) = hX from rfl, if_neg hX_nil, ofF_plain e2 rfl]; rfl
    unfold chgOf
    dsimp only
    rw [h1, ofF_plain e1 rfl]
    simp [wthC, drB, diffF, diffK, dM, dW, dT, dN, dO, dOl, dWl, hdF, Ne.symm hne]
   have o2 : chgOf (drK2 f) (hX, hA) = [] := by
    have h1 : oldF (drK2 f) hA (ofF (drK2 f) hX) = some [] := by
     rw [oldF, ofF_plain e2 rfl, if_neg (by simp), show firstB hA = [] from rfl, if_pos rfl]
    unfold chgOf
    dsimp only
    rw [h1, ofF_plain e2 rfl]
    simp [wthC, hA, ckMe, diffF, diffK]
   have h1 := hp.flatMap_right (chgOf (drK2 f))
   rw [List.flatMap_cons, List.flatMap_cons, o1, o2] at h1
   exact List.perm_singleton.1 h1
 · rw [h.tg]; exact tbl_empty hs
 · have hl : (lvL (drK2 f)).Perm [⟨trB, [98]⟩] := by
     have hnd : (lvL (drK2 f)).Nodup := List.Pairwise.of_map lfKey (fun a b h e => h (by rw [e])) (lvL_nodup hh.cnd)
     refine (List.perm_ext_iff_of_nodup hnd (by simp)).2 fun y => ?_
     rw [mem_lvL, List.mem_singleton]
     have hz : ∀ z : Bs × Ck, z ∈ cksL (drK2 f) ↔ z = ([98], drB f) ∨ z = (hX, hA) := fun z => by rw [hp.mem_iff]; simp
     constructor
     · rintro ⟨z, h1, h2, rfl⟩
       rcases (hz z).1 h1 with rfl | rfl
       · rw [hbr]
       · exact absurd (⟨rfl, hX_b, by rw [hbr, hbr]⟩ : inC (brH (drK2 f)) hX ([98], drB f)) (h2 _ ((hz _).2 (.inl rfl)))
     · rintro rfl
       refine ⟨([98], drB f), (hz _).2 (.inl rfl), fun z h1 h2 => ?_, by rw [hbr]⟩
       rcases (hz z).1 h1 with rfl | rfl
       · exact hX_b h2.1
       · have := h2.1
         simp [firstB, hA, ckMe] at this
   exact List.perm_singleton.1 (h.lf.1.trans hl)
end
end
section
set_option maxRecDepth 100000
theorem zb59ret3 {G : Prop} (h : G := by exact fin_ret (xa.fa, xa.fc) (vs := [_, _]) (Cs := []) rfl (.tmp rfl (.tmp rfl .nil)) rfl ⟨hkn.1, hkn.2.2⟩ ent_pick) : G := h
theorem files_Of0_sp (b : Nat) (H : Ks) (hH : TxtK H) (hB : NoBase H) (name : Bs) : OfSp Tryz.prog 59 b H name := by
 obtain ⟨htx, htl⟩ := hH.get name
 have hRd := checkin_Read_sp (getB H name) htl
 unfold OfSp
 refine Sp.body (n := 90) Tryz.call59 Tryz.func59 rfl rfl rfl ?_
 refine Qc (k:=Qv (k:=Wq (Qc (k:=Qv (k:=?_)))))
 refine r_lookup (v := vS (getB H name)) Tryz.underlying31 Tryz.underlying9 ti9 rfl rfl rfl htx rfl ?_
 refine r_callX hRd rfl rfl rfl (fun x19 hx19 => ?_)
 obtain ⟨xa, ck⟩ := x19
 obtain ⟨hck, hpc⟩ := hx19
 dsimp only at hck hpc ⊢
 have hbs : ck.base = [] := by
  rw [hck]
  cases e : readK (getB H name) with
  | none => rfl
  | some k => exact hB _ _ e
 have hof : (ofF H name).getD [] = ck.files ∧ (ofF H name).isSome = (readK (getB H name)).isSome := by
  unfold ofF
  rw [hck]
  cases e : readK (getB H name) with
  | none => exact ⟨rfl, rfl⟩
  | some k =>
    dsimp only
    rw [if_pos (hB _ _ e)]
    exact ⟨rfl, rfl⟩
 rw [hof.1, hof.2]
 refine Vv (k:=?_)
 refine wo_pv (pv_extract (v := .agg #[vS ck.base, vS ck.comment, vI ck.date, .slice xa.fa ck.files.length xa.fc, .slice xa.pa ck.parents.length xa.pc, .slice xa.ta ck.tags.length xa.tc, vS ck.user]) rfl rfl) rfl ?_
 refine wo_pv (pv_extract (v := vB (readK (getB H name)).isSome) rfl rfl) rfl ?_
 refine Zc [vS [], vS [], .int .i64 0, .slice none 0 0, .slice none 0 0, .slice none 0 0, vS []] (k:=fun b6 => Zp (k:=Vv (k:=Wq (Za (k:=Za (k:=?_))))))
 refine wc_know (A := Row 25 2 (.slice xa.fa ck.files.length xa.fc) ck.files.length (ck.files.flatMap flCells)) HasC.get row_know (fun hkn => ?_)
 refine wc_frzR xa.fa ?_
 refine Zr (k:=Qv (k:=Vv (k:=Gi 2 (t:=fun h24 => ?_) (f:=fun h24 => ?_))))
 ·
  refine O1 (k:=O1 (k:=O1 (k:=P1 (k:=Wq (Z1 (k:=Qc (k:=Qx 3 26 (k:=Qv (k:=?_)))))))))
  refine Vv (k:=Wq (Zt (k:=Va ?_)))
  exact zb59ret3
 ·
  refine I0 (k:=Vf 0 9 (k:=I0 (k:=Zd (k:=J0 (k:=P0 (k:=Wq (Zi (t:=fun h28 => ?_) (f:=fun h28 => ?_))))))))
  ·
   refine Qc (k:=Qx 3 26 (k:=Qv (k:=Vv (k:=Wq (Zt (k:=Va ?_))))))
   exact zb59ret3
  ·
   exact absurd hbs (by simp_all)
   --done
end
section
set_option maxRecDepth 100000
/-- ref10.Checkin of a right check-in. -/
theorem ref10_r_sp {Bf Bt : HP} (x : CkA) {c : Ck} (h : RightK c) (hpc : c.parents.length ≤ x.pc) (shf : SlA Bf x.fa (c.files.flatMap flCells)) (sht : SlA Bt x.ta (c.tags.flatMap tgCells)) :
    Sp1 Tryz.prog 16 [.agg (ckVals x c).toArray] [Bf, SlI x.pa (c.parents.map vS), Bt] (vS (ckB c)) [Bf, Bt] :=
 ref10_Checkin_sp x c (right_z h) h.date (Nat.le_trans (ck_small h) (by decide)) shf sht hpc
end
end Go.Proofs.YtdnoacgopfcpbaaGreat
