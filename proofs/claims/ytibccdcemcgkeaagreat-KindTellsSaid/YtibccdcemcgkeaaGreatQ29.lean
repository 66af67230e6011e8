/- Texts of this proof, put together: SLin, PShaN. -/
import Derived.Test.YtibccdcemcgkeaaGreatQ28
set_option linter.unusedVariables false
set_option linter.unusedSimpArgs false
namespace Go.Proofs.YtibccdcemcgkeaaGreat
section
set_option maxRecDepth 100000
section
variable {r : Option Nat} {P : Program} {n : Nat} {L : Loc} {Hs : List HP} {Q : Out} {ops : Array Oper} {A : List HP} {ty : TypeId} {d : Nat} {pos : String} {after : Array Edge}
theorem an_eloada {K : Loc → List HP → Prop} {t : TypeId} {td : TypeDesc} {x : Operand} {a : Option Addr} {k : Nat} {xs vs : List Value} {ti : TypeInfo} {sz : Nat} (ht : P.underlying t = some td) (hfl : flat td = false) (hi : P.info? t = some ti) (hsz : ti.size = sz)
    (hx : ev L x = some (.pointer (elemA a k))) [hr : RdSl a xs Hs] (hl : k + sz ≤ xs.length) (hs0 : Nat.blt 0 sz = true) (hv : (xs.drop k).take sz = vs) (hd : Nat.blt d n = true)
    (k' : K ((d, .agg vs.toArray) :: L) Hs) : AnOp r P n ops A ⟨some d, .load t x, ty, pos, after, none⟩ K L Hs := by
 obtain ⟨B, sh, hB⟩ := hr.get
 have hpos : 0 < sz := by simpa using hs0
 refine an_read hB hd (fun ac f w M h1 h2 hf t' le yy _ _ _ _ => ?_) k'
 obtain ⟨g, off, rfl, hc⟩ := sla_cell sh t' le yy (fun e => by rw [e] at hl; simp at hl; omega)
 have h3 := run_ecells (P := P) hc hl hv
 simp [execOp, f.ev hx, elemA, Instr.loadAt, Instr.sureAddr, loadVar, isAgg_agg ht hfl, sizeOf, typeInfo, program, Sem.run, hi, hsz, h3]
theorem an_estorea {K : Loc → List HP → Prop} {t : TypeId} {ti : TypeInfo} {x y : Operand} {a : Option Addr} {e sz n' c' k m : Nat} {xs vs : List Value} {Rs : List HP} (hi : P.info? t = some ti) (hs : Nat.beq ti.size vs.length = true) (hv : 0 < vs.length)
    (hx : ev L x = some (.pointer (elemA a m))) (hy : ev L y = some (.agg vs.toArray)) [hp : RowAC a e sz n' c' k xs Hs Rs] (h1 : vs.all oneCell = true) (hm : m + vs.length ≤ xs.length)
    (k' : K L (Row e sz (.slice a n' c') k (setAt xs m vs) :: Rs)) : AnOp r P n ops A ⟨none, .store t x y, ty, pos, after, none⟩ K L Hs := by
 haveI : PicksC [Row e sz (.slice a n' c') k xs] Hs Rs := ⟨.cons hp.get .nil⟩
 exact an_opT (opt_estorea hi hs hv hx hy rfl h1 hm) rfl (fun _ _ => k')
end
theorem sla_fromA {A : HP} {sz k c' m kk : Nat} {a : Option Addr} {xs : List Value} (sh : SlA A a xs) (hx : xs.length = k * sz) (hk : m * sz = kk) (hm : m ≤ k) (hc : k ≤ c') : SlA A (fromA a m c' kk) (xs.drop kk) := fun x => by
 by_cases hlt : m < c'
 · rcases sh x with e | ⟨g, off, l, T, fz, e1, e2, e3⟩
   · left; rw [e]; simp
   · refine .inr ⟨g, off + kk, l, T, fz, ?_, e2, ?_⟩
     · rw [fromA, if_pos hlt, e1]; rfl
     · conv => rhs; rw [← e3]
       rw [List.drop_take, List.drop_drop, List.length_drop]
 · left
   have hmk : m = k := by omega
   subst hmk
   rw [← hk, ← hx, List.drop_length]
theorem cds_len2 (q : CdV) : q.cells.length = 2 := rfl
theorem cdm_one {qs rs : List CdV} {q : CdV} {Hs : List HP} (hp : Has (CdM qs) Hs) (hq : Has (SlI q.a (q.args.map vS)) Hs) (hc : q.args.length ≤ q.c) (h : ∀ x ∈ rs, x ∈ qs ∨ x = q) : Ent Hs (CdM rs :: Hs) := ⟨fun {M g} s => by
 obtain ⟨h1, _, a⟩ := hp.sat s
 obtain ⟨h2, _, b⟩ := hq.sat s
 refine ⟨Res.emp, g, Res.emp_dj _, rfl, fun x hx => ?_, s⟩
 rcases h x hx with e | e
 · exact a x e
 · rw [e]; exact ⟨b, hc⟩⟩
theorem cdm_as {qs rs : List CdV} {Hs : List HP} (hp : Has (CdM qs) Hs) (h : ∀ x ∈ rs, ∃ y ∈ qs, x.a = y.a ∧ x.c = y.c ∧ x.args = y.args) : Ent Hs (CdM rs :: Hs) := ⟨fun {M g} s => by
 obtain ⟨h1, _, a⟩ := hp.sat s
 refine ⟨Res.emp, g, Res.emp_dj _, rfl, fun x hx => ?_, s⟩
 obtain ⟨y, hy, e1, e2, e3⟩ := h x hx
 rw [e1, e2, e3]; exact a y hy⟩
theorem cdsOf_set (qs : List CdV) (i : Nat) (q : CdV) : cdsOf (qs.set i q) = (cdsOf qs).set i q.cd := by simp [cdsOf, List.map_set]
theorem zb19join20A {G : Prop} (h : G := by
    refine to_inv ⟨((la, lc), (qs.set i qs[j]).set j qs[i]), ?_⟩ trivial ⟨by simp only [List.length_set]; rfl, trivial⟩ ?_
    · refine hP.sub (fun c hc => ?_) (by simp [cdsOf]; omega)
      obtain ⟨x, hx, rfl⟩ := List.mem_map.1 hc
      rw [← hx17]
      refine List.mem_map.2 ⟨x, ?_, rfl⟩
      rcases List.mem_or_eq_of_mem_set hx with e | e
      · rcases List.mem_or_eq_of_mem_set e with e | e
        · exact e
        · rw [e]; exact List.getElem_mem _
      · rw [e]; exact List.getElem_mem _
    · dsimp only
      simp only [List.length_set]
      exact Ent.trans (ent_cdm_sub (qs := qs) (rs := (qs.set i qs[j]).set j qs[i]) HasC.get (fun x hx => by
       rcases List.mem_or_eq_of_mem_set hx with e | e
       · rcases List.mem_or_eq_of_mem_set e with e | e
         · exact e
         · rw [e]; exact List.getElem_mem _
       · rw [e]; exact List.getElem_mem _)) ent_pick) : G := h
theorem zb19join20C {G : Prop} (h : G := by
    refine to_inv ⟨((a80, c80), qs.take i ++ [qs[i]] ++ qs.drop i), ?_⟩ trivial ⟨(by rw [show (qs.take i ++ [qs[i]] ++ qs.drop i).length = i + 1 + (qs.length - i) by simp; omega]; rfl), trivial⟩ ?_
    · refine hP.sub (fun c hc => ?_) (by simp [cdsOf]; omega)
      obtain ⟨x, hx, rfl⟩ := List.mem_map.1 hc
      rw [← hx17]
      refine List.mem_map.2 ⟨x, ?_, rfl⟩
      rcases List.mem_append.1 hx with e | e
      · rcases List.mem_append.1 e with e | e
        · exact List.mem_of_mem_take e
        · rw [List.mem_singleton.1 e]; exact List.getElem_mem _
      · exact List.mem_of_mem_drop e
    · dsimp only
      rw [show (qs.take i ++ [qs[i]] ++ qs.drop i).length = i + 1 + (qs.length - i) by simp; omega]
      refine Ent.trans (ent_cdm_sub (qs := qs) (rs := qs.take i ++ [qs[i]] ++ qs.drop i) HasC.get (fun x hx => by
       rcases List.mem_append.1 hx with e | e
       · rcases List.mem_append.1 e with e | e
         · exact List.mem_of_mem_take e
         · rw [List.mem_singleton.1 e]; exact List.getElem_mem _
       · exact List.mem_of_mem_drop e)) (ent_step (row_norm (by rfl) (by simp only [List.flatMap_append, List.flatMap_cons, List.flatMap_nil, List.append_nil])) ent_pick)) : G := h
set_option maxHeartbeats 8000000 in
theorem keep_Lines_sp (s raw : Bs) (at_ to_ how : Int) (hs : s.length ≤ 300) (hraw : raw.length ≤ 5) : Sp Tryz.prog 19 [vS s, vI at_, vI to_, vS raw, vI how] [] (X := Bs) (fun x => vS x) (fun x => LinR s raw x ∧ x.length ≤ 200000) (fun _ => []) := by
 refine Sp.body (n := 129) Tryz.call19 Tryz.func19 rfl rfl rfl ?_
 refine Qc (k:=Vv (k:=Wq (Qc (k:=Vv (k:=?_)))))
 refine r_callX (ref10_Cards_sp s (by omega)) rfl rfl rfl (fun x17 hx17 => ?_)
 obtain ⟨⟨la, lc⟩, qs⟩ := x17
 dsimp only at hx17 ⊢
 refine Vv (k:=?_)
 refine wo_pv (pv_extract (v := .slice la qs.length lc) rfl rfl) rfl ?_
 refine wo_pv (pv_extract (v := vB (readC s).isSome) rfl rfl) rfl ?_
 refine Qv (k:=Wq (Za (k:=Qc (k:=Qv (k:=Vv (k:=Wq (Zi (t:=fun h22 => ?_) (f:=fun h22 => ?_))))))))
 ·
  refine Qc (k:=Qv (k:=Wq (Zt (k:=Va ?_))))
  exact fin_ret s (vs := [_]) (Cs := []) rfl (.tmp rfl .nil) rfl ⟨.same, by omega⟩ ent_nil
 ·
  obtain ⟨l, hl⟩ : ∃ l, readC s = some l := by
   cases e : readC s with
   | some l => exact ⟨l, rfl⟩
   | none =>
     rw [e] at hx17
     have : qs = [] := List.map_eq_nil_iff.1 hx17
     rw [this] at h22; exact absurd rfl h22
  rw [hl, Option.getD_some] at hx17
  obtain ⟨hP, hln, hlz⟩ := LinP.start hl hs
  have hql : qs.length = l.length := by rw [← hx17]; simp [cdsOf]
  have hw1 := withinI_in (n := at_) (show (0 : Int) ≤ (qs.length : Int) - 1 by omega)
  have hw2 := withinI_in (n := to_) (show (0 : Int) ≤ (qs.length : Int) - 1 by omega)
  have hw3 := withinI_in (n := to_) (show (0 : Int) ≤ 8 by omega)
  obtain ⟨i, hi⟩ : ∃ i : Nat, withinI at_ 0 ((qs.length : Int) - 1) = (i : Int) := ⟨(withinI at_ 0 ((qs.length : Int) - 1)).toNat, by omega⟩
  obtain ⟨j, hj⟩ : ∃ j : Nat, withinI to_ 0 ((qs.length : Int) - 1) = (j : Int) := ⟨(withinI to_ 0 ((qs.length : Int) - 1)).toNat, by omega⟩
  obtain ⟨m, hm⟩ : ∃ m : Nat, withinI to_ 0 8 = (m : Int) := ⟨(withinI to_ 0 8).toNat, by omega⟩
  have hil : i < qs.length := by omega
  have hjl : j < qs.length := by omega
  have hlen : (qs.flatMap CdV.cells).length = qs.length * 2 := flat_len cds_len2 qs
  have hci : (cdsOf qs)[i]'(by simp [cdsOf]; exact hil) = qs[i].cd := by simp [cdsOf]
  refine wc_know (A := Row 109 2 (.slice la qs.length lc) qs.length (qs.flatMap CdV.cells)) HasC.get row_know (fun hkn => ?_)
  refine Zk (k:=Ya (Qc (k:=Qv (k:=Qv (k:=?_)))))
  refine r_callF (book_Within_sp at_ 0 ((qs.length : Int) - 1) (by omega) (by omega) (by omega)) rfl rfl rfl ?_
  rw [hi]
  refine Qv (k:=Qv (k:=?_))
  refine r_callF (book_Within_sp to_ 0 ((qs.length : Int) - 1) (by omega) (by omega) (by omega)) rfl rfl rfl ?_
  rw [hj]
  refine Qv (k:=Wq ?_)
  refine p_cut (fun (y : { x : (Option Addr × Nat) × List CdV // LinP l (cdsOf x.2) }) => [(11, .slice y.1.1.1 y.1.2.length y.1.1.2)]) (fun (y : { x : (Option Addr × Nat) × List CdV // LinP l (cdsOf x.2) }) => [Row 109 2 (.slice y.1.1.1 y.1.2.length y.1.1.2) y.1.2.length (y.1.2.flatMap CdV.cells), CdM y.1.2]) rfl (fun y => ?_) ?_
  ·
   obtain ⟨⟨⟨ya, yc⟩, ys⟩, hy⟩ := y
   have hsm := hy.small
   dsimp only at hsm ⊢
   try dsimp only
   refine Qc (k:=Vv (k:=?_))
   refine r_call1 (ref10_Print_sp (B := Row 109 2 (.slice ya ys.length yc) ys.length (ys.flatMap CdV.cells)) ys.length yc ys sla_row rfl (by omega)) rfl rfl rfl ?_
   refine Vv (k:=Wq (Zt (k:=?_)))
   exact fin_ret (printB (cdsOf ys)) (vs := [_]) (Cs := []) rfl (.tmp rfl .nil) rfl ⟨.lines l _ hl hy, by rw [printB, sealB_len]; omega⟩ ent_nil
  ·
   refine Qc (k:=Vv (k:=?_))
   refine wo_pv (pv_and rfl rfl) rfl ?_
   generalize bits .and .i64 how 7 = w
   refine Wq (Zb (k:=Qc (k:=Qv (k:=Wq (Zi (t:=fun h36 => ?_) (f:=fun h36 => ?_))))))
   ·
    refine Dw [] (k:=?_)
    refine Dv 0 (k:=Dv 1 (k:=Dv 2 (k:=Dv 3 (k:=Dv 4 (k:=Dv 5 (k:=Dv 8 (k:=Dv 9 (k:=?_))))))))
    refine d_next2 6 10 (by kernel_rfl) rfl rfl ?_ ?_
    ·
     refine an_elemAddr (m := j) (sz := 2) Tryz.underlying107 ti109 rfl rfl rfl rfl (by omega) (by rw [hlen]; omega) rfl rfl ?_
     refine d_next2 7 10 (by kernel_rfl) rfl rfl ?_ ?_
     ·
      refine an_eloada (vs := CdV.cells qs[j]) (sz := 2) Tryz.underlying109 rfl ti109 rfl rfl (by rw [hlen]; omega) rfl (get_flat cds_len2 hjl) rfl ?_
      refine Dn 10 (k:=?_)
      refine an_elemAddr (m := i) (sz := 2) Tryz.underlying107 ti109 rfl rfl rfl rfl (by omega) (by rw [hlen]; omega) rfl rfl ?_
      refine Dn 11 (k:=?_)
      refine an_eloada (vs := CdV.cells qs[i]) (sz := 2) Tryz.underlying109 rfl ti109 rfl rfl (by rw [hlen]; omega) rfl (get_flat cds_len2 hil) rfl ?_
      refine Dn 12 (k:=?_)
      refine an_elemAddr (m := i) (sz := 2) Tryz.underlying107 ti109 rfl rfl rfl rfl (by omega) (by rw [hlen]; omega) rfl rfl ?_
      refine Dn 13 (k:=?_)
      refine an_estorea (vs := CdV.cells qs[j]) ti109 rfl (by rw [cds_len2]; omega) rfl rfl rfl (by rw [hlen, cds_len2]; omega) ?_
      rw [fl_setAt cds_len2 qs i hil]
      refine Dn 14 (k:=?_)
      refine an_elemAddr (m := j) (sz := 2) Tryz.underlying107 ti109 rfl rfl rfl rfl (by omega) (by rw [flat_len cds_len2, List.length_set]; omega) rfl rfl ?_
      refine Dn 15 (k:=?_)
      refine an_estorea (vs := CdV.cells qs[i]) ti109 rfl (by rw [cds_len2]; omega) rfl rfl rfl (by rw [flat_len cds_len2, List.length_set, cds_len2]; omega) ?_
      rw [fl_setAt cds_len2 (qs.set i qs[j]) j (by rw [List.length_set]; omega)]
      refine Dd (k:=Yb ?_)
      exact zb19join20A
     ·
      refine an_elemAddr (m := i) (sz := 2) Tryz.underlying107 ti109 rfl rfl rfl rfl (by omega) (by rw [hlen]; omega) rfl rfl ?_
      refine d_next2 7 11 (by kernel_rfl) rfl rfl ?_ ?_
      ·
       refine an_eloada (vs := CdV.cells qs[j]) (sz := 2) Tryz.underlying109 rfl ti109 rfl rfl (by rw [hlen]; omega) rfl (get_flat cds_len2 hjl) rfl ?_
       refine Dn 11 (k:=?_)
       refine an_eloada (vs := CdV.cells qs[i]) (sz := 2) Tryz.underlying109 rfl ti109 rfl rfl (by rw [hlen]; omega) rfl (get_flat cds_len2 hil) rfl ?_
       refine Dn 12 (k:=?_)
       refine an_elemAddr (m := i) (sz := 2) Tryz.underlying107 ti109 rfl rfl rfl rfl (by omega) (by rw [hlen]; omega) rfl rfl ?_
       refine Dn 13 (k:=?_)
       refine an_estorea (vs := CdV.cells qs[j]) ti109 rfl (by rw [cds_len2]; omega) rfl rfl rfl (by rw [hlen, cds_len2]; omega) ?_
       rw [fl_setAt cds_len2 qs i hil]
       refine Dn 14 (k:=?_)
       refine an_elemAddr (m := j) (sz := 2) Tryz.underlying107 ti109 rfl rfl rfl rfl (by omega) (by rw [flat_len cds_len2, List.length_set]; omega) rfl rfl ?_
       refine Dn 15 (k:=?_)
       refine an_estorea (vs := CdV.cells qs[i]) ti109 rfl (by rw [cds_len2]; omega) rfl rfl rfl (by rw [flat_len cds_len2, List.length_set, cds_len2]; omega) ?_
       rw [fl_setAt cds_len2 (qs.set i qs[j]) j (by rw [List.length_set]; omega)]
       refine Dd (k:=Yb ?_)
       exact zb19join20A
      ·
       refine an_eloada (vs := CdV.cells qs[i]) (sz := 2) Tryz.underlying109 rfl ti109 rfl rfl (by rw [hlen]; omega) rfl (get_flat cds_len2 hil) rfl ?_
       refine Dn 7 (k:=?_)
       refine an_eloada (vs := CdV.cells qs[j]) (sz := 2) Tryz.underlying109 rfl ti109 rfl rfl (by rw [hlen]; omega) rfl (get_flat cds_len2 hjl) rfl ?_
       refine Dn 12 (k:=?_)
       refine an_elemAddr (m := i) (sz := 2) Tryz.underlying107 ti109 rfl rfl rfl rfl (by omega) (by rw [hlen]; omega) rfl rfl ?_
       refine Dn 13 (k:=?_)
       refine an_estorea (vs := CdV.cells qs[j]) ti109 rfl (by rw [cds_len2]; omega) rfl rfl rfl (by rw [hlen, cds_len2]; omega) ?_
       rw [fl_setAt cds_len2 qs i hil]
       refine Dn 14 (k:=?_)
       refine an_elemAddr (m := j) (sz := 2) Tryz.underlying107 ti109 rfl rfl rfl rfl (by omega) (by rw [flat_len cds_len2, List.length_set]; omega) rfl rfl ?_
       refine Dn 15 (k:=?_)
       refine an_estorea (vs := CdV.cells qs[i]) ti109 rfl (by rw [cds_len2]; omega) rfl rfl rfl (by rw [flat_len cds_len2, List.length_set, cds_len2]; omega) ?_
       rw [fl_setAt cds_len2 (qs.set i qs[j]) j (by rw [List.length_set]; omega)]
       refine Dd (k:=Yb ?_)
       exact zb19join20A
    ·
     refine an_elemAddr (m := i) (sz := 2) Tryz.underlying107 ti109 rfl rfl rfl rfl (by omega) (by rw [hlen]; omega) rfl rfl ?_
     refine d_next2 6 11 (by kernel_rfl) rfl rfl ?_ ?_
     ·
      refine an_elemAddr (m := j) (sz := 2) Tryz.underlying107 ti109 rfl rfl rfl rfl (by omega) (by rw [hlen]; omega) rfl rfl ?_
      refine d_next2 7 11 (by kernel_rfl) rfl rfl ?_ ?_
      ·
       refine an_eloada (vs := CdV.cells qs[j]) (sz := 2) Tryz.underlying109 rfl ti109 rfl rfl (by rw [hlen]; omega) rfl (get_flat cds_len2 hjl) rfl ?_
       refine Dn 11 (k:=?_)
       refine an_eloada (vs := CdV.cells qs[i]) (sz := 2) Tryz.underlying109 rfl ti109 rfl rfl (by rw [hlen]; omega) rfl (get_flat cds_len2 hil) rfl ?_
       refine Dn 12 (k:=?_)
       refine an_elemAddr (m := i) (sz := 2) Tryz.underlying107 ti109 rfl rfl rfl rfl (by omega) (by rw [hlen]; omega) rfl rfl ?_
       refine Dn 13 (k:=?_)
       refine an_estorea (vs := CdV.cells qs[j]) ti109 rfl (by rw [cds_len2]; omega) rfl rfl rfl (by rw [hlen, cds_len2]; omega) ?_
       rw [fl_setAt cds_len2 qs i hil]
       refine Dn 14 (k:=?_)
       refine an_elemAddr (m := j) (sz := 2) Tryz.underlying107 ti109 rfl rfl rfl rfl (by omega) (by rw [flat_len cds_len2, List.length_set]; omega) rfl rfl ?_
       refine Dn 15 (k:=?_)
       refine an_estorea (vs := CdV.cells qs[i]) ti109 rfl (by rw [cds_len2]; omega) rfl rfl rfl (by rw [flat_len cds_len2, List.length_set, cds_len2]; omega) ?_
       rw [fl_setAt cds_len2 (qs.set i qs[j]) j (by rw [List.length_set]; omega)]
       refine Dd (k:=Yb ?_)
       exact zb19join20A
      ·
       refine an_eloada (vs := CdV.cells qs[i]) (sz := 2) Tryz.underlying109 rfl ti109 rfl rfl (by rw [hlen]; omega) rfl (get_flat cds_len2 hil) rfl ?_
       refine Dn 7 (k:=?_)
       refine an_eloada (vs := CdV.cells qs[j]) (sz := 2) Tryz.underlying109 rfl ti109 rfl rfl (by rw [hlen]; omega) rfl (get_flat cds_len2 hjl) rfl ?_
       refine Dn 12 (k:=?_)
       refine an_elemAddr (m := i) (sz := 2) Tryz.underlying107 ti109 rfl rfl rfl rfl (by omega) (by rw [hlen]; omega) rfl rfl ?_
       refine Dn 13 (k:=?_)
       refine an_estorea (vs := CdV.cells qs[j]) ti109 rfl (by rw [cds_len2]; omega) rfl rfl rfl (by rw [hlen, cds_len2]; omega) ?_
       rw [fl_setAt cds_len2 qs i hil]
       refine Dn 14 (k:=?_)
       refine an_elemAddr (m := j) (sz := 2) Tryz.underlying107 ti109 rfl rfl rfl rfl (by omega) (by rw [flat_len cds_len2, List.length_set]; omega) rfl rfl ?_
       refine Dn 15 (k:=?_)
       refine an_estorea (vs := CdV.cells qs[i]) ti109 rfl (by rw [cds_len2]; omega) rfl rfl rfl (by rw [flat_len cds_len2, List.length_set, cds_len2]; omega) ?_
       rw [fl_setAt cds_len2 (qs.set i qs[j]) j (by rw [List.length_set]; omega)]
       refine Dd (k:=Yb ?_)
       exact zb19join20A
     ·
      refine an_eloada (vs := CdV.cells qs[i]) (sz := 2) Tryz.underlying109 rfl ti109 rfl rfl (by rw [hlen]; omega) rfl (get_flat cds_len2 hil) rfl ?_
      refine Dn 6 (k:=?_)
      refine an_elemAddr (m := j) (sz := 2) Tryz.underlying107 ti109 rfl rfl rfl rfl (by omega) (by rw [hlen]; omega) rfl rfl ?_
      refine Dn 7 (k:=?_)
      refine an_eloada (vs := CdV.cells qs[j]) (sz := 2) Tryz.underlying109 rfl ti109 rfl rfl (by rw [hlen]; omega) rfl (get_flat cds_len2 hjl) rfl ?_
      refine Dn 12 (k:=?_)
      refine an_elemAddr (m := i) (sz := 2) Tryz.underlying107 ti109 rfl rfl rfl rfl (by omega) (by rw [hlen]; omega) rfl rfl ?_
      refine Dn 13 (k:=?_)
      refine an_estorea (vs := CdV.cells qs[j]) ti109 rfl (by rw [cds_len2]; omega) rfl rfl rfl (by rw [hlen, cds_len2]; omega) ?_
      rw [fl_setAt cds_len2 qs i hil]
      refine Dn 14 (k:=?_)
      refine an_elemAddr (m := j) (sz := 2) Tryz.underlying107 ti109 rfl rfl rfl rfl (by omega) (by rw [flat_len cds_len2, List.length_set]; omega) rfl rfl ?_
      refine Dn 15 (k:=?_)
      refine an_estorea (vs := CdV.cells qs[i]) ti109 rfl (by rw [cds_len2]; omega) rfl rfl rfl (by rw [flat_len cds_len2, List.length_set, cds_len2]; omega) ?_
      rw [fl_setAt cds_len2 (qs.set i qs[j]) j (by rw [List.length_set]; omega)]
      refine Dd (k:=Yb ?_)
      exact zb19join20A
   ·
    refine Qc (k:=Qv (k:=Wq (Zi (t:=fun h52 => ?_) (f:=fun h52 => ?_))))
    ·
     have htl : ((qs.take i).flatMap CdV.cells).length = i * 2 := by rw [flat_len cds_len2, List.length_take]; congr 1; omega
     have hdl : ((qs.drop (i + 1)).flatMap CdV.cells).length = (qs.length - (i + 1)) * 2 := by rw [flat_len cds_len2, List.length_drop]
     refine Dw [] (k:=?_)
     refine Dv 1 (k:=Dv 2 (k:=?_))
     refine d_first 3 rfl rfl rfl (by kernel_rfl) (by kernel_rfl) (tl_pv (pv_slslice_tom (m := i) Tryz.underlying107 ti109 rfl rfl rfl (by omega))) ?_
     refine Dv 5 (k:=Dv 6 (k:=Dv 7 (k:=?_)))
     refine d_first 8 rfl rfl rfl (by kernel_rfl) (by kernel_rfl) (tl_pv (pv_slslice_froma (m := i + 1) (kk := (i + 1) * 2) Tryz.underlying107 ti109 rfl rfl rfl (by exact Int.natCast_succ i) rfl (by omega) hkn.1 hkn.2.2)) ?_
     refine Dn 0 (k:=Nl [] (cs := []) (k:=fun b54 => Dn 4 (k:=?_)))
     refine an_ent rfl (ent_row (k := 0) (cap := 0) (sz := 2) (e := 109) (g := b54) (xs := []) (cur := []) (Nat.le_refl _) (by simp [maxLen]) rfl rfl rfl) ?_
     refine an_opT (opt_appendA (sz := 2) (bytes := 32) Tryz.underlying107 ti109 rfl rfl rfl rfl rfl rfl rfl (sla_take (sla_row (e := 109) (sz := 2) (k := qs.length) (n := qs.length) (c := lc) (a := la) (xs := qs.flatMap CdV.cells)) (i * 2)) (by rw [fl_take cds_len2, htl]) (by rw [fl_take cds_len2]; simp [List.all_flatMap, oneCell, CdV.cells]) (by omega) (by simp only [maxLen]; omega) (k := 0) (xs := [])) rfl (fun x58 ⟨a58, c58, h58⟩ => ?_)
     subst h58
     rw [Nat.zero_add, List.nil_append, fl_take cds_len2]
     refine Dn 9 (k:=?_)
     refine an_opT (opt_appendA (sz := 2) (bytes := 32) Tryz.underlying107 ti109 rfl rfl rfl rfl rfl rfl rfl (sla_from (e := 109) (sz := 2) (a := la) (n' := qs.length) (c' := lc) (m := i + 1) (kk := (i + 1) * 2) (k := qs.length) (xs := qs.flatMap CdV.cells) rfl (by omega)) (by rw [fl_drop cds_len2, hdl]) (by rw [fl_drop cds_len2]; simp [List.all_flatMap, oneCell, CdV.cells]) (by omega) (by simp only [maxLen]; omega) (k := i) (xs := (qs.take i).flatMap CdV.cells)) rfl (fun x63 ⟨a63, c63, h63⟩ => ?_)
     subst h63
     rw [fl_drop cds_len2, ← List.flatMap_append]
     refine Dv 10 (k:=Dd (k:=Yb ?_))
     refine to_inv ⟨((a63, c63), qs.take i ++ qs.drop (i + 1)), ?_⟩ trivial ⟨(by rw [show (qs.take i ++ qs.drop (i + 1)).length = i + (qs.length - (i + 1)) by simp; omega]; rfl), trivial⟩ ?_
     · refine hP.sub (fun c hc => ?_) (by simp [cdsOf]; omega)
       obtain ⟨x, hx, rfl⟩ := List.mem_map.1 hc
       rw [← hx17]
       exact List.mem_map.2 ⟨x, (List.mem_append.1 hx).elim List.mem_of_mem_take List.mem_of_mem_drop, rfl⟩
     · dsimp only
       rw [show (qs.take i ++ qs.drop (i + 1)).length = i + (qs.length - (i + 1)) by simp; omega]
       exact Ent.trans (ent_cdm_sub (qs := qs) (rs := qs.take i ++ qs.drop (i + 1)) HasC.get (fun x hx => (List.mem_append.1 hx).elim List.mem_of_mem_take List.mem_of_mem_drop)) ent_pick
    ·
     refine Qc (k:=Qv (k:=Wq (Zi (t:=fun h64 => ?_) (f:=fun h64 => ?_))))
     ·
      have htl : ((qs.take i).flatMap CdV.cells).length = i * 2 := by rw [flat_len cds_len2, List.length_take]; congr 1; omega
      have hdl : ((qs.drop i).flatMap CdV.cells).length = (qs.length - i) * 2 := by rw [flat_len cds_len2, List.length_drop]
      refine wc_frz la ?_
      refine Dw [SlI la (qs.flatMap CdV.cells)] (k:=?_)
      refine Dv 1 (k:=Dv 2 (k:=?_))
      refine d_first 3 rfl rfl rfl (by kernel_rfl) (by kernel_rfl) (tl_pv (pv_slslice_tom (m := i) Tryz.underlying107 ti109 rfl rfl rfl (by omega))) ?_
      refine Dv 5 (k:=Dv 6 (k:=?_))
      refine d_first 7 rfl rfl rfl (by kernel_rfl) (by kernel_rfl) (tl_elemAddr (m := i) (sz := 2) Tryz.underlying107 ti109 rfl rfl rfl rfl (by omega) (by rw [hlen]; omega) rfl) ?_
      refine d_first 8 rfl rfl rfl (by kernel_rfl) (by kernel_rfl) (tl_eloada (vs := CdV.cells qs[i]) (sz := 2) Tryz.underlying109 rfl ti109 rfl rfl (by rw [hlen]; omega) rfl (get_flat cds_len2 hil)) ?_
      refine Dv 11 (k:=Dv 12 (k:=?_))
      refine d_first 13 rfl rfl rfl (by kernel_rfl) (by kernel_rfl) (tl_pv (pv_slslice_froma (m := i) (kk := i * 2) Tryz.underlying107 ti109 rfl rfl rfl rfl rfl (by omega) hkn.1 hkn.2.2)) ?_
      refine d_next2 0 9 (by kernel_rfl) rfl rfl ?_ ?_
      ·
       refine Nl [] (cs := []) (k:=fun b66 => ?_)
       refine d_next2 4 9 (by kernel_rfl) rfl rfl ?_ ?_
       ·
        refine an_ent rfl (ent_row (k := 0) (cap := 0) (sz := 2) (e := 109) (g := b66) (xs := []) (cur := []) (Nat.le_refl _) (by simp [maxLen]) rfl rfl rfl) ?_
        refine an_opT (opt_appendA (sz := 2) (bytes := 32) Tryz.underlying107 ti109 rfl rfl rfl rfl rfl rfl rfl (sla_take (sla_sli (a := la) (xs := qs.flatMap CdV.cells)) (i * 2)) (by rw [fl_take cds_len2, htl]) (by rw [fl_take cds_len2]; simp [List.all_flatMap, oneCell, CdV.cells]) (by omega) (by simp only [maxLen]; omega) (k := 0) (xs := [])) rfl (fun x70 ⟨a70, c70, h70⟩ => ?_)
        subst h70
        rw [Nat.zero_add, List.nil_append, fl_take cds_len2]
        refine Dn 9 (k:=Nl [.agg (CdV.cells qs[i]).toArray] (cs := CdV.cells qs[i]) (k:=fun b75 => Dn 10 (k:=?_)))
        refine an_append1 (sz := 2) (bytes := 32) Tryz.underlying107 ti109 rfl rfl rfl rfl rfl rfl rfl (by rfl) (by rfl) (by omega) (by simp only [maxLen]; omega) rfl (fun a76 c76 => ?_)
        refine Dn 14 (k:=?_)
        refine an_opT (opt_appendA (sz := 2) (bytes := 32) Tryz.underlying107 ti109 rfl rfl rfl rfl rfl rfl rfl (sla_fromA (sz := 2) (k := qs.length) (c' := lc) (m := i) (kk := i * 2) (sla_sli (a := la) (xs := qs.flatMap CdV.cells)) hlen rfl (by omega) hkn.1) (by rw [fl_drop cds_len2, hdl]) (by rw [fl_drop cds_len2]; simp [List.all_flatMap, oneCell, CdV.cells]) (by omega) (by simp only [maxLen]; omega) (k := i + 1) (xs := (qs.take i).flatMap CdV.cells ++ CdV.cells qs[i])) rfl (fun x80 ⟨a80, c80, h80⟩ => ?_)
        subst h80
        rw [fl_drop cds_len2]
        refine Dv 15 (k:=Dd (k:=Yb ?_))
        exact zb19join20C
       ·
        refine Nl [.agg (CdV.cells qs[i]).toArray] (cs := CdV.cells qs[i]) (k:=fun b75 => Dn 4 (k:=?_))
        refine an_ent rfl (ent_row (k := 0) (cap := 0) (sz := 2) (e := 109) (g := b66) (xs := []) (cur := []) (Nat.le_refl _) (by simp [maxLen]) rfl rfl rfl) ?_
        refine an_opT (opt_appendA (sz := 2) (bytes := 32) Tryz.underlying107 ti109 rfl rfl rfl rfl rfl rfl rfl (sla_take (sla_sli (a := la) (xs := qs.flatMap CdV.cells)) (i * 2)) (by rw [fl_take cds_len2, htl]) (by rw [fl_take cds_len2]; simp [List.all_flatMap, oneCell, CdV.cells]) (by omega) (by simp only [maxLen]; omega) (k := 0) (xs := [])) rfl (fun x70 ⟨a70, c70, h70⟩ => ?_)
        subst h70
        rw [Nat.zero_add, List.nil_append, fl_take cds_len2]
        refine Dn 10 (k:=?_)
        refine an_append1 (sz := 2) (bytes := 32) Tryz.underlying107 ti109 rfl rfl rfl rfl rfl rfl rfl (by rfl) (by rfl) (by omega) (by simp only [maxLen]; omega) rfl (fun a76 c76 => ?_)
        refine Dn 14 (k:=?_)
        refine an_opT (opt_appendA (sz := 2) (bytes := 32) Tryz.underlying107 ti109 rfl rfl rfl rfl rfl rfl rfl (sla_fromA (sz := 2) (k := qs.length) (c' := lc) (m := i) (kk := i * 2) (sla_sli (a := la) (xs := qs.flatMap CdV.cells)) hlen rfl (by omega) hkn.1) (by rw [fl_drop cds_len2, hdl]) (by rw [fl_drop cds_len2]; simp [List.all_flatMap, oneCell, CdV.cells]) (by omega) (by simp only [maxLen]; omega) (k := i + 1) (xs := (qs.take i).flatMap CdV.cells ++ CdV.cells qs[i])) rfl (fun x80 ⟨a80, c80, h80⟩ => ?_)
        subst h80
        rw [fl_drop cds_len2]
        refine Dv 15 (k:=Dd (k:=Yb ?_))
        exact zb19join20C
      ·
       refine Nl [.agg (CdV.cells qs[i]).toArray] (cs := CdV.cells qs[i]) (k:=fun b75 => Dn 0 (k:=Nl [] (cs := []) (k:=fun b66 => Dn 4 (k:=?_))))
       refine an_ent rfl (ent_row (k := 0) (cap := 0) (sz := 2) (e := 109) (g := b66) (xs := []) (cur := []) (Nat.le_refl _) (by simp [maxLen]) rfl rfl rfl) ?_
       refine an_opT (opt_appendA (sz := 2) (bytes := 32) Tryz.underlying107 ti109 rfl rfl rfl rfl rfl rfl rfl (sla_take (sla_sli (a := la) (xs := qs.flatMap CdV.cells)) (i * 2)) (by rw [fl_take cds_len2, htl]) (by rw [fl_take cds_len2]; simp [List.all_flatMap, oneCell, CdV.cells]) (by omega) (by simp only [maxLen]; omega) (k := 0) (xs := [])) rfl (fun x70 ⟨a70, c70, h70⟩ => ?_)
       subst h70
       rw [Nat.zero_add, List.nil_append, fl_take cds_len2]
       refine Dn 10 (k:=?_)
       refine an_append1 (sz := 2) (bytes := 32) Tryz.underlying107 ti109 rfl rfl rfl rfl rfl rfl rfl (by rfl) (by rfl) (by omega) (by simp only [maxLen]; omega) rfl (fun a76 c76 => ?_)
       refine Dn 14 (k:=?_)
       refine an_opT (opt_appendA (sz := 2) (bytes := 32) Tryz.underlying107 ti109 rfl rfl rfl rfl rfl rfl rfl (sla_fromA (sz := 2) (k := qs.length) (c' := lc) (m := i) (kk := i * 2) (sla_sli (a := la) (xs := qs.flatMap CdV.cells)) hlen rfl (by omega) hkn.1) (by rw [fl_drop cds_len2, hdl]) (by rw [fl_drop cds_len2]; simp [List.all_flatMap, oneCell, CdV.cells]) (by omega) (by simp only [maxLen]; omega) (k := i + 1) (xs := (qs.take i).flatMap CdV.cells ++ CdV.cells qs[i])) rfl (fun x80 ⟨a80, c80, h80⟩ => ?_)
       subst h80
       rw [fl_drop cds_len2]
       refine Dv 15 (k:=Dd (k:=Yb ?_))
       exact zb19join20C
     ·
      refine Qc (k:=Qv (k:=Wq (Zi (t:=fun h81 => ?_) (f:=fun h81 => ?_))))
      ·
       obtain ⟨q, hq⟩ : ∃ q, q = qs[i] := ⟨_, rfl⟩
       refine wc_ent' (ent_cd (q := q) (by rw [hq]; exact List.getElem_mem hil) HasC.get) ?_
       have hqp := hci
       rw [← hq] at hqp
       refine wc_know (A := CdM qs) HasC.get cdm_cap (fun hcap => ?_)
       have hql2 : q.args.length ≤ q.c := hcap q (by rw [hq]; exact List.getElem_mem hil)
       have hqz : q.args.length ≤ 300 := by
        have hic : i < (cdsOf qs).length := by simp [cdsOf]; exact hil
        have h1 := hlz (cdsOf qs)[i] (by rw [← hx17]; exact List.getElem_mem _)
        have h2 := argsB_len q.args
        rw [hci, ← hq] at h1
        simp only [cardB, lineB, CdV.cd, List.length_append, List.length_cons, List.length_nil] at h1
        omega
       refine Zr (k:=Qv (k:=Zv [] (cs := []) (k:=fun b85 => Qv (k:=?_))))
       refine r_elemAddr (m := i) (sz := 2) Tryz.underlying107 ti109 rfl rfl rfl rfl (by omega) (by rw [hlen]; omega) rfl rfl ?_
       refine r_efield (o := 1) Tryz.underlying109 rfl ti27 rfl rfl rfl rfl (by rw [hlen]; omega) rfl ?_
       refine r_eload (v := .slice q.a q.args.length q.c) Tryz.underlying27 rfl rfl (by rw [get_field cds_len2 (by decide) hil, ← hq]; rfl) rfl ?_
       refine wo_ent' (ent_row (k := 0) (cap := 0) (sz := 1) (e := 9) (g := b85) (xs := []) (cur := []) (Nat.le_refl _) (by simp [maxLen]) rfl rfl rfl) ?_
       refine wo_opT (by intro c; simp) (opt_appendA (sz := 1) (bytes := 16) Tryz.underlying27 ti9 rfl rfl rfl rfl rfl rfl rfl (sla_sli (a := q.a) (xs := q.args.map vS)) (by rw [List.length_map, Nat.mul_one]) (all_vS _) (by omega) (by simp only [maxLen]; omega) (k := 0) (xs := [])) rfl (fun x91 ⟨a91, c91, h91⟩ => ?_)
       subst h91
       rw [Nat.zero_add, List.nil_append]
       refine Vv (k:=?_)
       refine r_callF (ref10_Escape_sp raw (by omega)) rfl rfl rfl ?_
       have he := (escB_len raw).2
       refine Vv (k:=Zv [_] (cs := [_]) (k:=fun b95 => ?_))
       refine r_append1 (sz := 1) (bytes := 16) Tryz.underlying27 ti9 rfl rfl rfl rfl rfl rfl rfl (by rfl) (by rfl) (by omega) (by simp only [maxLen]; omega) rfl (fun a96 c96 => ?_)
       refine wo_know (A := Row 9 1 (.slice a96 (q.args.length + 1) c96) (q.args.length + 1) (q.args.map vS ++ [vS ([119] ++ escB raw)])) HasC.get row_know (fun hkn2 => ?_)
       refine wo_frz a96 ?_
       refine r_elemAddr (m := i) (sz := 2) Tryz.underlying107 ti109 rfl rfl rfl rfl (by omega) (by rw [hlen]; omega) rfl rfl ?_
       refine r_efield (o := 1) Tryz.underlying109 rfl ti27 rfl rfl rfl rfl (by rw [hlen]; omega) rfl ?_
       refine r_estore ti27 rfl rfl rfl rfl (by rw [hlen]; omega) ?_
       rw [fl_set cds_len2 (by decide) (x' := ⟨q.l, a96, c96, q.args ++ [119 :: escB raw]⟩) qs i hil (by rw [← hq]; simp [CdV.cells])]
       refine wo_ent' (cdm_one (qs := qs) (rs := qs.set i ⟨q.l, a96, c96, q.args ++ [119 :: escB raw]⟩) (q := ⟨q.l, a96, c96, q.args ++ [119 :: escB raw]⟩) HasC.get (by rw [List.map_append]; exact (show Has (SlI a96 (q.args.map vS ++ [vS ([119] ++ escB raw)])) _ from HasC.get)) (by simp; exact hkn2.1) (fun x hx => List.mem_or_eq_of_mem_set hx)) ?_
       refine Wn (Yb ?_)
       refine to_inv ⟨((la, lc), qs.set i ⟨q.l, a96, c96, q.args ++ [119 :: escB raw]⟩), ?_⟩ trivial ⟨(by simp only [List.length_set]; rfl), trivial⟩ ?_
       · rw [cdsOf_set]
         have h5 : LinP l (cdsOf qs) := by rw [hx17]; exact hP
         have := h5.more (i := i) (by simp [cdsOf]; exact hil) (by rw [hx17]; exact hlz) hraw
         rw [hci, ← hq] at this
         exact this
       · dsimp only
         simp only [List.length_set]
         exact ent_pick
      ·
       refine Qc (k:=Qv (k:=Wq (Zi (t:=fun h99 => ?_) (f:=fun h99 => ?_))))
       ·
        obtain ⟨q, hq⟩ : ∃ q, q = qs[i] := ⟨_, rfl⟩
        have hqp := hci
        rw [← hq] at hqp
        refine Zr (k:=Qv (k:=Vv (k:=?_)))
        refine r_callF (ref10_Escape_sp raw (by omega)) rfl rfl rfl ?_
        have he := (escB_len raw).2
        refine Vv (k:=Zv [_] (cs := [_]) (k:=fun b106 => ?_))
        refine wo_ent' (ent_row (k := 1) (cap := 1) (sz := 1) (e := 9) (g := b106) (xs := [vS (escB raw ++ [119])]) (cur := [vS (escB raw ++ [119])]) (Nat.le_refl _) (by simp [maxLen]) rfl rfl rfl) ?_
        refine wo_frz (some ⟨b106, 0, none⟩) ?_
        refine r_elemAddr (m := i) (sz := 2) Tryz.underlying107 ti109 rfl rfl rfl rfl (by omega) (by rw [hlen]; omega) rfl rfl ?_
        refine r_efield (o := 1) Tryz.underlying109 rfl ti27 rfl rfl rfl rfl (by rw [hlen]; omega) rfl ?_
        refine r_estore ti27 rfl rfl rfl rfl (by rw [hlen]; omega) ?_
        rw [fl_set cds_len2 (by decide) (x' := ⟨q.l, some ⟨b106, 0, none⟩, 1, [escB raw ++ [119]]⟩) qs i hil (by rw [← hq]; simp [CdV.cells])]
        refine wo_ent' (cdm_one (qs := qs) (rs := qs.set i ⟨q.l, some ⟨b106, 0, none⟩, 1, [escB raw ++ [119]]⟩) (q := ⟨q.l, some ⟨b106, 0, none⟩, 1, [escB raw ++ [119]]⟩) HasC.get (by simp only [List.map_cons, List.map_nil]; exact HasC.get) (by simp) (fun x hx => List.mem_or_eq_of_mem_set hx)) ?_
        refine Wn (Yb ?_)
        refine to_inv ⟨((la, lc), qs.set i ⟨q.l, some ⟨b106, 0, none⟩, 1, [escB raw ++ [119]]⟩), ?_⟩ trivial ⟨(by simp only [List.length_set]; rfl), trivial⟩ ?_
        · rw [cdsOf_set]
          have h5 : LinP l (cdsOf qs) := by rw [hx17]; exact hP
          have := h5.one (i := i) (by simp [cdsOf]; exact hil) hraw
          rw [hci, ← hq] at this
          exact this
        · dsimp only
          simp only [List.length_set]
          exact ent_pick
       ·
        refine Qc (k:=Qv (k:=Wq (Zi (t:=fun h109 => ?_) (f:=fun h109 => ?_))))
        ·
         have hs43 : 43 ≤ s.length := by
          have := congrArg List.length (readC_iff.1 hl).2
          rw [printB, sealB_len] at this; omega
         refine Qc (k:=Qv (k:=Qv (k:=?_)))
         refine wo_pv (pv_slice_tom (m := s.length - 2) Tryz.underlying9 rfl rfl (by omega) (by omega)) rfl ?_
         refine Qv (k:=Vv (k:=Wq (Zt (k:=Vb (Vi ?_)))))
         exact fin_ret (s.take (s.length - 2) ++ raw) (vs := [_]) (Cs := []) rfl (.tmp rfl .nil) rfl ⟨.cut l hl, by simp; omega⟩ ent_nil
        ·
         refine Qc (k:=Qv (k:=Wq (Zi (t:=fun h118 => ?_) (f:=fun h118 => ?_))))
         ·
          refine Zr (k:=Qv (k:=Vv (k:=?_)))
          refine r_callF (book_Within_sp to_ 0 8 (by omega) (by omega) (by omega)) rfl rfl rfl ?_
          rw [hm]
          obtain ⟨ch, hch⟩ : ∃ ch, ch = ([66, 67, 68, 70, 77, 80, 84, 85, 88] : Bs).getD m 0 := ⟨_, rfl⟩
          have hch2 : 65 ≤ ch.toNat := by
           have : ∀ k : Fin 9, 65 ≤ (([66, 67, 68, 70, 77, 80, 84, 85, 88] : Bs).getD k.1 0).toNat := by decide
           rw [hch]; exact this ⟨m, by omega⟩
          refine wo_pv (pv_indexm (m := m) Tryz.underlying9 rfl rfl rfl (by show m < 9; omega)) rfl ?_
          rw [← hch]
          refine r_elemAddr (m := i) (sz := 2) Tryz.underlying107 ti109 rfl rfl rfl rfl (by omega) (by rw [hlen]; omega) rfl rfl ?_
          refine r_efield (o := 0) Tryz.underlying109 rfl ti5 rfl rfl rfl rfl (by rw [hlen]; omega) rfl ?_
          refine r_estore ti5 rfl rfl rfl rfl (by rw [hlen]; omega) ?_
          rw [fl_set cds_len2 (by decide) (x' := ⟨ch, qs[i].a, qs[i].c, qs[i].args⟩) qs i hil (by simp [CdV.cells])]
          refine wo_ent' (cdm_as (qs := qs) (rs := qs.set i ⟨ch, qs[i].a, qs[i].c, qs[i].args⟩) HasC.get (fun x hx => by
           rcases List.mem_or_eq_of_mem_set hx with e | e
           · exact ⟨x, e, rfl, rfl, rfl⟩
           · exact ⟨qs[i], List.getElem_mem _, by rw [e], by rw [e], by rw [e]⟩)) ?_
          refine Wn (Yb ?_)
          refine to_inv ⟨((la, lc), qs.set i ⟨ch, qs[i].a, qs[i].c, qs[i].args⟩), ?_⟩ trivial ⟨(by simp only [List.length_set]; rfl), trivial⟩ ?_
          · rw [cdsOf_set]
            have h5 : LinP l (cdsOf qs) := by rw [hx17]; exact hP
            have := h5.lett (i := i) (by simp [cdsOf]; exact hil) hch2
            rw [hci] at this
            exact this
          · dsimp only
            simp only [List.length_set]
            exact ent_pick
         ·
          refine Zk (k:=Yb ?_)
          refine to_inv ⟨((la, lc), qs), by rw [hx17]; exact hP⟩ trivial ⟨rfl, trivial⟩ ent_pick
end
def frc {α : Type} (n : Nat) (k : Nat → α) : α := match n with | 0 => k 0 | m + 1 => k (m + 1)
theorem frc_eq {α : Type} (n : Nat) (k : Nat → α) : frc n k = k n := by cases n <;> rfl
def rotN (x k : Nat) : Nat := Nat.lor (Nat.mod (Nat.shiftLeft x k) 4294967296) (Nat.shiftRight x (Nat.sub 32 k))
def addN (x y : Nat) : Nat := Nat.mod (Nat.add x y) 4294967296
def notN (x : Nat) : Nat := Nat.sub 4294967295 x
theorem rotN_eq (x : UInt32) {k : Nat} (h0 : 0 < k) (h : k < 32) : rotN x.toNat k = (rotl x k).toNat := by
 have h1 : (UInt32.ofNat k).toNat % 32 = k := by rw [UInt32.toNat_ofNat']; omega
 have h2 : (UInt32.ofNat (32 - k)).toNat % 32 = 32 - k := by rw [UInt32.toNat_ofNat']; omega
 rw [rotl, UInt32.toNat_or, UInt32.toNat_shiftLeft, UInt32.toNat_shiftRight, h1, h2]; rfl
theorem addN_eq (x y : UInt32) : addN x.toNat y.toNat = (x + y).toNat := by rw [UInt32.toNat_add]; rfl
theorem notN_eq (x : UInt32) : notN x.toNat = (~~~x).toNat := by rw [UInt32.toNat_not]; rfl
theorem andN_eq (x y : UInt32) : Nat.land x.toNat y.toNat = (x &&& y).toNat := by rw [UInt32.toNat_and]; rfl
theorem orN_eq (x y : UInt32) : Nat.lor x.toNat y.toNat = (x ||| y).toNat := by rw [UInt32.toNat_or]; rfl
theorem xorN_eq (x y : UInt32) : Nat.xor x.toNat y.toNat = (x ^^^ y).toNat := by rw [UInt32.toNat_xor]; rfl
/-! The words. -/
def wordsN : Bs → Nat → List Nat → List Nat
 | b, 0, r => r
 | a :: b :: c :: d :: l, k + 1, r => frc (Nat.add (Nat.add (Nat.mul a.toNat 16777216) (Nat.mul b.toNat 65536)) (Nat.add (Nat.mul c.toNat 256) d.toNat)) fun w => wordsN l k (w :: r)
 | _, _ + 1, r => r
def moreN : Nat → List Nat → List Nat
 | 0, r => r
 | k + 1, r => frc (rotN (Nat.xor (Nat.xor (Nat.xor (r.getD 2 0) (r.getD 7 0)) (r.getD 13 0)) (r.getD 15 0)) 1) fun w => moreN k (w :: r)
theorem blkW_nat (b : Bs) (i : Nat) : (blkW b i).toNat = (b.getD (4 * i) 0).toNat * 16777216 + (b.getD (4 * i + 1) 0).toNat * 65536 + ((b.getD (4 * i + 2) 0).toNat * 256 + (b.getD (4 * i + 3) 0).toNat) := by
 unfold blkW byteW
 generalize b.getD (4 * i) 0 = p, b.getD (4 * i + 1) 0 = q, b.getD (4 * i + 2) 0 = u, b.getD (4 * i + 3) 0 = v
 have hp : p.toNat < 256 := p.toNat_lt
 have hq : q.toNat < 256 := q.toNat_lt
 have hu : u.toNat < 256 := u.toNat_lt
 have hv : v.toNat < 256 := v.toNat_lt
 have e24 : (UInt32.ofNat 24).toNat % 32 = 24 := rfl
 have e16 : (UInt32.ofNat 16).toNat % 32 = 16 := rfl
 have e8 : (UInt32.ofNat 8).toNat % 32 = 8 := rfl
 rw [UInt32.toNat_or, UInt32.toNat_or, UInt32.toNat_or, UInt32.toNat_shiftLeft, UInt32.toNat_shiftLeft, UInt32.toNat_shiftLeft, e24, e16, e8, UInt8.toNat_toUInt32, UInt8.toNat_toUInt32, UInt8.toNat_toUInt32, UInt8.toNat_toUInt32]
 rw [Nat.shiftLeft_eq, Nat.shiftLeft_eq, Nat.shiftLeft_eq]
 rw [Nat.mod_eq_of_lt (by omega : p.toNat * 2 ^ 24 < 2 ^ 32), Nat.mod_eq_of_lt (by omega : q.toNat * 2 ^ 16 < 2 ^ 32), Nat.mod_eq_of_lt (by omega : u.toNat * 2 ^ 8 < 2 ^ 32)]
 rw [Nat.or_assoc, Nat.or_assoc]
 have e1 := Nat.two_pow_add_eq_or_of_lt (i := 8) (b := v.toNat) (by omega) u.toNat
 have e2 := Nat.two_pow_add_eq_or_of_lt (i := 16) (b := 2 ^ 8 * u.toNat + v.toNat) (by omega) q.toNat
 have e3 := Nat.two_pow_add_eq_or_of_lt (i := 24) (b := 2 ^ 16 * q.toNat + (2 ^ 8 * u.toNat + v.toNat)) (by omega) p.toNat
 rw [Nat.mul_comm u.toNat, Nat.mul_comm q.toNat, Nat.mul_comm p.toNat, ← e1, ← e2, ← e3]
 omega
def revT (l : List UInt32) : List Nat := (l.map UInt32.toNat).reverse
theorem revT_snoc (l : List UInt32) (x : UInt32) : revT (l ++ [x]) = x.toNat :: revT l := by simp [revT]
theorem revT_getD (l : List UInt32) (j : Nat) (h : j < l.length) : (revT l).getD j 0 = (l.getD (l.length - 1 - j) 0).toNat := by
 have h1 : l.length - 1 - j < l.length := by omega
 simp [revT, h, h1, List.getElem?_reverse]
theorem wordsN_eq (b : Bs) (hb : b.length = 64) : ∀ (k j : Nat), k + j = 16 → wordsN (b.drop (4 * j)) k (revT (spreadL b j)) = revT (spreadL b 16) := by
 intro k
 induction k with
 | zero =>
   intro j h
   obtain rfl : j = 16 := by omega
   rw [wordsN]
 | succ k ih =>
   intro j h
   have hl : 4 * j + 4 ≤ b.length := by omega
   have hd : b.drop (4 * j) = b.getD (4 * j) 0 :: b.getD (4 * j + 1) 0 :: b.getD (4 * j + 2) 0 :: b.getD (4 * j + 3) 0 :: b.drop (4 * (j + 1)) := by
    have g : ∀ i, i < b.length → b.drop i = b.getD i 0 :: b.drop (i + 1) := fun i hi => by
     rw [List.drop_eq_getElem_cons hi]
     simp [hi]
    rw [g (4 * j) (by omega), g (4 * j + 1) (by omega), g (4 * j + 1 + 1) (by omega), g (4 * j + 1 + 1 + 1) (by omega), show 4 * (j + 1) = 4 * j + 1 + 1 + 1 + 1 by omega]
   rw [hd, wordsN, frc_eq]
   have := ih (j + 1) (by omega)
   rw [← this, spreadL, revT_snoc, if_pos (by omega : j < 16), blkW_nat]
   rfl
theorem moreN_eq (b : Bs) : ∀ (k j : Nat), 16 ≤ j → moreN k (revT (spreadL b j)) = revT (spreadL b (j + k)) := by
 intro k
 induction k with
 | zero => intro j _; rfl
 | succ k ih =>
   intro j hj
   have hl := spreadL_len b j
   rw [moreN, frc_eq, revT_getD _ _ (by omega), revT_getD _ _ (by omega), revT_getD _ _ (by omega), revT_getD _ _ (by omega), hl, xorN_eq, xorN_eq, xorN_eq, rotN_eq _ (by decide) (by decide)]
   rw [show j + (k + 1) = j + 1 + k by omega, ← ih (j + 1) (by omega), spreadL, revT_snoc, if_neg (by omega : ¬ j < 16), nextW]
   rw [show j - 1 - 2 = j - 3 by omega, show j - 1 - 7 = j - 8 by omega, show j - 1 - 13 = j - 14 by omega, show j - 1 - 15 = j - 16 by omega]
/-! The rounds. -/
def mixN (p b c d : Nat) : Nat :=
 match p with
 | 0 => Nat.add (Nat.lor (Nat.land b c) (Nat.land (notN b) d)) 0x5a827999
 | 1 => Nat.add (Nat.xor (Nat.xor b c) d) 0x6ed9eba1
 | 2 => Nat.add (Nat.lor (Nat.lor (Nat.land b c) (Nat.land b d)) (Nat.land c d)) 0x8f1bbcdc
 | _ => Nat.add (Nat.xor (Nat.xor b c) d) 0xca62c1d6
def goN {α : Type} : List Nat → Nat → Nat → Nat → Nat → Nat → Nat → (Nat → Nat → Nat → Nat → Nat → α) → α
 | [], _, a, b, c, d, e, k => k a b c d e
 | w :: ws, i, a, b, c, d, e, k => frc (Nat.mod (Nat.add (Nat.add (Nat.add (rotN a 5) (mixN (Nat.div i 20) b c d)) e) w) 4294967296) fun t => frc (rotN b 30) fun b' => frc (Nat.succ i) fun i' => goN ws i' t a b' c d k
theorem round_nat (w : List UInt32) (i : Nat) (s : W5) : (roundW w i s).a.toNat = Nat.mod (Nat.add (Nat.add (Nat.add (rotN s.a.toNat 5) (mixN (Nat.div i 20) s.b.toNat s.c.toNat s.d.toNat)) s.e.toNat) (w.getD i 0).toNat) 4294967296 := by
 have key : ∀ f k : UInt32, ∀ m : Nat, m = f.toNat + k.toNat → (rotl s.a 5 + f + s.e + k + w.getD i 0).toNat = Nat.mod (Nat.add (Nat.add (Nat.add (rotN s.a.toNat 5) m) s.e.toNat) (w.getD i 0).toNat) 4294967296 := by
  intro f k m hm
  rw [rotN_eq _ (by decide) (by decide), hm]
  simp only [UInt32.toNat_add]
  show _ = ((rotl s.a 5).toNat + (f.toNat + k.toNat) + s.e.toNat + (w.getD i 0).toNat) % 4294967296
  omega
 show (rotl s.a 5 + (mixW i s.b s.c s.d).1 + s.e + (mixW i s.b s.c s.d).2 + w.getD i 0).toNat = _
 refine key _ _ _ ?_
 have hd : Nat.div i 20 = i / 20 := rfl
 rw [hd]
 unfold mixW
 rcases e : i / 20 with _ | _ | _ | n
 · rw [if_pos rfl]
   show Nat.add (Nat.lor (Nat.land s.b.toNat s.c.toNat) (Nat.land (notN s.b.toNat) s.d.toNat)) 0x5a827999 = _
   rw [notN_eq, andN_eq, andN_eq, orN_eq]; rfl
 · rw [if_neg (by decide), if_pos rfl]
   show Nat.add (Nat.xor (Nat.xor s.b.toNat s.c.toNat) s.d.toNat) 0x6ed9eba1 = _
   rw [xorN_eq, xorN_eq]; rfl
 · rw [if_neg (by decide), if_neg (by decide), if_pos rfl]
   show Nat.add (Nat.lor (Nat.lor (Nat.land s.b.toNat s.c.toNat) (Nat.land s.b.toNat s.d.toNat)) (Nat.land s.c.toNat s.d.toNat)) 0x8f1bbcdc = _
   rw [andN_eq, andN_eq, andN_eq, orN_eq, orN_eq]; rfl
 · rw [if_neg (by omega), if_neg (by omega), if_neg (by omega)]
   show Nat.add (Nat.xor (Nat.xor s.b.toNat s.c.toNat) s.d.toNat) 0xca62c1d6 = _
   rw [xorN_eq, xorN_eq]; rfl
theorem goN_eq {α : Type} (w : List UInt32) (h : W5) (k : Nat → Nat → Nat → Nat → Nat → α) : ∀ (m i : Nat), m + i = w.length → goN ((w.drop i).map UInt32.toNat) i (roundsW w h i).a.toNat (roundsW w h i).b.toNat (roundsW w h i).c.toNat (roundsW w h i).d.toNat (roundsW w h i).e.toNat k =
    k (roundsW w h w.length).a.toNat (roundsW w h w.length).b.toNat (roundsW w h w.length).c.toNat (roundsW w h w.length).d.toNat (roundsW w h w.length).e.toNat := by
 intro m
 induction m with
 | zero => intro i e; rw [show i = w.length by omega, List.drop_length]; rfl
 | succ m ih =>
   intro i e
   have hi : i < w.length := by omega
   rw [List.drop_eq_getElem_cons hi, List.map_cons, goN, frc_eq, frc_eq, frc_eq, ← ih (i + 1) (by omega)]
   have h1 := round_nat w i (roundsW w h i)
   rw [show (w.getD i 0) = w[i] by simp [hi]] at h1
   rw [← h1, rotN_eq _ (by decide) (by decide)]
   rfl
/-! A block; a content. -/
def takeN {α : Type} (b : Bs) (a0 b0 c0 d0 e0 : Nat) (k : Nat → Nat → Nat → Nat → Nat → α) : α :=
 goN (moreN 64 (wordsN b 16 [])).reverse 0 a0 b0 c0 d0 e0 fun a b c d e => frc (addN a0 a) fun a => frc (addN b0 b) fun b => frc (addN c0 c) fun c => frc (addN d0 d) fun d => frc (addN e0 e) fun e => k a b c d e
theorem takeN_eq {α : Type} (b : Bs) (hb : b.length = 64) (h : W5) (k : Nat → Nat → Nat → Nat → Nat → α) : takeN b h.a.toNat h.b.toNat h.c.toNat h.d.toNat h.e.toNat k = k (takeW h b).a.toNat (takeW h b).b.toNat (takeW h b).c.toNat (takeW h b).d.toNat (takeW h b).e.toNat := by
 have h1 : wordsN b 16 [] = revT (spreadL b 16) := wordsN_eq b hb 16 0 rfl
 have h2 := moreN_eq b 64 16 (Nat.le_refl _)
 have h3 : (revT (spreadL b 80)).reverse = (spreadL b 80).map UInt32.toNat := by simp [revT]
 have h4 := goN_eq (α := α) (spreadL b 80) h (fun x y z u v => frc (addN h.a.toNat x) fun x => frc (addN h.b.toNat y) fun y => frc (addN h.c.toNat z) fun z => frc (addN h.d.toNat u) fun u => frc (addN h.e.toNat v) fun v => k x y z u v) 80 0 (by rw [spreadL_len])
 rw [List.drop_zero, spreadL_len] at h4
 rw [takeN, h1, h2, h3]
 refine h4.trans ?_
 simp only [frc_eq, addN_eq]
 rfl
def blksN {α : Type} : Nat → Bs → Nat → Nat → Nat → Nat → Nat → (Nat → Nat → Nat → Nat → Nat → α) → α
 | 0, _, a, b, c, d, e, k => k a b c d e
 | n + 1, p, a, b, c, d, e, k => takeN (p.take 64) a b c d e fun a b c d e => blksN n (p.drop 64) a b c d e k
theorem blksN_eq {α : Type} (p : Bs) (h : W5) (k : Nat → Nat → Nat → Nat → Nat → α) (N : Nat) (hp : p.length = 64 * N) : ∀ (m i : Nat), m + i = N → blksN m (p.drop (64 * i)) (sumsW p h i).a.toNat (sumsW p h i).b.toNat (sumsW p h i).c.toNat (sumsW p h i).d.toNat (sumsW p h i).e.toNat k =
    k (sumsW p h N).a.toNat (sumsW p h N).b.toNat (sumsW p h N).c.toNat (sumsW p h N).d.toNat (sumsW p h N).e.toNat := by
 intro m
 induction m with
 | zero => intro i e; rw [show i = N by omega]; rfl
 | succ m ih =>
   intro i e
   rw [blksN, takeN_eq _ (by rw [List.length_take, List.length_drop]; omega), List.drop_drop, show 64 * i + 64 = 64 * (i + 1) by omega]
   exact ih (i + 1) (by omega)
/-- A content's five words. -/
def sumN {α : Type} (s : Bs) (k : Nat → Nat → Nat → Nat → Nat → α) : α := frc (blocksN s) fun n => blksN n (padB s) 0x67452301 0xefcdab89 0x98badcfe 0x10325476 0xc3d2e1f0 k
theorem sumN_eq {α : Type} (s : Bs) (k : Nat → Nat → Nat → Nat → Nat → α) : sumN s k = k (sumsW (padB s) h0W (blocksN s)).a.toNat (sumsW (padB s) h0W (blocksN s)).b.toNat (sumsW (padB s) h0W (blocksN s)).c.toNat (sumsW (padB s) h0W (blocksN s)).d.toNat (sumsW (padB s) h0W (blocksN s)).e.toNat := by
 rw [sumN, frc_eq]
 exact blksN_eq (padB s) h0W k (blocksN s) (padB_len s) (blocksN s) 0 rfl
def hexN (x : Nat) : Bs := (List.range 8).map fun j => hexD.getD (Nat.land (Nat.shiftRight x (28 - 4 * j)) 15) 0
theorem hexN_eq (x : UInt32) : hexN x.toNat = hexW x := by
 unfold hexN hexW
 refine List.map_congr_left fun j hj => ?_
 have hj8 := List.mem_range.1 hj
 have h1 : (UInt32.ofNat (28 - 4 * j)).toNat % 32 = 28 - 4 * j := by rw [UInt32.toNat_ofNat']; omega
 rw [UInt32.toNat_and, UInt32.toNat_shiftRight, h1]; rfl
/-- The first words alone tell contents apart. -/
theorem hexW_inj {x y : UInt32} (h : hexW x = hexW y) : x = y := by
 have key : ∀ j, j < 8 → (x.toNat >>> (28 - 4 * j)) &&& 15 = (y.toNat >>> (28 - 4 * j)) &&& 15 := by
  intro j hj
  have h2 := congrArg (fun l => l.getD j 0) (by rw [← hexN_eq, ← hexN_eq] at h; exact h : hexN x.toNat = hexN y.toNat)
  simp only [hexN, List.getD_eq_getElem?_getD, List.getElem?_map, List.getElem?_range hj, Option.map_some, Option.getD_some] at h2
  have inj : ∀ a b : Fin 16, hexD.getD a.1 0 = hexD.getD b.1 0 → a = b := by decide
  have la : Nat.land (x.toNat.shiftRight (28 - 4 * j)) 15 < 16 := Nat.lt_of_le_of_lt (Nat.and_le_right (n := x.toNat.shiftRight (28 - 4 * j)) (m := 15)) (by decide)
  have lb : Nat.land (y.toNat.shiftRight (28 - 4 * j)) 15 < 16 := Nat.lt_of_le_of_lt (Nat.and_le_right (n := y.toNat.shiftRight (28 - 4 * j)) (m := 15)) (by decide)
  have := inj ⟨_, la⟩ ⟨_, lb⟩ (by simpa [List.getD_eq_getElem?_getD] using h2)
  exact congrArg Fin.val this
 have hx : x.toNat < 4294967296 := x.toNat_lt
 have hy : y.toNat < 4294967296 := y.toNat_lt
 have f : ∀ n k : Nat, (n >>> k) &&& 15 = n / 2 ^ k % 16 := fun n k => by
  rw [Nat.shiftRight_eq_div_pow, show (15 : Nat) = 2 ^ 4 - 1 from rfl, Nat.and_two_pow_sub_one_eq_mod]
 have k0 := key 0 (by decide); have k1 := key 1 (by decide); have k2 := key 2 (by decide); have k3 := key 3 (by decide)
 have k4 := key 4 (by decide); have k5 := key 5 (by decide); have k6 := key 6 (by decide); have k7 := key 7 (by decide)
 simp only [f] at k0 k1 k2 k3 k4 k5 k6 k7
 apply UInt32.toNat_inj.1
 omega
theorem first_ne {s t : Bs} (h : (sumN s fun a _ _ _ _ => a) ≠ (sumN t fun a _ _ _ _ => a)) : shaB s ≠ shaB t := fun e => by
 rw [sumN_eq, sumN_eq] at h
 apply h
 have e2 : (shaB s).take 8 = (shaB t).take 8 := by rw [e]
 have f : ∀ u : Bs, (shaB u).take 8 = hexW (sumsW (padB u) h0W (blocksN u)).a := fun u => by
  rw [shaB, W5.list, List.flatMap_cons, List.take_left' (hexW_len _)]
 rw [f, f] at e2
 rw [hexW_inj e2]
end Go.Proofs.YtibccdcemcgkeaaGreat
