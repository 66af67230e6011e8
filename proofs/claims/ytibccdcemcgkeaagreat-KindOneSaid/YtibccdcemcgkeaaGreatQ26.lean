/- Texts of this proof, put together: SLin, LawKindRuns, LawKindOne. -/
import Derived.Test.YtibccdcemcgkeaaGreatQ08
import Derived.Test.YtibccdcemcgkeaaGreatQ25
import Derived.Test.YtibccdcemcgkeaaGreatQ24
set_option linter.unusedVariables false
set_option linter.unusedSimpArgs false
section
set_option maxRecDepth 100000
namespace Go.Proofs.YtibccdcemcgkeaaGreat
section
variable {r : Option Nat} {P : Program} {n : Nat} {L : Loc} {Hs : List HP} {Q : Out} {ops : Array Oper} {A : List HP} {ty : TypeId} {d : Nat} {pos : String} {after : Array Edge}
theorem an_eloada {K : Loc → List HP → Prop} {t : TypeId} {td : TypeDesc} {x : Operand} {a : Option Addr} {k : Nat} {xs vs : List Value} {ti : TypeInfo} {sz : Nat} (ht : P.underlying t = some td) (hfl : flat td = false) (hi : P.info? t = some ti) (hsz : ti.size = sz)
    (hx : ev L x = some (.pointer (elemA a k))) [hr : RdSl a xs Hs] (hl : k + sz ≤ xs.length) (hs0 : Nat.blt 0 sz = true) (hv : (xs.drop k).take sz = vs) (hd : Nat.blt d n = true)
    (k' : K ((d, .agg vs.toArray) :: L) Hs) : AnOp r P n ops A ⟨some d, .load t x, ty, pos, after, none⟩ K L Hs := by
 obtain ⟨B, sh, hB⟩ := hr.get
 have hpos : 0 < sz := by simpa using hs0
 refine an_read hB hd (fun ac f w M h1 h2 hf t' le yy _ _ _ _ => ?_) k'
 obtain ⟨g, off, rfl, hc⟩ := sla_cell sh t' le yy (fun e => by rw [e] at hl; simp at hl; omega)
 have h3 := run_ecells (P := P) hc hl hv
 simp [execOp, f.ev hx, elemA, Instr.loadAt, Instr.sureAddr, loadVar, isAgg_agg ht hfl, sizeOf, typeInfo, program, Sem.run, hi, hsz, h3]
theorem an_estorea {K : Loc → List HP → Prop} {t : TypeId} {ti : TypeInfo} {x y : Operand} {a : Option Addr} {e sz n' c' k m : Nat} {xs vs : List Value} {Rs : List HP} (hi : P.info? t = some ti) (hs : Nat.beq ti.size vs.length = true) (hv : 0 < vs.length)
    (hx : ev L x = some (.pointer (elemA a m))) (hy : ev L y = some (.agg vs.toArray)) [hp : RowAC a e sz n' c' k xs Hs Rs] (h1 : vs.all oneCell = true) (hm : m + vs.length ≤ xs.length)
    (k' : K L (Row e sz (.slice a n' c') k (setAt xs m vs) :: Rs)) : AnOp r P n ops A ⟨none, .store t x y, ty, pos, after, none⟩ K L Hs := by
 haveI : PicksC [Row e sz (.slice a n' c') k xs] Hs Rs := ⟨.cons hp.get .nil⟩
 exact an_opT (opt_estorea hi hs hv hx hy rfl h1 hm) rfl (fun _ _ => k')
end
theorem sla_fromA {A : HP} {sz k c' m kk : Nat} {a : Option Addr} {xs : List Value} (sh : SlA A a xs) (hx : xs.length = k * sz) (hk : m * sz = kk) (hm : m ≤ k) (hc : k ≤ c') : SlA A (fromA a m c' kk) (xs.drop kk) := fun x => by
 by_cases hlt : m < c'
 · rcases sh x with e | ⟨g, off, l, T, fz, e1, e2, e3⟩
   · left; rw [e]; simp
   · refine .inr ⟨g, off + kk, l, T, fz, ?_, e2, ?_⟩
     · rw [fromA, if_pos hlt, e1]; rfl
     · conv => rhs; rw [← e3]
       rw [List.drop_take, List.drop_drop, List.length_drop]
 · left
   have hmk : m = k := by omega
   subst hmk
   rw [← hk, ← hx, List.drop_length]
theorem cds_len2 (q : CdV) : q.cells.length = 2 := rfl
theorem cdm_one {qs rs : List CdV} {q : CdV} {Hs : List HP} (hp : Has (CdM qs) Hs) (hq : Has (SlI q.a (q.args.map vS)) Hs) (hc : q.args.length ≤ q.c) (h : ∀ x ∈ rs, x ∈ qs ∨ x = q) : Ent Hs (CdM rs :: Hs) := ⟨fun {M g} s => by
 obtain ⟨h1, _, a⟩ := hp.sat s
 obtain ⟨h2, _, b⟩ := hq.sat s
 refine ⟨Res.emp, g, Res.emp_dj _, rfl, fun x hx => ?_, s⟩
 rcases h x hx with e | e
 · exact a x e
 · rw [e]; exact ⟨b, hc⟩⟩
theorem cdm_as {qs rs : List CdV} {Hs : List HP} (hp : Has (CdM qs) Hs) (h : ∀ x ∈ rs, ∃ y ∈ qs, x.a = y.a ∧ x.c = y.c ∧ x.args = y.args) : Ent Hs (CdM rs :: Hs) := ⟨fun {M g} s => by
 obtain ⟨h1, _, a⟩ := hp.sat s
 refine ⟨Res.emp, g, Res.emp_dj _, rfl, fun x hx => ?_, s⟩
 obtain ⟨y, hy, e1, e2, e3⟩ := h x hx
 rw [e1, e2, e3]; exact a y hy⟩
theorem cdsOf_set (qs : List CdV) (i : Nat) (q : CdV) : cdsOf (qs.set i q) = (cdsOf qs).set i q.cd := by simp [cdsOf, List.map_set]
set_option maxHeartbeats 8000000 in
theorem keep_Lines_sp (s raw : Bs) (at_ to_ how : Int) (hs : s.length ≤ 300) (hraw : raw.length ≤ 5) : Sp Tryz.prog 19 [vS s, vI at_, vI to_, vS raw, vI how] [] (X := Bs) (fun x => vS x) (fun x => LinR s raw x ∧ x.length ≤ 200000) (fun _ => []) := by
 refine Sp.body (n := 129) Tryz.call19 Tryz.func19 rfl rfl rfl ?_
 refine Za (k:=Zr (k:=Vv (k:=Wq (Za (k:=Zr (k:=Vv (k:=?_)))))))
 refine r_callX (ref10_Cards_sp s (by omega)) rfl rfl rfl (fun x17 hx17 => ?_)
 obtain ⟨⟨la, lc⟩, qs⟩ := x17
 dsimp only at hx17 ⊢
 refine Vv (k:=?_)
 refine wo_pv (pv_extract (v := .slice la qs.length lc) rfl rfl) rfl ?_
 refine wo_pv (pv_extract (v := vB (readC s).isSome) rfl rfl) rfl ?_
 refine Vv (k:=Vv (k:=Wq (Za (k:=Za (k:=Zr (k:=Vv (k:=Vv (k:=Vv (k:=Wq (Zi (t:=fun h22 => ?_) (f:=fun h22 => ?_)))))))))))
 ·
  refine Za (k:=Zr (k:=Vv (k:=Vv (k:=Wq (Zt (k:=Va ?_))))))
  exact fin_ret s (vs := [_]) (Cs := []) rfl (.tmp rfl .nil) rfl ⟨.same, by omega⟩ ent_nil
 ·
  obtain ⟨l, hl⟩ : ∃ l, readC s = some l := by
   cases e : readC s with
   | some l => exact ⟨l, rfl⟩
   | none =>
     rw [e] at hx17
     have : qs = [] := List.map_eq_nil_iff.1 hx17
     rw [this] at h22; exact absurd rfl h22
  rw [hl, Option.getD_some] at hx17
  obtain ⟨hP, hln, hlz⟩ := LinP.start hl hs
  have hql : qs.length = l.length := by rw [← hx17]; simp [cdsOf]
  have hw1 := withinI_in (n := at_) (show (0 : Int) ≤ (qs.length : Int) - 1 by omega)
  have hw2 := withinI_in (n := to_) (show (0 : Int) ≤ (qs.length : Int) - 1 by omega)
  have hw3 := withinI_in (n := to_) (show (0 : Int) ≤ 8 by omega)
  obtain ⟨i, hi⟩ : ∃ i : Nat, withinI at_ 0 ((qs.length : Int) - 1) = (i : Int) := ⟨(withinI at_ 0 ((qs.length : Int) - 1)).toNat, by omega⟩
  obtain ⟨j, hj⟩ : ∃ j : Nat, withinI to_ 0 ((qs.length : Int) - 1) = (j : Int) := ⟨(withinI to_ 0 ((qs.length : Int) - 1)).toNat, by omega⟩
  obtain ⟨m, hm⟩ : ∃ m : Nat, withinI to_ 0 8 = (m : Int) := ⟨(withinI to_ 0 8).toNat, by omega⟩
  have hil : i < qs.length := by omega
  have hjl : j < qs.length := by omega
  have hlen : (qs.flatMap CdV.cells).length = qs.length * 2 := flat_len cds_len2 qs
  have hci : (cdsOf qs)[i]'(by simp [cdsOf]; exact hil) = qs[i].cd := by simp [cdsOf]
  refine wc_know (A := Row 109 2 (.slice la qs.length lc) qs.length (qs.flatMap CdV.cells)) HasC.get row_know (fun hkn => ?_)
  refine Zk (k:=Ya (Za (k:=Zr (k:=Vv (k:=Vv (k:=Vv (k:=Vv (k:=?_))))))))
  refine r_callF (book_Within_sp at_ 0 ((qs.length : Int) - 1) (by omega) (by omega) (by omega)) rfl rfl rfl ?_
  rw [hi]
  refine Vv (k:=Vv (k:=Vv (k:=Vv (k:=?_))))
  refine r_callF (book_Within_sp to_ 0 ((qs.length : Int) - 1) (by omega) (by omega) (by omega)) rfl rfl rfl ?_
  rw [hj]
  refine Vv (k:=Vv (k:=Wq ?_))
  refine p_cut (fun (y : { x : (Option Addr × Nat) × List CdV // LinP l (cdsOf x.2) }) => [(11, .slice y.1.1.1 y.1.2.length y.1.1.2)]) (fun (y : { x : (Option Addr × Nat) × List CdV // LinP l (cdsOf x.2) }) => [Row 109 2 (.slice y.1.1.1 y.1.2.length y.1.1.2) y.1.2.length (y.1.2.flatMap CdV.cells), CdM y.1.2]) rfl (fun y => ?_) ?_
  ·
   obtain ⟨⟨⟨ya, yc⟩, ys⟩, hy⟩ := y
   have hsm := hy.small
   dsimp only at hsm ⊢
   try dsimp only
   refine Za (k:=Zr (k:=Vv (k:=?_)))
   refine r_call1 (ref10_Print_sp (B := Row 109 2 (.slice ya ys.length yc) ys.length (ys.flatMap CdV.cells)) ys.length yc ys sla_row rfl (by omega)) rfl rfl rfl ?_
   refine Vv (k:=Wq (Zt (k:=?_)))
   exact fin_ret (printB (cdsOf ys)) (vs := [_]) (Cs := []) rfl (.tmp rfl .nil) rfl ⟨.lines l _ hl hy, by rw [printB, sealB_len]; omega⟩ ent_nil
  ·
   refine Za (k:=Zr (k:=Vv (k:=?_)))
   refine wo_pv (pv_and rfl rfl) rfl ?_
   generalize bits .and .i64 how 7 = w
   refine Wq (Zb (k:=Za (k:=Zr (k:=Vv (k:=Vv (k:=Wq (Zi (t:=fun h36 => ?_) (f:=fun h36 => ?_))))))))
   ·
    refine Dw [] (k:=?_)
    refine Di 0 (t:=Uv) (k:=Di 1 (t:=Uv) (k:=Di 2 (t:=Uv) (k:=Di 3 (t:=Uv) (k:=Di 4 (t:=Uv) (k:=Di 5 (t:=Uv) (k:=Di 8 (t:=Uv) (k:=Di 9 (t:=Uv) (k:=?_))))))))
    refine d_next2 6 10 (by kernel_rfl) rfl rfl ?_ ?_
    ·
     refine an_elemAddr (m := j) (sz := 2) Tryz.underlying107 ti109 rfl rfl rfl rfl (by omega) (by rw [hlen]; omega) rfl rfl ?_
     refine d_next2 7 10 (by kernel_rfl) rfl rfl ?_ ?_
     ·
      refine an_eloada (vs := CdV.cells qs[j]) (sz := 2) Tryz.underlying109 rfl ti109 rfl rfl (by rw [hlen]; omega) rfl (get_flat cds_len2 hjl) rfl ?_
      refine Dn 10 (k:=?_)
      refine an_elemAddr (m := i) (sz := 2) Tryz.underlying107 ti109 rfl rfl rfl rfl (by omega) (by rw [hlen]; omega) rfl rfl ?_
      refine Dn 11 (k:=?_)
      refine an_eloada (vs := CdV.cells qs[i]) (sz := 2) Tryz.underlying109 rfl ti109 rfl rfl (by rw [hlen]; omega) rfl (get_flat cds_len2 hil) rfl ?_
      refine Dn 12 (k:=?_)
      refine an_elemAddr (m := i) (sz := 2) Tryz.underlying107 ti109 rfl rfl rfl rfl (by omega) (by rw [hlen]; omega) rfl rfl ?_
      refine Dn 13 (k:=?_)
      refine an_estorea (vs := CdV.cells qs[j]) ti109 rfl (by rw [cds_len2]; omega) rfl rfl rfl (by rw [hlen, cds_len2]; omega) ?_
      rw [fl_setAt cds_len2 qs i hil]
      refine Dn 14 (k:=?_)
      refine an_elemAddr (m := j) (sz := 2) Tryz.underlying107 ti109 rfl rfl rfl rfl (by omega) (by rw [flat_len cds_len2, List.length_set]; omega) rfl rfl ?_
      refine Dn 15 (k:=?_)
      refine an_estorea (vs := CdV.cells qs[i]) ti109 rfl (by rw [cds_len2]; omega) rfl rfl rfl (by rw [flat_len cds_len2, List.length_set, cds_len2]; omega) ?_
      rw [fl_setAt cds_len2 (qs.set i qs[j]) j (by rw [List.length_set]; omega)]
      refine Dd (k:=Yb ?_)
      refine to_inv ⟨((la, lc), (qs.set i qs[j]).set j qs[i]), ?_⟩ trivial ⟨by simp only [List.length_set]; rfl, trivial⟩ ?_
      · refine hP.sub (fun c hc => ?_) (by simp [cdsOf]; omega)
        obtain ⟨x, hx, rfl⟩ := List.mem_map.1 hc
        rw [← hx17]
        refine List.mem_map.2 ⟨x, ?_, rfl⟩
        rcases List.mem_or_eq_of_mem_set hx with e | e
        · rcases List.mem_or_eq_of_mem_set e with e | e
          · exact e
          · rw [e]; exact List.getElem_mem _
        · rw [e]; exact List.getElem_mem _
      · dsimp only
        simp only [List.length_set]
        exact Ent.trans (ent_cdm_sub (qs := qs) (rs := (qs.set i qs[j]).set j qs[i]) HasC.get (fun x hx => by
         rcases List.mem_or_eq_of_mem_set hx with e | e
         · rcases List.mem_or_eq_of_mem_set e with e | e
           · exact e
           · rw [e]; exact List.getElem_mem _
         · rw [e]; exact List.getElem_mem _)) ent_pick
     ·
      refine an_elemAddr (m := i) (sz := 2) Tryz.underlying107 ti109 rfl rfl rfl rfl (by omega) (by rw [hlen]; omega) rfl rfl ?_
      refine d_next2 7 11 (by kernel_rfl) rfl rfl ?_ ?_
      ·
       refine an_eloada (vs := CdV.cells qs[j]) (sz := 2) Tryz.underlying109 rfl ti109 rfl rfl (by rw [hlen]; omega) rfl (get_flat cds_len2 hjl) rfl ?_
       refine Dn 11 (k:=?_)
       refine an_eloada (vs := CdV.cells qs[i]) (sz := 2) Tryz.underlying109 rfl ti109 rfl rfl (by rw [hlen]; omega) rfl (get_flat cds_len2 hil) rfl ?_
       refine Dn 12 (k:=?_)
       refine an_elemAddr (m := i) (sz := 2) Tryz.underlying107 ti109 rfl rfl rfl rfl (by omega) (by rw [hlen]; omega) rfl rfl ?_
       refine Dn 13 (k:=?_)
       refine an_estorea (vs := CdV.cells qs[j]) ti109 rfl (by rw [cds_len2]; omega) rfl rfl rfl (by rw [hlen, cds_len2]; omega) ?_
       rw [fl_setAt cds_len2 qs i hil]
       refine Dn 14 (k:=?_)
       refine an_elemAddr (m := j) (sz := 2) Tryz.underlying107 ti109 rfl rfl rfl rfl (by omega) (by rw [flat_len cds_len2, List.length_set]; omega) rfl rfl ?_
       refine Dn 15 (k:=?_)
       refine an_estorea (vs := CdV.cells qs[i]) ti109 rfl (by rw [cds_len2]; omega) rfl rfl rfl (by rw [flat_len cds_len2, List.length_set, cds_len2]; omega) ?_
       rw [fl_setAt cds_len2 (qs.set i qs[j]) j (by rw [List.length_set]; omega)]
       refine Dd (k:=Yb ?_)
       refine to_inv ⟨((la, lc), (qs.set i qs[j]).set j qs[i]), ?_⟩ trivial ⟨by simp only [List.length_set]; rfl, trivial⟩ ?_
       · refine hP.sub (fun c hc => ?_) (by simp [cdsOf]; omega)
         obtain ⟨x, hx, rfl⟩ := List.mem_map.1 hc
         rw [← hx17]
         refine List.mem_map.2 ⟨x, ?_, rfl⟩
         rcases List.mem_or_eq_of_mem_set hx with e | e
         · rcases List.mem_or_eq_of_mem_set e with e | e
           · exact e
           · rw [e]; exact List.getElem_mem _
         · rw [e]; exact List.getElem_mem _
       · dsimp only
         simp only [List.length_set]
         exact Ent.trans (ent_cdm_sub (qs := qs) (rs := (qs.set i qs[j]).set j qs[i]) HasC.get (fun x hx => by
          rcases List.mem_or_eq_of_mem_set hx with e | e
          · rcases List.mem_or_eq_of_mem_set e with e | e
            · exact e
            · rw [e]; exact List.getElem_mem _
          · rw [e]; exact List.getElem_mem _)) ent_pick
      ·
       refine an_eloada (vs := CdV.cells qs[i]) (sz := 2) Tryz.underlying109 rfl ti109 rfl rfl (by rw [hlen]; omega) rfl (get_flat cds_len2 hil) rfl ?_
       refine Dn 7 (k:=?_)
       refine an_eloada (vs := CdV.cells qs[j]) (sz := 2) Tryz.underlying109 rfl ti109 rfl rfl (by rw [hlen]; omega) rfl (get_flat cds_len2 hjl) rfl ?_
       refine Dn 12 (k:=?_)
       refine an_elemAddr (m := i) (sz := 2) Tryz.underlying107 ti109 rfl rfl rfl rfl (by omega) (by rw [hlen]; omega) rfl rfl ?_
       refine Dn 13 (k:=?_)
       refine an_estorea (vs := CdV.cells qs[j]) ti109 rfl (by rw [cds_len2]; omega) rfl rfl rfl (by rw [hlen, cds_len2]; omega) ?_
       rw [fl_setAt cds_len2 qs i hil]
       refine Dn 14 (k:=?_)
       refine an_elemAddr (m := j) (sz := 2) Tryz.underlying107 ti109 rfl rfl rfl rfl (by omega) (by rw [flat_len cds_len2, List.length_set]; omega) rfl rfl ?_
       refine Dn 15 (k:=?_)
       refine an_estorea (vs := CdV.cells qs[i]) ti109 rfl (by rw [cds_len2]; omega) rfl rfl rfl (by rw [flat_len cds_len2, List.length_set, cds_len2]; omega) ?_
       rw [fl_setAt cds_len2 (qs.set i qs[j]) j (by rw [List.length_set]; omega)]
       refine Dd (k:=Yb ?_)
       refine to_inv ⟨((la, lc), (qs.set i qs[j]).set j qs[i]), ?_⟩ trivial ⟨by simp only [List.length_set]; rfl, trivial⟩ ?_
       · refine hP.sub (fun c hc => ?_) (by simp [cdsOf]; omega)
         obtain ⟨x, hx, rfl⟩ := List.mem_map.1 hc
         rw [← hx17]
         refine List.mem_map.2 ⟨x, ?_, rfl⟩
         rcases List.mem_or_eq_of_mem_set hx with e | e
         · rcases List.mem_or_eq_of_mem_set e with e | e
           · exact e
           · rw [e]; exact List.getElem_mem _
         · rw [e]; exact List.getElem_mem _
       · dsimp only
         simp only [List.length_set]
         exact Ent.trans (ent_cdm_sub (qs := qs) (rs := (qs.set i qs[j]).set j qs[i]) HasC.get (fun x hx => by
          rcases List.mem_or_eq_of_mem_set hx with e | e
          · rcases List.mem_or_eq_of_mem_set e with e | e
            · exact e
            · rw [e]; exact List.getElem_mem _
          · rw [e]; exact List.getElem_mem _)) ent_pick
    ·
     refine an_elemAddr (m := i) (sz := 2) Tryz.underlying107 ti109 rfl rfl rfl rfl (by omega) (by rw [hlen]; omega) rfl rfl ?_
     refine d_next2 6 11 (by kernel_rfl) rfl rfl ?_ ?_
     ·
      refine an_elemAddr (m := j) (sz := 2) Tryz.underlying107 ti109 rfl rfl rfl rfl (by omega) (by rw [hlen]; omega) rfl rfl ?_
      refine d_next2 7 11 (by kernel_rfl) rfl rfl ?_ ?_
      ·
       refine an_eloada (vs := CdV.cells qs[j]) (sz := 2) Tryz.underlying109 rfl ti109 rfl rfl (by rw [hlen]; omega) rfl (get_flat cds_len2 hjl) rfl ?_
       refine Dn 11 (k:=?_)
       refine an_eloada (vs := CdV.cells qs[i]) (sz := 2) Tryz.underlying109 rfl ti109 rfl rfl (by rw [hlen]; omega) rfl (get_flat cds_len2 hil) rfl ?_
       refine Dn 12 (k:=?_)
       refine an_elemAddr (m := i) (sz := 2) Tryz.underlying107 ti109 rfl rfl rfl rfl (by omega) (by rw [hlen]; omega) rfl rfl ?_
       refine Dn 13 (k:=?_)
       refine an_estorea (vs := CdV.cells qs[j]) ti109 rfl (by rw [cds_len2]; omega) rfl rfl rfl (by rw [hlen, cds_len2]; omega) ?_
       rw [fl_setAt cds_len2 qs i hil]
       refine Dn 14 (k:=?_)
       refine an_elemAddr (m := j) (sz := 2) Tryz.underlying107 ti109 rfl rfl rfl rfl (by omega) (by rw [flat_len cds_len2, List.length_set]; omega) rfl rfl ?_
       refine Dn 15 (k:=?_)
       refine an_estorea (vs := CdV.cells qs[i]) ti109 rfl (by rw [cds_len2]; omega) rfl rfl rfl (by rw [flat_len cds_len2, List.length_set, cds_len2]; omega) ?_
       rw [fl_setAt cds_len2 (qs.set i qs[j]) j (by rw [List.length_set]; omega)]
       refine Dd (k:=Yb ?_)
       refine to_inv ⟨((la, lc), (qs.set i qs[j]).set j qs[i]), ?_⟩ trivial ⟨by simp only [List.length_set]; rfl, trivial⟩ ?_
       · refine hP.sub (fun c hc => ?_) (by simp [cdsOf]; omega)
         obtain ⟨x, hx, rfl⟩ := List.mem_map.1 hc
         rw [← hx17]
         refine List.mem_map.2 ⟨x, ?_, rfl⟩
         rcases List.mem_or_eq_of_mem_set hx with e | e
         · rcases List.mem_or_eq_of_mem_set e with e | e
           · exact e
           · rw [e]; exact List.getElem_mem _
         · rw [e]; exact List.getElem_mem _
       · dsimp only
         simp only [List.length_set]
         exact Ent.trans (ent_cdm_sub (qs := qs) (rs := (qs.set i qs[j]).set j qs[i]) HasC.get (fun x hx => by
          rcases List.mem_or_eq_of_mem_set hx with e | e
          · rcases List.mem_or_eq_of_mem_set e with e | e
            · exact e
            · rw [e]; exact List.getElem_mem _
          · rw [e]; exact List.getElem_mem _)) ent_pick
      ·
       refine an_eloada (vs := CdV.cells qs[i]) (sz := 2) Tryz.underlying109 rfl ti109 rfl rfl (by rw [hlen]; omega) rfl (get_flat cds_len2 hil) rfl ?_
       refine Dn 7 (k:=?_)
       refine an_eloada (vs := CdV.cells qs[j]) (sz := 2) Tryz.underlying109 rfl ti109 rfl rfl (by rw [hlen]; omega) rfl (get_flat cds_len2 hjl) rfl ?_
       refine Dn 12 (k:=?_)
       refine an_elemAddr (m := i) (sz := 2) Tryz.underlying107 ti109 rfl rfl rfl rfl (by omega) (by rw [hlen]; omega) rfl rfl ?_
       refine Dn 13 (k:=?_)
       refine an_estorea (vs := CdV.cells qs[j]) ti109 rfl (by rw [cds_len2]; omega) rfl rfl rfl (by rw [hlen, cds_len2]; omega) ?_
       rw [fl_setAt cds_len2 qs i hil]
       refine Dn 14 (k:=?_)
       refine an_elemAddr (m := j) (sz := 2) Tryz.underlying107 ti109 rfl rfl rfl rfl (by omega) (by rw [flat_len cds_len2, List.length_set]; omega) rfl rfl ?_
       refine Dn 15 (k:=?_)
       refine an_estorea (vs := CdV.cells qs[i]) ti109 rfl (by rw [cds_len2]; omega) rfl rfl rfl (by rw [flat_len cds_len2, List.length_set, cds_len2]; omega) ?_
       rw [fl_setAt cds_len2 (qs.set i qs[j]) j (by rw [List.length_set]; omega)]
       refine Dd (k:=Yb ?_)
       refine to_inv ⟨((la, lc), (qs.set i qs[j]).set j qs[i]), ?_⟩ trivial ⟨by simp only [List.length_set]; rfl, trivial⟩ ?_
       · refine hP.sub (fun c hc => ?_) (by simp [cdsOf]; omega)
         obtain ⟨x, hx, rfl⟩ := List.mem_map.1 hc
         rw [← hx17]
         refine List.mem_map.2 ⟨x, ?_, rfl⟩
         rcases List.mem_or_eq_of_mem_set hx with e | e
         · rcases List.mem_or_eq_of_mem_set e with e | e
           · exact e
           · rw [e]; exact List.getElem_mem _
         · rw [e]; exact List.getElem_mem _
       · dsimp only
         simp only [List.length_set]
         exact Ent.trans (ent_cdm_sub (qs := qs) (rs := (qs.set i qs[j]).set j qs[i]) HasC.get (fun x hx => by
          rcases List.mem_or_eq_of_mem_set hx with e | e
          · rcases List.mem_or_eq_of_mem_set e with e | e
            · exact e
            · rw [e]; exact List.getElem_mem _
          · rw [e]; exact List.getElem_mem _)) ent_pick
     ·
      refine an_eloada (vs := CdV.cells qs[i]) (sz := 2) Tryz.underlying109 rfl ti109 rfl rfl (by rw [hlen]; omega) rfl (get_flat cds_len2 hil) rfl ?_
      refine Dn 6 (k:=?_)
      refine an_elemAddr (m := j) (sz := 2) Tryz.underlying107 ti109 rfl rfl rfl rfl (by omega) (by rw [hlen]; omega) rfl rfl ?_
      refine Dn 7 (k:=?_)
      refine an_eloada (vs := CdV.cells qs[j]) (sz := 2) Tryz.underlying109 rfl ti109 rfl rfl (by rw [hlen]; omega) rfl (get_flat cds_len2 hjl) rfl ?_
      refine Dn 12 (k:=?_)
      refine an_elemAddr (m := i) (sz := 2) Tryz.underlying107 ti109 rfl rfl rfl rfl (by omega) (by rw [hlen]; omega) rfl rfl ?_
      refine Dn 13 (k:=?_)
      refine an_estorea (vs := CdV.cells qs[j]) ti109 rfl (by rw [cds_len2]; omega) rfl rfl rfl (by rw [hlen, cds_len2]; omega) ?_
      rw [fl_setAt cds_len2 qs i hil]
      refine Dn 14 (k:=?_)
      refine an_elemAddr (m := j) (sz := 2) Tryz.underlying107 ti109 rfl rfl rfl rfl (by omega) (by rw [flat_len cds_len2, List.length_set]; omega) rfl rfl ?_
      refine Dn 15 (k:=?_)
      refine an_estorea (vs := CdV.cells qs[i]) ti109 rfl (by rw [cds_len2]; omega) rfl rfl rfl (by rw [flat_len cds_len2, List.length_set, cds_len2]; omega) ?_
      rw [fl_setAt cds_len2 (qs.set i qs[j]) j (by rw [List.length_set]; omega)]
      refine Dd (k:=Yb ?_)
      refine to_inv ⟨((la, lc), (qs.set i qs[j]).set j qs[i]), ?_⟩ trivial ⟨by simp only [List.length_set]; rfl, trivial⟩ ?_
      · refine hP.sub (fun c hc => ?_) (by simp [cdsOf]; omega)
        obtain ⟨x, hx, rfl⟩ := List.mem_map.1 hc
        rw [← hx17]
        refine List.mem_map.2 ⟨x, ?_, rfl⟩
        rcases List.mem_or_eq_of_mem_set hx with e | e
        · rcases List.mem_or_eq_of_mem_set e with e | e
          · exact e
          · rw [e]; exact List.getElem_mem _
        · rw [e]; exact List.getElem_mem _
      · dsimp only
        simp only [List.length_set]
        exact Ent.trans (ent_cdm_sub (qs := qs) (rs := (qs.set i qs[j]).set j qs[i]) HasC.get (fun x hx => by
         rcases List.mem_or_eq_of_mem_set hx with e | e
         · rcases List.mem_or_eq_of_mem_set e with e | e
           · exact e
           · rw [e]; exact List.getElem_mem _
         · rw [e]; exact List.getElem_mem _)) ent_pick
   ·
    refine Za (k:=Zr (k:=Vv (k:=Vv (k:=Wq (Zi (t:=fun h52 => ?_) (f:=fun h52 => ?_))))))
    ·
     have htl : ((qs.take i).flatMap CdV.cells).length = i * 2 := by rw [flat_len cds_len2, List.length_take]; congr 1; omega
     have hdl : ((qs.drop (i + 1)).flatMap CdV.cells).length = (qs.length - (i + 1)) * 2 := by rw [flat_len cds_len2, List.length_drop]
     refine Dw [] (k:=?_)
     refine Di 1 (t:=Uv) (k:=Di 2 (t:=Uv) (k:=?_))
     refine d_first 3 rfl rfl rfl (by kernel_rfl) (by kernel_rfl) (tl_pv (pv_slslice_tom (m := i) Tryz.underlying107 ti109 rfl rfl rfl (by omega))) ?_
     refine Di 5 (t:=Uv) (k:=Di 6 (t:=Uv) (k:=Di 7 (t:=Uv) (k:=?_)))
     refine d_first 8 rfl rfl rfl (by kernel_rfl) (by kernel_rfl) (tl_pv (pv_slslice_froma (m := i + 1) (kk := (i + 1) * 2) Tryz.underlying107 ti109 rfl rfl rfl (by exact Int.natCast_succ i) rfl (by omega) hkn.1 hkn.2.2)) ?_
     refine Dn 0 (k:=Nl [] (cs := []) (k:=fun b54 => Dn 4 (k:=?_)))
     refine an_ent rfl (ent_row (k := 0) (cap := 0) (sz := 2) (e := 109) (g := b54) (xs := []) (cur := []) (Nat.le_refl _) (by simp [maxLen]) rfl rfl rfl) ?_
     refine an_opT (opt_appendA (sz := 2) (bytes := 32) Tryz.underlying107 ti109 rfl rfl rfl rfl rfl rfl rfl (sla_take (sla_row (e := 109) (sz := 2) (k := qs.length) (n := qs.length) (c := lc) (a := la) (xs := qs.flatMap CdV.cells)) (i * 2)) (by rw [fl_take cds_len2, htl]) (by rw [fl_take cds_len2]; simp [List.all_flatMap, oneCell, CdV.cells]) (by omega) (by simp only [maxLen]; omega) (k := 0) (xs := [])) rfl (fun x58 ⟨a58, c58, h58⟩ => ?_)
     subst h58
     rw [Nat.zero_add, List.nil_append, fl_take cds_len2]
     refine Dn 9 (k:=?_)
     refine an_opT (opt_appendA (sz := 2) (bytes := 32) Tryz.underlying107 ti109 rfl rfl rfl rfl rfl rfl rfl (sla_from (e := 109) (sz := 2) (a := la) (n' := qs.length) (c' := lc) (m := i + 1) (kk := (i + 1) * 2) (k := qs.length) (xs := qs.flatMap CdV.cells) rfl (by omega)) (by rw [fl_drop cds_len2, hdl]) (by rw [fl_drop cds_len2]; simp [List.all_flatMap, oneCell, CdV.cells]) (by omega) (by simp only [maxLen]; omega) (k := i) (xs := (qs.take i).flatMap CdV.cells)) rfl (fun x63 ⟨a63, c63, h63⟩ => ?_)
     subst h63
     rw [fl_drop cds_len2, ← List.flatMap_append]
     refine Di 10 (t:=Uv) (k:=Dd (k:=Yb ?_))
     refine to_inv ⟨((a63, c63), qs.take i ++ qs.drop (i + 1)), ?_⟩ trivial ⟨(by rw [show (qs.take i ++ qs.drop (i + 1)).length = i + (qs.length - (i + 1)) by simp; omega]; rfl), trivial⟩ ?_
     · refine hP.sub (fun c hc => ?_) (by simp [cdsOf]; omega)
       obtain ⟨x, hx, rfl⟩ := List.mem_map.1 hc
       rw [← hx17]
       exact List.mem_map.2 ⟨x, (List.mem_append.1 hx).elim List.mem_of_mem_take List.mem_of_mem_drop, rfl⟩
     · dsimp only
       rw [show (qs.take i ++ qs.drop (i + 1)).length = i + (qs.length - (i + 1)) by simp; omega]
       exact Ent.trans (ent_cdm_sub (qs := qs) (rs := qs.take i ++ qs.drop (i + 1)) HasC.get (fun x hx => (List.mem_append.1 hx).elim List.mem_of_mem_take List.mem_of_mem_drop)) ent_pick
    ·
     refine Za (k:=Zr (k:=Vv (k:=Vv (k:=Wq (Zi (t:=fun h64 => ?_) (f:=fun h64 => ?_))))))
     ·
      have htl : ((qs.take i).flatMap CdV.cells).length = i * 2 := by rw [flat_len cds_len2, List.length_take]; congr 1; omega
      have hdl : ((qs.drop i).flatMap CdV.cells).length = (qs.length - i) * 2 := by rw [flat_len cds_len2, List.length_drop]
      refine wc_frz la ?_
      refine Dw [SlI la (qs.flatMap CdV.cells)] (k:=?_)
      refine Di 1 (t:=Uv) (k:=Di 2 (t:=Uv) (k:=?_))
      refine d_first 3 rfl rfl rfl (by kernel_rfl) (by kernel_rfl) (tl_pv (pv_slslice_tom (m := i) Tryz.underlying107 ti109 rfl rfl rfl (by omega))) ?_
      refine Di 5 (t:=Uv) (k:=Di 6 (t:=Uv) (k:=?_))
      refine d_first 7 rfl rfl rfl (by kernel_rfl) (by kernel_rfl) (tl_elemAddr (m := i) (sz := 2) Tryz.underlying107 ti109 rfl rfl rfl rfl (by omega) (by rw [hlen]; omega) rfl) ?_
      refine d_first 8 rfl rfl rfl (by kernel_rfl) (by kernel_rfl) (tl_eloada (vs := CdV.cells qs[i]) (sz := 2) Tryz.underlying109 rfl ti109 rfl rfl (by rw [hlen]; omega) rfl (get_flat cds_len2 hil)) ?_
      refine Di 11 (t:=Uv) (k:=Di 12 (t:=Uv) (k:=?_))
      refine d_first 13 rfl rfl rfl (by kernel_rfl) (by kernel_rfl) (tl_pv (pv_slslice_froma (m := i) (kk := i * 2) Tryz.underlying107 ti109 rfl rfl rfl rfl rfl (by omega) hkn.1 hkn.2.2)) ?_
      refine d_next2 0 9 (by kernel_rfl) rfl rfl ?_ ?_
      ·
       refine Nl [] (cs := []) (k:=fun b66 => ?_)
       refine d_next2 4 9 (by kernel_rfl) rfl rfl ?_ ?_
       ·
        refine an_ent rfl (ent_row (k := 0) (cap := 0) (sz := 2) (e := 109) (g := b66) (xs := []) (cur := []) (Nat.le_refl _) (by simp [maxLen]) rfl rfl rfl) ?_
        refine an_opT (opt_appendA (sz := 2) (bytes := 32) Tryz.underlying107 ti109 rfl rfl rfl rfl rfl rfl rfl (sla_take (sla_sli (a := la) (xs := qs.flatMap CdV.cells)) (i * 2)) (by rw [fl_take cds_len2, htl]) (by rw [fl_take cds_len2]; simp [List.all_flatMap, oneCell, CdV.cells]) (by omega) (by simp only [maxLen]; omega) (k := 0) (xs := [])) rfl (fun x70 ⟨a70, c70, h70⟩ => ?_)
        subst h70
        rw [Nat.zero_add, List.nil_append, fl_take cds_len2]
        refine Dn 9 (k:=Nl [.agg (CdV.cells qs[i]).toArray] (cs := CdV.cells qs[i]) (k:=fun b75 => Dn 10 (k:=?_)))
        refine an_append1 (sz := 2) (bytes := 32) Tryz.underlying107 ti109 rfl rfl rfl rfl rfl rfl rfl (by rfl) (by rfl) (by omega) (by simp only [maxLen]; omega) rfl (fun a76 c76 => ?_)
        refine Dn 14 (k:=?_)
        refine an_opT (opt_appendA (sz := 2) (bytes := 32) Tryz.underlying107 ti109 rfl rfl rfl rfl rfl rfl rfl (sla_fromA (sz := 2) (k := qs.length) (c' := lc) (m := i) (kk := i * 2) (sla_sli (a := la) (xs := qs.flatMap CdV.cells)) hlen rfl (by omega) hkn.1) (by rw [fl_drop cds_len2, hdl]) (by rw [fl_drop cds_len2]; simp [List.all_flatMap, oneCell, CdV.cells]) (by omega) (by simp only [maxLen]; omega) (k := i + 1) (xs := (qs.take i).flatMap CdV.cells ++ CdV.cells qs[i])) rfl (fun x80 ⟨a80, c80, h80⟩ => ?_)
        subst h80
        rw [fl_drop cds_len2]
        refine Di 15 (t:=Uv) (k:=Dd (k:=Yb ?_))
        refine to_inv ⟨((a80, c80), qs.take i ++ [qs[i]] ++ qs.drop i), ?_⟩ trivial ⟨(by rw [show (qs.take i ++ [qs[i]] ++ qs.drop i).length = i + 1 + (qs.length - i) by simp; omega]; rfl), trivial⟩ ?_
        · refine hP.sub (fun c hc => ?_) (by simp [cdsOf]; omega)
          obtain ⟨x, hx, rfl⟩ := List.mem_map.1 hc
          rw [← hx17]
          refine List.mem_map.2 ⟨x, ?_, rfl⟩
          rcases List.mem_append.1 hx with e | e
          · rcases List.mem_append.1 e with e | e
            · exact List.mem_of_mem_take e
            · rw [List.mem_singleton.1 e]; exact List.getElem_mem _
          · exact List.mem_of_mem_drop e
        · dsimp only
          rw [show (qs.take i ++ [qs[i]] ++ qs.drop i).length = i + 1 + (qs.length - i) by simp; omega]
          refine Ent.trans (ent_cdm_sub (qs := qs) (rs := qs.take i ++ [qs[i]] ++ qs.drop i) HasC.get (fun x hx => by
           rcases List.mem_append.1 hx with e | e
           · rcases List.mem_append.1 e with e | e
             · exact List.mem_of_mem_take e
             · rw [List.mem_singleton.1 e]; exact List.getElem_mem _
           · exact List.mem_of_mem_drop e)) (ent_step (row_norm (by rfl) (by simp only [List.flatMap_append, List.flatMap_cons, List.flatMap_nil, List.append_nil])) ent_pick)
       ·
        refine Nl [.agg (CdV.cells qs[i]).toArray] (cs := CdV.cells qs[i]) (k:=fun b75 => Dn 4 (k:=?_))
        refine an_ent rfl (ent_row (k := 0) (cap := 0) (sz := 2) (e := 109) (g := b66) (xs := []) (cur := []) (Nat.le_refl _) (by simp [maxLen]) rfl rfl rfl) ?_
        refine an_opT (opt_appendA (sz := 2) (bytes := 32) Tryz.underlying107 ti109 rfl rfl rfl rfl rfl rfl rfl (sla_take (sla_sli (a := la) (xs := qs.flatMap CdV.cells)) (i * 2)) (by rw [fl_take cds_len2, htl]) (by rw [fl_take cds_len2]; simp [List.all_flatMap, oneCell, CdV.cells]) (by omega) (by simp only [maxLen]; omega) (k := 0) (xs := [])) rfl (fun x70 ⟨a70, c70, h70⟩ => ?_)
        subst h70
        rw [Nat.zero_add, List.nil_append, fl_take cds_len2]
        refine Dn 10 (k:=?_)
        refine an_append1 (sz := 2) (bytes := 32) Tryz.underlying107 ti109 rfl rfl rfl rfl rfl rfl rfl (by rfl) (by rfl) (by omega) (by simp only [maxLen]; omega) rfl (fun a76 c76 => ?_)
        refine Dn 14 (k:=?_)
        refine an_opT (opt_appendA (sz := 2) (bytes := 32) Tryz.underlying107 ti109 rfl rfl rfl rfl rfl rfl rfl (sla_fromA (sz := 2) (k := qs.length) (c' := lc) (m := i) (kk := i * 2) (sla_sli (a := la) (xs := qs.flatMap CdV.cells)) hlen rfl (by omega) hkn.1) (by rw [fl_drop cds_len2, hdl]) (by rw [fl_drop cds_len2]; simp [List.all_flatMap, oneCell, CdV.cells]) (by omega) (by simp only [maxLen]; omega) (k := i + 1) (xs := (qs.take i).flatMap CdV.cells ++ CdV.cells qs[i])) rfl (fun x80 ⟨a80, c80, h80⟩ => ?_)
        subst h80
        rw [fl_drop cds_len2]
        refine Di 15 (t:=Uv) (k:=Dd (k:=Yb ?_))
        refine to_inv ⟨((a80, c80), qs.take i ++ [qs[i]] ++ qs.drop i), ?_⟩ trivial ⟨(by rw [show (qs.take i ++ [qs[i]] ++ qs.drop i).length = i + 1 + (qs.length - i) by simp; omega]; rfl), trivial⟩ ?_
        · refine hP.sub (fun c hc => ?_) (by simp [cdsOf]; omega)
          obtain ⟨x, hx, rfl⟩ := List.mem_map.1 hc
          rw [← hx17]
          refine List.mem_map.2 ⟨x, ?_, rfl⟩
          rcases List.mem_append.1 hx with e | e
          · rcases List.mem_append.1 e with e | e
            · exact List.mem_of_mem_take e
            · rw [List.mem_singleton.1 e]; exact List.getElem_mem _
          · exact List.mem_of_mem_drop e
        · dsimp only
          rw [show (qs.take i ++ [qs[i]] ++ qs.drop i).length = i + 1 + (qs.length - i) by simp; omega]
          refine Ent.trans (ent_cdm_sub (qs := qs) (rs := qs.take i ++ [qs[i]] ++ qs.drop i) HasC.get (fun x hx => by
           rcases List.mem_append.1 hx with e | e
           · rcases List.mem_append.1 e with e | e
             · exact List.mem_of_mem_take e
             · rw [List.mem_singleton.1 e]; exact List.getElem_mem _
           · exact List.mem_of_mem_drop e)) (ent_step (row_norm (by rfl) (by simp only [List.flatMap_append, List.flatMap_cons, List.flatMap_nil, List.append_nil])) ent_pick)
      ·
       refine Nl [.agg (CdV.cells qs[i]).toArray] (cs := CdV.cells qs[i]) (k:=fun b75 => Dn 0 (k:=Nl [] (cs := []) (k:=fun b66 => Dn 4 (k:=?_))))
       refine an_ent rfl (ent_row (k := 0) (cap := 0) (sz := 2) (e := 109) (g := b66) (xs := []) (cur := []) (Nat.le_refl _) (by simp [maxLen]) rfl rfl rfl) ?_
       refine an_opT (opt_appendA (sz := 2) (bytes := 32) Tryz.underlying107 ti109 rfl rfl rfl rfl rfl rfl rfl (sla_take (sla_sli (a := la) (xs := qs.flatMap CdV.cells)) (i * 2)) (by rw [fl_take cds_len2, htl]) (by rw [fl_take cds_len2]; simp [List.all_flatMap, oneCell, CdV.cells]) (by omega) (by simp only [maxLen]; omega) (k := 0) (xs := [])) rfl (fun x70 ⟨a70, c70, h70⟩ => ?_)
       subst h70
       rw [Nat.zero_add, List.nil_append, fl_take cds_len2]
       refine Dn 10 (k:=?_)
       refine an_append1 (sz := 2) (bytes := 32) Tryz.underlying107 ti109 rfl rfl rfl rfl rfl rfl rfl (by rfl) (by rfl) (by omega) (by simp only [maxLen]; omega) rfl (fun a76 c76 => ?_)
       refine Dn 14 (k:=?_)
       refine an_opT (opt_appendA (sz := 2) (bytes := 32) Tryz.underlying107 ti109 rfl rfl rfl rfl rfl rfl rfl (sla_fromA (sz := 2) (k := qs.length) (c' := lc) (m := i) (kk := i * 2) (sla_sli (a := la) (xs := qs.flatMap CdV.cells)) hlen rfl (by omega) hkn.1) (by rw [fl_drop cds_len2, hdl]) (by rw [fl_drop cds_len2]; simp [List.all_flatMap, oneCell, CdV.cells]) (by omega) (by simp only [maxLen]; omega) (k := i + 1) (xs := (qs.take i).flatMap CdV.cells ++ CdV.cells qs[i])) rfl (fun x80 ⟨a80, c80, h80⟩ => ?_)
       subst h80
       rw [fl_drop cds_len2]
       refine Di 15 (t:=Uv) (k:=Dd (k:=Yb ?_))
       refine to_inv ⟨((a80, c80), qs.take i ++ [qs[i]] ++ qs.drop i), ?_⟩ trivial ⟨(by rw [show (qs.take i ++ [qs[i]] ++ qs.drop i).length = i + 1 + (qs.length - i) by simp; omega]; rfl), trivial⟩ ?_
       · refine hP.sub (fun c hc => ?_) (by simp [cdsOf]; omega)
         obtain ⟨x, hx, rfl⟩ := List.mem_map.1 hc
         rw [← hx17]
         refine List.mem_map.2 ⟨x, ?_, rfl⟩
         rcases List.mem_append.1 hx with e | e
         · rcases List.mem_append.1 e with e | e
           · exact List.mem_of_mem_take e
           · rw [List.mem_singleton.1 e]; exact List.getElem_mem _
         · exact List.mem_of_mem_drop e
       · dsimp only
         rw [show (qs.take i ++ [qs[i]] ++ qs.drop i).length = i + 1 + (qs.length - i) by simp; omega]
         refine Ent.trans (ent_cdm_sub (qs := qs) (rs := qs.take i ++ [qs[i]] ++ qs.drop i) HasC.get (fun x hx => by
          rcases List.mem_append.1 hx with e | e
          · rcases List.mem_append.1 e with e | e
            · exact List.mem_of_mem_take e
            · rw [List.mem_singleton.1 e]; exact List.getElem_mem _
          · exact List.mem_of_mem_drop e)) (ent_step (row_norm (by rfl) (by simp only [List.flatMap_append, List.flatMap_cons, List.flatMap_nil, List.append_nil])) ent_pick)
     ·
      refine Za (k:=Zr (k:=Vv (k:=Vv (k:=Wq (Zi (t:=fun h81 => ?_) (f:=fun h81 => ?_))))))
      ·
       obtain ⟨q, hq⟩ : ∃ q, q = qs[i] := ⟨_, rfl⟩
       refine wc_ent' (ent_cd (q := q) (by rw [hq]; exact List.getElem_mem hil) HasC.get) ?_
       have hqp := hci
       rw [← hq] at hqp
       refine wc_know (A := CdM qs) HasC.get cdm_cap (fun hcap => ?_)
       have hql2 : q.args.length ≤ q.c := hcap q (by rw [hq]; exact List.getElem_mem hil)
       have hqz : q.args.length ≤ 300 := by
        have hic : i < (cdsOf qs).length := by simp [cdsOf]; exact hil
        have h1 := hlz (cdsOf qs)[i] (by rw [← hx17]; exact List.getElem_mem _)
        have h2 := argsB_len q.args
        rw [hci, ← hq] at h1
        simp only [cardB, lineB, CdV.cd, List.length_append, List.length_cons, List.length_nil] at h1
        omega
       refine Zr (k:=Vv (k:=Vv (k:=Zv [] (cs := []) (k:=fun b85 => Vv (k:=Vv (k:=?_))))))
       refine r_elemAddr (m := i) (sz := 2) Tryz.underlying107 ti109 rfl rfl rfl rfl (by omega) (by rw [hlen]; omega) rfl rfl ?_
       refine r_efield (o := 1) Tryz.underlying109 rfl ti27 rfl rfl rfl rfl (by rw [hlen]; omega) rfl ?_
       refine r_eload (v := .slice q.a q.args.length q.c) Tryz.underlying27 rfl rfl (by rw [get_field cds_len2 (by decide) hil, ← hq]; rfl) rfl ?_
       refine wo_ent' (ent_row (k := 0) (cap := 0) (sz := 1) (e := 9) (g := b85) (xs := []) (cur := []) (Nat.le_refl _) (by simp [maxLen]) rfl rfl rfl) ?_
       refine wo_opT (by intro c; simp) (opt_appendA (sz := 1) (bytes := 16) Tryz.underlying27 ti9 rfl rfl rfl rfl rfl rfl rfl (sla_sli (a := q.a) (xs := q.args.map vS)) (by rw [List.length_map, Nat.mul_one]) (all_vS _) (by omega) (by simp only [maxLen]; omega) (k := 0) (xs := [])) rfl (fun x91 ⟨a91, c91, h91⟩ => ?_)
       subst h91
       rw [Nat.zero_add, List.nil_append]
       refine Vv (k:=?_)
       refine r_callF (ref10_Escape_sp raw (by omega)) rfl rfl rfl ?_
       have he := (escB_len raw).2
       refine Vv (k:=Zv [_] (cs := [_]) (k:=fun b95 => ?_))
       refine r_append1 (sz := 1) (bytes := 16) Tryz.underlying27 ti9 rfl rfl rfl rfl rfl rfl rfl (by rfl) (by rfl) (by omega) (by simp only [maxLen]; omega) rfl (fun a96 c96 => ?_)
       refine wo_know (A := Row 9 1 (.slice a96 (q.args.length + 1) c96) (q.args.length + 1) (q.args.map vS ++ [vS ([119] ++ escB raw)])) HasC.get row_know (fun hkn2 => ?_)
       refine wo_frz a96 ?_
       refine r_elemAddr (m := i) (sz := 2) Tryz.underlying107 ti109 rfl rfl rfl rfl (by omega) (by rw [hlen]; omega) rfl rfl ?_
       refine r_efield (o := 1) Tryz.underlying109 rfl ti27 rfl rfl rfl rfl (by rw [hlen]; omega) rfl ?_
       refine r_estore ti27 rfl rfl rfl rfl (by rw [hlen]; omega) ?_
       rw [fl_set cds_len2 (by decide) (x' := ⟨q.l, a96, c96, q.args ++ [119 :: escB raw]⟩) qs i hil (by rw [← hq]; simp [CdV.cells])]
       refine wo_ent' (cdm_one (qs := qs) (rs := qs.set i ⟨q.l, a96, c96, q.args ++ [119 :: escB raw]⟩) (q := ⟨q.l, a96, c96, q.args ++ [119 :: escB raw]⟩) HasC.get (by rw [List.map_append]; exact (show Has (SlI a96 (q.args.map vS ++ [vS ([119] ++ escB raw)])) _ from HasC.get)) (by simp; exact hkn2.1) (fun x hx => List.mem_or_eq_of_mem_set hx)) ?_
       refine Wn (Yb ?_)
       refine to_inv ⟨((la, lc), qs.set i ⟨q.l, a96, c96, q.args ++ [119 :: escB raw]⟩), ?_⟩ trivial ⟨(by simp only [List.length_set]; rfl), trivial⟩ ?_
       · rw [cdsOf_set]
         have h5 : LinP l (cdsOf qs) := by rw [hx17]; exact hP
         have := h5.more (i := i) (by simp [cdsOf]; exact hil) (by rw [hx17]; exact hlz) hraw
         rw [hci, ← hq] at this
         exact this
       · dsimp only
         simp only [List.length_set]
         exact ent_pick
      ·
       refine Za (k:=Zr (k:=Vv (k:=Vv (k:=Wq (Zi (t:=fun h99 => ?_) (f:=fun h99 => ?_))))))
       ·
        obtain ⟨q, hq⟩ : ∃ q, q = qs[i] := ⟨_, rfl⟩
        have hqp := hci
        rw [← hq] at hqp
        refine Zr (k:=Vv (k:=Vv (k:=Vv (k:=?_))))
        refine r_callF (ref10_Escape_sp raw (by omega)) rfl rfl rfl ?_
        have he := (escB_len raw).2
        refine Vv (k:=Zv [_] (cs := [_]) (k:=fun b106 => ?_))
        refine wo_ent' (ent_row (k := 1) (cap := 1) (sz := 1) (e := 9) (g := b106) (xs := [vS (escB raw ++ [119])]) (cur := [vS (escB raw ++ [119])]) (Nat.le_refl _) (by simp [maxLen]) rfl rfl rfl) ?_
        refine wo_frz (some ⟨b106, 0, none⟩) ?_
        refine r_elemAddr (m := i) (sz := 2) Tryz.underlying107 ti109 rfl rfl rfl rfl (by omega) (by rw [hlen]; omega) rfl rfl ?_
        refine r_efield (o := 1) Tryz.underlying109 rfl ti27 rfl rfl rfl rfl (by rw [hlen]; omega) rfl ?_
        refine r_estore ti27 rfl rfl rfl rfl (by rw [hlen]; omega) ?_
        rw [fl_set cds_len2 (by decide) (x' := ⟨q.l, some ⟨b106, 0, none⟩, 1, [escB raw ++ [119]]⟩) qs i hil (by rw [← hq]; simp [CdV.cells])]
        refine wo_ent' (cdm_one (qs := qs) (rs := qs.set i ⟨q.l, some ⟨b106, 0, none⟩, 1, [escB raw ++ [119]]⟩) (q := ⟨q.l, some ⟨b106, 0, none⟩, 1, [escB raw ++ [119]]⟩) HasC.get (by simp only [List.map_cons, List.map_nil]; exact HasC.get) (by simp) (fun x hx => List.mem_or_eq_of_mem_set hx)) ?_
        refine Wn (Yb ?_)
        refine to_inv ⟨((la, lc), qs.set i ⟨q.l, some ⟨b106, 0, none⟩, 1, [escB raw ++ [119]]⟩), ?_⟩ trivial ⟨(by simp only [List.length_set]; rfl), trivial⟩ ?_
        · rw [cdsOf_set]
          have h5 : LinP l (cdsOf qs) := by rw [hx17]; exact hP
          have := h5.one (i := i) (by simp [cdsOf]; exact hil) hraw
          rw [hci, ← hq] at this
          exact this
        · dsimp only
          simp only [List.length_set]
          exact ent_pick
       ·
        refine Za (k:=Zr (k:=Vv (k:=Vv (k:=Wq (Zi (t:=fun h109 => ?_) (f:=fun h109 => ?_))))))
        ·
         have hs43 : 43 ≤ s.length := by
          have := congrArg List.length (readC_iff.1 hl).2
          rw [printB, sealB_len] at this; omega
         refine Za (k:=Zr (k:=Vv (k:=Vv (k:=Vv (k:=Vv (k:=?_))))))
         refine wo_pv (pv_slice_tom (m := s.length - 2) Tryz.underlying9 rfl rfl (by omega) (by omega)) rfl ?_
         refine Vv (k:=Vv (k:=Vv (k:=Wq (Zt (k:=Vb (Vi ?_))))))
         exact fin_ret (s.take (s.length - 2) ++ raw) (vs := [_]) (Cs := []) rfl (.tmp rfl .nil) rfl ⟨.cut l hl, by simp; omega⟩ ent_nil
        ·
         refine Za (k:=Zr (k:=Vv (k:=Vv (k:=Wq (Zi (t:=fun h118 => ?_) (f:=fun h118 => ?_))))))
         ·
          refine Zr (k:=Vv (k:=Vv (k:=Vv (k:=?_))))
          refine r_callF (book_Within_sp to_ 0 8 (by omega) (by omega) (by omega)) rfl rfl rfl ?_
          rw [hm]
          obtain ⟨ch, hch⟩ : ∃ ch, ch = ([66, 67, 68, 70, 77, 80, 84, 85, 88] : Bs).getD m 0 := ⟨_, rfl⟩
          have hch2 : 65 ≤ ch.toNat := by
           have : ∀ k : Fin 9, 65 ≤ (([66, 67, 68, 70, 77, 80, 84, 85, 88] : Bs).getD k.1 0).toNat := by decide
           rw [hch]; exact this ⟨m, by omega⟩
          refine wo_pv (pv_indexm (m := m) Tryz.underlying9 rfl rfl rfl (by show m < 9; omega)) rfl ?_
          rw [← hch]
          refine r_elemAddr (m := i) (sz := 2) Tryz.underlying107 ti109 rfl rfl rfl rfl (by omega) (by rw [hlen]; omega) rfl rfl ?_
          refine r_efield (o := 0) Tryz.underlying109 rfl ti5 rfl rfl rfl rfl (by rw [hlen]; omega) rfl ?_
          refine r_estore ti5 rfl rfl rfl rfl (by rw [hlen]; omega) ?_
          rw [fl_set cds_len2 (by decide) (x' := ⟨ch, qs[i].a, qs[i].c, qs[i].args⟩) qs i hil (by simp [CdV.cells])]
          refine wo_ent' (cdm_as (qs := qs) (rs := qs.set i ⟨ch, qs[i].a, qs[i].c, qs[i].args⟩) HasC.get (fun x hx => by
           rcases List.mem_or_eq_of_mem_set hx with e | e
           · exact ⟨x, e, rfl, rfl, rfl⟩
           · exact ⟨qs[i], List.getElem_mem _, by rw [e], by rw [e], by rw [e]⟩)) ?_
          refine Wn (Yb ?_)
          refine to_inv ⟨((la, lc), qs.set i ⟨ch, qs[i].a, qs[i].c, qs[i].args⟩), ?_⟩ trivial ⟨(by simp only [List.length_set]; rfl), trivial⟩ ?_
          · rw [cdsOf_set]
            have h5 : LinP l (cdsOf qs) := by rw [hx17]; exact hP
            have := h5.lett (i := i) (by simp [cdsOf]; exact hil) hch2
            rw [hci] at this
            exact this
          · dsimp only
            simp only [List.length_set]
            exact ent_pick
         ·
          refine Zk (k:=Yb ?_)
          refine to_inv ⟨((la, lc), qs), by rw [hx17]; exact hP⟩ trivial ⟨rfl, trivial⟩ ent_pick
end Go.Proofs.YtibccdcemcgkeaaGreat
end
section
set_option maxRecDepth 100000
namespace Go.Proofs.YtibccdcemcgkeaaGreat
theorem sla_nil {B : HP} {a : Option Addr} : SlA B a [] := fun _ => .inl rfl
set_option maxHeartbeats 1000000 in
theorem KindRuns_sp : Sp1 Tryz.prog 3 [] [] (vB true) [] := by
 have hbz := ck_small ckR_right
 have hsl : (ckB ckR).length ≤ 1073741824 := by rw [ckB, printB, sealB_len]; omega
 have hself := ckR_self
 have htwo := ckR_two
 have hmem := ckR_names
 have hkind := kindN_K ckR_read
 refine Sp.body (n := 52) Tryz.call3 Tryz.func3 rfl rfl rfl ?_
 refine Za (k:=Zr (k:=Zc [.bool false] (k:=fun b0 => Wq (Za (k:=Zr (k:=?_))))))
 refine r_callF (ref1_Sum_sp [97] (by decide)) rfl rfl rfl ?_
 refine r_callF (ref1_Sum_sp [98] (by decide)) rfl rfl rfl ?_
 refine Zc [vS []] (k:=fun b1 => Zc [vS []] (k:=fun b2 => Zo (k:=Zo (k:=Wq (Za (k:=Zr (k:=Zd (k:=Vx (Ps [_, _]) (k:=Zv [_] (cs := [_, _]) (k:=fun b10 => Zd (k:=Zv [_] (cs := [_]) (k:=fun b12 => ?_))))))))))))
 refine Vx (Ps [vS [], vS [], .int .i64 0, _, _, .slice none 0 0, _]) (k:=?_)
 refine wo_frzC b12 ?_
 refine wo_ent' sli_nil ?_
 refine wo_ent' (Gs := [Ce b10 25 [vS [102], vS shA], SlI (some ⟨b12, 0, none⟩) [vS shB], SlI none [], Ce b2 9 [vS shB], Ce b1 9 [vS shA], Ce b0 4 [vB false]]) (ent_step (ce_norm (by rfl) (by rfl)) ent_pick) ?_
 have hCk : Sp1 Tryz.prog 14 [.agg #[vS [], vS [], vI 0, .slice (some ⟨b10, 0, none⟩) 1 1, .slice (some ⟨b12, 0, none⟩) 1 1, .slice none 0 0, vS [109, 101]]] [Ce b10 25 [vS [102], vS shA], SlI (some ⟨b12, 0, none⟩) [vS shB], SlI none []] (vS (ckB ckR)) [Ce b10 25 [vS [102], vS shA], SlI none []] :=
  ref10_Checkin_sp ⟨some ⟨b10, 0, none⟩, 1, some ⟨b12, 0, none⟩, 1, none, 0⟩ ckR ckR_z (by decide) (by omega) sla_ce sla_nil (Nat.le_refl _)
 refine r_call1 hCk rfl rfl rfl ?_
 generalize ckB ckR = s at hsl hself htwo hmem hkind ⊢
 have hk1 := text_one
 refine Vv (k:=Wq (Za (k:=Za (k:=Zr (k:=?_)))))
 refine r_callF (kind_Of_sp "text".toUTF8.data.toList (by decide)) rfl rfl rfl ?_
 refine Vv (k:=Wq (Zi (t:=fun h16 => ?_) (f:=fun h16 => ?_)))
 ·
  exact absurd hk1 h16
  --done
 ·
  refine Zk (k:=Ya (Za (k:=Zr (k:=Zc [.int .i64 0] (k:=fun b4 => Zo (k:=Wq (Za (k:=Za (k:=Zr (k:=Vv (k:=?_)))))))))))
  refine r_callX (kind_Names_sp s) rfl rfl rfl (fun x18 _ => ?_)
  refine Wq (Zb (k:=?_))
  refine p_rangeFunc (fun pre => [Ce b4 3 [vI pre.length], Ce b2 9 [vS shB], Ce b1 9 [vS shA], Ce b0 4 [vB false]]) (fun j pre => [Pu False]) rfl (kind_Names_it s hsl x18) rfl (fun _ => by rfl) rfl ?_ (fun l pre w hok => ?_) ?_ (fun j pre hs => ?_)
  · (refine ent_app ?_; exact ent_pick)
  ·
   obtain ⟨rr, hrr⟩ := hok
   have hin : w = shA ∨ w = shB := (hmem w).1 (by rw [hrr]; simp)
   have hpl : pre.length < 2 := by
    have := congrArg List.length hrr
    rw [htwo] at this; simp at this; omega
   refine Zr (k:=Vv (k:=Wg (Zb (k:=Za (k:=Za (k:=Zr (k:=Vv (k:=Zd (k:=Vv (k:=Vv (k:=Gi 3 (t:=fun h23 => ?_) (f:=fun h23 => ?_))))))))))))
   ·
    refine I1 (k:=Vv (k:=I1 (k:=Zd (k:=I1 (k:=Vv (k:=P1 (k:=Wq (Zi (t:=fun h27 => ?_) (f:=fun h27 => ?_)))))))))
    ·
     refine Za (k:=Zr (k:=Zo (k:=Wq (Zt (k:=Va (Vb ?_))))))
     exfalso
     rcases hin with h | h
     · first | exact h23 h | exact h27 h
     · first | exact h27 h | exact h26 h
    ·
     refine Zk (k:=Ya (Zr (k:=Zd (k:=Vv (k:=Zo (k:=Wn (Yb ?_)))))))
     refine to_round ?_
     exact ent_step (ce_norm (by rfl) (by simp)) ent_pick
   ·
    refine O0 (k:=O0 (k:=O0 (k:=P0 (k:=Wq (Z0 (k:=Zk (k:=Ya (Zr (k:=Zd (k:=Vv (k:=Zo (k:=?_))))))))))))
    refine Wn (Yb ?_)
    refine to_round ?_
    exact ent_step (ce_norm (by rfl) (by simp)) ent_pick
  ·
   skip
   refine Yb (Ya (Za (k:=Zr (k:=Zd (k:=Vv (k:=Vv (k:=Gi 2 (t:=fun h32 => ?_) (f:=fun h32 => ?_))))))))
   ·
    refine I1 (k:=Vv (k:=I1 (k:=?_)))
    refine r_callF (kind_Of_sp s hsl) rfl rfl rfl ?_
    refine I1 (k:=Vv (k:=P1 (k:=Vv (k:=Gi 7 (t:=fun h37 => ?_) (f:=fun h37 => ?_)))))
    ·
     refine I1 (k:=?_)
     refine r_callF (kind_Of_sp "text".toUTF8.data.toList (by decide)) rfl rfl rfl ?_
     refine I1 (k:=Vv (k:=P1 (k:=Vv (k:=Gi 11 (t:=fun h41 => ?_) (f:=fun h41 => ?_)))))
     ·
      refine I1 (k:=Vv (k:=I1 (k:=Zd (k:=I1 (k:=?_)))))
      refine r_callF (kind_Speaks_sp s shB hsl) rfl rfl rfl ?_
      refine P1 (k:=Vv (k:=Gi 16 (t:=fun h46 => ?_) (f:=fun h46 => ?_)))
      ·
       refine I1 (k:=Vv (k:=I1 (k:=Vv (k:=I1 (k:=?_)))))
       refine r_callF (kind_Speaks_sp s s hsl) rfl rfl rfl ?_
       rw [decide_eq_false hself]
       refine I1 (k:=Vv (k:=P1 (k:=Zo (k:=Wq (Zt (k:=?_))))))
       exact fin_ret () (vs := [_]) (Cs := [Ce b0 4 [vB true]]) rfl (.cell1 (l := [vB true]) rfl (shows_ce (T := 4)) Tryz.underlying4 rfl rfl .nil) rfl trivial (ent_step (ce_norm (by rfl) (by rfl)) ent_nil)
      ·
       exact absurd ((hmem shB).2 (.inr rfl)) h46
       --done
     ·
      exact absurd hk1 h41
      --done
    ·
     exact absurd hkind h37
     --done
   ·
    exact absurd (show ((namesR s).length : Int) = 2 by omega) h32
    --done
  ·
   exact wc_no (fun s => by obtain ⟨_, _, _, _, a, _⟩ := s; exact a)
end Go.Proofs.YtibccdcemcgkeaaGreat
end
section
set_option maxRecDepth 100000
namespace Go.Proofs.YtibccdcemcgkeaaGreat
/-- How many readers have taken it so far, and its kind. -/
noncomputable def take1 (s : Bs) : Int × Int := if (readK s).isSome = true then (1, 2) else (0, 1)
noncomputable def take2 (s : Bs) : Int × Int := if (readCt s).isSome = true then ((take1 s).1 + 1, 3) else take1 s
noncomputable def take3 (s : Bs) : Int × Int := if (readCl s).isSome = true then ((take2 s).1 + 1, 4) else take2 s
theorem take3_kind (s : Bs) : (take3 s).1 ≤ 1 ∧ (take3 s).2 = kindN s := by
 cases hl : readCl s with
 | some l =>
   obtain ⟨h1, h2⟩ := only_cl hl
   simp [take3, take2, take1, kindN, h1, h2, hl]
 | none =>
   cases ht : readCt s with
   | some c =>
     have h1 := only_ct ht
     simp [take3, take2, take1, kindN, h1, ht, hl]
   | none => cases hk : readK s <;> simp [take3, take2, take1, kindN, hk, ht, hl]
theorem take_small (s : Bs) : 0 ≤ (take1 s).1 ∧ (take1 s).1 ≤ 1 ∧ 0 ≤ (take2 s).1 ∧ (take2 s).1 ≤ 2 := by
 unfold take2 take1
 repeat' split
 all_goals simp
set_option maxHeartbeats 4000000 in
theorem KindOne_sp (q : KaV) (z : q.Z) (at_ to_ how : Int) (hh : -9223372036854775808 ≤ how ∧ how ≤ 9223372036854775807) : Sp1 Tryz.prog 5 [.agg q.cells.toArray, vI at_, vI to_, vI how] q.hs (vB true) q.hs := by
 have hArt := keep_Art_sp q z
 refine Sp.body (n := 64) Tryz.call5 Tryz.func5 rfl rfl rfl ?_
 refine Za (k:=Zr (k:=Zx [_, _, _, _, _, _, _, _, _, _, _, _, _, _, _, _] (k:=fun b4 => Vv (k:=Wq (Za (k:=Zr (k:=Zm [_, _, _, _, _, _, _, _, _, _, _, _, _, _, _, _] (k:=?_))))))))
 refine r_callX hArt rfl rfl rfl (fun s0 hs0 => ?_)
 obtain ⟨hA, hs3⟩ := hs0
 refine Vv (k:=Wq ?_)
 refine p_cut (fun (i : { s : Bs // s.length ≤ 200000 }) => [(9, vS i.1)]) (fun (i : { s : Bs // s.length ≤ 200000 }) => q.hs) rfl (fun i => ?_) ?_
 ·
  obtain ⟨s, hs⟩ := i
  have hk3 := take3_kind s
  have hts := take_small s
  have hkr := KindRuns_sp
  dsimp only
  try dsimp only
  refine Za (k:=Zr (k:=Vv (k:=Vv (k:=Wq ?_))))
  refine p_cut (fun (i : Unit) => [(9, vS s), (10, vI (take1 s).1), (11, vI (take1 s).2)]) (fun (i : Unit) => q.hs) rfl (fun i => ?_) ?_
  ·
   try dsimp only
   refine p_cut (fun (i : Unit) => [(9, vS s), (10, vI (take2 s).1), (11, vI (take2 s).2)]) (fun (i : Unit) => q.hs) rfl (fun i => ?_) ?_
   ·
    try dsimp only
    refine p_cut (fun (i : Unit) => [(9, vS s), (10, vI (take3 s).1), (11, vI (take3 s).2)]) (fun (i : Unit) => q.hs) rfl (fun i => ?_) ?_
    ·
     try dsimp only
     refine Za (k:=Zr (k:=Vv (k:=Vv (k:=Vv (k:=Gi 2 (t:=fun h55 => ?_) (f:=fun h55 => ?_))))))
     ·
      refine I1 (k:=Vv (k:=I1 (k:=?_)))
      refine r_callF (kind_Of_sp s (by omega)) rfl rfl rfl ?_
      refine I1 (k:=Vv (k:=I1 (k:=Vv (k:=P1 (k:=Vv (k:=Gi 8 (t:=fun h61 => ?_) (f:=fun h61 => ?_)))))))
      ·
       refine I1 (k:=?_)
       refine r_call1 hkr rfl rfl rfl ?_
       refine P1 (k:=Vv (k:=Wq (Zt (k:=?_))))
       exact fin_ret () (vs := [_]) (Cs := []) rfl (.tmp rfl .nil) rfl trivial ent_pick
      ·
       exact absurd hk3.2.symm h61
       --done
     ·
      exact absurd hk3.1 h55
      --done
    ·
     refine Za (k:=Zr (k:=Vv (k:=?_)))
     refine r_callX (cluster_Read_sp s (by omega)) rfl rfl rfl (fun x47 hx47 => ?_)
     obtain ⟨⟨na, nc⟩, nl⟩ := x47
     refine Vv (k:=?_)
     refine wo_pv (pv_extract (v := .slice na nl.length nc) rfl rfl) rfl ?_
     refine wo_pv (pv_extract (v := vB (readCl s).isSome) rfl rfl) rfl ?_
     refine Vv (k:=Vv (k:=Wq (Za (k:=Zr (k:=Vv (k:=Wq (Zi (t:=fun h50 => ?_) (f:=fun h50 => ?_))))))))
     ·
      refine Zr (k:=Vv (k:=Vv (k:=Vv (k:=Vv (k:=Wn ?_)))))
      exact to_inv () trivial ⟨rfl, by simp only [take3, h50]; rfl, by simp only [take3, h50]; rfl, trivial⟩ ent_pick
     ·
      refine Zk (k:=?_)
      exact to_inv () trivial ⟨rfl, by simp only [take3, h50]; rfl, by simp only [take3, h50]; rfl, trivial⟩ ent_pick
   ·
    refine Za (k:=Zr (k:=Vv (k:=?_)))
    refine r_callX (control_Read_sp s (by omega)) rfl rfl rfl (fun x39 hx39 => ?_)
    obtain ⟨⟨ta, tc⟩, ct⟩ := x39
    refine Vv (k:=?_)
    refine wo_pv (pv_extract (v := .agg #[vI ct.date, .slice ta ct.tags.length tc, vS ct.user]) rfl rfl) rfl ?_
    refine wo_pv (pv_extract (v := vB (readCt s).isSome) rfl rfl) rfl ?_
    refine Zc [.int .i64 0, .slice none 0 0, vS []] (k:=fun b14 => Zp (k:=Vv (k:=Wq (Za (k:=Zr (k:=Vv (k:=Wq (Zi (t:=fun h42 => ?_) (f:=fun h42 => ?_)))))))))
    ·
     refine Zr (k:=Vv (k:=Vv (k:=Vv (k:=Vv (k:=Wn ?_)))))
     exact to_inv () trivial ⟨rfl, by simp only [take2, h42]; rfl, by simp only [take2, h42]; rfl, trivial⟩ ent_pick
    ·
     refine Zk (k:=?_)
     exact to_inv () trivial ⟨rfl, by simp only [take2, h42]; rfl, by simp only [take2, h42]; rfl, trivial⟩ ent_pick
  ·
   refine Za (k:=Zr (k:=Vv (k:=?_)))
   refine r_callX (checkin_Read_sp s (by omega)) rfl rfl rfl (fun x31 hx31 => ?_)
   obtain ⟨ka, k⟩ := x31
   refine Vv (k:=?_)
   refine wo_pv (pv_extract (v := .agg #[vS k.base, vS k.comment, vI k.date, .slice ka.fa k.files.length ka.fc, .slice ka.pa k.parents.length ka.pc, .slice ka.ta k.tags.length ka.tc, vS k.user]) rfl rfl) rfl ?_
   refine wo_pv (pv_extract (v := vB (readK s).isSome) rfl rfl) rfl ?_
   refine Zc [vS [], vS [], .int .i64 0, .slice none 0 0, .slice none 0 0, .slice none 0 0, vS []] (k:=fun b12 => Zp (k:=Vv (k:=Wq (Za (k:=Zr (k:=Vv (k:=Wq (Zi (t:=fun h34 => ?_) (f:=fun h34 => ?_)))))))))
   ·
    refine Zr (k:=Vv (k:=Vv (k:=Vv (k:=Vv (k:=Wn ?_)))))
    exact to_inv () trivial ⟨rfl, by simp only [take1, h34]; rfl, by simp only [take1, h34]; rfl, trivial⟩ ent_pick
   ·
    refine Zk (k:=?_)
    exact to_inv () trivial ⟨rfl, by simp only [take1, h34]; rfl, by simp only [take1, h34]; rfl, trivial⟩ ent_pick
 ·
  refine Za (k:=Zr (k:=Vv (k:=?_)))
  refine wo_pv (pv_and rfl rfl) rfl ?_
  refine Vv (k:=Wq (Zi (t:=fun h22 => ?_) (f:=fun h22 => ?_)))
  ·
   refine Zr (k:=Vv (k:=Vv (k:=Vv (k:=Vv (k:=?_)))))
   refine wo_pv (pv_quow rfl rfl (by omega)) rfl ?_
   refine r_callX (keep_Lines_sp s0 [119] at_ to_ _ hs3 (by decide)) rfl rfl rfl (fun s1 hs1 => ?_)
   refine Vv (k:=Wn ?_)
   first
   | exact to_inv ⟨s1, hs1.2⟩ trivial ⟨rfl, trivial⟩ ent_pick
   | exact to_inv ⟨s0, by omega⟩ trivial ⟨rfl, trivial⟩ ent_pick
  ·
   refine Zk (k:=?_)
   first
   | exact to_inv ⟨s1, hs1.2⟩ trivial ⟨rfl, trivial⟩ ent_pick
   | exact to_inv ⟨s0, by omega⟩ trivial ⟨rfl, trivial⟩ ent_pick
end Go.Proofs.YtibccdcemcgkeaaGreat
end
