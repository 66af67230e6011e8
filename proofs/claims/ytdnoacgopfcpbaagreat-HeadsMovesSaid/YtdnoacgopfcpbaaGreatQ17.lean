/- Texts of this proof, put together: SR10, SR10b, SRefDec, SR10f, PCk4. -/
import Derived.Test.YtdnoacgopfcpbaaGreatQ15
import Derived.Test.YtdnoacgopfcpbaaGreatQ16
set_option linter.unusedVariables false
set_option linter.unusedSimpArgs false
namespace Go.Proofs.YtdnoacgopfcpbaaGreat
section
set_option maxRecDepth 100000
set_option maxHeartbeats 1000000 in
theorem ref10_Print_sp {B : HP} {a : Option Addr} (n cap : Nat) (qs : List CdV) (sh : SlA B a (qs.flatMap CdV.cells)) (hn : qs.length = n) (hz : (bodyB (cdsOf qs)).length ≤ 1073741824) :
    Sp1 Tryz.prog 53 [.slice a n cap] [B, CdM qs] (vS (printB (cdsOf qs))) [B] := by
 subst hn
 obtain ⟨hb, hqa⟩ := cds_sizes hz
 haveI : RdSl a (qs.flatMap CdV.cells) [B, CdM qs] := ⟨⟨B, sh, .here⟩⟩
 obtain ⟨l, hl⟩ : ∃ l, l = cdsOf qs := ⟨_, rfl⟩
 have hll : l.length = qs.length := by rw [hl]; simp [cdsOf]
 have h40 := shaB_len (bodyB l)
 rw [← hl] at hz ⊢
 refine Sp.body (n := 41) Tryz.call53 Tryz.func53 rfl rfl rfl ?_
 refine Qc (k:=Vv (k:=Wq (Qc (k:=Vv (k:=Wq (Za (k:=Qc (k:=Vv (k:=?_)))))))))
 refine Qv (k:=Wq (Zb (k:=?_)))
 refine p_loop (fun (i : { j : Nat // j ≤ qs.length }) => [(3, vS (bodyB (l.take i.1))), (8, .slice a qs.length cap), (9, vI qs.length), (10, vI i.1)]) (fun (i : { j : Nat // j ≤ qs.length }) => [B, CdM qs]) (fun (i : { j : Nat // j ≤ qs.length }) => qs.length - i.1) rfl (⟨0, Nat.zero_le _⟩) ?_ ?_ (fun i => ?_)
 · exact ⟨rfl, rfl, rfl, rfl, trivial⟩
 ·
  exact ent_pick
 obtain ⟨j, hj⟩ := i
 dsimp only
 have hle := body_take_le l j
 try dsimp only
 refine Qc (k:=Vv (k:=Wq (Za (k:=Zi (t:=fun h11 => ?_) (f:=fun h11 => ?_)))))
 ·
  refine Zk (k:=Ya (Za (k:=Zb (k:=Za (k:=?_)))))
  have hjl : j < qs.length := by omega
  have hlj : l.getD j cd0 = qs[j].cd := by rw [hl]; exact cds_getD hjl
  have hbt := body_take (l := l) (j := j) (by omega)
  have hle2 := body_take_le l (j + 1)
  obtain ⟨q, hq⟩ : ∃ q, q = qs[j] := ⟨_, rfl⟩
  have hqm : q ∈ qs := by rw [hq]; exact List.getElem_mem _
  have hqal := hqa q hqm
  rw [hlj, ← hq] at hbt
  have hbl := congrArg List.length hbt
  have hcb : cardB q.cd = q.l :: argsB q.args ++ [10] := rfl
  rw [hcb] at hbt hbl
  simp only [List.length_append, List.length_cons, List.length_nil] at hbl
  obtain ⟨bs, hbs⟩ : ∃ bs, bs = bodyB (l.take j) := ⟨_, rfl⟩
  rw [← hbs] at hbt hbl hle ⊢
  refine wc_ent' (ent_cd hqm HasC.get) ?_
  refine Zr (k:=Ye 2 (k:=?_))
  refine r_eloada (vs := [_, _]) (sz := 2) Tryz.underlying101 rfl ti101 rfl rfl (by rw [flat_len (sz := 2) (fun _ => rfl)]; omega) rfl (by refine get_flat (fun x => ?_) ?_ <;> first | rfl | omega) rfl ?_
  refine Zc [.int .u8 0, .slice none 0 0] (k:=fun b5 => Zp (k:=?_))
  rw [← hq]
  refine Wq (Qc (k:=Vv (k:=Qx 0 5 (k:=Zv [_] (cs := [_]) (k:=fun b17 => ?_)))))
  refine r_b2s (l := [q.l]) Tryz.underlying56 Tryz.underlying9 Tryz.underlying5 rfl (by simp [vUs]) (by simp) rfl ?_
  refine Qv (k:=Wq (Za (k:=Qc (k:=Qx 1 27 (k:=Qv (k:=Wq (Zb (k:=?_))))))))
  refine p_loop (fun (i : { m : Nat // m ≤ q.args.length }) => [(3, vS (bs ++ [q.l] ++ argsB (q.args.take i.1))), (8, .slice a qs.length cap), (9, vI qs.length), (10, vI j), (21, .slice q.a q.args.length q.c), (22, vI q.args.length), (23, vI i.1)]) (fun (i : { m : Nat // m ≤ q.args.length }) => [SlI q.a (q.args.map vS), B, CdM qs]) (fun (i : { m : Nat // m ≤ q.args.length }) => q.args.length - i.1) rfl (⟨0, Nat.zero_le _⟩) ?_ ?_ (fun i => ?_)
  · exact ⟨by rw [show (⟨0, Nat.zero_le _⟩ : { m : Nat // m ≤ q.args.length }).1 = 0 from rfl, List.take_zero, argsB_nil, List.append_nil]; rfl, rfl, rfl, rfl, rfl, rfl, rfl, trivial⟩
  ·
   exact ent_pick
  obtain ⟨m, hm⟩ := i
  dsimp only
  try dsimp only
  refine Qc (k:=Vv (k:=Wq (Za (k:=Zi (t:=fun h24 => ?_) (f:=fun h24 => ?_)))))
  ·
   refine Zk (k:=Ya (Za (k:=Zb (k:=Za (k:=?_)))))
   have hml : m < q.args.length := by omega
   have hat := argsB_take hml
   have hlt : (argsB (q.args.take (m + 1))).length ≤ (argsB q.args).length := by
    conv => rhs; rw [← List.take_append_drop (m + 1) q.args, argsB_app, List.length_append]
    omega
   have hlt2 := congrArg List.length hat
   rw [List.length_append, List.length_cons] at hlt2
   refine Zr (k:=Ye 1 (k:=Yl (hv:=by exact get_mapD [] hml) (k:=Vv (k:=Wq (Zr (k:=Vv (k:=?_)))))))
   refine wo_pv (pv_cat (m := [32]) rfl rfl (by simp only [List.length_append, List.length_cons, List.length_nil]; omega)) rfl ?_
   refine Vv (k:=?_)
   refine wo_pv (pv_cat rfl rfl (by simp only [List.length_append, List.length_cons, List.length_nil]; omega)) rfl ?_
   refine Vv (k:=Wn (Yb (Ya (Zr (k:=Qv (k:=Wn ?_))))))
   refine to_inv ⟨m + 1, by omega⟩ (by dsimp only; omega) ⟨by rw [hat, show bs ++ [q.l] ++ (argsB (q.args.take m) ++ 32 :: q.args.getD m []) = bs ++ [q.l] ++ argsB (q.args.take m) ++ [32] ++ q.args.getD m [] from by simp]; rfl, rfl, rfl, rfl, rfl, rfl, rfl, trivial⟩ ent_pick
  ·
   refine Ze (k:=Xa (Xi (Xb (Ya ?_))))
   have hml : m = q.args.length := by omega
   subst hml
   rw [List.take_length]
   refine Zr (k:=Qv (k:=Vv (k:=Wn (Yb (Ya (Zr (k:=Qv (k:=Wn ?_))))))))
   refine to_inv ⟨j + 1, by omega⟩ (by dsimp only; omega) ⟨by rw [hbt, show bs ++ (q.l :: argsB q.args ++ [10]) = bs ++ [q.l] ++ argsB q.args ++ [10] from by simp]; rfl, rfl, rfl, rfl, trivial⟩ ent_pick
 ·
  refine Ze (k:=Xa (Xi (Xb (Ya (Za (k:=?_))))))
  have hjl : j = qs.length := by omega
  subst hjl
  rw [List.take_of_length_le (by omega)]
  refine Zr (k:=Qv (k:=Vv (k:=?_)))
  refine r_callF (ref1_Sum_sp (bodyB l) (by omega)) rfl rfl rfl ?_
  refine Qv (k:=Vv (k:=Wq (Zt (k:=?_))))
  exact fin_ret () (vs := [_]) (Cs := []) rfl (.tmp rfl .nil) rfl trivial ent_pick
end
section
set_option maxRecDepth 100000
theorem zb52join8 {G : Prop} (h : G := by
    first
    | exact to_inv ⟨((a31, c31), [t.kind :: t.name, t.target, escB t.value]), by simp [tgCard, h25], hk31.1⟩ trivial ⟨rfl, rfl, rfl, rfl, rfl, trivial⟩ ent_pick
    | exact to_inv ⟨((some ⟨b22, 0, none⟩, 2), [t.kind :: t.name, t.target]), by simp [tgCard, Classical.not_not.1 h25], Nat.le_refl _⟩ trivial ⟨rfl, rfl, rfl, rfl, rfl, trivial⟩ ent_pick) : G := h
set_option maxHeartbeats 1000000 in
theorem ref10_ops_sp {B : HP} {a : Option Addr} (n cap : Nat) (l : List Tg) (sh : SlA B a (l.flatMap tgCells)) (hn : l.length = n) (z : TgZ l) :
    Sp Tryz.prog 52 [.slice a n cap] [B] (X := (Option Addr × Nat) × List CdV) cardV (fun x => cdsOf x.2 = l.map tgCard) (fun x => [Row 101 2 (.slice x.1.1 x.2.length x.1.2) x.2.length (x.2.flatMap CdV.cells), CdM x.2, B]) := by
 obtain ⟨hb, hz⟩ := z
 subst hn
 haveI : RdSl a (l.flatMap tgCells) [B] := ⟨⟨B, sh, .here⟩⟩
 refine Sp.body (n := 39) Tryz.call52 Tryz.func52 rfl rfl rfl ?_
 refine Qc (k:=Vv (k:=Wq (Qc (k:=Vv (k:=Wq (Za (k:=Qc (k:=Vv (k:=?_)))))))))
 refine Qv (k:=Wq (Zb (k:=?_)))
 refine p_loop (fun (i : { x : (Option Addr × Nat) × List CdV // x.2.length ≤ l.length ∧ cdsOf x.2 = (l.take x.2.length).map tgCard }) => [(3, .slice i.1.1.1 i.1.2.length i.1.1.2), (7, .slice a l.length cap), (8, vI l.length), (9, vI i.1.2.length)]) (fun (i : { x : (Option Addr × Nat) × List CdV // x.2.length ≤ l.length ∧ cdsOf x.2 = (l.take x.2.length).map tgCard }) => [Row 101 2 (.slice i.1.1.1 i.1.2.length i.1.1.2) i.1.2.length (i.1.2.flatMap CdV.cells), CdM i.1.2, B]) (fun (i : { x : (Option Addr × Nat) × List CdV // x.2.length ≤ l.length ∧ cdsOf x.2 = (l.take x.2.length).map tgCard }) => l.length - i.1.2.length) rfl (⟨((none, 0), []), Nat.zero_le _, rfl⟩) ?_ ?_ (fun i => ?_)
 · exact ⟨rfl, rfl, rfl, rfl, trivial⟩
 ·
  exact (row_nil (e := 101) (sz := 2)).trans (ent_cdm_nil.trans (show Ent _ [Row 101 2 (.slice none 0 0) 0 [], CdM [], B] from ent_pick))
 obtain ⟨⟨⟨oa, oc⟩, qs⟩, hj, hcd⟩ := i
 dsimp only at hj hcd ⊢
 try dsimp only
 refine Qc (k:=Vv (k:=Wq (Za (k:=Zi (t:=fun h10 => ?_) (f:=fun h10 => ?_)))))
 ·
  refine Zk (k:=Ya (Za (k:=Zb (k:=Za (k:=?_)))))
  have hjl : qs.length < l.length := by omega
  obtain ⟨t, ht⟩ : ∃ t, t = l[qs.length] := ⟨_, rfl⟩
  have hzj := hz t (by rw [ht]; exact List.getElem_mem hjl)
  have htk : (l.take (qs.length + 1)).map tgCard = cdsOf qs ++ [tgCard t] := by rw [List.take_succ_eq_append_getElem hjl, List.map_append, ← hcd, ht]; rfl
  refine Zr (k:=Ye 4 (k:=?_))
  refine r_eloada (vs := [_, _, _, _]) (sz := 4) Tryz.underlying60 rfl ti60 rfl rfl (by rw [flat_len (sz := 4) (fun _ => rfl)]; omega) rfl (by refine get_flat (fun x => ?_) ?_ <;> first | rfl | omega) rfl ?_
  rw [← ht]
  refine Zc [.int .u8 0, vS [], vS [], vS []] (k:=fun b5 => Zp (k:=Wq (Qc (k:=Qx 0 5 (k:=Zv [_] (cs := [_]) (k:=fun b15 => ?_))))))
  refine r_b2s (l := [t.kind]) Tryz.underlying56 Tryz.underlying9 Tryz.underlying5 rfl (by simp [vUs]) (by simp) rfl ?_
  refine Qx 1 9 (k:=Vv (k:=Qx 2 9 (k:=Zv [_, _] (cs := [_, _]) (k:=fun b22 => Vv (k:=Wq ?_)))))
  refine p_cut (fun (i : { x : (Option Addr × Nat) × List Bs // x.2 = (tgCard t).args ∧ x.2.length ≤ x.1.2 }) => [(3, .slice oa qs.length oc), (6, .slice i.1.1.1 i.1.2.length i.1.1.2), (7, .slice a l.length cap), (8, vI l.length), (9, vI qs.length)]) (fun (i : { x : (Option Addr × Nat) × List Bs // x.2 = (tgCard t).args ∧ x.2.length ≤ x.1.2 }) => [SlI i.1.1.1 (i.1.2.map vS), Row 101 2 (.slice oa qs.length oc) qs.length (qs.flatMap CdV.cells), CdM qs, B]) rfl (fun i => ?_) ?_
  ·
   obtain ⟨⟨⟨ga, gc⟩, xs⟩, hxs, hxc⟩ := i
   dsimp only at hxs hxc ⊢
   try dsimp only
   refine Zr (k:=Qv (k:=Vx (Ps [_, _]) (k:=Zv [_] (cs := [_, _]) (k:=fun b35 => ?_))))
   refine r_append1 (sz := 2) (bytes := 32) Tryz.underlying99 ti101 rfl rfl rfl rfl rfl rfl rfl (by rfl) (by rfl) (by omega) (by simp only [maxLen]; omega) rfl (fun a36 c36 => ?_)
   refine Vv (k:=Wn (Yb (Ya (Zr (k:=Qv (k:=Wn ?_))))))
   obtain ⟨q, hqq⟩ : ∃ q : CdV, q = ⟨84, ga, gc, xs⟩ := ⟨_, rfl⟩
   have hqc : q.cd = tgCard t := by rw [hqq]; show (⟨84, xs⟩ : Cd) = _; rw [hxs]; rfl
   have hql : (qs ++ [q]).length = qs.length + 1 := by simp
   refine to_inv ⟨((a36, c36), qs ++ [q]), ?_, ?_⟩ ?_ ⟨sl_eq hql.symm, rfl, rfl, vI_eq (by dsimp only; omega), trivial⟩ ?_
   · dsimp only; omega
   · dsimp only; rw [hql, htk, cds_snoc, hqc]
   · dsimp only; omega
   · dsimp only
     rw [hql]
     refine (ent_cdm_snoc (qs := qs) (q := q) HasC.get (by rw [hqq]; exact HasC.get) (by rw [hqq]; exact hxc)).trans ?_
     exact ent_step (row_norm (by rfl) (by rw [hqq]; simp [CdV.cells])) ent_pick
  ·
   refine Qc (k:=Qx 3 9 (k:=Vv (k:=Wq (Zi (t:=fun h25 => ?_) (f:=fun h25 => ?_)))))
   ·
    refine Zr (k:=Vv (k:=Qx 3 9 (k:=?_)))
    refine r_callF (ref10_Escape_sp t.value (by omega)) rfl rfl rfl ?_
    refine Zv [_] (cs := [_]) (k:=fun b30 => ?_)
    refine wo_ent' (ent_row (k := 2) (cap := 2) (sz := 1) (e := 9) (g := b22) (xs := [vS ([t.kind] ++ t.name), vS t.target]) (cur := [vS ([t.kind] ++ t.name), vS t.target]) (Nat.le_refl _) (by simp [maxLen]) rfl rfl rfl) ?_
    refine r_append1 (sz := 1) (bytes := 16) Tryz.underlying27 ti9 rfl rfl rfl rfl rfl rfl rfl (by rfl) (by rfl) (by omega) (by simp only [maxLen]; omega) rfl (fun a31 c31 => ?_)
    refine wo_know (A := Row 9 1 (.slice a31 (2 + 1) c31) (2 + 1) ([vS ([t.kind] ++ t.name), vS t.target] ++ [vS (escB t.value)])) HasC.get row_know (fun hk31 => ?_)
    refine wo_frzR a31 ?_
    rw [show ([vS ([t.kind] ++ t.name), vS t.target] ++ [vS (escB t.value)]) = ([t.kind :: t.name, t.target, escB t.value] : List Bs).map vS from rfl]
    refine Vv (k:=Wn ?_)
    exact zb52join8
   ·
    refine wc_frzC b22 ?_
    rw [show [vS ([t.kind] ++ t.name), vS t.target] = ([t.kind :: t.name, t.target] : List Bs).map vS from rfl]
    refine Zk (k:=?_)
    exact zb52join8
 ·
  refine Ze (k:=Xa (Xi (Xb (Ya (Qc (k:=Qv (k:=Wq (Zt (k:=?_)))))))))
  have hjl : qs.length = l.length := by omega
  rw [hjl, List.take_length] at hcd
  refine fin_ret ((oa, oc), qs) (vs := [_]) (Cs := []) rfl (.tmp rfl .nil) rfl hcd ?_
  exact ent_pick
end
section
set_option maxRecDepth 100000
theorem vUs_dgt (n : Nat) {m : Int} (h : m = 48 + ((n % 10 : Nat) : Int)) : [vU (IntKind.u8.wrap m)] = vUs [dgt n] := by
 have e : IntKind.u8.wrap m = m := u8_in' (by omega)
 have := dgt_toNat n
 rw [e]
 simp only [vUs, List.map_cons, List.map_nil, this]
 rw [h]; congr 2
theorem ref1_Dec_sp (n : Nat) (h : n ≤ 1073741824) : SpF Tryz.prog 51 [vI n] (vS (decN n)) := by
 induction n using Nat.strongRecOn with
 | _ n ih =>
 have hlen := decN_len n
 by_cases h10 : n < 10
 · have hn : decN n = [dgt n] := by rw [decN, if_pos h10]
   refine Sp.body (n := 26) Tryz.call51 Tryz.func51 rfl rfl rfl ?_
   refine Qc (k:=Vv (k:=Wq (Za (k:=Qc (k:=Qv (k:=Vv (k:=Gi 2 (t:=fun h5 => ?_) (f:=fun h5 => ?_))))))))
   ·
    exfalso; omega
    --done
   ·
    refine J0 (k:=J0 (k:=P0 (k:=Wq (Zi (t:=fun h8 => ?_) (f:=fun h8 => ?_)))))
    ·
     exfalso; omega
     --done
    ·
     refine Zk (k:=Ya (Za (k:=Qc (k:=Qv (k:=Wq (Zi (t:=fun h10 => ?_) (f:=fun h10 => ?_)))))))
     ·
      refine Qc (k:=Qv (k:=?_))
      refine wo_pv (pv_conv rfl Tryz.underlying3 Tryz.underlying5) rfl ?_
      refine Zv [_] (cs := [_]) (k:=fun b14 => ?_)
      refine r_b2s (l := [dgt n]) Tryz.underlying56 Tryz.underlying9 Tryz.underlying5 rfl (by exact vUs_dgt n (by omega)) (by simp) rfl ?_
      refine Vv (k:=Wq (Zt (k:=Va ?_)))
      exact fin_ret () (vs := [_]) (Cs := []) rfl (.tmp rfl .nil) (by rw [hn]; rfl) trivial ent_nil
     ·
      exfalso; omega
      --done
 · have hn : decN n = decN (n / 10) ++ [dgt n] := by rw [decN, if_neg h10]
   have hc := ih (n / 10) (by omega) (by omega)
   rw [show (((n / 10 : Nat)) : Int) = (n : Int) / 10 from by omega] at hc
   have hl2 := decN_len (n / 10)
   refine Sp.body (n := 26) Tryz.call51 Tryz.func51 rfl rfl rfl ?_
   refine Qc (k:=Vv (k:=Wq (Za (k:=Qc (k:=Qv (k:=Vv (k:=Gi 2 (t:=fun h5 => ?_) (f:=fun h5 => ?_))))))))
   ·
    exfalso; omega
    --done
   ·
    refine J0 (k:=J0 (k:=P0 (k:=Wq (Zi (t:=fun h8 => ?_) (f:=fun h8 => ?_)))))
    ·
     exfalso; omega
     --done
    ·
     refine Zk (k:=Ya (Za (k:=Qc (k:=Qv (k:=Wq (Zi (t:=fun h10 => ?_) (f:=fun h10 => ?_)))))))
     ·
      exfalso; omega
      --done
     ·
      refine Zk (k:=Ya (Za (k:=Dw [] (k:=?_))))
      refine Dv 0 (k:=Dv 1 (k:=Dv 3 (k:=Dv 4 (k:=Dv 5 (k:=?_)))))
      refine d_first 6 rfl rfl rfl (by kernel_rfl) (by kernel_rfl) (tl_pv (pv_conv rfl Tryz.underlying3 Tryz.underlying5)) ?_
      refine d_next2 2 7 (by kernel_rfl) rfl rfl ?_ ?_
      ·
       refine an_callF hc rfl rfl rfl ?_
       refine Dn 7 (k:=?_)
       refine an_buildSliceI [_] (cs := [_]) Tryz.underlying56 ti5 rfl rfl rfl rfl rfl rfl rfl rfl (fun b23 => ?_)
       refine d_first 8 rfl rfl rfl (by kernel_rfl) (by kernel_rfl) (tl_b2s (l := [dgt n]) Tryz.underlying56 Tryz.underlying9 Tryz.underlying5 rfl (by exact vUs_dgt n (by omega)) (by simp)) ?_
       refine d_first 9 rfl rfl rfl (by kernel_rfl) (by kernel_rfl) (tl_pv (pv_cat rfl rfl (by rw [List.length_singleton]; omega))) ?_
       refine Dv 10 (k:=Dd (k:=Ya (Zt (k:=?_))))
       exact fin_ret () (vs := [_]) (Cs := []) rfl (.tmp rfl .nil) (by rw [hn]; rfl) trivial ent_nil
      ·
       refine an_buildSliceI [_] (cs := [_]) Tryz.underlying56 ti5 rfl rfl rfl rfl rfl rfl rfl rfl (fun b23 => ?_)
       refine d_first 8 rfl rfl rfl (by kernel_rfl) (by kernel_rfl) (tl_b2s (l := [dgt n]) Tryz.underlying56 Tryz.underlying9 Tryz.underlying5 rfl (by exact vUs_dgt n (by omega)) (by simp)) ?_
       refine Dn 2 (k:=?_)
       refine an_callF hc rfl rfl rfl ?_
       refine d_first 9 rfl rfl rfl (by kernel_rfl) (by kernel_rfl) (tl_pv (pv_cat rfl rfl (by rw [List.length_singleton]; omega))) ?_
       refine Dv 10 (k:=Dd (k:=Ya (Zt (k:=?_))))
       exact fin_ret () (vs := [_]) (Cs := []) rfl (.tmp rfl .nil) (by rw [hn]; rfl) trivial ent_nil
end
section
set_option maxRecDepth 100000
theorem zb16next0 {G : Prop} (h : G := by
    obtain ⟨q, hqq⟩ : ∃ q : CdV, q = ⟨70, ga, gc, xs⟩ := ⟨_, rfl⟩
    have hqc : q.cd = flCard f := by rw [hqq]; show (⟨70, xs⟩ : Cd) = _; rw [hxs]; rfl
    have hql2 : (fs ++ [q]).length = fs.length + 1 := by simp
    refine to_inv ⟨(((a53, c53), fs ++ [q]), j + 1), ?_, ?_⟩ ?_ ⟨rfl, sl_eq hql2.symm, rfl, rfl, rfl, trivial⟩ ?_
    · dsimp only; omega
    · dsimp only; rw [htk, cds_snoc, hqc, hfs, List.append_assoc]
    · dsimp only; omega
    · dsimp only
      rw [hql2]
      refine (ent_cdm_snoc (qs := fs) (q := q) HasC.get (by rw [hqq]; exact HasC.get) (by rw [hqq]; exact hxc)).trans ?_
      exact ent_step (row_norm (by rfl) (by rw [hqq]; simp [CdV.cells])) ent_pick) : G := h
theorem zb16join11 {G : Prop} (h : G := by
    first
    | exact to_inv ⟨((a48, c48), [f.1, f.2]), by simp [flCard, h43], hk48.1⟩ trivial ⟨rfl, rfl, rfl, rfl, rfl, rfl, trivial⟩ ent_pick
    | exact to_inv ⟨((some ⟨b40, 0, none⟩, 1), [f.1]), by simp [flCard, Classical.not_not.1 h43], Nat.le_refl _⟩ trivial ⟨rfl, rfl, rfl, rfl, rfl, rfl, trivial⟩ ent_pick) : G := h
theorem zb16ret16 {G : Prop} (h : G := by exact fin_ret () (vs := [_]) (Cs := []) rfl (.tmp rfl .nil) rfl trivial ent_pick) : G := h
theorem zb16join15 {G : Prop} (h : G := by
    first
    | (have hp : c.parents ≠ [] := fun e => by rw [e] at h58; simp at h58
       have hql2 : (fs ++ [(⟨80, x.pa, x.pc, c.parents⟩ : CdV)]).length = fs.length + 1 := by simp
       refine to_inv ⟨((a64, c64), fs ++ [⟨80, x.pa, x.pc, c.parents⟩]), ?_⟩ trivial ⟨rfl, sl_eq hql2.symm, trivial⟩ ?_
       · dsimp only; rw [cds_snoc, hfs, ckHead, pCards, if_neg hp]; simp [CdV.cd]
       · dsimp only
         rw [hql2]
         refine (ent_cdm_snoc (qs := fs) (q := ⟨80, x.pa, x.pc, c.parents⟩) HasC.get HasC.get hpc).trans ?_
         exact ent_step (row_norm (by rfl) (by rw [fm_snoc]; rfl)) ent_pick)
    | (have hp : c.parents = [] := List.eq_nil_of_length_eq_zero (by omega)
       refine to_inv ⟨((fa, fc), fs), ?_⟩ trivial ⟨rfl, rfl, trivial⟩ ent_pick
       dsimp only; rw [hfs, ckHead, pCards, if_pos hp]; simp)) : G := h
theorem zb16join4 {G : Prop} (h : G := by
    first
    | (have hb : c.base ≠ [] := h9
       refine to_inv ⟨((a16, c16), [⟨66, some ⟨b13, 0, none⟩, 1, [c.base]⟩]), by simp [cdsOf, CdV.cd, bCards, hb]⟩ trivial ⟨rfl, rfl, trivial⟩ ?_
       refine Ent.trans (ent_cdm_one (a := some ⟨b13, 0, none⟩) (c := 1) 66 [c.base] [vS c.base] HasC.get rfl (Nat.le_refl _)) ?_
       dsimp only [List.length_cons, List.length_nil]
       exact ent_step (row_norm (by rfl) (by rfl)) ent_pick)
    | (have hb : c.base = [] := Classical.not_not.1 h9
       refine to_inv ⟨((none, 0), []), by simp [cdsOf, bCards, hb]⟩ trivial ⟨rfl, rfl, trivial⟩ ?_
       refine Ent.trans ent_cdm_nil ?_
       dsimp only [List.length_nil]
       rw [show ([] : List CdV).flatMap CdV.cells = [] from rfl]
       exact ent_pick)) : G := h
set_option maxHeartbeats 4000000 in
theorem ref10_Checkin_sp {Bf Bt : HP} (x : CkA) (c : Ck) (z : CkZ c) (hd : 0 ≤ c.date ∧ c.date ≤ 1073741824) (hz : (bodyB (ckCards c)).length ≤ 1073741824) (shf : SlA Bf x.fa (c.files.flatMap flCells)) (sht : SlA Bt x.ta (c.tags.flatMap tgCells)) (hpc : c.parents.length ≤ x.pc) :
    Sp1 Tryz.prog 16 [.agg (ckVals x c).toArray] [Bf, SlI x.pa (c.parents.map vS), Bt] (vS (ckB c)) [Bf, Bt] := by
 have hTC := ref10_ops_sp c.tags.length x.tc c.tags sht rfl z.tags
 haveI : RdSl x.fa (c.files.flatMap flCells) [Bf, SlI x.pa (c.parents.map vS), Bt] := ⟨⟨Bf, shf, .here⟩⟩
 obtain ⟨z1, z2, z3, z4, z5, z6, z7, z8, z9⟩ := z
 have hcl := (bodyB_ge (ckCards c)).1
 have hcn : (ckCards c).length = (bCards c.base).length + 2 + c.files.length + (pCards c.parents).length + (c.tags.length + 1) := by simp [ckCards]; omega
 have hDec : SpF Tryz.prog 51 [vI c.date] (vS (decN c.date.toNat)) := by
  have := ref1_Dec_sp c.date.toNat (by omega)
  rwa [Int.toNat_of_nonneg hd.1] at this
 refine Sp.body (n := 78) Tryz.call16 Tryz.func16 rfl rfl rfl ?_
 refine Qc (k:=Zx [_, _, _, _, _, _, _] (k:=fun b1 => Vv (k:=Wq (Qc (k:=Vv (k:=Wq ?_))))))
 refine p_cut (fun (i : { x : (Option Addr × Nat) × List CdV // cdsOf x.2 = bCards c.base }) => [(1, .pointer (some ⟨b1, 0, none⟩)), (3, .slice i.1.1.1 i.1.2.length i.1.1.2)]) (fun (i : { x : (Option Addr × Nat) × List CdV // cdsOf x.2 = bCards c.base }) => [Row 101 2 (.slice i.1.1.1 i.1.2.length i.1.1.2) i.1.2.length (i.1.2.flatMap CdV.cells), CdM i.1.2, Ce b1 30 [vS c.base, vS c.comment, vI c.date, .slice x.fa c.files.length x.fc, .slice x.pa c.parents.length x.pc, .slice x.ta c.tags.length x.tc, vS c.user], Bf, SlI x.pa (c.parents.map vS), Bt]) rfl (fun i => ?_) ?_
 ·
  obtain ⟨⟨⟨oa, oc⟩, qs⟩, hcd⟩ := i
  dsimp only at hcd ⊢
  have hql := cdsLen hcd
  try dsimp only
  refine Za (k:=Dw [Ce b1 30 [vS c.base, vS c.comment, vI c.date, .slice x.fa c.files.length x.fc, .slice x.pa c.parents.length x.pc, .slice x.ta c.tags.length x.tc, vS c.user]] (k:=?_))
  refine Dv 0 (k:=Di 1 (t:=Uf 1 9) (k:=Di 2 (t:=Ul) (k:=Di 7 (t:=Uf 2 3) (k:=Di 8 (t:=Ul) (k:=Dn 3 (k:=?_))))))
  refine an_callF (ref10_Escape_sp c.comment (by omega)) rfl rfl rfl ?_
  have hel := (escB_len c.comment).2
  refine Dv 4 (k:=?_)
  refine d_next2 5 9 (by kernel_rfl) rfl rfl ?_ ?_
  ·
   refine Nl [_] (cs := [_]) (k:=fun b22 => Di 6 (t:=Ux (Ps [_, _])) (k:=Dn 9 (k:=?_)))
   refine an_callF hDec rfl rfl rfl ?_
   refine Dn 10 (k:=Nl [_] (cs := [_]) (k:=fun b27 => Di 11 (t:=Ux (Ps [_, _])) (k:=Dn 12 (k:=Nl [_, _] (cs := [_, _, _, _]) (k:=fun b29 => Dn 13 (k:=?_))))))
   refine an_append1 (sz := 2) (bytes := 32) Tryz.underlying99 ti101 rfl rfl rfl rfl rfl rfl rfl (by rfl) (by rfl) (by omega) (by simp only [maxLen]; omega) rfl (fun a30 c30 => ?_)
   refine Dv 14 (k:=Dd (k:=Ya (Za (k:=Za (k:=?_)))))
   refine wc_frzC b22 ?_
   refine wc_frzC b27 ?_
   obtain ⟨ps, hps⟩ : ∃ ps : List CdV, ps = qs ++ [⟨67, some ⟨b22, 0, none⟩, 1, [46 :: escB c.comment]⟩] ++ [⟨68, some ⟨b27, 0, none⟩, 1, [decN c.date.toNat]⟩] := ⟨_, rfl⟩
   have hpcd : cdsOf ps = bCards c.base ++ [⟨67, [46 :: escB c.comment]⟩, ⟨68, [decN c.date.toNat]⟩] := by rw [hps, cdsOf_app, cdsOf_app, hcd, List.append_assoc]; rfl
   have hpl : ps.length = qs.length + 2 := by rw [hps]; simp
   have hpf : ps.flatMap CdV.cells = qs.flatMap CdV.cells ++ [vU ((67 : UInt8).toNat : Int), .slice (some ⟨b22, 0, none⟩) 1 1, vU ((68 : UInt8).toNat : Int), .slice (some ⟨b27, 0, none⟩) 1 1] := by rw [hps]; simp [CdV.cells]
   refine Zr (k:=Qx 3 26 (k:=Qv (k:=Wq (Zb (k:=?_)))))
   refine p_loop (fun (i : { y : ((Option Addr × Nat) × List CdV) × Nat // y.2 ≤ c.files.length ∧ cdsOf y.1.2 = cdsOf ps ++ (c.files.take y.2).map flCard }) => [(1, .pointer (some ⟨b1, 0, none⟩)), (3, .slice i.1.1.1.1 i.1.1.2.length i.1.1.1.2), (32, .slice x.fa c.files.length x.fc), (33, vI c.files.length), (34, vI i.1.2)]) (fun (i : { y : ((Option Addr × Nat) × List CdV) × Nat // y.2 ≤ c.files.length ∧ cdsOf y.1.2 = cdsOf ps ++ (c.files.take y.2).map flCard }) => [Row 101 2 (.slice i.1.1.1.1 i.1.1.2.length i.1.1.1.2) i.1.1.2.length (i.1.1.2.flatMap CdV.cells), CdM i.1.1.2, Ce b1 30 [vS c.base, vS c.comment, vI c.date, .slice x.fa c.files.length x.fc, .slice x.pa c.parents.length x.pc, .slice x.ta c.tags.length x.tc, vS c.user], Bf, SlI x.pa (c.parents.map vS), Bt]) (fun (i : { y : ((Option Addr × Nat) × List CdV) × Nat // y.2 ≤ c.files.length ∧ cdsOf y.1.2 = cdsOf ps ++ (c.files.take y.2).map flCard }) => c.files.length - i.1.2) rfl (⟨(((a30, c30), ps), 0), Nat.zero_le _, by simp⟩) ?_ ?_ (fun i => ?_)
   · exact ⟨rfl, sl_eq hpl.symm, rfl, rfl, rfl, trivial⟩
   ·
    dsimp only
    rw [hpl, hpf]
    refine Ent.trans (ent_cdm_new (qs := qs) (a := some ⟨b22, 0, none⟩) (c := 1) 67 [46 :: escB c.comment] [vS ([46] ++ escB c.comment)] HasC.get HasC.get rfl (Nat.le_refl _)) ?_
    refine Ent.trans (ent_cdm_new (qs := qs ++ [⟨67, some ⟨b22, 0, none⟩, 1, [46 :: escB c.comment]⟩]) (a := some ⟨b27, 0, none⟩) (c := 1) 68 [decN c.date.toNat] [vS (decN c.date.toNat)] HasC.get HasC.get rfl (Nat.le_refl _)) ?_
    rw [hps]
    exact ent_step (row_norm (by rfl) (by rfl)) ent_pick
   obtain ⟨⟨⟨⟨fa, fc⟩, fs⟩, j⟩, hj, hfs⟩ := i
   dsimp only at hj hfs ⊢
   have hfl := cdsLen hfs
   have hpl0 : (cdsOf ps).length = ps.length := by simp [cdsOf]
   rw [List.length_append, List.length_map, List.length_take, hpl0] at hfl
   try dsimp only
   refine Qc (k:=Vv (k:=Wq (Za (k:=Zi (t:=fun h35 => ?_) (f:=fun h35 => ?_)))))
   ·
    refine Zk (k:=Ya (Za (k:=Zb (k:=Za (k:=?_)))))
    have hjl : j < c.files.length := by omega
    obtain ⟨f, hf⟩ : ∃ f, f = c.files[j] := ⟨_, rfl⟩
    have hfz := z5 f (by rw [hf]; exact List.getElem_mem _)
    have htk : (c.files.take (j + 1)).map flCard = (c.files.take j).map flCard ++ [flCard f] := by rw [List.take_succ_eq_append_getElem hjl, List.map_append, hf]; rfl
    refine Zr (k:=Ye 2 (k:=?_))
    refine r_eloada (vs := [_, _]) (sz := 2) Tryz.underlying25 rfl ti25 rfl rfl (by rw [flat_len (sz := 2) (fun _ => rfl)]; omega) rfl (by refine get_flat (fun x => ?_) ?_ <;> first | rfl | omega) rfl ?_
    rw [← hf]
    refine Zc [vS [], vS []] (k:=fun b5 => Zp (k:=Wq (Qc (k:=Qx 0 9 (k:=Zv [_] (cs := [_]) (k:=fun b40 => Vv (k:=Wq ?_)))))))
    refine p_cut (fun (i : { y : (Option Addr × Nat) × List Bs // y.2 = (flCard f).args ∧ y.2.length ≤ y.1.2 }) => [(1, .pointer (some ⟨b1, 0, none⟩)), (3, .slice fa fs.length fc), (6, .slice i.1.1.1 i.1.2.length i.1.1.2), (32, .slice x.fa c.files.length x.fc), (33, vI c.files.length), (34, vI j)]) (fun (i : { y : (Option Addr × Nat) × List Bs // y.2 = (flCard f).args ∧ y.2.length ≤ y.1.2 }) => [SlI i.1.1.1 (i.1.2.map vS), Row 101 2 (.slice fa fs.length fc) fs.length (fs.flatMap CdV.cells), CdM fs, Ce b1 30 [vS c.base, vS c.comment, vI c.date, .slice x.fa c.files.length x.fc, .slice x.pa c.parents.length x.pc, .slice x.ta c.tags.length x.tc, vS c.user], Bf, SlI x.pa (c.parents.map vS), Bt]) rfl (fun i => ?_) ?_
    ·
     obtain ⟨⟨⟨ga, gc⟩, xs⟩, hxs, hxc⟩ := i
     dsimp only at hxs hxc ⊢
     try dsimp only
     refine Zr (k:=Qv (k:=Vx (Ps [_, _]) (k:=Zv [_] (cs := [_, _]) (k:=fun b52 => ?_))))
     refine r_append1 (sz := 2) (bytes := 32) Tryz.underlying99 ti101 rfl rfl rfl rfl rfl rfl rfl (by rfl) (by rfl) (by omega) (by simp only [maxLen]; omega) rfl (fun a53 c53 => ?_)
     refine Vv (k:=Wn (Yb (Ya (Zr (k:=Qv (k:=Wn ?_))))))
     exact zb16next0
    ·
     refine Qc (k:=Qx 1 9 (k:=Vv (k:=Wq (Zi (t:=fun h43 => ?_) (f:=fun h43 => ?_)))))
     ·
      refine Zr (k:=Vv (k:=Qx 1 9 (k:=Zv [_] (cs := [_]) (k:=fun b47 => ?_))))
      refine wo_ent' (ent_row (k := 1) (cap := 1) (sz := 1) (e := 9) (g := b40) (xs := [vS f.1]) (cur := [vS f.1]) (Nat.le_refl _) (by simp [maxLen]) rfl rfl rfl) ?_
      refine r_append1 (sz := 1) (bytes := 16) Tryz.underlying27 ti9 rfl rfl rfl rfl rfl rfl rfl (by rfl) (by rfl) (by omega) (by simp only [maxLen]; omega) rfl (fun a48 c48 => ?_)
      refine wo_know (A := Row 9 1 (.slice a48 (1 + 1) c48) (1 + 1) ([vS f.1] ++ [vS f.2])) HasC.get row_know (fun hk48 => ?_)
      refine wo_frzR a48 ?_
      rw [show ([vS f.1] ++ [vS f.2]) = ([f.1, f.2] : List Bs).map vS from rfl]
      refine Vv (k:=Wn ?_)
      exact zb16join11
     ·
      refine wc_frzC b40 ?_
      rw [show [vS f.1] = ([f.1] : List Bs).map vS from rfl]
      refine Zk (k:=?_)
      exact zb16join11
   ·
    refine Ze (k:=Xa (Xi (Xb (Ya ?_))))
    refine p_cut (fun (i : { y : (Option Addr × Nat) × List CdV // cdsOf y.2 = ckHead c }) => [(1, .pointer (some ⟨b1, 0, none⟩)), (3, .slice i.1.1.1 i.1.2.length i.1.1.2)]) (fun (i : { y : (Option Addr × Nat) × List CdV // cdsOf y.2 = ckHead c }) => [Row 101 2 (.slice i.1.1.1 i.1.2.length i.1.1.2) i.1.2.length (i.1.2.flatMap CdV.cells), CdM i.1.2, Ce b1 30 [vS c.base, vS c.comment, vI c.date, .slice x.fa c.files.length x.fc, .slice x.pa c.parents.length x.pc, .slice x.ta c.tags.length x.tc, vS c.user], Bf, SlI x.pa (c.parents.map vS), Bt]) rfl (fun i => ?_) ?_
    ·
     obtain ⟨⟨⟨ga, gc⟩, gs⟩, hgs⟩ := i
     dsimp only at hgs ⊢
     have hgl := cdsLen hgs
     have hhl : (ckHead c).length = (bCards c.base).length + 2 + c.files.length + (pCards c.parents).length := by simp [ckHead]; omega
     try dsimp only
     refine Qc (k:=Vv (k:=Qx 5 28 (k:=?_)))
     refine r_callX hTC rfl rfl rfl (fun x68 hx68 => ?_)
     obtain ⟨⟨ta, tc⟩, tqs⟩ := x68
     dsimp only [cardV, cardH] at hx68 ⊢
     have htq := cdsLen hx68
     rw [List.length_map] at htq
     refine r_appendA (sz := 2) (bytes := 32) Tryz.underlying99 ti101 rfl rfl rfl rfl rfl rfl rfl (cells_len tqs) (cells_one tqs) (by omega) (by simp only [maxLen]; omega) rfl (fun a69 c69 => ?_)
     refine Vv (k:=Wq (Qc (k:=Vv (k:=Qx 6 9 (k:=Zv [_] (cs := [_]) (k:=fun b73 => Vx (Ps [_, _]) (k:=Zv [_] (cs := [_, _]) (k:=fun b75 => ?_))))))))
     refine r_append1 (sz := 2) (bytes := 32) Tryz.underlying99 ti101 rfl rfl rfl rfl rfl rfl rfl (by rfl) (by rfl) (by omega) (by simp only [maxLen]; omega) rfl (fun a76 c76 => ?_)
     refine wo_frzC b73 ?_
     obtain ⟨al, hal⟩ : ∃ al : List CdV, al = gs ++ tqs ++ [⟨85, some ⟨b73, 0, none⟩, 1, [c.user]⟩] := ⟨_, rfl⟩
     have halc : cdsOf al = ckCards c := by rw [hal, cdsOf_app, cdsOf_app, hgs, hx68, ckHead, ckCards]; simp [cdsOf, CdV.cd]
     have hall : al.length = gs.length + tqs.length + 1 := by rw [hal]; simp; omega
     have hxx : gs.flatMap CdV.cells ++ tqs.flatMap CdV.cells ++ [vU 85, .slice (some ⟨b73, 0, none⟩) 1 1] = al.flatMap CdV.cells := by rw [hal]; simp [CdV.cells]
     have hPr := ref10_Print_sp (B := Row 101 2 (.slice a76 (gs.length + tqs.length + 1) c76) (gs.length + tqs.length + 1) (gs.flatMap CdV.cells ++ tqs.flatMap CdV.cells ++ [vU 85, .slice (some ⟨b73, 0, none⟩) 1 1])) (a := a76) (gs.length + tqs.length + 1) c76 al (by rw [← hxx]; exact sla_row) hall (by rw [halc]; omega)
     rw [halc] at hPr
     refine wo_ent' (ent_cdm_app (qs := gs) (rs := tqs) HasC.get HasC.get) ?_
     refine wo_ent' (ent_cdm_new (qs := gs ++ tqs) (a := some ⟨b73, 0, none⟩) (c := 1) 85 [c.user] [vS c.user] HasC.get HasC.get rfl (Nat.le_refl _)) ?_
     rw [← hal]
     refine r_call1 hPr rfl rfl rfl ?_
     refine Vv (k:=Wq (Zt (k:=?_)))
     exact zb16ret16
    ·
     refine Za (k:=?_)
     have hjl : j = c.files.length := by omega
     subst hjl
     rw [List.take_length, hpcd] at hfs
     refine Zr (k:=Qx 4 27 (k:=Qv (k:=Wq (Zi (t:=fun h58 => ?_) (f:=fun h58 => ?_)))))
     ·
      refine Zr (k:=Vv (k:=Qx 4 27 (k:=Vx (Ps [_, _]) (k:=Zv [_] (cs := [_, _]) (k:=fun b63 => ?_)))))
      refine r_append1 (sz := 2) (bytes := 32) Tryz.underlying99 ti101 rfl rfl rfl rfl rfl rfl rfl (by rfl) (by rfl) (by omega) (by simp only [maxLen]; omega) rfl (fun a64 c64 => ?_)
      refine Vv (k:=Wn ?_)
      exact zb16join15
     ·
      refine Zk (k:=?_)
      exact zb16join15
  ·
   refine an_callF hDec rfl rfl rfl ?_
   refine d_next2 5 10 (by kernel_rfl) rfl rfl ?_ ?_
   ·
    refine Nl [_] (cs := [_]) (k:=fun b22 => Di 6 (t:=Ux (Ps [_, _])) (k:=Dn 10 (k:=Nl [_] (cs := [_]) (k:=fun b27 => Di 11 (t:=Ux (Ps [_, _])) (k:=Dn 12 (k:=Nl [_, _] (cs := [_, _, _, _]) (k:=fun b29 => Dn 13 (k:=?_))))))))
    refine an_append1 (sz := 2) (bytes := 32) Tryz.underlying99 ti101 rfl rfl rfl rfl rfl rfl rfl (by rfl) (by rfl) (by omega) (by simp only [maxLen]; omega) rfl (fun a30 c30 => ?_)
    refine Dv 14 (k:=Dd (k:=Ya (Za (k:=Za (k:=?_)))))
    refine wc_frzC b22 ?_
    refine wc_frzC b27 ?_
    obtain ⟨ps, hps⟩ : ∃ ps : List CdV, ps = qs ++ [⟨67, some ⟨b22, 0, none⟩, 1, [46 :: escB c.comment]⟩] ++ [⟨68, some ⟨b27, 0, none⟩, 1, [decN c.date.toNat]⟩] := ⟨_, rfl⟩
    have hpcd : cdsOf ps = bCards c.base ++ [⟨67, [46 :: escB c.comment]⟩, ⟨68, [decN c.date.toNat]⟩] := by rw [hps, cdsOf_app, cdsOf_app, hcd, List.append_assoc]; rfl
    have hpl : ps.length = qs.length + 2 := by rw [hps]; simp
    have hpf : ps.flatMap CdV.cells = qs.flatMap CdV.cells ++ [vU ((67 : UInt8).toNat : Int), .slice (some ⟨b22, 0, none⟩) 1 1, vU ((68 : UInt8).toNat : Int), .slice (some ⟨b27, 0, none⟩) 1 1] := by rw [hps]; simp [CdV.cells]
    refine Zr (k:=Qx 3 26 (k:=Qv (k:=Wq (Zb (k:=?_)))))
    refine p_loop (fun (i : { y : ((Option Addr × Nat) × List CdV) × Nat // y.2 ≤ c.files.length ∧ cdsOf y.1.2 = cdsOf ps ++ (c.files.take y.2).map flCard }) => [(1, .pointer (some ⟨b1, 0, none⟩)), (3, .slice i.1.1.1.1 i.1.1.2.length i.1.1.1.2), (32, .slice x.fa c.files.length x.fc), (33, vI c.files.length), (34, vI i.1.2)]) (fun (i : { y : ((Option Addr × Nat) × List CdV) × Nat // y.2 ≤ c.files.length ∧ cdsOf y.1.2 = cdsOf ps ++ (c.files.take y.2).map flCard }) => [Row 101 2 (.slice i.1.1.1.1 i.1.1.2.length i.1.1.1.2) i.1.1.2.length (i.1.1.2.flatMap CdV.cells), CdM i.1.1.2, Ce b1 30 [vS c.base, vS c.comment, vI c.date, .slice x.fa c.files.length x.fc, .slice x.pa c.parents.length x.pc, .slice x.ta c.tags.length x.tc, vS c.user], Bf, SlI x.pa (c.parents.map vS), Bt]) (fun (i : { y : ((Option Addr × Nat) × List CdV) × Nat // y.2 ≤ c.files.length ∧ cdsOf y.1.2 = cdsOf ps ++ (c.files.take y.2).map flCard }) => c.files.length - i.1.2) rfl (⟨(((a30, c30), ps), 0), Nat.zero_le _, by simp⟩) ?_ ?_ (fun i => ?_)
    · exact ⟨rfl, sl_eq hpl.symm, rfl, rfl, rfl, trivial⟩
    ·
     dsimp only
     rw [hpl, hpf]
     refine Ent.trans (ent_cdm_new (qs := qs) (a := some ⟨b22, 0, none⟩) (c := 1) 67 [46 :: escB c.comment] [vS ([46] ++ escB c.comment)] HasC.get HasC.get rfl (Nat.le_refl _)) ?_
     refine Ent.trans (ent_cdm_new (qs := qs ++ [⟨67, some ⟨b22, 0, none⟩, 1, [46 :: escB c.comment]⟩]) (a := some ⟨b27, 0, none⟩) (c := 1) 68 [decN c.date.toNat] [vS (decN c.date.toNat)] HasC.get HasC.get rfl (Nat.le_refl _)) ?_
     rw [hps]
     exact ent_step (row_norm (by rfl) (by rfl)) ent_pick
    obtain ⟨⟨⟨⟨fa, fc⟩, fs⟩, j⟩, hj, hfs⟩ := i
    dsimp only at hj hfs ⊢
    have hfl := cdsLen hfs
    have hpl0 : (cdsOf ps).length = ps.length := by simp [cdsOf]
    rw [List.length_append, List.length_map, List.length_take, hpl0] at hfl
    try dsimp only
    refine Qc (k:=Vv (k:=Wq (Za (k:=Zi (t:=fun h35 => ?_) (f:=fun h35 => ?_)))))
    ·
     refine Zk (k:=Ya (Za (k:=Zb (k:=Za (k:=?_)))))
     have hjl : j < c.files.length := by omega
     obtain ⟨f, hf⟩ : ∃ f, f = c.files[j] := ⟨_, rfl⟩
     have hfz := z5 f (by rw [hf]; exact List.getElem_mem _)
     have htk : (c.files.take (j + 1)).map flCard = (c.files.take j).map flCard ++ [flCard f] := by rw [List.take_succ_eq_append_getElem hjl, List.map_append, hf]; rfl
     refine Zr (k:=Ye 2 (k:=?_))
     refine r_eloada (vs := [_, _]) (sz := 2) Tryz.underlying25 rfl ti25 rfl rfl (by rw [flat_len (sz := 2) (fun _ => rfl)]; omega) rfl (by refine get_flat (fun x => ?_) ?_ <;> first | rfl | omega) rfl ?_
     rw [← hf]
     refine Zc [vS [], vS []] (k:=fun b5 => Zp (k:=Wq (Qc (k:=Qx 0 9 (k:=Zv [_] (cs := [_]) (k:=fun b40 => Vv (k:=Wq ?_)))))))
     refine p_cut (fun (i : { y : (Option Addr × Nat) × List Bs // y.2 = (flCard f).args ∧ y.2.length ≤ y.1.2 }) => [(1, .pointer (some ⟨b1, 0, none⟩)), (3, .slice fa fs.length fc), (6, .slice i.1.1.1 i.1.2.length i.1.1.2), (32, .slice x.fa c.files.length x.fc), (33, vI c.files.length), (34, vI j)]) (fun (i : { y : (Option Addr × Nat) × List Bs // y.2 = (flCard f).args ∧ y.2.length ≤ y.1.2 }) => [SlI i.1.1.1 (i.1.2.map vS), Row 101 2 (.slice fa fs.length fc) fs.length (fs.flatMap CdV.cells), CdM fs, Ce b1 30 [vS c.base, vS c.comment, vI c.date, .slice x.fa c.files.length x.fc, .slice x.pa c.parents.length x.pc, .slice x.ta c.tags.length x.tc, vS c.user], Bf, SlI x.pa (c.parents.map vS), Bt]) rfl (fun i => ?_) ?_
     ·
      obtain ⟨⟨⟨ga, gc⟩, xs⟩, hxs, hxc⟩ := i
      dsimp only at hxs hxc ⊢
      try dsimp only
      refine Zr (k:=Qv (k:=Vx (Ps [_, _]) (k:=Zv [_] (cs := [_, _]) (k:=fun b52 => ?_))))
      refine r_append1 (sz := 2) (bytes := 32) Tryz.underlying99 ti101 rfl rfl rfl rfl rfl rfl rfl (by rfl) (by rfl) (by omega) (by simp only [maxLen]; omega) rfl (fun a53 c53 => ?_)
      refine Vv (k:=Wn (Yb (Ya (Zr (k:=Qv (k:=Wn ?_))))))
      exact zb16next0
     ·
      refine Qc (k:=Qx 1 9 (k:=Vv (k:=Wq (Zi (t:=fun h43 => ?_) (f:=fun h43 => ?_)))))
      ·
       refine Zr (k:=Vv (k:=Qx 1 9 (k:=Zv [_] (cs := [_]) (k:=fun b47 => ?_))))
       refine wo_ent' (ent_row (k := 1) (cap := 1) (sz := 1) (e := 9) (g := b40) (xs := [vS f.1]) (cur := [vS f.1]) (Nat.le_refl _) (by simp [maxLen]) rfl rfl rfl) ?_
       refine r_append1 (sz := 1) (bytes := 16) Tryz.underlying27 ti9 rfl rfl rfl rfl rfl rfl rfl (by rfl) (by rfl) (by omega) (by simp only [maxLen]; omega) rfl (fun a48 c48 => ?_)
       refine wo_know (A := Row 9 1 (.slice a48 (1 + 1) c48) (1 + 1) ([vS f.1] ++ [vS f.2])) HasC.get row_know (fun hk48 => ?_)
       refine wo_frzR a48 ?_
       rw [show ([vS f.1] ++ [vS f.2]) = ([f.1, f.2] : List Bs).map vS from rfl]
       refine Vv (k:=Wn ?_)
       exact zb16join11
      ·
       refine wc_frzC b40 ?_
       rw [show [vS f.1] = ([f.1] : List Bs).map vS from rfl]
       refine Zk (k:=?_)
       exact zb16join11
    ·
     refine Ze (k:=Xa (Xi (Xb (Ya ?_))))
     refine p_cut (fun (i : { y : (Option Addr × Nat) × List CdV // cdsOf y.2 = ckHead c }) => [(1, .pointer (some ⟨b1, 0, none⟩)), (3, .slice i.1.1.1 i.1.2.length i.1.1.2)]) (fun (i : { y : (Option Addr × Nat) × List CdV // cdsOf y.2 = ckHead c }) => [Row 101 2 (.slice i.1.1.1 i.1.2.length i.1.1.2) i.1.2.length (i.1.2.flatMap CdV.cells), CdM i.1.2, Ce b1 30 [vS c.base, vS c.comment, vI c.date, .slice x.fa c.files.length x.fc, .slice x.pa c.parents.length x.pc, .slice x.ta c.tags.length x.tc, vS c.user], Bf, SlI x.pa (c.parents.map vS), Bt]) rfl (fun i => ?_) ?_
     ·
      obtain ⟨⟨⟨ga, gc⟩, gs⟩, hgs⟩ := i
      dsimp only at hgs ⊢
      have hgl := cdsLen hgs
      have hhl : (ckHead c).length = (bCards c.base).length + 2 + c.files.length + (pCards c.parents).length := by simp [ckHead]; omega
      try dsimp only
      refine Qc (k:=Vv (k:=Qx 5 28 (k:=?_)))
      refine r_callX hTC rfl rfl rfl (fun x68 hx68 => ?_)
      obtain ⟨⟨ta, tc⟩, tqs⟩ := x68
      dsimp only [cardV, cardH] at hx68 ⊢
      have htq := cdsLen hx68
      rw [List.length_map] at htq
      refine r_appendA (sz := 2) (bytes := 32) Tryz.underlying99 ti101 rfl rfl rfl rfl rfl rfl rfl (cells_len tqs) (cells_one tqs) (by omega) (by simp only [maxLen]; omega) rfl (fun a69 c69 => ?_)
      refine Vv (k:=Wq (Qc (k:=Vv (k:=Qx 6 9 (k:=Zv [_] (cs := [_]) (k:=fun b73 => Vx (Ps [_, _]) (k:=Zv [_] (cs := [_, _]) (k:=fun b75 => ?_))))))))
      refine r_append1 (sz := 2) (bytes := 32) Tryz.underlying99 ti101 rfl rfl rfl rfl rfl rfl rfl (by rfl) (by rfl) (by omega) (by simp only [maxLen]; omega) rfl (fun a76 c76 => ?_)
      refine wo_frzC b73 ?_
      obtain ⟨al, hal⟩ : ∃ al : List CdV, al = gs ++ tqs ++ [⟨85, some ⟨b73, 0, none⟩, 1, [c.user]⟩] := ⟨_, rfl⟩
      have halc : cdsOf al = ckCards c := by rw [hal, cdsOf_app, cdsOf_app, hgs, hx68, ckHead, ckCards]; simp [cdsOf, CdV.cd]
      have hall : al.length = gs.length + tqs.length + 1 := by rw [hal]; simp; omega
      have hxx : gs.flatMap CdV.cells ++ tqs.flatMap CdV.cells ++ [vU 85, .slice (some ⟨b73, 0, none⟩) 1 1] = al.flatMap CdV.cells := by rw [hal]; simp [CdV.cells]
      have hPr := ref10_Print_sp (B := Row 101 2 (.slice a76 (gs.length + tqs.length + 1) c76) (gs.length + tqs.length + 1) (gs.flatMap CdV.cells ++ tqs.flatMap CdV.cells ++ [vU 85, .slice (some ⟨b73, 0, none⟩) 1 1])) (a := a76) (gs.length + tqs.length + 1) c76 al (by rw [← hxx]; exact sla_row) hall (by rw [halc]; omega)
      rw [halc] at hPr
      refine wo_ent' (ent_cdm_app (qs := gs) (rs := tqs) HasC.get HasC.get) ?_
      refine wo_ent' (ent_cdm_new (qs := gs ++ tqs) (a := some ⟨b73, 0, none⟩) (c := 1) 85 [c.user] [vS c.user] HasC.get HasC.get rfl (Nat.le_refl _)) ?_
      rw [← hal]
      refine r_call1 hPr rfl rfl rfl ?_
      refine Vv (k:=Wq (Zt (k:=?_)))
      exact zb16ret16
     ·
      refine Za (k:=?_)
      have hjl : j = c.files.length := by omega
      subst hjl
      rw [List.take_length, hpcd] at hfs
      refine Zr (k:=Qx 4 27 (k:=Qv (k:=Wq (Zi (t:=fun h58 => ?_) (f:=fun h58 => ?_)))))
      ·
       refine Zr (k:=Vv (k:=Qx 4 27 (k:=Vx (Ps [_, _]) (k:=Zv [_] (cs := [_, _]) (k:=fun b63 => ?_)))))
       refine r_append1 (sz := 2) (bytes := 32) Tryz.underlying99 ti101 rfl rfl rfl rfl rfl rfl rfl (by rfl) (by rfl) (by omega) (by simp only [maxLen]; omega) rfl (fun a64 c64 => ?_)
       refine Vv (k:=Wn ?_)
       exact zb16join15
      ·
       refine Zk (k:=?_)
       exact zb16join15
   ·
    refine Nl [_] (cs := [_]) (k:=fun b27 => Di 11 (t:=Ux (Ps [_, _])) (k:=Dn 5 (k:=Nl [_] (cs := [_]) (k:=fun b22 => Di 6 (t:=Ux (Ps [_, _])) (k:=Dn 12 (k:=Nl [_, _] (cs := [_, _, _, _]) (k:=fun b29 => Dn 13 (k:=?_))))))))
    refine an_append1 (sz := 2) (bytes := 32) Tryz.underlying99 ti101 rfl rfl rfl rfl rfl rfl rfl (by rfl) (by rfl) (by omega) (by simp only [maxLen]; omega) rfl (fun a30 c30 => ?_)
    refine Dv 14 (k:=Dd (k:=Ya (Za (k:=Za (k:=?_)))))
    refine wc_frzC b22 ?_
    refine wc_frzC b27 ?_
    obtain ⟨ps, hps⟩ : ∃ ps : List CdV, ps = qs ++ [⟨67, some ⟨b22, 0, none⟩, 1, [46 :: escB c.comment]⟩] ++ [⟨68, some ⟨b27, 0, none⟩, 1, [decN c.date.toNat]⟩] := ⟨_, rfl⟩
    have hpcd : cdsOf ps = bCards c.base ++ [⟨67, [46 :: escB c.comment]⟩, ⟨68, [decN c.date.toNat]⟩] := by rw [hps, cdsOf_app, cdsOf_app, hcd, List.append_assoc]; rfl
    have hpl : ps.length = qs.length + 2 := by rw [hps]; simp
    have hpf : ps.flatMap CdV.cells = qs.flatMap CdV.cells ++ [vU ((67 : UInt8).toNat : Int), .slice (some ⟨b22, 0, none⟩) 1 1, vU ((68 : UInt8).toNat : Int), .slice (some ⟨b27, 0, none⟩) 1 1] := by rw [hps]; simp [CdV.cells]
    refine Zr (k:=Qx 3 26 (k:=Qv (k:=Wq (Zb (k:=?_)))))
    refine p_loop (fun (i : { y : ((Option Addr × Nat) × List CdV) × Nat // y.2 ≤ c.files.length ∧ cdsOf y.1.2 = cdsOf ps ++ (c.files.take y.2).map flCard }) => [(1, .pointer (some ⟨b1, 0, none⟩)), (3, .slice i.1.1.1.1 i.1.1.2.length i.1.1.1.2), (32, .slice x.fa c.files.length x.fc), (33, vI c.files.length), (34, vI i.1.2)]) (fun (i : { y : ((Option Addr × Nat) × List CdV) × Nat // y.2 ≤ c.files.length ∧ cdsOf y.1.2 = cdsOf ps ++ (c.files.take y.2).map flCard }) => [Row 101 2 (.slice i.1.1.1.1 i.1.1.2.length i.1.1.1.2) i.1.1.2.length (i.1.1.2.flatMap CdV.cells), CdM i.1.1.2, Ce b1 30 [vS c.base, vS c.comment, vI c.date, .slice x.fa c.files.length x.fc, .slice x.pa c.parents.length x.pc, .slice x.ta c.tags.length x.tc, vS c.user], Bf, SlI x.pa (c.parents.map vS), Bt]) (fun (i : { y : ((Option Addr × Nat) × List CdV) × Nat // y.2 ≤ c.files.length ∧ cdsOf y.1.2 = cdsOf ps ++ (c.files.take y.2).map flCard }) => c.files.length - i.1.2) rfl (⟨(((a30, c30), ps), 0), Nat.zero_le _, by simp⟩) ?_ ?_ (fun i => ?_)
    · exact ⟨rfl, sl_eq hpl.symm, rfl, rfl, rfl, trivial⟩
    ·
     dsimp only
     rw [hpl, hpf]
     refine Ent.trans (ent_cdm_new (qs := qs) (a := some ⟨b22, 0, none⟩) (c := 1) 67 [46 :: escB c.comment] [vS ([46] ++ escB c.comment)] HasC.get HasC.get rfl (Nat.le_refl _)) ?_
     refine Ent.trans (ent_cdm_new (qs := qs ++ [⟨67, some ⟨b22, 0, none⟩, 1, [46 :: escB c.comment]⟩]) (a := some ⟨b27, 0, none⟩) (c := 1) 68 [decN c.date.toNat] [vS (decN c.date.toNat)] HasC.get HasC.get rfl (Nat.le_refl _)) ?_
     rw [hps]
     exact ent_step (row_norm (by rfl) (by rfl)) ent_pick
    obtain ⟨⟨⟨⟨fa, fc⟩, fs⟩, j⟩, hj, hfs⟩ := i
    dsimp only at hj hfs ⊢
    have hfl := cdsLen hfs
    have hpl0 : (cdsOf ps).length = ps.length := by simp [cdsOf]
    rw [List.length_append, List.length_map, List.length_take, hpl0] at hfl
    try dsimp only
    refine Qc (k:=Vv (k:=Wq (Za (k:=Zi (t:=fun h35 => ?_) (f:=fun h35 => ?_)))))
    ·
     refine Zk (k:=Ya (Za (k:=Zb (k:=Za (k:=?_)))))
     have hjl : j < c.files.length := by omega
     obtain ⟨f, hf⟩ : ∃ f, f = c.files[j] := ⟨_, rfl⟩
     have hfz := z5 f (by rw [hf]; exact List.getElem_mem _)
     have htk : (c.files.take (j + 1)).map flCard = (c.files.take j).map flCard ++ [flCard f] := by rw [List.take_succ_eq_append_getElem hjl, List.map_append, hf]; rfl
     refine Zr (k:=Ye 2 (k:=?_))
     refine r_eloada (vs := [_, _]) (sz := 2) Tryz.underlying25 rfl ti25 rfl rfl (by rw [flat_len (sz := 2) (fun _ => rfl)]; omega) rfl (by refine get_flat (fun x => ?_) ?_ <;> first | rfl | omega) rfl ?_
     rw [← hf]
     refine Zc [vS [], vS []] (k:=fun b5 => Zp (k:=Wq (Qc (k:=Qx 0 9 (k:=Zv [_] (cs := [_]) (k:=fun b40 => Vv (k:=Wq ?_)))))))
     refine p_cut (fun (i : { y : (Option Addr × Nat) × List Bs // y.2 = (flCard f).args ∧ y.2.length ≤ y.1.2 }) => [(1, .pointer (some ⟨b1, 0, none⟩)), (3, .slice fa fs.length fc), (6, .slice i.1.1.1 i.1.2.length i.1.1.2), (32, .slice x.fa c.files.length x.fc), (33, vI c.files.length), (34, vI j)]) (fun (i : { y : (Option Addr × Nat) × List Bs // y.2 = (flCard f).args ∧ y.2.length ≤ y.1.2 }) => [SlI i.1.1.1 (i.1.2.map vS), Row 101 2 (.slice fa fs.length fc) fs.length (fs.flatMap CdV.cells), CdM fs, Ce b1 30 [vS c.base, vS c.comment, vI c.date, .slice x.fa c.files.length x.fc, .slice x.pa c.parents.length x.pc, .slice x.ta c.tags.length x.tc, vS c.user], Bf, SlI x.pa (c.parents.map vS), Bt]) rfl (fun i => ?_) ?_
     ·
      obtain ⟨⟨⟨ga, gc⟩, xs⟩, hxs, hxc⟩ := i
      dsimp only at hxs hxc ⊢
      try dsimp only
      refine Zr (k:=Qv (k:=Vx (Ps [_, _]) (k:=Zv [_] (cs := [_, _]) (k:=fun b52 => ?_))))
      refine r_append1 (sz := 2) (bytes := 32) Tryz.underlying99 ti101 rfl rfl rfl rfl rfl rfl rfl (by rfl) (by rfl) (by omega) (by simp only [maxLen]; omega) rfl (fun a53 c53 => ?_)
      refine Vv (k:=Wn (Yb (Ya (Zr (k:=Qv (k:=Wn ?_))))))
      exact zb16next0
     ·
      refine Qc (k:=Qx 1 9 (k:=Vv (k:=Wq (Zi (t:=fun h43 => ?_) (f:=fun h43 => ?_)))))
      ·
       refine Zr (k:=Vv (k:=Qx 1 9 (k:=Zv [_] (cs := [_]) (k:=fun b47 => ?_))))
       refine wo_ent' (ent_row (k := 1) (cap := 1) (sz := 1) (e := 9) (g := b40) (xs := [vS f.1]) (cur := [vS f.1]) (Nat.le_refl _) (by simp [maxLen]) rfl rfl rfl) ?_
       refine r_append1 (sz := 1) (bytes := 16) Tryz.underlying27 ti9 rfl rfl rfl rfl rfl rfl rfl (by rfl) (by rfl) (by omega) (by simp only [maxLen]; omega) rfl (fun a48 c48 => ?_)
       refine wo_know (A := Row 9 1 (.slice a48 (1 + 1) c48) (1 + 1) ([vS f.1] ++ [vS f.2])) HasC.get row_know (fun hk48 => ?_)
       refine wo_frzR a48 ?_
       rw [show ([vS f.1] ++ [vS f.2]) = ([f.1, f.2] : List Bs).map vS from rfl]
       refine Vv (k:=Wn ?_)
       exact zb16join11
      ·
       refine wc_frzC b40 ?_
       rw [show [vS f.1] = ([f.1] : List Bs).map vS from rfl]
       refine Zk (k:=?_)
       exact zb16join11
    ·
     refine Ze (k:=Xa (Xi (Xb (Ya ?_))))
     refine p_cut (fun (i : { y : (Option Addr × Nat) × List CdV // cdsOf y.2 = ckHead c }) => [(1, .pointer (some ⟨b1, 0, none⟩)), (3, .slice i.1.1.1 i.1.2.length i.1.1.2)]) (fun (i : { y : (Option Addr × Nat) × List CdV // cdsOf y.2 = ckHead c }) => [Row 101 2 (.slice i.1.1.1 i.1.2.length i.1.1.2) i.1.2.length (i.1.2.flatMap CdV.cells), CdM i.1.2, Ce b1 30 [vS c.base, vS c.comment, vI c.date, .slice x.fa c.files.length x.fc, .slice x.pa c.parents.length x.pc, .slice x.ta c.tags.length x.tc, vS c.user], Bf, SlI x.pa (c.parents.map vS), Bt]) rfl (fun i => ?_) ?_
     ·
      obtain ⟨⟨⟨ga, gc⟩, gs⟩, hgs⟩ := i
      dsimp only at hgs ⊢
      have hgl := cdsLen hgs
      have hhl : (ckHead c).length = (bCards c.base).length + 2 + c.files.length + (pCards c.parents).length := by simp [ckHead]; omega
      try dsimp only
      refine Qc (k:=Vv (k:=Qx 5 28 (k:=?_)))
      refine r_callX hTC rfl rfl rfl (fun x68 hx68 => ?_)
      obtain ⟨⟨ta, tc⟩, tqs⟩ := x68
      dsimp only [cardV, cardH] at hx68 ⊢
      have htq := cdsLen hx68
      rw [List.length_map] at htq
      refine r_appendA (sz := 2) (bytes := 32) Tryz.underlying99 ti101 rfl rfl rfl rfl rfl rfl rfl (cells_len tqs) (cells_one tqs) (by omega) (by simp only [maxLen]; omega) rfl (fun a69 c69 => ?_)
      refine Vv (k:=Wq (Qc (k:=Vv (k:=Qx 6 9 (k:=Zv [_] (cs := [_]) (k:=fun b73 => Vx (Ps [_, _]) (k:=Zv [_] (cs := [_, _]) (k:=fun b75 => ?_))))))))
      refine r_append1 (sz := 2) (bytes := 32) Tryz.underlying99 ti101 rfl rfl rfl rfl rfl rfl rfl (by rfl) (by rfl) (by omega) (by simp only [maxLen]; omega) rfl (fun a76 c76 => ?_)
      refine wo_frzC b73 ?_
      obtain ⟨al, hal⟩ : ∃ al : List CdV, al = gs ++ tqs ++ [⟨85, some ⟨b73, 0, none⟩, 1, [c.user]⟩] := ⟨_, rfl⟩
      have halc : cdsOf al = ckCards c := by rw [hal, cdsOf_app, cdsOf_app, hgs, hx68, ckHead, ckCards]; simp [cdsOf, CdV.cd]
      have hall : al.length = gs.length + tqs.length + 1 := by rw [hal]; simp; omega
      have hxx : gs.flatMap CdV.cells ++ tqs.flatMap CdV.cells ++ [vU 85, .slice (some ⟨b73, 0, none⟩) 1 1] = al.flatMap CdV.cells := by rw [hal]; simp [CdV.cells]
      have hPr := ref10_Print_sp (B := Row 101 2 (.slice a76 (gs.length + tqs.length + 1) c76) (gs.length + tqs.length + 1) (gs.flatMap CdV.cells ++ tqs.flatMap CdV.cells ++ [vU 85, .slice (some ⟨b73, 0, none⟩) 1 1])) (a := a76) (gs.length + tqs.length + 1) c76 al (by rw [← hxx]; exact sla_row) hall (by rw [halc]; omega)
      rw [halc] at hPr
      refine wo_ent' (ent_cdm_app (qs := gs) (rs := tqs) HasC.get HasC.get) ?_
      refine wo_ent' (ent_cdm_new (qs := gs ++ tqs) (a := some ⟨b73, 0, none⟩) (c := 1) 85 [c.user] [vS c.user] HasC.get HasC.get rfl (Nat.le_refl _)) ?_
      rw [← hal]
      refine r_call1 hPr rfl rfl rfl ?_
      refine Vv (k:=Wq (Zt (k:=?_)))
      exact zb16ret16
     ·
      refine Za (k:=?_)
      have hjl : j = c.files.length := by omega
      subst hjl
      rw [List.take_length, hpcd] at hfs
      refine Zr (k:=Qx 4 27 (k:=Qv (k:=Wq (Zi (t:=fun h58 => ?_) (f:=fun h58 => ?_)))))
      ·
       refine Zr (k:=Vv (k:=Qx 4 27 (k:=Vx (Ps [_, _]) (k:=Zv [_] (cs := [_, _]) (k:=fun b63 => ?_)))))
       refine r_append1 (sz := 2) (bytes := 32) Tryz.underlying99 ti101 rfl rfl rfl rfl rfl rfl rfl (by rfl) (by rfl) (by omega) (by simp only [maxLen]; omega) rfl (fun a64 c64 => ?_)
       refine Vv (k:=Wn ?_)
       exact zb16join15
      ·
       refine Zk (k:=?_)
       exact zb16join15
 ·
  refine Za (k:=?_)
  refine wc_ent' (row_nil (e := 101) (sz := 2)) ?_
  refine Zr (k:=Qx 0 9 (k:=Vv (k:=Wq (Zi (t:=fun h9 => ?_) (f:=fun h9 => ?_)))))
  ·
   refine Zr (k:=Vv (k:=Qx 0 9 (k:=Zv [_] (cs := [_]) (k:=fun b13 => Vx (Ps [_, _]) (k:=Zv [_] (cs := [_, _]) (k:=fun b15 => ?_))))))
   refine r_append1 (sz := 2) (bytes := 32) Tryz.underlying99 ti101 rfl rfl rfl rfl rfl rfl rfl (by rfl) (by rfl) (by omega) (by simp only [maxLen]; omega) rfl (fun a16 c16 => ?_)
   refine wo_frzC b13 ?_
   refine Vv (k:=Wn ?_)
   exact zb16join4
  ·
   refine Zk (k:=?_)
   exact zb16join4
end
structure CkY (N : Nat) (c : Ck) : Prop where
 base : c.base.length ≤ 1073741824
 comment : c.comment.length ≤ 1073741824
 user : c.user.length ≤ 1073741824
 fn : c.files.length ≤ N
 fz : ∀ f ∈ c.files, f.1.length ≤ 1073741824 ∧ f.2.length ≤ 1073741824
 pn : c.parents.length ≤ 1073741824
 pz : ∀ p ∈ c.parents, p.length ≤ 1073741824
 tags : TgZ c.tags
theorem CkY.step {N : Nat} {c c' : Ck} {x : Cd} (h : CkY N c) (hx : x.args.length ≤ 1073741824) (hz : ∀ a ∈ x.args, a.length ≤ 1073741824) (e : stepR c x = some c') : CkY (N + 1) c' := by
 obtain ⟨a1, a2, a3, a4, a5, a6, a7, a8⟩ := h
 have hd : ∀ i, (x.args.getD i []).length ≤ 1073741824 := fun i => by
  by_cases hi : i < x.args.length
  · exact hz _ (by simp [hi])
  · simp [hi]
 unfold stepR at e
 split at e
 · cases e; exact ⟨hd 0, a2, a3, by dsimp only; omega, a5, a6, a7, a8⟩
 split at e
 · cases u : unescB ((x.args.getD 0 []).drop 1) with
   | none => rw [u] at e; cases e
   | some t =>
     rw [u] at e; cases e
     have h1 := unescB_len u
     have h2 := hd 0
     rw [List.length_drop] at h1
     exact ⟨a1, by dsimp only; omega, a3, by dsimp only; omega, a5, a6, a7, a8⟩
 split at e
 · cases e; exact ⟨a1, a2, a3, by dsimp only; omega, a5, a6, a7, a8⟩
 split at e
 · cases e
   refine ⟨a1, a2, a3, by dsimp only; rw [List.length_append]; simp only [List.length_cons, List.length_nil]; omega, ?_, a6, a7, a8⟩
   intro f hf
   rcases List.mem_append.1 hf with hf | hf
   · exact a5 f hf
   · rw [List.mem_singleton.1 hf]; exact ⟨hd 0, Nat.zero_le _⟩
 split at e
 · cases e
   refine ⟨a1, a2, a3, by dsimp only; rw [List.length_append]; simp only [List.length_cons, List.length_nil]; omega, ?_, a6, a7, a8⟩
   intro f hf
   rcases List.mem_append.1 hf with hf | hf
   · exact a5 f hf
   · rw [List.mem_singleton.1 hf]; exact ⟨hd 0, hd 1⟩
 split at e
 · cases e; exact ⟨a1, a2, a3, by dsimp only; omega, a5, hx, hz, a8⟩
 split at e
 · cases e; exact ⟨a1, a2, a3, by omega, a5, a6, a7, a8⟩
 split at e
 · cases e; exact ⟨a1, a2, hd 0, by dsimp only; omega, a5, a6, a7, a8⟩
 · cases e
end Go.Proofs.YtdnoacgopfcpbaaGreat
