/- Texts of this proof, put together: SChain18, SSameS, LawTagsRuns, P18C0. -/
import Derived.Test.YtomgdbanbpjedaaGreatQ22
set_option linter.unusedVariables false
set_option linter.unusedSimpArgs false
namespace Go.Proofs.YtomgdbanbpjedaaGreat
section
set_option maxRecDepth 100000
/-- ref10.Checkin of a check-in that has no files. -/
theorem ref10_me_sp {Bt : HP} (pa : Option Addr) (pc : Nat) (ta : Option Addr) (tc : Nat) {ps : List Bs} {ts : List Tg} {u : Bs} {d : Int} (h : RightK (ckMe ps ts u d)) (hpc : ps.length ≤ pc) (sht : SlA Bt ta (ts.flatMap tgCells)) :
    Sp1 Tryz.prog 20 [.agg #[vS [], vS [], vI d, .slice none 0 0, .slice pa ps.length pc, .slice ta ts.length tc, vS u]] [SlI none [], SlI pa (ps.map vS), Bt] (vS (ckB (ckMe ps ts u d))) [SlI none [], Bt] :=
 ref10_Checkin_sp (Bf := SlI none []) ⟨none, 0, pa, pc, ta, tc⟩ (ckMe ps ts u d) (right_z h) h.date (Nat.le_trans (ck_small h) (by decide)) sla_sli sht hpc
theorem ref10_ct_sp {Bt : HP} (ta : Option Addr) (tc : Nat) {c : Ct} (h : RightCt c) (sht : SlA Bt ta (c.tags.flatMap tgCells)) (zt : TgZ c.tags) :
    Sp1 Tryz.prog 13 [.agg #[vI c.date, .slice ta c.tags.length tc, vS c.user]] [Bt] (vS (ctB c)) [Bt] :=
 ref10_Control_sp ta tc c zt h.date (Nat.le_trans (ct_small h) (by decide)) sht
theorem tgZ_one {k : UInt8} {nm tgt v : Bs} (hn : nm.length ≤ 12) (ht : tgt.length ≤ 40) (hv : v.length ≤ 12) : TgZ [⟨k, nm, tgt, v⟩] := ⟨by simp, fun t h => by rw [List.mem_singleton.1 h]; dsimp only; omega⟩
theorem zb12ret7 {G : Prop} (h : G := by
    first
    | exact fin_ret ((b27, [(x, vS ca), (y, vS cb), (z, vS cc)]), b38) (vs := [_, _]) (Cs := []) rfl (.tmp rfl (.tmp rfl .nil)) rfl (pm123 _ _ _) (by rw [mput3 hxy hxz hyz]; exact ent_pick)
    | exact fin_ret ((b27, [(x, vS ca), (z, vS cc), (y, vS cb)]), b38) (vs := [_, _]) (Cs := []) rfl (.tmp rfl (.tmp rfl .nil)) rfl (pm132 _ _ _) (by rw [mput3 hxz hxy hyz.symm]; exact ent_pick)
    | exact fin_ret ((b27, [(y, vS cb), (x, vS ca), (z, vS cc)]), b38) (vs := [_, _]) (Cs := []) rfl (.tmp rfl (.tmp rfl .nil)) rfl (pm213 _ _ _) (by rw [mput3 hxy.symm hyz hxz]; exact ent_pick)
    | exact fin_ret ((b27, [(y, vS cb), (z, vS cc), (x, vS ca)]), b38) (vs := [_, _]) (Cs := []) rfl (.tmp rfl (.tmp rfl .nil)) rfl (pm231 _ _ _) (by rw [mput3 hyz hxy.symm hxz.symm]; exact ent_pick)
    | exact fin_ret ((b27, [(z, vS cc), (x, vS ca), (y, vS cb)]), b38) (vs := [_, _]) (Cs := []) rfl (.tmp rfl (.tmp rfl .nil)) rfl (pm312 _ _ _) (by rw [mput3 hxz.symm hyz.symm hxy]; exact ent_pick)
    | exact fin_ret ((b27, [(z, vS cc), (y, vS cb), (x, vS ca)]), b38) (vs := [_, _]) (Cs := []) rfl (.tmp rfl (.tmp rfl .nil)) rfl (pm321 _ _ _) (by rw [mput3 hyz.symm hxz.symm hxy.symm]; exact ent_pick)) : G := h
set_option maxHeartbeats 4000000 in
theorem law18_chain_sp {Bt : HP} (ta : Option Addr) (tc : Nat) (ops : List Tg) (hr : RightT true ops) (hd : TgD ops) (sht : SlA Bt ta (ops.flatMap tgCells)) :
    Sp Tryz.prog 12 [.slice ta ops.length tc] [Bt] (X := (Nat × Ks) × Nat) (fun x => .tuple #[.map (some x.1.1), .slice (some ⟨x.2, 0, none⟩) 3 3]) (fun x => x.1.2.Perm ((tgL ops).map fun p => (p.1, vS p.2))) (fun x => [Bt, MapS x.1.1 x.1.2, Ce x.2 9 [vS (tgX ops), vS (tgY ops), vS (tgZ ops)]]) := by
 have hA := ref10_me_sp (Bt := Bt) none 0 ta tc (right_A hr) (Nat.le_refl _) sht
 rw [show ckB (ckMe [] ops me 0) = tgA ops from rfl] at hA
 simp only [List.map_nil, List.length_nil] at hA
 have lA := ckB_len (right_A hr)
 have lB := ckB_len (tgB_right ops)
 have lC := ckB_len (tgC_right ops)
 have hX := ref1_Sum_sp (tgA ops) (by show (ckB (ckMe [] ops me 0)).length ≤ _; omega)
 have hY := ref1_Sum_sp (tgB ops) (by show (ckB (ckMe [tgX ops] [] me 0)).length ≤ _; omega)
 have hZ := ref1_Sum_sp (tgC ops) (by show (ckB (ckMe [tgY ops] [] me 0)).length ≤ _; omega)
 rw [show shaB (tgA ops) = tgX ops from rfl] at hX
 rw [show shaB (tgB ops) = tgY ops from rfl] at hY
 rw [show shaB (tgC ops) = tgZ ops from rfl] at hZ
 have hB := fun b => ref10_me_sp (Bt := SlI none []) (some ⟨b, 0, none⟩) 1 none 0 (tgB_right ops) (Nat.le_refl _) sla_sli
 have hC := fun b => ref10_me_sp (Bt := SlI none []) (some ⟨b, 0, none⟩) 1 none 0 (tgC_right ops) (Nat.le_refl _) sla_sli
 simp only [show ckB (ckMe [tgX ops] [] me 0) = tgB ops from rfl, show ckB (ckMe [tgY ops] [] me 0) = tgC ops from rfl, List.map_cons, List.map_nil, List.length_cons, List.length_nil] at hB hC
 have hxy := hd.xy
 have hxz := hd.xz
 have hyz := hd.yz
 rw [show (tgL ops).map (fun p => (p.1, vS p.2)) = [(tgX ops, vS (tgA ops)), (tgY ops, vS (tgB ops)), (tgZ ops, vS (tgC ops))] from rfl]
 generalize tgX ops = x at *
 generalize tgY ops = y at *
 generalize tgZ ops = z at *
 generalize tgA ops = ca at *
 generalize tgB ops = cb at *
 generalize tgC ops = cc at *
 refine Sp.body (n := 39) Tryz.call12 Tryz.func12 rfl rfl rfl ?_
 refine Qc (k:=Qv (k:=Wq (Qc (k:=Vv (k:=Vx (Ps [vS [], vS [], .int .i64 0, .slice none 0 0, .slice none 0 0, _, _]) (k:=?_))))))
 refine wo_ent' sli_nil ?_
 refine r_call1 hA rfl rfl rfl ?_
 refine Vv (k:=Wq (Qc (k:=Vv (k:=?_))))
 refine r_callF hX rfl rfl rfl ?_
 refine Vv (k:=Wq (Qc (k:=Vv (k:=Zv [_] (cs := [_]) (k:=fun b16 => Vx (Ps [vS [], vS [], .int .i64 0, .slice none 0 0, _, .slice none 0 0, _]) (k:=?_))))))
 refine wo_frzC b16 ?_
 refine wo_ent' sli_nil ?_
 refine r_call1 (hB b16) rfl rfl rfl ?_
 refine Vv (k:=Wq (Qc (k:=Vv (k:=?_))))
 refine r_callF hY rfl rfl rfl ?_
 refine Vv (k:=Wq (Qc (k:=Vv (k:=Zv [_] (cs := [_]) (k:=fun b22 => Vx (Ps [vS [], vS [], .int .i64 0, .slice none 0 0, _, .slice none 0 0, _]) (k:=?_))))))
 refine wo_frzC b22 ?_
 refine wo_ent' sli_nil ?_
 refine r_call1 (hC b22) rfl rfl rfl ?_
 refine Vv (k:=Wq (Qc (k:=Vv (k:=?_))))
 refine r_callF hZ rfl rfl rfl ?_
 refine Vv (k:=Wq (Za (k:=Dw [] (k:=?_))))
 refine Dv 1 (k:=Dv 2 (k:=Dv 4 (k:=Dv 5 (k:=Dv 7 (k:=Dv 8 (k:=Dv 11 (k:=Dv 12 (k:=Dv 13 (k:=?_)))))))))
 refine d_next2 0 14 (by kernel_rfl) rfl rfl ?_ ?_
 ·
  refine an_mkmap rfl (fun b27 => ?_)
  refine d_next4 3 6 9 14 (by kernel_rfl) rfl rfl rfl rfl ?_ ?_ ?_ ?_
  ·
   refine an_insert Tryz.underlying22 Tryz.underlying9 rfl rfl rfl ?_
   refine d_next3 6 9 14 (by kernel_rfl) rfl rfl rfl ?_ ?_ ?_
   ·
    refine an_insert Tryz.underlying22 Tryz.underlying9 rfl rfl rfl ?_
    refine d_next2 9 14 (by kernel_rfl) rfl rfl ?_ ?_
    ·
     refine an_insert Tryz.underlying22 Tryz.underlying9 rfl rfl rfl ?_
     refine Dv 10 (k:=Dv 15 (k:=Dn 14 (k:=Nl [_, _, _] (cs := [_, _, _]) (k:=fun b38 => Dv 16 (k:=Dd (k:=Ya (Zt (k:=?_))))))))
     exact zb12ret7
    ·
     refine Nl [_, _, _] (cs := [_, _, _]) (k:=fun b38 => Dn 9 (k:=?_))
     refine an_insert Tryz.underlying22 Tryz.underlying9 rfl rfl rfl ?_
     refine Dv 10 (k:=Dv 15 (k:=Dv 16 (k:=Dd (k:=Ya (Zt (k:=?_))))))
     exact zb12ret7
   ·
    refine an_insert Tryz.underlying22 Tryz.underlying9 rfl rfl rfl ?_
    refine d_next2 6 14 (by kernel_rfl) rfl rfl ?_ ?_
    ·
     refine an_insert Tryz.underlying22 Tryz.underlying9 rfl rfl rfl ?_
     refine Dv 10 (k:=Dv 15 (k:=Dn 14 (k:=Nl [_, _, _] (cs := [_, _, _]) (k:=fun b38 => Dv 16 (k:=Dd (k:=Ya (Zt (k:=?_))))))))
     exact zb12ret7
    ·
     refine Nl [_, _, _] (cs := [_, _, _]) (k:=fun b38 => Dn 6 (k:=?_))
     refine an_insert Tryz.underlying22 Tryz.underlying9 rfl rfl rfl ?_
     refine Dv 10 (k:=Dv 15 (k:=Dv 16 (k:=Dd (k:=Ya (Zt (k:=?_))))))
     exact zb12ret7
   ·
    refine Nl [_, _, _] (cs := [_, _, _]) (k:=fun b38 => ?_)
    refine d_next2 6 9 (by kernel_rfl) rfl rfl ?_ ?_
    ·
     refine an_insert Tryz.underlying22 Tryz.underlying9 rfl rfl rfl ?_
     refine Dn 9 (k:=?_)
     refine an_insert Tryz.underlying22 Tryz.underlying9 rfl rfl rfl ?_
     refine Dv 10 (k:=Dv 15 (k:=Dv 16 (k:=Dd (k:=Ya (Zt (k:=?_))))))
     exact zb12ret7
    ·
     refine an_insert Tryz.underlying22 Tryz.underlying9 rfl rfl rfl ?_
     refine Dn 6 (k:=?_)
     refine an_insert Tryz.underlying22 Tryz.underlying9 rfl rfl rfl ?_
     refine Dv 10 (k:=Dv 15 (k:=Dv 16 (k:=Dd (k:=Ya (Zt (k:=?_))))))
     exact zb12ret7
  ·
   refine an_insert Tryz.underlying22 Tryz.underlying9 rfl rfl rfl ?_
   refine d_next3 3 9 14 (by kernel_rfl) rfl rfl rfl ?_ ?_ ?_
   ·
    refine an_insert Tryz.underlying22 Tryz.underlying9 rfl rfl rfl ?_
    refine d_next2 9 14 (by kernel_rfl) rfl rfl ?_ ?_
    ·
     refine an_insert Tryz.underlying22 Tryz.underlying9 rfl rfl rfl ?_
     refine Dv 10 (k:=Dv 15 (k:=Dn 14 (k:=Nl [_, _, _] (cs := [_, _, _]) (k:=fun b38 => Dv 16 (k:=Dd (k:=Ya (Zt (k:=?_))))))))
     exact zb12ret7
    ·
     refine Nl [_, _, _] (cs := [_, _, _]) (k:=fun b38 => Dn 9 (k:=?_))
     refine an_insert Tryz.underlying22 Tryz.underlying9 rfl rfl rfl ?_
     refine Dv 10 (k:=Dv 15 (k:=Dv 16 (k:=Dd (k:=Ya (Zt (k:=?_))))))
     exact zb12ret7
   ·
    refine an_insert Tryz.underlying22 Tryz.underlying9 rfl rfl rfl ?_
    refine d_next2 3 14 (by kernel_rfl) rfl rfl ?_ ?_
    ·
     refine an_insert Tryz.underlying22 Tryz.underlying9 rfl rfl rfl ?_
     refine Dv 10 (k:=Dv 15 (k:=Dn 14 (k:=Nl [_, _, _] (cs := [_, _, _]) (k:=fun b38 => Dv 16 (k:=Dd (k:=Ya (Zt (k:=?_))))))))
     exact zb12ret7
    ·
     refine Nl [_, _, _] (cs := [_, _, _]) (k:=fun b38 => Dn 3 (k:=?_))
     refine an_insert Tryz.underlying22 Tryz.underlying9 rfl rfl rfl ?_
     refine Dv 10 (k:=Dv 15 (k:=Dv 16 (k:=Dd (k:=Ya (Zt (k:=?_))))))
     exact zb12ret7
   ·
    refine Nl [_, _, _] (cs := [_, _, _]) (k:=fun b38 => ?_)
    refine d_next2 3 9 (by kernel_rfl) rfl rfl ?_ ?_
    ·
     refine an_insert Tryz.underlying22 Tryz.underlying9 rfl rfl rfl ?_
     refine Dn 9 (k:=?_)
     refine an_insert Tryz.underlying22 Tryz.underlying9 rfl rfl rfl ?_
     refine Dv 10 (k:=Dv 15 (k:=Dv 16 (k:=Dd (k:=Ya (Zt (k:=?_))))))
     exact zb12ret7
    ·
     refine an_insert Tryz.underlying22 Tryz.underlying9 rfl rfl rfl ?_
     refine Dn 3 (k:=?_)
     refine an_insert Tryz.underlying22 Tryz.underlying9 rfl rfl rfl ?_
     refine Dv 10 (k:=Dv 15 (k:=Dv 16 (k:=Dd (k:=Ya (Zt (k:=?_))))))
     exact zb12ret7
  ·
   refine an_insert Tryz.underlying22 Tryz.underlying9 rfl rfl rfl ?_
   refine d_next3 3 6 14 (by kernel_rfl) rfl rfl rfl ?_ ?_ ?_
   ·
    refine an_insert Tryz.underlying22 Tryz.underlying9 rfl rfl rfl ?_
    refine d_next2 6 14 (by kernel_rfl) rfl rfl ?_ ?_
    ·
     refine an_insert Tryz.underlying22 Tryz.underlying9 rfl rfl rfl ?_
     refine Dv 10 (k:=Dv 15 (k:=Dn 14 (k:=Nl [_, _, _] (cs := [_, _, _]) (k:=fun b38 => Dv 16 (k:=Dd (k:=Ya (Zt (k:=?_))))))))
     exact zb12ret7
    ·
     refine Nl [_, _, _] (cs := [_, _, _]) (k:=fun b38 => Dn 6 (k:=?_))
     refine an_insert Tryz.underlying22 Tryz.underlying9 rfl rfl rfl ?_
     refine Dv 10 (k:=Dv 15 (k:=Dv 16 (k:=Dd (k:=Ya (Zt (k:=?_))))))
     exact zb12ret7
   ·
    refine an_insert Tryz.underlying22 Tryz.underlying9 rfl rfl rfl ?_
    refine d_next2 3 14 (by kernel_rfl) rfl rfl ?_ ?_
    ·
     refine an_insert Tryz.underlying22 Tryz.underlying9 rfl rfl rfl ?_
     refine Dv 10 (k:=Dv 15 (k:=Dn 14 (k:=Nl [_, _, _] (cs := [_, _, _]) (k:=fun b38 => Dv 16 (k:=Dd (k:=Ya (Zt (k:=?_))))))))
     exact zb12ret7
    ·
     refine Nl [_, _, _] (cs := [_, _, _]) (k:=fun b38 => Dn 3 (k:=?_))
     refine an_insert Tryz.underlying22 Tryz.underlying9 rfl rfl rfl ?_
     refine Dv 10 (k:=Dv 15 (k:=Dv 16 (k:=Dd (k:=Ya (Zt (k:=?_))))))
     exact zb12ret7
   ·
    refine Nl [_, _, _] (cs := [_, _, _]) (k:=fun b38 => ?_)
    refine d_next2 3 6 (by kernel_rfl) rfl rfl ?_ ?_
    ·
     refine an_insert Tryz.underlying22 Tryz.underlying9 rfl rfl rfl ?_
     refine Dn 6 (k:=?_)
     refine an_insert Tryz.underlying22 Tryz.underlying9 rfl rfl rfl ?_
     refine Dv 10 (k:=Dv 15 (k:=Dv 16 (k:=Dd (k:=Ya (Zt (k:=?_))))))
     exact zb12ret7
    ·
     refine an_insert Tryz.underlying22 Tryz.underlying9 rfl rfl rfl ?_
     refine Dn 3 (k:=?_)
     refine an_insert Tryz.underlying22 Tryz.underlying9 rfl rfl rfl ?_
     refine Dv 10 (k:=Dv 15 (k:=Dv 16 (k:=Dd (k:=Ya (Zt (k:=?_))))))
     exact zb12ret7
  ·
   refine Nl [_, _, _] (cs := [_, _, _]) (k:=fun b38 => ?_)
   refine d_next3 3 6 9 (by kernel_rfl) rfl rfl rfl ?_ ?_ ?_
   ·
    refine an_insert Tryz.underlying22 Tryz.underlying9 rfl rfl rfl ?_
    refine d_next2 6 9 (by kernel_rfl) rfl rfl ?_ ?_
    ·
     refine an_insert Tryz.underlying22 Tryz.underlying9 rfl rfl rfl ?_
     refine Dn 9 (k:=?_)
     refine an_insert Tryz.underlying22 Tryz.underlying9 rfl rfl rfl ?_
     refine Dv 10 (k:=Dv 15 (k:=Dv 16 (k:=Dd (k:=Ya (Zt (k:=?_))))))
     exact zb12ret7
    ·
     refine an_insert Tryz.underlying22 Tryz.underlying9 rfl rfl rfl ?_
     refine Dn 6 (k:=?_)
     refine an_insert Tryz.underlying22 Tryz.underlying9 rfl rfl rfl ?_
     refine Dv 10 (k:=Dv 15 (k:=Dv 16 (k:=Dd (k:=Ya (Zt (k:=?_))))))
     exact zb12ret7
   ·
    refine an_insert Tryz.underlying22 Tryz.underlying9 rfl rfl rfl ?_
    refine d_next2 3 9 (by kernel_rfl) rfl rfl ?_ ?_
    ·
     refine an_insert Tryz.underlying22 Tryz.underlying9 rfl rfl rfl ?_
     refine Dn 9 (k:=?_)
     refine an_insert Tryz.underlying22 Tryz.underlying9 rfl rfl rfl ?_
     refine Dv 10 (k:=Dv 15 (k:=Dv 16 (k:=Dd (k:=Ya (Zt (k:=?_))))))
     exact zb12ret7
    ·
     refine an_insert Tryz.underlying22 Tryz.underlying9 rfl rfl rfl ?_
     refine Dn 3 (k:=?_)
     refine an_insert Tryz.underlying22 Tryz.underlying9 rfl rfl rfl ?_
     refine Dv 10 (k:=Dv 15 (k:=Dv 16 (k:=Dd (k:=Ya (Zt (k:=?_))))))
     exact zb12ret7
   ·
    refine an_insert Tryz.underlying22 Tryz.underlying9 rfl rfl rfl ?_
    refine d_next2 3 6 (by kernel_rfl) rfl rfl ?_ ?_
    ·
     refine an_insert Tryz.underlying22 Tryz.underlying9 rfl rfl rfl ?_
     refine Dn 6 (k:=?_)
     refine an_insert Tryz.underlying22 Tryz.underlying9 rfl rfl rfl ?_
     refine Dv 10 (k:=Dv 15 (k:=Dv 16 (k:=Dd (k:=Ya (Zt (k:=?_))))))
     exact zb12ret7
    ·
     refine an_insert Tryz.underlying22 Tryz.underlying9 rfl rfl rfl ?_
     refine Dn 3 (k:=?_)
     refine an_insert Tryz.underlying22 Tryz.underlying9 rfl rfl rfl ?_
     refine Dv 10 (k:=Dv 15 (k:=Dv 16 (k:=Dd (k:=Ya (Zt (k:=?_))))))
     exact zb12ret7
 ·
  refine Nl [_, _, _] (cs := [_, _, _]) (k:=fun b38 => Dn 0 (k:=?_))
  refine an_mkmap rfl (fun b27 => ?_)
  refine d_next3 3 6 9 (by kernel_rfl) rfl rfl rfl ?_ ?_ ?_
  ·
   refine an_insert Tryz.underlying22 Tryz.underlying9 rfl rfl rfl ?_
   refine d_next2 6 9 (by kernel_rfl) rfl rfl ?_ ?_
   ·
    refine an_insert Tryz.underlying22 Tryz.underlying9 rfl rfl rfl ?_
    refine Dn 9 (k:=?_)
    refine an_insert Tryz.underlying22 Tryz.underlying9 rfl rfl rfl ?_
    refine Dv 10 (k:=Dv 15 (k:=Dv 16 (k:=Dd (k:=Ya (Zt (k:=?_))))))
    exact zb12ret7
   ·
    refine an_insert Tryz.underlying22 Tryz.underlying9 rfl rfl rfl ?_
    refine Dn 6 (k:=?_)
    refine an_insert Tryz.underlying22 Tryz.underlying9 rfl rfl rfl ?_
    refine Dv 10 (k:=Dv 15 (k:=Dv 16 (k:=Dd (k:=Ya (Zt (k:=?_))))))
    exact zb12ret7
  ·
   refine an_insert Tryz.underlying22 Tryz.underlying9 rfl rfl rfl ?_
   refine d_next2 3 9 (by kernel_rfl) rfl rfl ?_ ?_
   ·
    refine an_insert Tryz.underlying22 Tryz.underlying9 rfl rfl rfl ?_
    refine Dn 9 (k:=?_)
    refine an_insert Tryz.underlying22 Tryz.underlying9 rfl rfl rfl ?_
    refine Dv 10 (k:=Dv 15 (k:=Dv 16 (k:=Dd (k:=Ya (Zt (k:=?_))))))
    exact zb12ret7
   ·
    refine an_insert Tryz.underlying22 Tryz.underlying9 rfl rfl rfl ?_
    refine Dn 3 (k:=?_)
    refine an_insert Tryz.underlying22 Tryz.underlying9 rfl rfl rfl ?_
    refine Dv 10 (k:=Dv 15 (k:=Dv 16 (k:=Dd (k:=Ya (Zt (k:=?_))))))
    exact zb12ret7
  ·
   refine an_insert Tryz.underlying22 Tryz.underlying9 rfl rfl rfl ?_
   refine d_next2 3 6 (by kernel_rfl) rfl rfl ?_ ?_
   ·
    refine an_insert Tryz.underlying22 Tryz.underlying9 rfl rfl rfl ?_
    refine Dn 6 (k:=?_)
    refine an_insert Tryz.underlying22 Tryz.underlying9 rfl rfl rfl ?_
    refine Dv 10 (k:=Dv 15 (k:=Dv 16 (k:=Dd (k:=Ya (Zt (k:=?_))))))
    exact zb12ret7
   ·
    refine an_insert Tryz.underlying22 Tryz.underlying9 rfl rfl rfl ?_
    refine Dn 3 (k:=?_)
    refine an_insert Tryz.underlying22 Tryz.underlying9 rfl rfl rfl ?_
    refine Dv 10 (k:=Dv 15 (k:=Dv 16 (k:=Dd (k:=Ya (Zt (k:=?_))))))
    exact zb12ret7
end
section
set_option maxRecDepth 100000
theorem picksSelf : ∀ As : List HP, Picks As As []
 | [] => .nil
 | A :: r => .cons .here (picksSelf r)
theorem takeStep {α : Type} {l l' : List α} {j : Nat} (h : j < l.length) (h' : j < l'.length) (e : l.take j = l'.take j) (x : l[j] = l'[j]) : l.take (j + 1) = l'.take (j + 1) := by
 rw [List.take_succ_eq_append_getElem h, List.take_succ_eq_append_getElem h', e, x]
theorem book_SameS_sp {As : List HP} {a a' : Option Addr} (n n' c c' : Nat) (l l' : List Bs) [h1 : RdSl a (l.map vS) As] [h2 : RdSl a' (l'.map vS) As] (hn : l.length = n) (hn' : l'.length = n') (hb : n ≤ 140737488355328) :
    Sp1 Tryz.prog 16 [.slice a n c, .slice a' n' c'] As (vB (decide (l = l'))) As := by
 subst hn; subst hn'
 haveI : PicksC As As [] := ⟨picksSelf As⟩
 refine Sp.body (n := 26) Tryz.call16 Tryz.func16 rfl rfl rfl ?_
 refine Qc (k:=Vv (k:=Wq (Za (k:=Qc (k:=Qv (k:=Qv (k:=Vv (k:=?_))))))))
 refine Wq (Zi (t:=fun h10 => ?_) (f:=fun h10 => ?_))
 ·
  refine Qc (k:=Vv (k:=Wq (Zt (k:=Va ?_))))
  have hn : ¬ l = l' := fun e => h10 (by rw [e])
  exact fin_ret () (vs := [_]) (Cs := []) rfl (.tmp rfl .nil) (by rw [decide_eq_false hn]; rfl) trivial (by rw [List.append_nil]; exact Ent.refl _)
 ·
  refine Zk (k:=Ya (Za (k:=Qc (k:=Vv (k:=Wq (Zb (k:=?_)))))))
  refine p_loop (fun (i : { j : Nat // j ≤ l.length ∧ l.take j = l'.take j }) => [(0, .slice a l.length c), (1, .slice a' l'.length c'), (5, vI i.1)]) (fun (i : { j : Nat // j ≤ l.length ∧ l.take j = l'.take j }) => As) (fun (i : { j : Nat // j ≤ l.length ∧ l.take j = l'.take j }) => l.length - i.1) rfl (⟨0, Nat.zero_le _, rfl⟩) ?_ ?_ (fun i => ?_)
  · exact ⟨rfl, rfl, rfl, trivial⟩
  ·
   exact Ent.refl _
  obtain ⟨j, hj, hw⟩ := i
  try dsimp only
  refine Za (k:=Qc (k:=Qv (k:=Qv (k:=Wq (Zi (t:=fun h14 => ?_) (f:=fun h14 => ?_))))))
  ·
   refine Zk (k:=Ya (Za (k:=Zb (k:=Za (k:=?_)))))
   have hjl : j < l.length := by omega
   have hjl' : j < l'.length := by omega
   refine d_draw rfl rfl rfl As ?_
   refine Dv 0 (k:=Dv 1 (k:=?_))
   refine d_first 2 rfl rfl rfl (by kernel_rfl) (by kernel_rfl) (tl_elemAddr (sz := 1) Tryz.underlying23 ti9 rfl rfl rfl rfl (by omega) (by first | (rw [List.length_map]; omega) | (rw [flat_len (sz := 1) (fun _ => rfl)]; omega) | (simp; omega)) (Nat.mul_one _)) ?_
   refine d_first 3 rfl rfl rfl (by kernel_rfl) (by kernel_rfl) (tl_eload Tryz.underlying9 rfl rfl (get_map (m := j) (by omega))) ?_
   refine Dv 4 (k:=Dv 5 (k:=?_))
   refine d_first 6 rfl rfl rfl (by kernel_rfl) (by kernel_rfl) (tl_elemAddr (sz := 1) Tryz.underlying23 ti9 rfl rfl rfl rfl (by omega) (by first | (rw [List.length_map]; omega) | (rw [flat_len (sz := 1) (fun _ => rfl)]; omega) | (simp; omega)) (Nat.mul_one _)) ?_
   refine d_first 7 rfl rfl rfl (by kernel_rfl) (by kernel_rfl) (tl_eload Tryz.underlying9 rfl rfl (get_map (m := j) (by omega))) ?_
   refine Dv 8 (k:=Dd (k:=Ya (Zi (t:=fun h25 => ?_) (f:=fun h25 => ?_))))
   ·
    refine Qc (k:=Vv (k:=Wq (Zt (k:=Vb (Va (Vi (Vb (Va ?_))))))))
    have hn : ¬ l = l' := fun e => by subst e; exact h25 rfl
    exact fin_ret () (vs := [_]) (Cs := []) rfl (.tmp rfl .nil) (by rw [decide_eq_false hn]; rfl) trivial (by rw [List.append_nil]; exact Ent.refl _)
   ·
    refine Zk (k:=Yb (Ya (Zr (k:=Qv (k:=Vv (k:=Wn ?_))))))
    have hx : l[j] = l'[j] := Decidable.byContradiction h25
    exact to_inv ⟨j + 1, by omega, takeStep hjl hjl' hw hx⟩ (by dsimp only; omega) ⟨rfl, rfl, rfl, trivial⟩ (by rw [List.append_nil]; exact Ent.refl _)
  ·
   refine Ze (k:=Xa (Xi (Xb (Ya (Qc (k:=Vv (k:=Wq (Zt (k:=?_)))))))))
   have hjl : j = l.length := by omega
   subst hjl
   have he : l = l' := by
    have e1 : l'.length = l.length := by omega
    rw [List.take_length, ← e1, List.take_length] at hw
    exact hw
   exact fin_ret () (vs := [_]) (Cs := []) rfl (.tmp rfl .nil) (by rw [decide_eq_true he]; rfl) trivial (by rw [List.append_nil]; exact Ent.refl _)
end
section
set_option maxRecDepth 100000
set_option maxHeartbeats 8000000 in
theorem TagsRuns_sp : Sp1 Tryz.prog 3 [] [] (vB true) [] := by
 refine Sp.body (n := 93) Tryz.call3 Tryz.func3 rfl rfl rfl ?_
 refine Qc (k:=Vv (k:=Wq (Qc (k:=Vx (Ps [_, _, _, _]) (k:=Zv [_] (cs := [_, _, _, _]) (k:=fun b11 => ?_))))))
 refine wo_ent' (ce_norm (b := b11) (T := 27) (l' := opsR.flatMap tgCells) (by rfl) (by rfl)) ?_
 refine r_callX (law18_chain_sp (Bt := Ce b11 27 (opsR.flatMap tgCells)) (some ⟨b11, 0, none⟩) 1 opsR opsR_right tgD_opsR sla_ce) rfl rfl rfl (fun x12 hx12 => ?_)
 obtain ⟨⟨m, K⟩, bl⟩ := x12
 dsimp only at hx12 ⊢
 have hh := rn_held tgD_opsR hx12
 have hrun := run_ok tgD_opsR hh
 have hl : (mput K [107] (vS (ctB ctR))).length ≤ 4 := by rw [hh.len]; decide
 have hOx := tags_Of_sp m _ hh.txt hh.knd (by omega) [116] (tgX opsR) _ hrun.x.symm
 have hOy := tags_Of_sp m _ hh.txt hh.knd (by omega) [116] (tgY opsR) _ hrun.y.symm
 have hOz := tags_Of_sp m _ hh.txt hh.knd (by omega) [116] (tgZ opsR) _ hrun.z.symm
 have hTb := tags_Table_sp m _ hh.txt hh.knd (by omega)
 have hNm := tags_Names_sp m _ hh.txt (by omega)
 have hCt := fun b => ref10_ct_sp (Bt := Ce b 27 (ctR.tags.flatMap tgCells)) (some ⟨b, 0, none⟩) 1 ctR_right sla_ce (tgZ_one (k := 45) (nm := [116]) (tgt := tgZ opsR) (v := []) (by decide) (Nat.le_of_eq (shaB_len _)) (by decide))
 rw [hrun.t] at hTb
 rw [hrun.n] at hNm
 rw [show ctR = ctOne 3 45 (tgZ opsR) [] me from rfl] at *
 obtain ⟨H, hH⟩ : ∃ H, H = mput K [107] (vS (ctB (ctOne 3 45 (tgZ opsR) [] me))) := ⟨_, rfl⟩
 rw [← hH] at hOx hOy hOz hTb hNm
 refine Vv (k:=?_)
 refine wo_pv (pv_extract (v := .map (some m)) rfl rfl) rfl ?_
 refine wo_pv (pv_extract (v := .slice (some ⟨bl, 0, none⟩) 3 3) rfl rfl) rfl ?_
 refine Qv (k:=Wq (Qc (k:=Qv (k:=?_))))
 refine r_elemAddr (m := 2) (sz := 1) Tryz.underlying23 ti9 rfl rfl rfl rfl (by omega) (by simp) (Nat.mul_one _) rfl ?_
 refine r_eload Tryz.underlying9 rfl rfl rfl rfl ?_
 refine Vx (Ps [_, _, _, vS []]) (k:=Zv [_] (cs := [_, _, _, _]) (k:=fun b20 => Vx (Ps [_, _, _]) (k:=?_)))
 refine wo_ent' (ce_norm (b := b20) (T := 27) (l' := (ctOne 3 45 (tgZ opsR) [] me).tags.flatMap tgCells) (by rfl) (by rfl)) ?_
 refine r_call1 (hCt b20) rfl rfl rfl ?_
 refine r_mapUpdate Tryz.underlying22 Tryz.underlying9 rfl rfl rfl ?_
 rw [← hH]
 refine Wq (Qc (k:=Qv (k:=?_)))
 refine r_elemAddr (m := 0) (sz := 1) Tryz.underlying23 ti9 rfl rfl rfl rfl (by omega) (by simp) (Nat.mul_one _) rfl ?_
 refine r_eload Tryz.underlying9 rfl rfl rfl rfl ?_
 refine r_call1 hOx rfl rfl rfl ?_
 refine Vv (k:=?_)
 refine wo_pv (pv_extract (v := .agg #[vS [116], vS (tgX opsR), vS [118], vS (tgX opsR), .bool true, .bool true]) rfl rfl) rfl ?_
 refine wo_pv (pv_extract (v := vB true) rfl rfl) rfl ?_
 refine Zc [vS [], vS [], vS [], vS [], .bool false, .bool false] (k:=fun b3 => Zp (k:=Vv (k:=Wq (Qc (k:=Qv (k:=?_))))))
 refine r_elemAddr (m := 1) (sz := 1) Tryz.underlying23 ti9 rfl rfl rfl rfl (by omega) (by simp) (Nat.mul_one _) rfl ?_
 refine r_eload Tryz.underlying9 rfl rfl rfl rfl ?_
 refine r_call1 hOy rfl rfl rfl ?_
 refine Vv (k:=?_)
 refine wo_pv (pv_extract (v := .agg #[vS [116], vS (tgY opsR), vS [118], vS (tgX opsR), .bool true, .bool false]) rfl rfl) rfl ?_
 refine wo_pv (pv_extract (v := vB true) rfl rfl) rfl ?_
 refine Zc [vS [], vS [], vS [], vS [], .bool false, .bool false] (k:=fun b5 => Zp (k:=Vv (k:=Wq (Qc (k:=Qv (k:=?_))))))
 refine r_elemAddr (m := 2) (sz := 1) Tryz.underlying23 ti9 rfl rfl rfl rfl (by omega) (by simp) (Nat.mul_one _) rfl ?_
 refine r_eload Tryz.underlying9 rfl rfl rfl rfl ?_
 refine r_call1 hOz rfl rfl rfl ?_
 refine Vv (k:=?_)
 refine wo_pv (pv_extract (v := .agg #[vS [], vS [], vS [], vS [], .bool false, .bool false]) rfl rfl) rfl ?_
 refine wo_pv (pv_extract (v := vB false) rfl rfl) rfl ?_
 refine Zc [vS [], vS [], vS [], vS [], .bool false, .bool false] (k:=fun b7 => Zp (k:=Vv (k:=Wq (Za (k:=Dw [Ce b3 33 [vS [116], vS (tgX opsR), vS [118], vS (tgX opsR), .bool true, .bool true], Ce b5 33 [vS [116], vS (tgY opsR), vS [118], vS (tgX opsR), .bool true, .bool false], Ce bl 9 [vS (tgX opsR), vS (tgY opsR), vS (tgZ opsR)]] (k:=?_))))))
 refine Dv 0 (k:=Dv 1 (k:=Gd 1 (t:=fun h48 => ?_) (f:=fun h48 => ?_)))
 ·
  refine Di 2 (t:=U1 (h:=Uv)) (k:=DP1 3 (k:=Dv 4 (k:=Gd 4 (t:=fun h51 => ?_) (f:=fun h51 => ?_))))
  ·
   refine Di 5 (t:=U1 (h:=Uv)) (k:=Di 6 (t:=U1 (h:=Uv)) (k:=DP1 7 (k:=Dv 8 (k:=Gd 8 (t:=fun h55 => ?_) (f:=fun h55 => ?_)))))
   ·
    refine Di 9 (t:=U1 (h:=Uf 5 4)) (k:=Di 10 (t:=U1 (h:=Ul)) (k:=DP1 11 (k:=Dv 12 (k:=Gd 12 (t:=fun h59 => ?_) (f:=fun h59 => ?_)))))
    ·
     refine Di 13 (t:=U1 (h:=Uf 5 4)) (k:=Di 14 (t:=U1 (h:=Ul)) (k:=Di 15 (t:=U1 (h:=Uv)) (k:=DP1 16 (k:=Dv 17 (k:=Gd 17 (t:=fun h64 => ?_) (f:=fun h64 => ?_))))))
     ·
      refine Di 18 (t:=U1 (h:=Uf 4 4)) (k:=Di 19 (t:=U1 (h:=Ul)) (k:=DP1 20 (k:=Dv 21 (k:=Gd 21 (t:=fun h68 => ?_) (f:=fun h68 => ?_)))))
      ·
       refine Di 22 (t:=U1 (h:=Uf 2 9)) (k:=Di 23 (t:=U1 (h:=Ul)) (k:=Di 24 (t:=U1 (h:=Uv)) (k:=DP1 25 (k:=Dv 26 (k:=Gd 26 (t:=fun h73 => ?_) (f:=fun h73 => ?_))))))
       ·
        refine Di 27 (t:=U1 (h:=Uf 3 9)) (k:=Di 28 (t:=U1 (h:=Ul)) (k:=Di 29 (t:=U1 (h:=Uv)) (k:=?_)))
        refine d_first 30 rfl rfl rfl (by kernel_rfl) (by kernel_rfl) (tl_in (b := true) rfl (tl_elemAddr (m := 0) (sz := 1) Tryz.underlying23 ti9 rfl rfl rfl rfl (by omega) (by simp) (Nat.mul_one _))) ?_
        refine d_first 31 rfl rfl rfl (by kernel_rfl) (by kernel_rfl) (tl_in (b := true) rfl (tl_eload Tryz.underlying9 rfl rfl rfl)) ?_
        refine Di 32 (t:=U1 (h:=Uv)) (k:=DP1 33 (k:=Dv 34 (k:=Gd 34 (t:=fun h81 => ?_) (f:=fun h81 => ?_))))
        ·
         refine Di 35 (t:=U1 (h:=Uv)) (k:=Dn 36 (k:=?_))
         refine an_in (b := true) rfl ?_
         refine an_callX hTb rfl rfl rfl (fun x83 _ => ?_)
         refine Di 37 (t:=U1 (h:=Uv)) (k:=Di 38 (t:=U1 (h:=Uv)) (k:=DP1 39 (k:=Dv 40 (k:=Gd 40 (t:=fun h87 => ?_) (f:=fun h87 => ?_)))))
         ·
          refine Di 41 (t:=U1 (h:=Uv)) (k:=?_)
          refine d_next2 42 43 (by kernel_rfl) rfl rfl ?_ ?_
          ·
           refine an_in (b := true) rfl ?_
           refine an_callX hNm rfl rfl rfl (fun x89 _ => ?_)
           refine Dn 43 (k:=?_)
           refine an_in (b := true) rfl ?_
           refine Nl [_] (cs := [_]) (k:=fun b90 => Dn 44 (k:=?_))
           skip
           refine an_in (b := true) rfl ?_
           refine an_call1 (book_SameS_sp (As := [Row 9 1 (.slice x89.1 1 x89.2) 1 (([[116]] : List Bs).map vS), Ce b90 9 [vS [116]]]) 1 1 x89.2 1 [[116]] [[116]] rfl rfl (by decide)) rfl rfl rfl ?_
           refine DP1 45 (k:=Dv 46 (k:=Dd (k:=Ya (Zt (k:=?_)))))
           exact fin_ret () (vs := [_]) (Cs := []) rfl (.tmp rfl .nil) rfl trivial ent_pick
          ·
           refine an_in (b := true) rfl ?_
           refine Nl [_] (cs := [_]) (k:=fun b90 => Dn 42 (k:=?_))
           refine an_in (b := true) rfl ?_
           refine an_callX hNm rfl rfl rfl (fun x89 _ => ?_)
           refine Dn 44 (k:=?_)
           skip
           refine an_in (b := true) rfl ?_
           refine an_call1 (book_SameS_sp (As := [Row 9 1 (.slice x89.1 1 x89.2) 1 (([[116]] : List Bs).map vS), Ce b90 9 [vS [116]]]) 1 1 x89.2 1 [[116]] [[116]] rfl rfl (by decide)) rfl rfl rfl ?_
           refine DP1 45 (k:=Dv 46 (k:=Dd (k:=Ya (Zt (k:=?_)))))
           exact fin_ret () (vs := [_]) (Cs := []) rfl (.tmp rfl .nil) rfl trivial ent_pick
         ·
          first | cases h87 | exact absurd rfl h87
          --done
        ·
         first | cases h81 | exact absurd rfl h81
         --done
       ·
        first | cases h73 | exact absurd rfl h73
        --done
      ·
       first | cases h68 | exact absurd rfl h68
       --done
     ·
      first | cases h64 | exact absurd rfl h64
      --done
    ·
     first | cases h59 | exact absurd rfl h59
     --done
   ·
    first | cases h55 | exact absurd rfl h55
    --done
  ·
   first | cases h51 | exact absurd rfl h51
   --done
 ·
  first | cases h48 | exact absurd rfl h48
  --done
end
def kB : Nat → UInt8
 | 0 => 43
 | 1 => 42
 | _ => 45
def uB : Nat → Bs
 | 0 => [109, 101]
 | _ => [121, 111, 117]
def xN : Nat → Bs
 | 0 => tgX []
 | 1 => tgY []
 | _ => tgZ []
def xL : Nat → Bs
 | 0 => [99, 52, 97, 54, 54, 52, 54, 99, 49, 57, 48, 48, 98, 101, 100, 51, 101, 54, 48, 50, 52, 53, 100, 56, 51, 52, 50, 56, 100, 97, 100, 50, 97, 52, 50, 53, 55, 51, 48, 53]
 | 1 => [55, 55, 50, 50, 48, 97, 53, 101, 102, 101, 53, 101, 99, 55, 51, 99, 56, 98, 98, 55, 56, 52, 50, 51, 55, 97, 100, 97, 101, 97, 50, 97, 54, 52, 102, 102, 53, 101, 53, 100]
 | _ => [53, 53, 99, 52, 55, 99, 98, 97, 100, 50, 53, 48, 102, 48, 49, 54, 49, 48, 99, 57, 48, 101, 50, 49, 55, 50, 55, 102, 101, 52, 53, 56, 97, 53, 97, 52, 56, 55, 53, 53]
theorem xN_eq (a : Nat) : xN a = xL a := by
 match a with
 | 0 => exact tgX_no
 | 1 => exact tgY_no
 | _ + 2 => exact tgZ_no
def coF (x : Nat → Bs) (m : Nat) : Ct := ctOne ((m / 18 : Nat) : Int) (kB (m / 2 % 3)) (x (m / 6 % 3)) [] (uB (m % 2))
def coC (m : Nat) : Ct := coF xN m
def coT (m : Nat) : Bs := ctB (coC m)
def coN (m : Nat) : Bs := shaB (coT m)
def coS (b : Bs) : Nat := sumN b fun p q r s t => sumN (b ++ [90, 32] ++ (hexN p ++ (hexN q ++ (hexN r ++ (hexN s ++ hexN t)))) ++ [10]) fun a _ _ _ _ => a
theorem coS_eq (b : Bs) : coS b = sumN (sealB b) fun a _ _ _ _ => a := by
 rw [sealB, ← shaN_eq, shaN, coS, sumN_eq b, sumN_eq b]
def coB (m : Nat) : Bs := bodyB (ctCards (coF xL m))
theorem coB_eq (m : Nat) : coS (coB m) = sumN (coT m) fun a _ _ _ _ => a := by
 rw [coS_eq, coT, ctB, printB, coB, coC, show xN = xL from funext xN_eq]
def coChk : List Nat → Nat → Bool
 | [], _ => true
 | w :: r, m => bif Nat.beq (coS (coB m)) w then frc (Nat.succ m) fun m => coChk r m else false
theorem coChk_ok : ∀ (l : List Nat) (m : Nat), coChk l m = true → ∀ j, j < l.length → coS (coB (m + j)) = l.getD j 0 := by
 intro l
 induction l with
 | nil => intro m _ j hj; exact absurd hj (Nat.not_lt_zero _)
 | cons w r ih =>
   intro m h j hj
   rw [coChk] at h
   cases hb : Nat.beq (coS (coB m)) w with
   | false => rw [hb] at h; cases h
   | true =>
     rw [hb] at h
     simp only [cond_true, frc_eq] at h
     cases j with
     | zero => exact Nat.eq_of_beq_eq_true hb
     | succ j =>
       have := ih (m + 1) h j (by simpa using hj)
       rw [show m + (j + 1) = m + 1 + j by omega, this]
       rfl
end Go.Proofs.YtomgdbanbpjedaaGreat
