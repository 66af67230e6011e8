/- Texts of this proof, put together: MapIns, SChain18, SSameS, LawTagsRuns, P18M, SBook. -/
import Derived.Test.YtomgdbanbpjedaaGreatQ21
set_option linter.unusedVariables false
set_option linter.unusedSimpArgs false
namespace Go.Proofs.YtomgdbanbpjedaaGreat
section
section
variable {r : Option Nat} {P : Program} {n : Nat} {ops : Array Oper} {os : List Oper} {A : List HP} {L : Loc} {Hs : List HP} {Q : Out} {ty : TypeId} {d : Nat} {pos : String} {after : Array Edge} {c : Code}
theorem d_next4 (j1 j2 j3 j4 : Nat) {o1 o2 o3 o4 : Oper} {k : Nat} {ls : Array Bool} (hr : Region.ready .any ops ls = [j1, j2, j3, j4]) (ho1 : ops[j1]? = some o1) (ho2 : ops[j2]? = some o2) (ho3 : ops[j3]? = some o3) (ho4 : ops[j4]? = some o4)
    (h1 : AnOp r P n ops A o1 (fun L' Hs' => An r P n ops A Q k (ls.setIfInBounds j1 true) L' Hs') L Hs)
    (h2 : AnOp r P n ops A o2 (fun L' Hs' => An r P n ops A Q k (ls.setIfInBounds j2 true) L' Hs') L Hs)
    (h3 : AnOp r P n ops A o3 (fun L' Hs' => An r P n ops A Q k (ls.setIfInBounds j3 true) L' Hs') L Hs)
    (h4 : AnOp r P n ops A o4 (fun L' Hs' => An r P n ops A Q k (ls.setIfInBounds j4 true) L' Hs') L Hs) :
    An r P n ops A Q (k + 1) ls L Hs := ⟨(fun e => by rw [hr] at e; cases e), fun i hi => by
     rw [hr] at hi
     simp only [List.mem_cons, List.not_mem_nil, or_false] at hi
     rcases hi with rfl | rfl | rfl | rfl
     · exact ⟨o1, ho1, .inl h1⟩
     · exact ⟨o2, ho2, .inl h2⟩
     · exact ⟨o3, ho3, .inl h3⟩
     · exact ⟨o4, ho4, .inl h4⟩⟩
theorem an_mkmap {K : Loc → List HP → Prop} {t : TypeId} (hd : Nat.blt d n = true) (k : ∀ b, K ((d, .map (some b)) :: L) (MapS b [] :: Hs)) : AnOp r P n ops A ⟨some d, .makeMap t none, ty, pos, after, none⟩ K L Hs := by
 refine ⟨hd, .inr ⟨.inl rfl, Nat, fun b => .map (some b), fun _ => True, [], Hs, fun b => [MapS b []], Ent.refl _, ?_, fun b _ => k b⟩⟩
 intro a fr w M h hA hf dj dj' s sA t'
 have e : (execOp a.eval ⟨some d, .makeMap t none, ty, pos, after, none⟩).run P w = .ok (.value (.map (some w.heap.size))) (w.alloc (.map #[] 0)) := by simp [execOp, Instr.makeMap, newObj, Sem.run]
 rw [e]
 have t2 := t'.alloc (.map #[] 0)
 obtain ⟨f1, f2⟩ := fresh_none t'
 obtain ⟨f3, f4⟩ := Res.add_none.1 f2
 obtain ⟨f5, f6⟩ := Res.add_none.1 f3
 refine ⟨w.heap.size, M, (Res.one w.heap.size (.map #[] 0)).add h, rfl, trivial, Kn.le_refl _, Res.dj_add_left.2 ⟨one_dj f6, dj⟩, ?_, ?_, Res.one w.heap.size (.map #[] 0), h, one_dj f5, rfl, ⟨_, _, rfl, MapG.nil⟩, trivial⟩
 · obtain ⟨x1, x2⟩ := Res.dj_add_left.1 dj'
   exact Res.dj_add_left.2 ⟨Res.dj_add_left.2 ⟨one_dj f4, x1⟩, x2⟩
 · rw [Res.add_assoc, Res.add_assoc]
   rw [Res.add_assoc] at t2
   exact t2
theorem opt_insert {t kt e : TypeId} {x y z : Operand} {b : Nat} {ks : Ks} {k : List UInt8} {v : Value} (ht : P.underlying t = some (.map kt e)) (hk : P.underlying kt = some .string)
    (hx : ev L x = some (.map (some b))) (hy : ev L y = some (vS k)) (hz : ev L z = some v) :
    OpT r P n ⟨none, .insert t x y z, ty, pos, after, none⟩ A L [MapS b ks] (fun _ : Unit => undef) (fun _ => True) (fun _ => [MapS b (mput ks k v)]) :=
 opt_mapUpdate (pos := pos) (after := after) (ty := ty) ht hk hx hy hz
theorem an_insert {K : Loc → List HP → Prop} {t kt e : TypeId} {x y z : Operand} {b : Nat} {ks : Ks} {k : List UInt8} {v : Value} {Rs : List HP} (ht : P.underlying t = some (.map kt e)) (hk : P.underlying kt = some .string)
    (hx : ev L x = some (.map (some b))) (hy : ev L y = some (vS k)) (hz : ev L z = some v) [h : MapPC b ks Hs Rs] (k' : K L (MapS b (mput ks k v) :: Rs)) : AnOp r P n ops A ⟨none, .insert t x y z, ty, pos, after, none⟩ K L Hs := by
 haveI : PicksC [MapS b ks] Hs Rs := ⟨.cons h.get .nil⟩
 exact an_opT (opt_insert ht hk hx hy hz (ks := ks)) rfl (fun _ _ => k')
end
/-- Some texts put, each once. -/
theorem mput2 {k1 k2 : List UInt8} {v1 v2 : Value} (h : k1 ≠ k2) : mput (mput [] k1 v1) k2 v2 = [(k1, v1), (k2, v2)] := by simp [mput, h]
theorem mput3 {k1 k2 k3 : List UInt8} {v1 v2 v3 : Value} (h12 : k1 ≠ k2) (h13 : k1 ≠ k3) (h23 : k2 ≠ k3) : mput (mput (mput [] k1 v1) k2 v2) k3 v3 = [(k1, v1), (k2, v2), (k3, v3)] := by simp [mput, h12, h13, h23]
section
variable {α : Type} (a b c : α)
theorem pm12 : [a, b].Perm [a, b] := .refl _
theorem pm21 : [b, a].Perm [a, b] := .swap _ _ _
theorem pm123 : [a, b, c].Perm [a, b, c] := .refl _
theorem pm132 : [a, c, b].Perm [a, b, c] := .cons _ (.swap _ _ _)
theorem pm213 : [b, a, c].Perm [a, b, c] := .swap _ _ _
theorem pm231 : [b, c, a].Perm [a, b, c] := (List.Perm.cons b (.swap _ _ _)).trans (.swap _ _ _)
theorem pm312 : [c, a, b].Perm [a, b, c] := (List.Perm.swap a c [b]).trans (.cons _ (.swap _ _ _))
theorem pm321 : [c, b, a].Perm [a, b, c] := (List.Perm.swap b c [a]).trans ((List.Perm.cons b (.swap _ _ _)).trans (.swap _ _ _))
end
end
section
set_option maxRecDepth 100000
/-- ref10.Checkin of a check-in that has no files. -/
theorem ref10_me_sp {Bt : HP} (pa : Option Addr) (pc : Nat) (ta : Option Addr) (tc : Nat) {ps : List Bs} {ts : List Tg} {u : Bs} {d : Int} (h : RightK (ckMe ps ts u d)) (hpc : ps.length ≤ pc) (sht : SlA Bt ta (ts.flatMap tgCells)) :
    Sp1 Tryz.prog 20 [.agg #[vS [], vS [], vI d, .slice none 0 0, .slice pa ps.length pc, .slice ta ts.length tc, vS u]] [SlI none [], SlI pa (ps.map vS), Bt] (vS (ckB (ckMe ps ts u d))) [SlI none [], Bt] :=
 ref10_Checkin_sp (Bf := SlI none []) ⟨none, 0, pa, pc, ta, tc⟩ (ckMe ps ts u d) (right_z h) h.date (Nat.le_trans (ck_small h) (by decide)) sla_sli sht hpc
theorem ref10_ct_sp {Bt : HP} (ta : Option Addr) (tc : Nat) {c : Ct} (h : RightCt c) (sht : SlA Bt ta (c.tags.flatMap tgCells)) (zt : TgZ c.tags) :
    Sp1 Tryz.prog 13 [.agg #[vI c.date, .slice ta c.tags.length tc, vS c.user]] [Bt] (vS (ctB c)) [Bt] :=
 ref10_Control_sp ta tc c zt h.date (Nat.le_trans (ct_small h) (by decide)) sht
theorem tgZ_one {k : UInt8} {nm tgt v : Bs} (hn : nm.length ≤ 12) (ht : tgt.length ≤ 40) (hv : v.length ≤ 12) : TgZ [⟨k, nm, tgt, v⟩] := ⟨by simp, fun t h => by rw [List.mem_singleton.1 h]; dsimp only; omega⟩
theorem zb12ret7 {G : Prop} (h : G := by
    first
    | exact fin_ret ((b27, [(x, vS ca), (y, vS cb), (z, vS cc)]), b38) (vs := [_, _]) (Cs := []) rfl (.tmp rfl (.tmp rfl .nil)) rfl (pm123 _ _ _) (by rw [mput3 hxy hxz hyz]; exact ent_pick)
    | exact fin_ret ((b27, [(x, vS ca), (z, vS cc), (y, vS cb)]), b38) (vs := [_, _]) (Cs := []) rfl (.tmp rfl (.tmp rfl .nil)) rfl (pm132 _ _ _) (by rw [mput3 hxz hxy hyz.symm]; exact ent_pick)
    | exact fin_ret ((b27, [(y, vS cb), (x, vS ca), (z, vS cc)]), b38) (vs := [_, _]) (Cs := []) rfl (.tmp rfl (.tmp rfl .nil)) rfl (pm213 _ _ _) (by rw [mput3 hxy.symm hyz hxz]; exact ent_pick)
    | exact fin_ret ((b27, [(y, vS cb), (z, vS cc), (x, vS ca)]), b38) (vs := [_, _]) (Cs := []) rfl (.tmp rfl (.tmp rfl .nil)) rfl (pm231 _ _ _) (by rw [mput3 hyz hxy.symm hxz.symm]; exact ent_pick)
    | exact fin_ret ((b27, [(z, vS cc), (x, vS ca), (y, vS cb)]), b38) (vs := [_, _]) (Cs := []) rfl (.tmp rfl (.tmp rfl .nil)) rfl (pm312 _ _ _) (by rw [mput3 hxz.symm hyz.symm hxy]; exact ent_pick)
    | exact fin_ret ((b27, [(z, vS cc), (y, vS cb), (x, vS ca)]), b38) (vs := [_, _]) (Cs := []) rfl (.tmp rfl (.tmp rfl .nil)) rfl (pm321 _ _ _) (by rw [mput3 hyz.symm hxz.symm hxy.symm]; exact ent_pick)) : G := h
set_option maxHeartbeats 4000000 in
theorem law18_chain_sp {Bt : HP} (ta : Option Addr) (tc : Nat) (ops : List Tg) (hr : RightT true ops) (hd : TgD ops) (sht : SlA Bt ta (ops.flatMap tgCells)) :
    Sp Tryz.prog 12 [.slice ta ops.length tc] [Bt] (X := (Nat × Ks) × Nat) (fun x => .tuple #[.map (some x.1.1), .slice (some ⟨x.2, 0, none⟩) 3 3]) (fun x => x.1.2.Perm ((tgL ops).map fun p => (p.1, vS p.2))) (fun x => [Bt, MapS x.1.1 x.1.2, Ce x.2 9 [vS (tgX ops), vS (tgY ops), vS (tgZ ops)]]) := by
 have hA := ref10_me_sp (Bt := Bt) none 0 ta tc (right_A hr) (Nat.le_refl _) sht
 rw [show ckB (ckMe [] ops me 0) = tgA ops from rfl] at hA
 simp only [List.map_nil, List.length_nil] at hA
 have lA := ckB_len (right_A hr)
 have lB := ckB_len (tgB_right ops)
 have lC := ckB_len (tgC_right ops)
 have hX := ref1_Sum_sp (tgA ops) (by show (ckB (ckMe [] ops me 0)).length ≤ _; omega)
 have hY := ref1_Sum_sp (tgB ops) (by show (ckB (ckMe [tgX ops] [] me 0)).length ≤ _; omega)
 have hZ := ref1_Sum_sp (tgC ops) (by show (ckB (ckMe [tgY ops] [] me 0)).length ≤ _; omega)
 rw [show shaB (tgA ops) = tgX ops from rfl] at hX
 rw [show shaB (tgB ops) = tgY ops from rfl] at hY
 rw [show shaB (tgC ops) = tgZ ops from rfl] at hZ
 have hB := fun b => ref10_me_sp (Bt := SlI none []) (some ⟨b, 0, none⟩) 1 none 0 (tgB_right ops) (Nat.le_refl _) sla_sli
 have hC := fun b => ref10_me_sp (Bt := SlI none []) (some ⟨b, 0, none⟩) 1 none 0 (tgC_right ops) (Nat.le_refl _) sla_sli
 simp only [show ckB (ckMe [tgX ops] [] me 0) = tgB ops from rfl, show ckB (ckMe [tgY ops] [] me 0) = tgC ops from rfl, List.map_cons, List.map_nil, List.length_cons, List.length_nil] at hB hC
 have hxy := hd.xy
 have hxz := hd.xz
 have hyz := hd.yz
 rw [show (tgL ops).map (fun p => (p.1, vS p.2)) = [(tgX ops, vS (tgA ops)), (tgY ops, vS (tgB ops)), (tgZ ops, vS (tgC ops))] from rfl]
 generalize tgX ops = x at *
 generalize tgY ops = y at *
 generalize tgZ ops = z at *
 generalize tgA ops = ca at *
 generalize tgB ops = cb at *
 generalize tgC ops = cc at *
 refine Sp.body (n := 39) Tryz.call12 Tryz.func12 rfl rfl rfl ?_
 refine Qc (k:=Qv (k:=Wq (Qc (k:=Vv (k:=Vx (Ps [vS [], vS [], .int .i64 0, .slice none 0 0, .slice none 0 0, _, _]) (k:=?_))))))
 refine wo_ent' sli_nil ?_
 refine r_call1 hA rfl rfl rfl ?_
 refine Vv (k:=Wq (Qc (k:=Vv (k:=?_))))
 refine r_callF hX rfl rfl rfl ?_
 refine Vv (k:=Wq (Qc (k:=Vv (k:=Zv [_] (cs := [_]) (k:=fun b16 => Vx (Ps [vS [], vS [], .int .i64 0, .slice none 0 0, _, .slice none 0 0, _]) (k:=?_))))))
 refine wo_frzC b16 ?_
 refine wo_ent' sli_nil ?_
 refine r_call1 (hB b16) rfl rfl rfl ?_
 refine Vv (k:=Wq (Qc (k:=Vv (k:=?_))))
 refine r_callF hY rfl rfl rfl ?_
 refine Vv (k:=Wq (Qc (k:=Vv (k:=Zv [_] (cs := [_]) (k:=fun b22 => Vx (Ps [vS [], vS [], .int .i64 0, .slice none 0 0, _, .slice none 0 0, _]) (k:=?_))))))
 refine wo_frzC b22 ?_
 refine wo_ent' sli_nil ?_
 refine r_call1 (hC b22) rfl rfl rfl ?_
 refine Vv (k:=Wq (Qc (k:=Vv (k:=?_))))
 refine r_callF hZ rfl rfl rfl ?_
 refine Vv (k:=Wq (Za (k:=Dw [] (k:=?_))))
 refine Dv 1 (k:=Dv 2 (k:=Dv 4 (k:=Dv 5 (k:=Dv 7 (k:=Dv 8 (k:=Dv 11 (k:=Dv 12 (k:=Dv 13 (k:=?_)))))))))
 refine d_next2 0 14 (by kernel_rfl) rfl rfl ?_ ?_
 ·
  refine an_mkmap rfl (fun b27 => ?_)
  refine d_next4 3 6 9 14 (by kernel_rfl) rfl rfl rfl rfl ?_ ?_ ?_ ?_
  ·
   refine an_insert Tryz.underlying22 Tryz.underlying9 rfl rfl rfl ?_
   refine d_next3 6 9 14 (by kernel_rfl) rfl rfl rfl ?_ ?_ ?_
   ·
    refine an_insert Tryz.underlying22 Tryz.underlying9 rfl rfl rfl ?_
    refine d_next2 9 14 (by kernel_rfl) rfl rfl ?_ ?_
    ·
     refine an_insert Tryz.underlying22 Tryz.underlying9 rfl rfl rfl ?_
     refine Dv 10 (k:=Dv 15 (k:=Dn 14 (k:=Nl [_, _, _] (cs := [_, _, _]) (k:=fun b38 => Dv 16 (k:=Dd (k:=Ya (Zt (k:=?_))))))))
     exact zb12ret7
    ·
     refine Nl [_, _, _] (cs := [_, _, _]) (k:=fun b38 => Dn 9 (k:=?_))
     refine an_insert Tryz.underlying22 Tryz.underlying9 rfl rfl rfl ?_
     refine Dv 10 (k:=Dv 15 (k:=Dv 16 (k:=Dd (k:=Ya (Zt (k:=?_))))))
     exact zb12ret7
   ·
    refine an_insert Tryz.underlying22 Tryz.underlying9 rfl rfl rfl ?_
    refine d_next2 6 14 (by kernel_rfl) rfl rfl ?_ ?_
    ·
     refine an_insert Tryz.underlying22 Tryz.underlying9 rfl rfl rfl ?_
     refine Dv 10 (k:=Dv 15 (k:=Dn 14 (k:=Nl [_, _, _] (cs := [_, _, _]) (k:=fun b38 => Dv 16 (k:=Dd (k:=Ya (Zt (k:=?_))))))))
     exact zb12ret7
    ·
     refine Nl [_, _, _] (cs := [_, _, _]) (k:=fun b38 => Dn 6 (k:=?_))
     refine an_insert Tryz.underlying22 Tryz.underlying9 rfl rfl rfl ?_
     refine Dv 10 (k:=Dv 15 (k:=Dv 16 (k:=Dd (k:=Ya (Zt (k:=?_))))))
     exact zb12ret7
   ·
    refine Nl [_, _, _] (cs := [_, _, _]) (k:=fun b38 => ?_)
    refine d_next2 6 9 (by kernel_rfl) rfl rfl ?_ ?_
    ·
     refine an_insert Tryz.underlying22 Tryz.underlying9 rfl rfl rfl ?_
     refine Dn 9 (k:=?_)
     refine an_insert Tryz.underlying22 Tryz.underlying9 rfl rfl rfl ?_
     refine Dv 10 (k:=Dv 15 (k:=Dv 16 (k:=Dd (k:=Ya (Zt (k:=?_))))))
     exact zb12ret7
    ·
     refine an_insert Tryz.underlying22 Tryz.underlying9 rfl rfl rfl ?_
     refine Dn 6 (k:=?_)
     refine an_insert Tryz.underlying22 Tryz.underlying9 rfl rfl rfl ?_
     refine Dv 10 (k:=Dv 15 (k:=Dv 16 (k:=Dd (k:=Ya (Zt (k:=?_))))))
     exact zb12ret7
  ·
   refine an_insert Tryz.underlying22 Tryz.underlying9 rfl rfl rfl ?_
   refine d_next3 3 9 14 (by kernel_rfl) rfl rfl rfl ?_ ?_ ?_
   ·
    refine an_insert Tryz.underlying22 Tryz.underlying9 rfl rfl rfl ?_
    refine d_next2 9 14 (by kernel_rfl) rfl rfl ?_ ?_
    ·
     refine an_insert Tryz.underlying22 Tryz.underlying9 rfl rfl rfl ?_
     refine Dv 10 (k:=Dv 15 (k:=Dn 14 (k:=Nl [_, _, _] (cs := [_, _, _]) (k:=fun b38 => Dv 16 (k:=Dd (k:=Ya (Zt (k:=?_))))))))
     exact zb12ret7
    ·
     refine Nl [_, _, _] (cs := [_, _, _]) (k:=fun b38 => Dn 9 (k:=?_))
     refine an_insert Tryz.underlying22 Tryz.underlying9 rfl rfl rfl ?_
     refine Dv 10 (k:=Dv 15 (k:=Dv 16 (k:=Dd (k:=Ya (Zt (k:=?_))))))
     exact zb12ret7
   ·
    refine an_insert Tryz.underlying22 Tryz.underlying9 rfl rfl rfl ?_
    refine d_next2 3 14 (by kernel_rfl) rfl rfl ?_ ?_
    ·
     refine an_insert Tryz.underlying22 Tryz.underlying9 rfl rfl rfl ?_
     refine Dv 10 (k:=Dv 15 (k:=Dn 14 (k:=Nl [_, _, _] (cs := [_, _, _]) (k:=fun b38 => Dv 16 (k:=Dd (k:=Ya (Zt (k:=?_))))))))
     exact zb12ret7
    ·
     refine Nl [_, _, _] (cs := [_, _, _]) (k:=fun b38 => Dn 3 (k:=?_))
     refine an_insert Tryz.underlying22 Tryz.underlying9 rfl rfl rfl ?_
     refine Dv 10 (k:=Dv 15 (k:=Dv 16 (k:=Dd (k:=Ya (Zt (k:=?_))))))
     exact zb12ret7
   ·
    refine Nl [_, _, _] (cs := [_, _, _]) (k:=fun b38 => ?_)
    refine d_next2 3 9 (by kernel_rfl) rfl rfl ?_ ?_
    ·
     refine an_insert Tryz.underlying22 Tryz.underlying9 rfl rfl rfl ?_
     refine Dn 9 (k:=?_)
     refine an_insert Tryz.underlying22 Tryz.underlying9 rfl rfl rfl ?_
     refine Dv 10 (k:=Dv 15 (k:=Dv 16 (k:=Dd (k:=Ya (Zt (k:=?_))))))
     exact zb12ret7
    ·
     refine an_insert Tryz.underlying22 Tryz.underlying9 rfl rfl rfl ?_
     refine Dn 3 (k:=?_)
     refine an_insert Tryz.underlying22 Tryz.underlying9 rfl rfl rfl ?_
     refine Dv 10 (k:=Dv 15 (k:=Dv 16 (k:=Dd (k:=Ya (Zt (k:=?_))))))
     exact zb12ret7
  ·
   refine an_insert Tryz.underlying22 Tryz.underlying9 rfl rfl rfl ?_
   refine d_next3 3 6 14 (by kernel_rfl) rfl rfl rfl ?_ ?_ ?_
   ·
    refine an_insert Tryz.underlying22 Tryz.underlying9 rfl rfl rfl ?_
    refine d_next2 6 14 (by kernel_rfl) rfl rfl ?_ ?_
    ·
     refine an_insert Tryz.underlying22 Tryz.underlying9 rfl rfl rfl ?_
     refine Dv 10 (k:=Dv 15 (k:=Dn 14 (k:=Nl [_, _, _] (cs := [_, _, _]) (k:=fun b38 => Dv 16 (k:=Dd (k:=Ya (Zt (k:=?_))))))))
     exact zb12ret7
    ·
     refine Nl [_, _, _] (cs := [_, _, _]) (k:=fun b38 => Dn 6 (k:=?_))
     refine an_insert Tryz.underlying22 Tryz.underlying9 rfl rfl rfl ?_
     refine Dv 10 (k:=Dv 15 (k:=Dv 16 (k:=Dd (k:=Ya (Zt (k:=?_))))))
     exact zb12ret7
   ·
    refine an_insert Tryz.underlying22 Tryz.underlying9 rfl rfl rfl ?_
    refine d_next2 3 14 (by kernel_rfl) rfl rfl ?_ ?_
    ·
     refine an_insert Tryz.underlying22 Tryz.underlying9 rfl rfl rfl ?_
     refine Dv 10 (k:=Dv 15 (k:=Dn 14 (k:=Nl [_, _, _] (cs := [_, _, _]) (k:=fun b38 => Dv 16 (k:=Dd (k:=Ya (Zt (k:=?_))))))))
     exact zb12ret7
    ·
     refine Nl [_, _, _] (cs := [_, _, _]) (k:=fun b38 => Dn 3 (k:=?_))
     refine an_insert Tryz.underlying22 Tryz.underlying9 rfl rfl rfl ?_
     refine Dv 10 (k:=Dv 15 (k:=Dv 16 (k:=Dd (k:=Ya (Zt (k:=?_))))))
     exact zb12ret7
   ·
    refine Nl [_, _, _] (cs := [_, _, _]) (k:=fun b38 => ?_)
    refine d_next2 3 6 (by kernel_rfl) rfl rfl ?_ ?_
    ·
     refine an_insert Tryz.underlying22 Tryz.underlying9 rfl rfl rfl ?_
     refine Dn 6 (k:=?_)
     refine an_insert Tryz.underlying22 Tryz.underlying9 rfl rfl rfl ?_
     refine Dv 10 (k:=Dv 15 (k:=Dv 16 (k:=Dd (k:=Ya (Zt (k:=?_))))))
     exact zb12ret7
    ·
     refine an_insert Tryz.underlying22 Tryz.underlying9 rfl rfl rfl ?_
     refine Dn 3 (k:=?_)
     refine an_insert Tryz.underlying22 Tryz.underlying9 rfl rfl rfl ?_
     refine Dv 10 (k:=Dv 15 (k:=Dv 16 (k:=Dd (k:=Ya (Zt (k:=?_))))))
     exact zb12ret7
  ·
   refine Nl [_, _, _] (cs := [_, _, _]) (k:=fun b38 => ?_)
   refine d_next3 3 6 9 (by kernel_rfl) rfl rfl rfl ?_ ?_ ?_
   ·
    refine an_insert Tryz.underlying22 Tryz.underlying9 rfl rfl rfl ?_
    refine d_next2 6 9 (by kernel_rfl) rfl rfl ?_ ?_
    ·
     refine an_insert Tryz.underlying22 Tryz.underlying9 rfl rfl rfl ?_
     refine Dn 9 (k:=?_)
     refine an_insert Tryz.underlying22 Tryz.underlying9 rfl rfl rfl ?_
     refine Dv 10 (k:=Dv 15 (k:=Dv 16 (k:=Dd (k:=Ya (Zt (k:=?_))))))
     exact zb12ret7
    ·
     refine an_insert Tryz.underlying22 Tryz.underlying9 rfl rfl rfl ?_
     refine Dn 6 (k:=?_)
     refine an_insert Tryz.underlying22 Tryz.underlying9 rfl rfl rfl ?_
     refine Dv 10 (k:=Dv 15 (k:=Dv 16 (k:=Dd (k:=Ya (Zt (k:=?_))))))
     exact zb12ret7
   ·
    refine an_insert Tryz.underlying22 Tryz.underlying9 rfl rfl rfl ?_
    refine d_next2 3 9 (by kernel_rfl) rfl rfl ?_ ?_
    ·
     refine an_insert Tryz.underlying22 Tryz.underlying9 rfl rfl rfl ?_
     refine Dn 9 (k:=?_)
     refine an_insert Tryz.underlying22 Tryz.underlying9 rfl rfl rfl ?_
     refine Dv 10 (k:=Dv 15 (k:=Dv 16 (k:=Dd (k:=Ya (Zt (k:=?_))))))
     exact zb12ret7
    ·
     refine an_insert Tryz.underlying22 Tryz.underlying9 rfl rfl rfl ?_
     refine Dn 3 (k:=?_)
     refine an_insert Tryz.underlying22 Tryz.underlying9 rfl rfl rfl ?_
     refine Dv 10 (k:=Dv 15 (k:=Dv 16 (k:=Dd (k:=Ya (Zt (k:=?_))))))
     exact zb12ret7
   ·
    refine an_insert Tryz.underlying22 Tryz.underlying9 rfl rfl rfl ?_
    refine d_next2 3 6 (by kernel_rfl) rfl rfl ?_ ?_
    ·
     refine an_insert Tryz.underlying22 Tryz.underlying9 rfl rfl rfl ?_
     refine Dn 6 (k:=?_)
     refine an_insert Tryz.underlying22 Tryz.underlying9 rfl rfl rfl ?_
     refine Dv 10 (k:=Dv 15 (k:=Dv 16 (k:=Dd (k:=Ya (Zt (k:=?_))))))
     exact zb12ret7
    ·
     refine an_insert Tryz.underlying22 Tryz.underlying9 rfl rfl rfl ?_
     refine Dn 3 (k:=?_)
     refine an_insert Tryz.underlying22 Tryz.underlying9 rfl rfl rfl ?_
     refine Dv 10 (k:=Dv 15 (k:=Dv 16 (k:=Dd (k:=Ya (Zt (k:=?_))))))
     exact zb12ret7
 ·
  refine Nl [_, _, _] (cs := [_, _, _]) (k:=fun b38 => Dn 0 (k:=?_))
  refine an_mkmap rfl (fun b27 => ?_)
  refine d_next3 3 6 9 (by kernel_rfl) rfl rfl rfl ?_ ?_ ?_
  ·
   refine an_insert Tryz.underlying22 Tryz.underlying9 rfl rfl rfl ?_
   refine d_next2 6 9 (by kernel_rfl) rfl rfl ?_ ?_
   ·
    refine an_insert Tryz.underlying22 Tryz.underlying9 rfl rfl rfl ?_
    refine Dn 9 (k:=?_)
    refine an_insert Tryz.underlying22 Tryz.underlying9 rfl rfl rfl ?_
    refine Dv 10 (k:=Dv 15 (k:=Dv 16 (k:=Dd (k:=Ya (Zt (k:=?_))))))
    exact zb12ret7
   ·
    refine an_insert Tryz.underlying22 Tryz.underlying9 rfl rfl rfl ?_
    refine Dn 6 (k:=?_)
    refine an_insert Tryz.underlying22 Tryz.underlying9 rfl rfl rfl ?_
    refine Dv 10 (k:=Dv 15 (k:=Dv 16 (k:=Dd (k:=Ya (Zt (k:=?_))))))
    exact zb12ret7
  ·
   refine an_insert Tryz.underlying22 Tryz.underlying9 rfl rfl rfl ?_
   refine d_next2 3 9 (by kernel_rfl) rfl rfl ?_ ?_
   ·
    refine an_insert Tryz.underlying22 Tryz.underlying9 rfl rfl rfl ?_
    refine Dn 9 (k:=?_)
    refine an_insert Tryz.underlying22 Tryz.underlying9 rfl rfl rfl ?_
    refine Dv 10 (k:=Dv 15 (k:=Dv 16 (k:=Dd (k:=Ya (Zt (k:=?_))))))
    exact zb12ret7
   ·
    refine an_insert Tryz.underlying22 Tryz.underlying9 rfl rfl rfl ?_
    refine Dn 3 (k:=?_)
    refine an_insert Tryz.underlying22 Tryz.underlying9 rfl rfl rfl ?_
    refine Dv 10 (k:=Dv 15 (k:=Dv 16 (k:=Dd (k:=Ya (Zt (k:=?_))))))
    exact zb12ret7
  ·
   refine an_insert Tryz.underlying22 Tryz.underlying9 rfl rfl rfl ?_
   refine d_next2 3 6 (by kernel_rfl) rfl rfl ?_ ?_
   ·
    refine an_insert Tryz.underlying22 Tryz.underlying9 rfl rfl rfl ?_
    refine Dn 6 (k:=?_)
    refine an_insert Tryz.underlying22 Tryz.underlying9 rfl rfl rfl ?_
    refine Dv 10 (k:=Dv 15 (k:=Dv 16 (k:=Dd (k:=Ya (Zt (k:=?_))))))
    exact zb12ret7
   ·
    refine an_insert Tryz.underlying22 Tryz.underlying9 rfl rfl rfl ?_
    refine Dn 3 (k:=?_)
    refine an_insert Tryz.underlying22 Tryz.underlying9 rfl rfl rfl ?_
    refine Dv 10 (k:=Dv 15 (k:=Dv 16 (k:=Dd (k:=Ya (Zt (k:=?_))))))
    exact zb12ret7
end
section
set_option maxRecDepth 100000
theorem picksSelf : ∀ As : List HP, Picks As As []
 | [] => .nil
 | A :: r => .cons .here (picksSelf r)
theorem takeStep {α : Type} {l l' : List α} {j : Nat} (h : j < l.length) (h' : j < l'.length) (e : l.take j = l'.take j) (x : l[j] = l'[j]) : l.take (j + 1) = l'.take (j + 1) := by
 rw [List.take_succ_eq_append_getElem h, List.take_succ_eq_append_getElem h', e, x]
theorem book_SameS_sp {As : List HP} {a a' : Option Addr} (n n' c c' : Nat) (l l' : List Bs) [h1 : RdSl a (l.map vS) As] [h2 : RdSl a' (l'.map vS) As] (hn : l.length = n) (hn' : l'.length = n') (hb : n ≤ 140737488355328) :
    Sp1 Tryz.prog 16 [.slice a n c, .slice a' n' c'] As (vB (decide (l = l'))) As := by
 subst hn; subst hn'
 haveI : PicksC As As [] := ⟨picksSelf As⟩
 refine Sp.body (n := 26) Tryz.call16 Tryz.func16 rfl rfl rfl ?_
 refine Qc (k:=Vv (k:=Wq (Za (k:=Qc (k:=Qv (k:=Qv (k:=Vv (k:=?_))))))))
 refine Wq (Zi (t:=fun h10 => ?_) (f:=fun h10 => ?_))
 ·
  refine Qc (k:=Vv (k:=Wq (Zt (k:=Va ?_))))
  have hn : ¬ l = l' := fun e => h10 (by rw [e])
  exact fin_ret () (vs := [_]) (Cs := []) rfl (.tmp rfl .nil) (by rw [decide_eq_false hn]; rfl) trivial (by rw [List.append_nil]; exact Ent.refl _)
 ·
  refine Zk (k:=Ya (Za (k:=Qc (k:=Vv (k:=Wq (Zb (k:=?_)))))))
  refine p_loop (fun (i : { j : Nat // j ≤ l.length ∧ l.take j = l'.take j }) => [(0, .slice a l.length c), (1, .slice a' l'.length c'), (5, vI i.1)]) (fun (i : { j : Nat // j ≤ l.length ∧ l.take j = l'.take j }) => As) (fun (i : { j : Nat // j ≤ l.length ∧ l.take j = l'.take j }) => l.length - i.1) rfl (⟨0, Nat.zero_le _, rfl⟩) ?_ ?_ (fun i => ?_)
  · exact ⟨rfl, rfl, rfl, trivial⟩
  ·
   exact Ent.refl _
  obtain ⟨j, hj, hw⟩ := i
  try dsimp only
  refine Za (k:=Qc (k:=Qv (k:=Qv (k:=Wq (Zi (t:=fun h14 => ?_) (f:=fun h14 => ?_))))))
  ·
   refine Zk (k:=Ya (Za (k:=Zb (k:=Za (k:=?_)))))
   have hjl : j < l.length := by omega
   have hjl' : j < l'.length := by omega
   refine d_draw rfl rfl rfl As ?_
   refine Dv 0 (k:=Dv 1 (k:=?_))
   refine d_first 2 rfl rfl rfl (by kernel_rfl) (by kernel_rfl) (tl_elemAddr (sz := 1) Tryz.underlying23 ti9 rfl rfl rfl rfl (by omega) (by first | (rw [List.length_map]; omega) | (rw [flat_len (sz := 1) (fun _ => rfl)]; omega) | (simp; omega)) (Nat.mul_one _)) ?_
   refine d_first 3 rfl rfl rfl (by kernel_rfl) (by kernel_rfl) (tl_eload Tryz.underlying9 rfl rfl (get_map (m := j) (by omega))) ?_
   refine Dv 4 (k:=Dv 5 (k:=?_))
   refine d_first 6 rfl rfl rfl (by kernel_rfl) (by kernel_rfl) (tl_elemAddr (sz := 1) Tryz.underlying23 ti9 rfl rfl rfl rfl (by omega) (by first | (rw [List.length_map]; omega) | (rw [flat_len (sz := 1) (fun _ => rfl)]; omega) | (simp; omega)) (Nat.mul_one _)) ?_
   refine d_first 7 rfl rfl rfl (by kernel_rfl) (by kernel_rfl) (tl_eload Tryz.underlying9 rfl rfl (get_map (m := j) (by omega))) ?_
   refine Dv 8 (k:=Dd (k:=Ya (Zi (t:=fun h25 => ?_) (f:=fun h25 => ?_))))
   ·
    refine Qc (k:=Vv (k:=Wq (Zt (k:=Vb (Va (Vi (Vb (Va ?_))))))))
    have hn : ¬ l = l' := fun e => by subst e; exact h25 rfl
    exact fin_ret () (vs := [_]) (Cs := []) rfl (.tmp rfl .nil) (by rw [decide_eq_false hn]; rfl) trivial (by rw [List.append_nil]; exact Ent.refl _)
   ·
    refine Zk (k:=Yb (Ya (Zr (k:=Qv (k:=Vv (k:=Wn ?_))))))
    have hx : l[j] = l'[j] := Decidable.byContradiction h25
    exact to_inv ⟨j + 1, by omega, takeStep hjl hjl' hw hx⟩ (by dsimp only; omega) ⟨rfl, rfl, rfl, trivial⟩ (by rw [List.append_nil]; exact Ent.refl _)
  ·
   refine Ze (k:=Xa (Xi (Xb (Ya (Qc (k:=Vv (k:=Wq (Zt (k:=?_)))))))))
   have hjl : j = l.length := by omega
   subst hjl
   have he : l = l' := by
    have e1 : l'.length = l.length := by omega
    rw [List.take_length, ← e1, List.take_length] at hw
    exact hw
   exact fin_ret () (vs := [_]) (Cs := []) rfl (.tmp rfl .nil) (by rw [decide_eq_true he]; rfl) trivial (by rw [List.append_nil]; exact Ent.refl _)
end
section
set_option maxRecDepth 100000
set_option maxHeartbeats 8000000 in
theorem TagsRuns_sp : Sp1 Tryz.prog 3 [] [] (vB true) [] := by
 refine Sp.body (n := 93) Tryz.call3 Tryz.func3 rfl rfl rfl ?_
 refine Qc (k:=Vv (k:=Wq (Qc (k:=Vx (Ps [_, _, _, _]) (k:=Zv [_] (cs := [_, _, _, _]) (k:=fun b11 => ?_))))))
 refine wo_ent' (ce_norm (b := b11) (T := 27) (l' := opsR.flatMap tgCells) (by rfl) (by rfl)) ?_
 refine r_callX (law18_chain_sp (Bt := Ce b11 27 (opsR.flatMap tgCells)) (some ⟨b11, 0, none⟩) 1 opsR opsR_right tgD_opsR sla_ce) rfl rfl rfl (fun x12 hx12 => ?_)
 obtain ⟨⟨m, K⟩, bl⟩ := x12
 dsimp only at hx12 ⊢
 have hh := rn_held tgD_opsR hx12
 have hrun := run_ok tgD_opsR hh
 have hl : (mput K [107] (vS (ctB ctR))).length ≤ 4 := by rw [hh.len]; decide
 have hOx := tags_Of_sp m _ hh.txt hh.knd (by omega) [116] (tgX opsR) _ hrun.x.symm
 have hOy := tags_Of_sp m _ hh.txt hh.knd (by omega) [116] (tgY opsR) _ hrun.y.symm
 have hOz := tags_Of_sp m _ hh.txt hh.knd (by omega) [116] (tgZ opsR) _ hrun.z.symm
 have hTb := tags_Table_sp m _ hh.txt hh.knd (by omega)
 have hNm := tags_Names_sp m _ hh.txt (by omega)
 have hCt := fun b => ref10_ct_sp (Bt := Ce b 27 (ctR.tags.flatMap tgCells)) (some ⟨b, 0, none⟩) 1 ctR_right sla_ce (tgZ_one (k := 45) (nm := [116]) (tgt := tgZ opsR) (v := []) (by decide) (Nat.le_of_eq (shaB_len _)) (by decide))
 rw [hrun.t] at hTb
 rw [hrun.n] at hNm
 rw [show ctR = ctOne 3 45 (tgZ opsR) [] me from rfl] at *
 obtain ⟨H, hH⟩ : ∃ H, H = mput K [107] (vS (ctB (ctOne 3 45 (tgZ opsR) [] me))) := ⟨_, rfl⟩
 rw [← hH] at hOx hOy hOz hTb hNm
 refine Vv (k:=?_)
 refine wo_pv (pv_extract (v := .map (some m)) rfl rfl) rfl ?_
 refine wo_pv (pv_extract (v := .slice (some ⟨bl, 0, none⟩) 3 3) rfl rfl) rfl ?_
 refine Qv (k:=Wq (Qc (k:=Qv (k:=?_))))
 refine r_elemAddr (m := 2) (sz := 1) Tryz.underlying23 ti9 rfl rfl rfl rfl (by omega) (by simp) (Nat.mul_one _) rfl ?_
 refine r_eload Tryz.underlying9 rfl rfl rfl rfl ?_
 refine Vx (Ps [_, _, _, vS []]) (k:=Zv [_] (cs := [_, _, _, _]) (k:=fun b20 => Vx (Ps [_, _, _]) (k:=?_)))
 refine wo_ent' (ce_norm (b := b20) (T := 27) (l' := (ctOne 3 45 (tgZ opsR) [] me).tags.flatMap tgCells) (by rfl) (by rfl)) ?_
 refine r_call1 (hCt b20) rfl rfl rfl ?_
 refine r_mapUpdate Tryz.underlying22 Tryz.underlying9 rfl rfl rfl ?_
 rw [← hH]
 refine Wq (Qc (k:=Qv (k:=?_)))
 refine r_elemAddr (m := 0) (sz := 1) Tryz.underlying23 ti9 rfl rfl rfl rfl (by omega) (by simp) (Nat.mul_one _) rfl ?_
 refine r_eload Tryz.underlying9 rfl rfl rfl rfl ?_
 refine r_call1 hOx rfl rfl rfl ?_
 refine Vv (k:=?_)
 refine wo_pv (pv_extract (v := .agg #[vS [116], vS (tgX opsR), vS [118], vS (tgX opsR), .bool true, .bool true]) rfl rfl) rfl ?_
 refine wo_pv (pv_extract (v := vB true) rfl rfl) rfl ?_
 refine Zc [vS [], vS [], vS [], vS [], .bool false, .bool false] (k:=fun b3 => Zp (k:=Vv (k:=Wq (Qc (k:=Qv (k:=?_))))))
 refine r_elemAddr (m := 1) (sz := 1) Tryz.underlying23 ti9 rfl rfl rfl rfl (by omega) (by simp) (Nat.mul_one _) rfl ?_
 refine r_eload Tryz.underlying9 rfl rfl rfl rfl ?_
 refine r_call1 hOy rfl rfl rfl ?_
 refine Vv (k:=?_)
 refine wo_pv (pv_extract (v := .agg #[vS [116], vS (tgY opsR), vS [118], vS (tgX opsR), .bool true, .bool false]) rfl rfl) rfl ?_
 refine wo_pv (pv_extract (v := vB true) rfl rfl) rfl ?_
 refine Zc [vS [], vS [], vS [], vS [], .bool false, .bool false] (k:=fun b5 => Zp (k:=Vv (k:=Wq (Qc (k:=Qv (k:=?_))))))
 refine r_elemAddr (m := 2) (sz := 1) Tryz.underlying23 ti9 rfl rfl rfl rfl (by omega) (by simp) (Nat.mul_one _) rfl ?_
 refine r_eload Tryz.underlying9 rfl rfl rfl rfl ?_
 refine r_call1 hOz rfl rfl rfl ?_
 refine Vv (k:=?_)
 refine wo_pv (pv_extract (v := .agg #[vS [], vS [], vS [], vS [], .bool false, .bool false]) rfl rfl) rfl ?_
 refine wo_pv (pv_extract (v := vB false) rfl rfl) rfl ?_
 refine Zc [vS [], vS [], vS [], vS [], .bool false, .bool false] (k:=fun b7 => Zp (k:=Vv (k:=Wq (Za (k:=Dw [Ce b3 33 [vS [116], vS (tgX opsR), vS [118], vS (tgX opsR), .bool true, .bool true], Ce b5 33 [vS [116], vS (tgY opsR), vS [118], vS (tgX opsR), .bool true, .bool false], Ce bl 9 [vS (tgX opsR), vS (tgY opsR), vS (tgZ opsR)]] (k:=?_))))))
 refine Dv 0 (k:=Dv 1 (k:=Gd 1 (t:=fun h48 => ?_) (f:=fun h48 => ?_)))
 ·
  refine Di 2 (t:=U1 (h:=Uv)) (k:=DP1 3 (k:=Dv 4 (k:=Gd 4 (t:=fun h51 => ?_) (f:=fun h51 => ?_))))
  ·
   refine Di 5 (t:=U1 (h:=Uv)) (k:=Di 6 (t:=U1 (h:=Uv)) (k:=DP1 7 (k:=Dv 8 (k:=Gd 8 (t:=fun h55 => ?_) (f:=fun h55 => ?_)))))
   ·
    refine Di 9 (t:=U1 (h:=Uf 5 4)) (k:=Di 10 (t:=U1 (h:=Ul)) (k:=DP1 11 (k:=Dv 12 (k:=Gd 12 (t:=fun h59 => ?_) (f:=fun h59 => ?_)))))
    ·
     refine Di 13 (t:=U1 (h:=Uf 5 4)) (k:=Di 14 (t:=U1 (h:=Ul)) (k:=Di 15 (t:=U1 (h:=Uv)) (k:=DP1 16 (k:=Dv 17 (k:=Gd 17 (t:=fun h64 => ?_) (f:=fun h64 => ?_))))))
     ·
      refine Di 18 (t:=U1 (h:=Uf 4 4)) (k:=Di 19 (t:=U1 (h:=Ul)) (k:=DP1 20 (k:=Dv 21 (k:=Gd 21 (t:=fun h68 => ?_) (f:=fun h68 => ?_)))))
      ·
       refine Di 22 (t:=U1 (h:=Uf 2 9)) (k:=Di 23 (t:=U1 (h:=Ul)) (k:=Di 24 (t:=U1 (h:=Uv)) (k:=DP1 25 (k:=Dv 26 (k:=Gd 26 (t:=fun h73 => ?_) (f:=fun h73 => ?_))))))
       ·
        refine Di 27 (t:=U1 (h:=Uf 3 9)) (k:=Di 28 (t:=U1 (h:=Ul)) (k:=Di 29 (t:=U1 (h:=Uv)) (k:=?_)))
        refine d_first 30 rfl rfl rfl (by kernel_rfl) (by kernel_rfl) (tl_in (b := true) rfl (tl_elemAddr (m := 0) (sz := 1) Tryz.underlying23 ti9 rfl rfl rfl rfl (by omega) (by simp) (Nat.mul_one _))) ?_
        refine d_first 31 rfl rfl rfl (by kernel_rfl) (by kernel_rfl) (tl_in (b := true) rfl (tl_eload Tryz.underlying9 rfl rfl rfl)) ?_
        refine Di 32 (t:=U1 (h:=Uv)) (k:=DP1 33 (k:=Dv 34 (k:=Gd 34 (t:=fun h81 => ?_) (f:=fun h81 => ?_))))
        ·
         refine Di 35 (t:=U1 (h:=Uv)) (k:=Dn 36 (k:=?_))
         refine an_in (b := true) rfl ?_
         refine an_callX hTb rfl rfl rfl (fun x83 _ => ?_)
         refine Di 37 (t:=U1 (h:=Uv)) (k:=Di 38 (t:=U1 (h:=Uv)) (k:=DP1 39 (k:=Dv 40 (k:=Gd 40 (t:=fun h87 => ?_) (f:=fun h87 => ?_)))))
         ·
          refine Di 41 (t:=U1 (h:=Uv)) (k:=?_)
          refine d_next2 42 43 (by kernel_rfl) rfl rfl ?_ ?_
          ·
           refine an_in (b := true) rfl ?_
           refine an_callX hNm rfl rfl rfl (fun x89 _ => ?_)
           refine Dn 43 (k:=?_)
           refine an_in (b := true) rfl ?_
           refine Nl [_] (cs := [_]) (k:=fun b90 => Dn 44 (k:=?_))
           skip
           refine an_in (b := true) rfl ?_
           refine an_call1 (book_SameS_sp (As := [Row 9 1 (.slice x89.1 1 x89.2) 1 (([[116]] : List Bs).map vS), Ce b90 9 [vS [116]]]) 1 1 x89.2 1 [[116]] [[116]] rfl rfl (by decide)) rfl rfl rfl ?_
           refine DP1 45 (k:=Dv 46 (k:=Dd (k:=Ya (Zt (k:=?_)))))
           exact fin_ret () (vs := [_]) (Cs := []) rfl (.tmp rfl .nil) rfl trivial ent_pick
          ·
           refine an_in (b := true) rfl ?_
           refine Nl [_] (cs := [_]) (k:=fun b90 => Dn 42 (k:=?_))
           refine an_in (b := true) rfl ?_
           refine an_callX hNm rfl rfl rfl (fun x89 _ => ?_)
           refine Dn 44 (k:=?_)
           skip
           refine an_in (b := true) rfl ?_
           refine an_call1 (book_SameS_sp (As := [Row 9 1 (.slice x89.1 1 x89.2) 1 (([[116]] : List Bs).map vS), Ce b90 9 [vS [116]]]) 1 1 x89.2 1 [[116]] [[116]] rfl rfl (by decide)) rfl rfl rfl ?_
           refine DP1 45 (k:=Dv 46 (k:=Dd (k:=Ya (Zt (k:=?_)))))
           exact fin_ret () (vs := [_]) (Cs := []) rfl (.tmp rfl .nil) rfl trivial ent_pick
         ·
          first | cases h87 | exact absurd rfl h87
          --done
        ·
         first | cases h81 | exact absurd rfl h81
         --done
       ·
        first | cases h73 | exact absurd rfl h73
        --done
      ·
       first | cases h68 | exact absurd rfl h68
       --done
     ·
      first | cases h64 | exact absurd rfl h64
      --done
    ·
     first | cases h59 | exact absurd rfl h59
     --done
   ·
    first | cases h55 | exact absurd rfl h55
    --done
  ·
   first | cases h51 | exact absurd rfl h51
   --done
 ·
  first | cases h48 | exact absurd rfl h48
  --done
end
def moC : Bs := tgA []
def moX : Bs := tgX []
theorem moX_len : moX.length = 40 := shaB_len _
theorem moC_right : RightK (ckMe [] [] me 0) := right_A right_t0
def moK (d : Int) : Ct := ctOne d 43 moX [107] me
def moM (e : Int) (k : UInt8) : Ct := ctOne e k moX [] me
theorem moK_right {d : Int} (h : 0 ≤ d ∧ d ≤ 9) : RightCt (moK d) := ctOne_right (by omega) (.inl (by decide)) (by decide) (isN_sha _) me_word
theorem moM_right {e : Int} {k : UInt8} (h : 0 ≤ e ∧ e ≤ 9) (hk : k = 43 ∨ k = 45) : RightCt (moM e k) := ctOne_right (by omega) (by rcases hk with rfl | rfl; exact .inl (by decide); exact .inr (.inr ⟨by decide, rfl⟩)) (by decide) (isN_sha _) me_word
def moL (d e : Int) (k : UInt8) : List (Bs × Bs) := [([107], ctB (moK d)), ([108], ctB (moM e k))]
def moSk (d : Int) : Sd := ⟨⟨43, [116], moX, [107]⟩, d, [107]⟩
def moSl (e : Int) (k : UInt8) : Sd := ⟨⟨k, [116], moX, []⟩, e, [108]⟩
/-- Of two words on one tag the later one counts. -/
theorem two_last (d e : Int) (k : UInt8) : lastF [moSk d, moSl e k] = [(([116], moX), if d ≤ e then moSl e k else moSk d)] := by
 unfold moSk moSl
 generalize moX = x
 show lstep (lstep [] ⟨⟨43, [116], x, [107]⟩, d, [107]⟩) ⟨⟨k, [116], x, []⟩, e, [108]⟩ = _
 simp only [lstep, llook, lput, if_true]
 by_cases c : d ≤ e
 · simp only [c, if_true]
 · simp only [c, if_false]
theorem mo_held {d e : Int} {k : UInt8} (hd : 0 ≤ d ∧ d ≤ 9) (he : 0 ≤ e ∧ e ≤ 9) (hk : k = 43 ∨ k = 45) {K : Ks} (hp : K.Perm ((moL d e k).map fun p => (p.1, vS p.2))) : HeldP K (moL d e k) := by
 refine ⟨hp, by simp [moL], fun p hp => ?_⟩
 have h1 := ctB_len (moK_right hd)
 have h2 := ctB_len (moM_right he hk)
 simp only [moL, List.mem_cons, List.not_mem_nil, or_false] at hp
 rcases hp with rfl | rfl <;> dsimp only <;> omega
/-- What is said: the first name's, then the second one's. -/
theorem mo_keys {d e : Int} {k : UInt8} {K : Ks} (h : HeldP K (moL d e k)) : keysS K = [[107], [108]] := by
 refine sorted_eq (keysS_lt h.knd) (by simp; decide) fun n => ?_
 rw [h.mem]
 simp [moL]
theorem mo_sd {d e : Int} {k : UInt8} (hd : 0 ≤ d ∧ d ≤ 9) (he : 0 ≤ e ∧ e ≤ 9) (hk : k = 43 ∨ k = 45) {K : Ks} (h : HeldP K (moL d e k)) : sdL K = [moSk d, moSl e k] := by
 have e1 := opsB_ct (moK_right hd) [107]
 have e2 := opsB_ct (moM_right he hk) [108]
 have g1 : getB K [107] = ctB (moK d) := h.get (p := ([107], ctB (moK d))) (by simp [moL])
 have g2 : getB K [108] = ctB (moM e k) := h.get (p := ([108], ctB (moM e k))) (by simp [moL])
 rw [sdL, mo_keys h]
 simp only [sdF, List.flatMap_cons, List.flatMap_nil, List.append_nil, sdOf, g1, g2, e1, e2]
 simp only [moK, moM, ctOne, moSk, moSl, List.map_cons, List.map_nil, List.singleton_append]
theorem mo_no {d e : Int} {k : UInt8} (hd : 0 ≤ d ∧ d ≤ 9) (he : 0 ≤ e ∧ e ≤ 9) (hk : k = 43 ∨ k = 45) {K : Ks} (h : HeldP K (moL d e k)) : cksL K = [] := by
 refine List.eq_nil_iff_forall_not_mem.2 fun x hx => ?_
 obtain ⟨p, hp, _, h2⟩ := h.cks.1 hx
 have r1 := (ct_read (moK_right hd)).2
 have r2 := (ct_read (moM_right he hk)).2
 simp only [moL, List.mem_cons, List.not_mem_nil, or_false] at hp
 rcases hp with rfl | rfl
 · rw [r1] at h2; cases h2
 · rw [r2] at h2; cases h2
/-- What the law sees ahead of the check-in. -/
structure MoP (d e : Int) (k : UInt8) (K : Ks) : Prop where
 said : llook (lastL K) ([116], moX) = some (if d ≤ e then moSl e k else moSk d)
 early : ofT (cksL K) (lastL K) [116] moX = none
 none : (tblT (cksL K) (lastL K)).length = 0
theorem mo_ok {d e : Int} {k : UInt8} (hd : 0 ≤ d ∧ d ≤ 9) (he : 0 ≤ e ∧ e ≤ 9) (hk : k = 43 ∨ k = 45) {K : Ks} (h : HeldP K (moL d e k)) : MoP d e k K := by
 refine ⟨?_, ?_, ?_⟩
 · rw [show lastL K = lastF (sdL K) from rfl, mo_sd hd he hk h, two_last, llook, if_pos rfl]
 · rw [mo_no hd he hk h]; rfl
 · rw [mo_no hd he hk h, tblT_eq]
   rw [List.flatMap_eq_nil_iff.2 fun t _ => by simp [sortB]]; rfl
def moL2 (d e : Int) (k : UInt8) : List (Bs × Bs) := moL d e k ++ [(moX, moC)]
theorem mo_held2 {d e : Int} {k : UInt8} {K : Ks} (h : HeldP K (moL d e k)) : HeldP (mput K moX (vS moC)) (moL2 d e k) := by
 refine h.put ?_ (Nat.le_trans (ckB_len moC_right) (by decide))
 simp only [moL, List.map_cons, List.map_nil, List.mem_cons, List.not_mem_nil, or_false, not_or]
 exact ⟨sha_ne (by decide), sha_ne (by decide)⟩
theorem mo_keys2 {d e : Int} {k : UInt8} {K : Ks} (h : HeldP K (moL2 d e k)) : keysS K = [moX, [107], [108]] := by
 have hx : moX = _ := tgX_no
 refine sorted_eq (keysS_lt h.knd) (by rw [hx]; simp; decide) fun n => ?_
 rw [h.mem]
 simp only [moL2, moL, List.cons_append, List.nil_append, List.map_cons, List.map_nil, List.mem_cons, List.not_mem_nil, or_false]
 constructor
 · rintro (h | h | h) <;> simp [h]
 · rintro (h | h | h) <;> simp [h]
theorem mo_sd2 {d e : Int} {k : UInt8} (hd : 0 ≤ d ∧ d ≤ 9) (he : 0 ≤ e ∧ e ≤ 9) (hk : k = 43 ∨ k = 45) {K : Ks} (h : HeldP K (moL2 d e k)) : sdL K = [moSk d, moSl e k] := by
 have e1 := opsB_ct (moK_right hd) [107]
 have e2 := opsB_ct (moM_right he hk) [108]
 have e3 := opsB_ck moC_right moX
 have g1 : getB K [107] = ctB (moK d) := h.get (p := ([107], ctB (moK d))) (by simp [moL2, moL])
 have g2 : getB K [108] = ctB (moM e k) := h.get (p := ([108], ctB (moM e k))) (by simp [moL2, moL])
 have g3 : getB K moX = ckB (ckMe [] [] me 0) := h.get (p := (moX, moC)) (by simp [moL2, moL])
 rw [sdL, mo_keys2 h]
 simp only [sdF, List.flatMap_cons, List.flatMap_nil, List.append_nil, sdOf, g1, g2, g3, e1, e2, e3]
 simp only [ckMe, moK, moM, ctOne, moSk, moSl, List.map_cons, List.map_nil, List.singleton_append, List.nil_append]
/-- What the law sees behind the check-in. -/
structure MoQ (d e : Int) (k : UInt8) (K : Ks) : Prop where
 of : ofT (cksL K) (lastL K) [116] moX = if e < d then some ⟨[116], moX, [107], [107], false, true⟩ else if k = 45 then none else some ⟨[116], moX, [], [108], false, true⟩
 n : namesL (lastL K) = [[116]]
theorem mo_ok2 {d e : Int} {k : UInt8} (hd : 0 ≤ d ∧ d ≤ 9) (he : 0 ≤ e ∧ e ≤ 9) (hk : k = 43 ∨ k = 45) {K : Ks} (h : HeldP K (moL2 d e k)) : MoQ d e k K := by
 have hs := mo_sd2 hd he hk h
 have hx : clook (cksL K) moX = some (ckMe [] [] me 0) := h.ck (s := moC) (by simp [moL2, moL]) (right_read moC_right)
 have hlen : 0 < (cksL K).length := by
  cases hc : cksL K with
  | nil => rw [hc] at hx; cases hx
  | cons a r => simp
 refine ⟨?_, names_one (t := [116]) (fun s hm => ?_) ⟨moSk d, by rw [hs]; simp⟩⟩
 · rw [ofT_at (k := 0) hlen, wayF, hx]
   dsimp only
   rw [show lastL K = lastF (sdL K) from rfl, hs, two_last, llook, if_pos rfl]
   dsimp only
   by_cases c : e < d
   · rw [if_pos c, if_neg (show ¬ d ≤ e by omega)]
     simp [moSk]
   · rw [if_neg c, if_pos (show d ≤ e by omega)]
     rcases hk with rfl | rfl <;> simp [moSl]
 · rw [hs] at hm
   simp only [List.mem_cons, List.not_mem_nil, or_false] at hm
   rcases hm with rfl | rfl <;> rfl
section
set_option maxRecDepth 100000
def withinI (n lo hi : Int) : Int := lo + n % (hi - lo + 1)
theorem withinI_in {n lo hi : Int} (h : lo ≤ hi) : lo ≤ withinI n lo hi ∧ withinI n lo hi ≤ hi := by
 have h1 := Int.emod_nonneg n (show hi - lo + 1 ≠ 0 by omega)
 have h2 := Int.emod_lt_of_pos n (show 0 < hi - lo + 1 by omega)
 unfold withinI; omega
theorem tmod_cases (n m : Int) (hm : 1 ≤ m) : (0 ≤ n.tmod m ∧ n.tmod m = n % m ∨ n.tmod m < 0 ∧ n.tmod m + m = n % m) ∧ -m < n.tmod m ∧ n.tmod m < m := by
 have e1 := Int.emod_nonneg n (show m ≠ 0 by omega)
 have e2 := Int.emod_lt_of_pos n (show 0 < m by omega)
 have hd := Int.emod_emod_of_dvd n (Int.dvd_refl m)
 rcases Int.lt_or_le n 0 with h | h
 · have h2 : n.tmod m = -((-n) % m) := by
     have : n = -(-n) := by omega
     conv => lhs; rw [this]
     rw [Int.neg_tmod, Int.tmod_eq_emod_of_nonneg (by omega)]
   have e3 := Int.emod_nonneg (-n) (show m ≠ 0 by omega)
   have e4 := Int.emod_lt_of_pos (-n) (show 0 < m by omega)
   have hs : (n % m + (-n) % m) % m = 0 := by
    rw [← Int.add_emod, Int.add_right_neg, Int.zero_emod]
   by_cases hz : (-n) % m = 0
   · have : n % m = 0 := by
       rw [hz, Int.add_zero, Int.emod_emod_of_dvd n (Int.dvd_refl m)] at hs; exact hs
     rw [h2, hz, this]; omega
   · have hsum : n % m + (-n) % m = m := by
       have hpos : 0 < n % m + (-n) % m := by omega
       have hlt : n % m + (-n) % m < m + m := by omega
       have hge : m ≤ n % m + (-n) % m := by
        apply Classical.byContradiction; intro hc
        rw [Int.emod_eq_of_lt (by omega) (by omega)] at hs
        omega
       have : (n % m + (-n) % m - m) % m = 0 := by rw [Int.sub_emod, hs]; simp
       rw [Int.emod_eq_of_lt (by omega) (by omega)] at this
       omega
     rw [h2]; omega
 · rw [Int.tmod_eq_emod_of_nonneg h]; omega
theorem zb18ret {G : Prop} (h : G := by exact fin_ret () (vs := [_]) rfl (.tmp rfl .nil) (by rw [hw]; exact congrArg vI (by omega)) trivial ent_nil) : G := h
theorem book_Within_sp (n lo hi : Int) (h1 : -1099511627776 ≤ lo) (h2 : lo ≤ hi) (h3 : hi ≤ 1099511627776) : SpF Tryz.prog 18 [vI n, vI lo, vI hi] (vI (withinI n lo hi)) := by
 have hc := tmod_cases n (hi - lo + 1) (by omega)
 have hw : withinI n lo hi = lo + n % (hi - lo + 1) := rfl
 refine Sp.body (n := 24) Tryz.call18 Tryz.func18 rfl rfl rfl ?_
 refine Qc (k:=Vv (k:=Wq (Qc (k:=Qv (k:=Qv (k:=Vv (k:=?_)))))))
 refine wo_pv (pv_remt rfl rfl (by omega)) rfl ?_
 refine Vv (k:=Wq (Za (k:=Qc (k:=Qv (k:=Wq (Zi (t:=fun h14 => ?_) (f:=fun h14 => ?_)))))))
 ·
  refine Zr (k:=Qv (k:=Qv (k:=Qv (k:=Vv (k:=Wq (Qc (k:=Vv (k:=?_))))))))
  refine Qv (k:=Vv (k:=Wq (Zt (k:=?_))))
  exact zb18ret
 ·
  refine Zk (k:=Ya (Qc (k:=Qv (k:=Qv (k:=Wq (Zt (k:=?_)))))))
  exact zb18ret
end
end Go.Proofs.YtomgdbanbpjedaaGreat
