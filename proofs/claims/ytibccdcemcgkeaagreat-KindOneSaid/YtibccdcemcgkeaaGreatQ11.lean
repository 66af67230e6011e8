/- Texts of this proof, put together: SBuf, SCard, SCard2. -/
import Derived.Lib.MakeNoZero
import Derived.Test.YtibccdcemcgkeaaGreatQ08
import Derived.Test.YtibccdcemcgkeaaGreatQ10
set_option linter.unusedVariables false
set_option linter.unusedSimpArgs false
section
set_option maxRecDepth 100000
namespace Go.Proofs.YtibccdcemcgkeaaGreat
section
variable {r : Option Nat} {P : Program} {n : Nat} {ops : Array Oper} {os : List Oper} {A : List HP} {L : Loc} {Hs : List HP} {Q : Out} {ty : TypeId} {d : Nat} {pos : String} {after : Array Edge}
theorem opt_mkNoZero {dst : Option Tmp} {g : FuncId} {fn : Func} {x : Operand} {m : Nat} {t e it : TypeId} {ts : Array TypeId} (hf : P.funcs[g]? = some fn) (hname : (fn.name == "runtime.NumGoroutine") = false)
    (hb : fn.body.isNone = true) (hn : Extern.findNext fn = none) (he : Extern.find fn = some (Extern.BytealgMakeNoZero.makeNoZero #[it] #[t])) (ht : P.underlying t = some (.slice e)) (hx : ev L x = some (vI (m : Int))) (hm : m ≤ 140737488355328) :
    OpT r P n ⟨dst, .call ⟨.value (.func g), #[x], ts⟩, ty, pos, after, none⟩ A L [] (fun x : Nat × List Value => .slice (some ⟨x.1, 0, none⟩) m x.2.length) (fun x => m ≤ x.2.length ∧ x.2.length ≤ maxLen) (fun x => [Ce x.1 e x.2]) := by
 intro a fr w M h hA hfr dj dj' s sA t'
 obtain ⟨cs, hr, h1, h2⟩ := Lib.run_makeNoZero (P := P) w #[it] t e ht m (by omega)
 have hrun : (execOp a.eval ⟨dst, .call ⟨.value (.func g), #[x], ts⟩, ty, pos, after, none⟩).run P w = .ok (.value (.slice (some ⟨w.heap.size, 0, none⟩) m cs.size)) (w.drew.drew.alloc (.cells cs e)) := by
  simp only [execOp, resolve, Act.eval, Deferred.ofValue, Sem.run_bind, Sem.run_pure, Result.andThen_ok, invoke]
  have hq := run_callFunc_extern hf hname hb hn he #[vI (m : Int)] w
  have ha : a.eval x = vI (m : Int) := fr.ev hx
  simp only [Array.append_empty, Array.empty_append, List.map_toArray, List.map_cons, List.map_nil, ha]
  rw [hq, hr]; rfl
 rw [hrun]
 have t2 := t'.drew.drew.alloc (.cells cs e)
 obtain ⟨f1, f2⟩ := fresh_none t'.drew.drew
 obtain ⟨f3, f4⟩ := Res.add_none.1 f2
 obtain ⟨f5, f6⟩ := Res.add_none.1 f3
 replace f4 : hfr w.heap.size = none := f4
 replace f5 : h w.heap.size = none := f5
 replace f6 : hA w.heap.size = none := f6
 obtain ⟨d1, d2⟩ := Res.dj_add_left.1 dj'
 refine ⟨(w.heap.size, cs.toList), M, Res.one w.heap.size (.cells cs e), by simp, ⟨by simpa using h1, by simpa using h2 (by simp only [maxLen]; omega)⟩, Kn.le_refl _, one_dj f6, Res.dj_add_left.2 ⟨one_dj f4, d2⟩, ?_, Res.one w.heap.size (.cells cs e), Res.emp, Res.dj_emp _, (Res.add_emp _).symm, by show _ = Res.one _ _; simp, trivial⟩
 refine t2.le ?_
 intro i o e'
 simp only [Res.add] at e' ⊢
 show (match Res.one w.heap.size _ i with | some o => some o | none => _) = _
 cases e1 : Res.one w.heap.size (Obj.cells cs e) i with
 | some u => rw [e1] at e'; simpa using e'
 | none =>
   rw [e1] at e'
   cases e2 : hA i with
   | some u =>
     rw [e2] at e'
     rcases dj i with y | y
     · rw [y]; simpa using e'
     · rw [y] at e2; cases e2
   | none =>
     rw [e2] at e'
     have e3 : hfr i = some o := by simpa using e'
     rcases d1 i with y | y
     · rw [y]; simpa using e3
     · rw [y] at e3; cases e3
theorem pv_copy0 {x y : Operand} {dT sT e : TypeId} {i : TypeInfo} {a : Option Addr} {c : Nat} (hu : P.underlying dT = some (.slice e)) (hs : P.underlying sT = some (.slice e)) (hi : P.info? e = some i)
    (hx : ev L x = some (.slice a 0 c)) (hy : ev L y = some (.slice none 0 0)) : PV P n L (.call ⟨.builtin .copy, #[x, y], #[dT, sT]⟩) ty (vI 0) :=
 ⟨by intro c; simp, fun ac f w _ _ _ _ => by
  cases a <;> simp [execOp, resolve, f.ev hx, f.ev hy, invoke, builtin, Builtin.copy_, run_underlying hu, run_underlying hs, sizeOf, typeInfo, program, Sem.run, hi, storeCells, Builtin.firstCells, Builtin.lenOf] <;> rfl⟩
end
/-- A Builder that holds nothing yet, and has room. -/
def IsBG (p : Nat) : HP := Ex fun q : Nat × Nat => Al [Ce p 174 [.pointer (some ⟨p, 0, none⟩), .slice (some ⟨q.1, 0, none⟩) 0 q.2], Row 5 1 (.slice (some ⟨q.1, 0, none⟩) 0 q.2) 0 []]
theorem Builder_grow_sp (p m : Nat) (hm : m ≤ 140737488355328) : Sp1 Tryz.prog 201 [.pointer (some ⟨p, 0, none⟩), vI m] [Ce p 174 [.pointer (some ⟨p, 0, none⟩), .slice none 0 0]] (.tuple #[]) [IsBG p] := by
 refine Sp.body (n := 30) Tryz.call201 Tryz.func201 rfl rfl rfl ?_
 refine Za (k:=Dw [Ce p 174 [.pointer (some ⟨p, 0, none⟩), .slice none 0 0]] (k:=?_))
 refine Di 0 (t:=Uv) (k:=Di 1 (t:=Uv) (k:=Di 2 (t:=Uf 1 89) (k:=Di 3 (t:=Ul) (k:=Di 4 (t:=Uv) (k:=Di 5 (t:=Uv) (k:=Di 6 (t:=Uv) (k:=Di 7 (t:=Uv) (k:=Di 9 (t:=Uv) (k:=Di 10 (t:=Uv) (k:=Di 11 (t:=Uf 1 89) (k:=Di 12 (t:=Ul) (k:=?_))))))))))))
 refine Di 13 (t:=Uv) (k:=Dn 8 (k:=?_))
 refine an_opT (opt_mkNoZero (m := m) (e := 5) Tryz.func211 (by kernel_rfl) (by kernel_rfl) (by kernel_rfl) (it := 3) (t := 89) (by kernel_rfl) Tryz.underlying89 (vI_eq (by omega)) hm) rfl (fun x13 hx13 => ?_)
 obtain ⟨g, cs⟩ := x13
 obtain ⟨hx1, hx2⟩ := hx13
 dsimp only at hx1 hx2
 dsimp only
 refine d_first 14 rfl rfl rfl (by kernel_rfl) (by kernel_rfl) (tl_pv (pv_slslice_tom (m := 0) Tryz.underlying89 ti5 rfl rfl rfl (Nat.zero_le _))) ?_
 refine Di 15 (t:=Uv) (k:=Dd (k:=Ya (Za (k:=Zr (k:=Vv (k:=Vv (k:=Vv (k:=Vf 1 89 (k:=Zd (k:=?_))))))))))
 refine wo_pv (pv_copy0 Tryz.underlying89 Tryz.underlying89 ti5 rfl rfl) rfl ?_
 refine Wq (Zr (k:=Vv (k:=Vv (k:=Vv (k:=Vf 1 89 (k:=?_))))))
 refine r_store ti89 rfl rfl rfl rfl (by simp) ?_
 refine Wn ?_
 refine fin_end () (vs := []) (Cs := []) rfl .nil rfl trivial ?_
 refine ent_ex (g, cs.length) ?_
 refine ent_al ?_
 exact (ent_row (k := 0) (cap := cs.length) (sz := 1) (e := 5) (g := g) (xs := []) (cur := cs) (Nat.zero_le _) hx2 (Nat.mul_one _).symm rfl rfl).trans ent_pick
theorem Builder_Grow_sp (p m : Nat) (h0 : 0 < m) (hm : m ≤ 140737488355328) : Sp1 Tryz.prog 176 [.pointer (some ⟨p, 0, none⟩), vI m] [Ce p 174 [.pointer none, .slice none 0 0]] (.tuple #[]) [IsBG p] := by
 refine Sp.body (n := 25) Tryz.call176 Tryz.func176 rfl rfl rfl ?_
 refine Za (k:=Zr (k:=Vv (k:=?_)))
 refine r_call1 (copyCheck_nil p (.slice none 0 0)) rfl rfl rfl ?_
 refine Wq (Za (k:=Za (k:=Zr (k:=Vv (k:=Vv (k:=Wq (Zi (t:=fun h7 => ?_) (f:=fun h7 => ?_))))))))
 ·
  omega
  --done
 ·
  refine Zk (k:=Ya (Za (k:=Dw [Ce p 174 [.pointer (some ⟨p, 0, none⟩), .slice none 0 0]] (k:=?_))))
  refine Di 0 (t:=Uv) (k:=Di 1 (t:=Uv) (k:=Di 2 (t:=Uf 1 89) (k:=Di 3 (t:=Ul) (k:=Di 4 (t:=Uv) (k:=Di 5 (t:=Uv) (k:=Di 6 (t:=Uv) (k:=Di 7 (t:=Uf 1 89) (k:=Di 8 (t:=Ul) (k:=Di 9 (t:=Uv) (k:=Di 10 (t:=Uv) (k:=Di 11 (t:=Uv) (k:=?_))))))))))))
  refine Di 12 (t:=Uv) (k:=Dd (k:=Ya (Zi (t:=fun h21 => ?_) (f:=fun h21 => ?_))))
  ·
   refine Zr (k:=Vv (k:=Vv (k:=?_)))
   refine r_call1 (Builder_grow_sp p m hm) rfl rfl rfl ?_
   refine Wn ?_
   refine fin_end () (vs := []) (Cs := []) rfl .nil rfl trivial ?_
   exact ent_pick
  ·
   omega
   --done
theorem WriteStringG_sp (p : Nat) (s : List UInt8) (hs : s ≠ []) (h : s.length ≤ 140737488355328) : Sp1 Tryz.prog 126 [.pointer (some ⟨p, 0, none⟩), vS s] [IsBG p] (.tuple #[vI s.length, .nilIface]) [IsB p s] := by
 have hp := List.length_pos_iff.2 hs
 refine Sp.body (n := 19) Tryz.call126 Tryz.func126 rfl rfl rfl ?_
 refine wc_exi fun q => wc_al ?_
 obtain ⟨g, cap⟩ := q
 dsimp only
 refine Za (k:=Zr (k:=Vv (k:=Vv (k:=Wq (Za (k:=Zr (k:=Vv (k:=?_))))))))
 refine r_call1 (copyCheck_own p (.slice (some ⟨g, 0, none⟩) 0 cap)) rfl rfl rfl ?_
 refine Wq (Za (k:=Zr (k:=Vv (k:=Vv (k:=Vv (k:=Vf 1 89 (k:=Zd (k:=Vv (k:=?_)))))))))
 refine wo_opT (by intro c; simp) (opt_appendS Tryz.underlying89 Tryz.underlying9 ti5 rfl rfl rfl rfl rfl (by omega) (xs := []) (k := 0)) rfl (fun x14 hx14 => ?_)
 obtain ⟨⟨a14, c14, rfl⟩, hx14⟩ := hx14
 refine Vv (k:=Vf 1 89 (k:=?_))
 refine r_store ti89 rfl rfl rfl rfl (by simp) ?_
 refine Wq (Za (k:=Zr (k:=Vv (k:=Vv (k:=Vv (k:=Vv (k:=Wq (Zt (k:=?_)))))))))
 refine fin_ret () (vs := [_, _]) (Cs := []) rfl (.tmp rfl (.tmp rfl .nil)) rfl trivial ?_
 refine ent_ex (.pointer (some ⟨p, 0, none⟩)) ?_
 refine ent_ex (.slice a14 (0 + s.length) c14) ?_
 refine ent_al ?_
 refine ent_pu ⟨.inr rfl, fun e => by omega⟩ ?_
 rw [Nat.zero_add, List.nil_append]
 exact ent_pick
def joinB : List Bs → Bs
 | [] => []
 | x :: r => x ++ argsB r
def sumL (l : List Bs) (j : Nat) : Nat := ((l.take j).map List.length).sum
theorem sumL_succ {l : List Bs} {j : Nat} (h : j < l.length) : sumL l (j + 1) = sumL l j + (l.getD j []).length := by
 rw [sumL, sumL, List.take_succ_eq_append_getElem h, List.map_append, List.sum_append]
 simp [h]
theorem argsB_len (l : List Bs) : (argsB l).length = l.length + sumL l l.length := by
 simp only [sumL, List.take_length]
 induction l with
 | nil => rfl
 | cons a l ih => rw [argsB_cons, List.length_cons, List.length_append, ih, List.map_cons, List.sum_cons, List.length_cons]; omega
theorem sumL_le {l : List Bs} {j : Nat} : sumL l j ≤ sumL l l.length := by
 simp only [sumL, List.take_length]
 conv => rhs; rw [← List.take_append_drop j l]
 rw [List.map_append, List.sum_append]
 omega
theorem argsB_take {l : List Bs} {j : Nat} (h : j < l.length) : argsB (l.take (j + 1)) = argsB (l.take j) ++ (32 :: l.getD j []) := by
 rw [List.take_succ_eq_append_getElem h, argsB_app]; simp [argsB, h]
set_option maxHeartbeats 1000000 in
theorem strings_Join_sp {a : Option Addr} (c : Nat) (x : Bs) (rest : List Bs) (hx : x ≠ []) (hl : rest.length ≤ 1073741824) (ht : x.length + (argsB rest).length ≤ 1099511627776) :
    Sp1 Tryz.prog 129 [.slice a (rest.length + 1) c, vS [32]] [Row 9 1 (.slice a (rest.length + 1) c) (rest.length + 1) ((x :: rest).map vS)] (vS (joinB (x :: rest))) [] := by
 have hp := List.length_pos_iff.2 hx
 obtain ⟨l, hll⟩ : ∃ l, l = x :: rest := ⟨_, rfl⟩
 have hln : l.length = rest.length + 1 := by rw [hll]; rfl
 have hal : (argsB l).length = l.length + sumL l l.length := argsB_len l
 have hal2 : (argsB l).length = 1 + (x.length + (argsB rest).length) := by rw [hll, argsB_cons, List.length_cons, List.length_append]; omega
 rw [← hll]
 have h0 : (l.map vS)[0]? = some (vS x) := by rw [hll]; rfl
 have hdr : (l.map vS).drop 1 = rest.map vS := by rw [hll]; rfl
 refine Sp.body (n := 75) Tryz.call129 Tryz.func129 rfl rfl rfl ?_
 refine wc_know (A := Row 9 1 (.slice a (rest.length + 1) c) (rest.length + 1) (l.map vS)) HasC.get row_know (fun hk => ?_)
 obtain ⟨hk1, _, hk3⟩ := hk
 refine Za (k:=Zr (k:=Vv (k:=Wq (Za (k:=Za (k:=Zr (k:=Vv (k:=Vv (k:=Wq (Zb (k:=Za (k:=?_))))))))))))
 refine Zr (k:=Vv (k:=Vv (k:=Wq (Zi (t:=fun h13 => ?_) (f:=fun h13 => ?_)))))
 ·
  omega
  --done
 ·
  refine Za (k:=Zr (k:=Vv (k:=Vv (k:=Wq (Zi (t:=fun h15 => ?_) (f:=fun h15 => ?_))))))
  ·
   refine Za (k:=Zr (k:=Vv (k:=Ye 1 (m := 0) (k:=?_))))
   refine r_eload Tryz.underlying9 rfl rfl h0 rfl ?_
   refine Vv (k:=Wq (Zt (k:=Vb (Va ?_))))
   have hr : rest = [] := List.eq_nil_of_length_eq_zero (by omega)
   refine fin_ret () (vs := [_]) (Cs := []) rfl (.tmp rfl .nil) ?_ trivial ent_nil
   rw [hll, hr, joinB, argsB_nil, List.append_nil]; rfl
  ·
   refine Zk (k:=Yb (Ya (Za (k:=Zr (k:=Vv (k:=Wq (Za (k:=Za (k:=Zr (k:=Vv (k:=Vv (k:=?_))))))))))))
   refine Vv (k:=Wq (Zi (t:=fun h22 => ?_) (f:=fun h22 => ?_)))
   ·
    refine Za (k:=Za (k:=Zr (k:=Vv (k:=Vv (k:=?_)))))
    rw [show (([32] : Bs).length : Int) = 1 from rfl]
    refine Vv (k:=Vv (k:=Vv (k:=Vv (k:=Vv (k:=Wq (Zi (t:=fun h29 => ?_) (f:=fun h29 => ?_)))))))
    ·
     have hq : 2 ≤ (9223372036854775807 : Int) / (((rest.length + 1 : Nat) : Int) - 1) := Int.le_ediv_of_mul_le (by omega) (by omega)
     omega
     --done
    ·
     refine Zk (k:=Ya (Zr (k:=Vv (k:=Vv (k:=Vv (k:=?_))))))
     rw [show (([32] : Bs).length : Int) = 1 from rfl]
     refine Vv (k:=Vv (k:=Vv (k:=Vv (k:=Vv (k:=Vv (k:=Wq (Za (k:=Za (k:=Zr (k:=Vv (k:=Vv (k:=?_))))))))))))
     refine Vv (k:=Wq (Zb (k:=?_)))
     refine p_loop (fun (i : { j : Nat // j ≤ l.length }) => [(0, .slice a (rest.length + 1) c), (1, vS [32]), (5, vI ((rest.length + sumL l i.1 : Nat) : Int)), (39, .slice a (rest.length + 1) c), (40, vI ((rest.length + 1 : Nat) : Int)), (41, vI i.1)]) (fun (i : { j : Nat // j ≤ l.length }) => [Row 9 1 (.slice a (rest.length + 1) c) (rest.length + 1) (l.map vS)]) (fun (i : { j : Nat // j ≤ l.length }) => l.length - i.1) rfl (⟨0, Nat.zero_le _⟩) ?_ ?_ (fun i => ?_)
     · exact ⟨rfl, rfl, vI_eq (by simp only [sumL, List.take_zero, List.map_nil, List.sum_nil]; omega), rfl, rfl, rfl, trivial⟩
     ·
      exact ent_pick
     obtain ⟨j, hj⟩ := i
     dsimp only
     have hsj := sumL_le (l := l) (j := j)
     try dsimp only
     refine Za (k:=Zr (k:=Vv (k:=Wq (Za (k:=Zi (t:=fun h42 => ?_) (f:=fun h42 => ?_))))))
     ·
      refine Zk (k:=Ya (Za (k:=Zb (k:=Za (k:=?_)))))
      have hjl : j < l.length := by omega
      have hss := sumL_succ hjl
      have hsj1 := sumL_le (l := l) (j := j + 1)
      refine Zr (k:=Ye 1 (k:=?_))
      refine r_eload Tryz.underlying9 rfl rfl (get_mapD [] hjl) rfl ?_
      refine Vv (k:=Wq (Za (k:=Za (k:=Zr (k:=Vv (k:=Vv (k:=Vv (k:=Vv (k:=Vv (k:=Wq (Zi (t:=fun h49 => ?_) (f:=fun h49 => ?_))))))))))))
      ·
       omega
       --done
      ·
       refine Zk (k:=Ya (Zr (k:=Vv (k:=Vv (k:=Vv (k:=Vv (k:=Vv (k:=Wn (Yb (Ya (Zr (k:=?_))))))))))))
       refine Vv (k:=Vv (k:=Wn ?_))
       refine to_inv ⟨j + 1, by omega⟩ (by dsimp only; omega) ⟨rfl, rfl, vI_eq (by dsimp only; omega), rfl, rfl, rfl, trivial⟩ ent_pick
     ·
      refine Ze (k:=Xa (Xi (Xb (Ya (Za (k:=?_))))))
      have hjl : j = l.length := by omega
      subst hjl
      refine Zr (k:=Zc [.pointer none, .slice none 0 0] (k:=fun b8 => Wq (Za (k:=Zr (k:=Vv (k:=?_))))))
      refine r_call1 (Builder_Grow_sp b8 (rest.length + sumL l l.length) (by omega) (by omega)) rfl rfl rfl ?_
      refine Wq (Za (k:=Zr (k:=Vv (k:=Ye 1 (m := 0) (k:=?_)))))
      refine r_eload Tryz.underlying9 rfl rfl h0 rfl ?_
      refine r_call1 (WriteStringG_sp b8 x hx (by omega)) rfl rfl rfl ?_
      refine Wq (Za (k:=Za (k:=Zr (k:=Vv (k:=?_)))))
      refine wo_pv (pv_slslice_froma (m := 1) (kk := 1) Tryz.underlying27 ti9 rfl rfl rfl rfl rfl (by omega) hk1 hk3) rfl ?_
      haveI hrd : RdSl (fromA a 1 c 1) (rest.map vS) [Row 9 1 (.slice a (rest.length + 1) c) (rest.length + 1) (l.map vS)] := ⟨⟨_, by rw [← hdr]; exact sla_from (m := 1) (kk := 1) (Nat.mul_one 1) (by omega), .here⟩⟩
      refine Vv (k:=Vv (k:=Wq (Zb (k:=?_))))
      refine p_loop (fun (i : { j : Nat // j ≤ rest.length }) => [(1, vS [32]), (8, .pointer (some ⟨b8, 0, none⟩)), (63, .slice (fromA a 1 c 1) rest.length (c - 1)), (64, vI rest.length), (65, vI i.1)]) (fun (i : { j : Nat // j ≤ rest.length }) => [IsB b8 (x ++ argsB (rest.take i.1)), Row 9 1 (.slice a (rest.length + 1) c) (rest.length + 1) (l.map vS)]) (fun (i : { j : Nat // j ≤ rest.length }) => rest.length - i.1) rfl (⟨0, Nat.zero_le _⟩) ?_ ?_ (fun i => ?_)
      · exact ⟨rfl, rfl, rfl, rfl, rfl, trivial⟩
      ·
       dsimp only
       rw [List.take_zero, argsB_nil, List.append_nil]
       exact ent_pick
      obtain ⟨j, hj⟩ := i
      dsimp only
      try dsimp only
      refine Za (k:=Zr (k:=Vv (k:=Wq (Za (k:=Zi (t:=fun h66 => ?_) (f:=fun h66 => ?_))))))
      ·
       refine Zk (k:=Ya (Za (k:=Zb (k:=Za (k:=?_)))))
       have hjl : j < rest.length := by omega
       have hat := argsB_take hjl
       have hlt : (argsB (rest.take (j + 1))).length ≤ (argsB rest).length := by
        conv => rhs; rw [← List.take_append_drop (j + 1) rest, argsB_app, List.length_append]
        omega
       have hlt2 := congrArg List.length hat
       rw [List.length_append, List.length_cons] at hlt2
       refine Zr (k:=?_)
       refine r_elemAddr (sz := 1) Tryz.underlying27 ti9 rfl rfl rfl rfl (by omega) (by rw [List.length_map]; omega) (Nat.mul_one _) rfl ?_
       refine r_eload Tryz.underlying9 rfl rfl (get_mapD [] hjl) rfl ?_
       refine Vv (k:=Wq (Za (k:=Zr (k:=Vv (k:=?_)))))
       refine r_call1 (WriteString_sp b8 (x ++ argsB (rest.take j)) [32] (by rw [List.length_append, List.length_singleton]; omega)) rfl rfl rfl ?_
       refine Wq (Zr (k:=Vv (k:=?_)))
       refine r_call1 (WriteString_sp b8 (x ++ argsB (rest.take j) ++ [32]) (rest.getD j []) (by rw [List.length_append, List.length_append, List.length_singleton]; omega)) rfl rfl rfl ?_
       refine Wn (Yb (Ya (Zr (k:=Vv (k:=Vv (k:=Wn ?_))))))
       refine to_inv ⟨j + 1, by omega⟩ (by dsimp only; omega) ⟨rfl, rfl, rfl, rfl, rfl, trivial⟩ ?_
       dsimp only
       rw [hat, show x ++ (argsB (rest.take j) ++ 32 :: rest.getD j []) = x ++ argsB (rest.take j) ++ [32] ++ rest.getD j [] from by simp]
       exact ent_pick
      ·
       refine Ze (k:=Xa (Xi (Xb (Ya (Za (k:=?_))))))
       have hjl : j = rest.length := by omega
       subst hjl
       rw [List.take_length]
       refine Zr (k:=?_)
       refine r_call1 (String_sp b8 (x ++ argsB rest) (by rw [List.length_append]; omega)) rfl rfl rfl ?_
       refine Vv (k:=Wq (Zt (k:=?_)))
       refine fin_ret () (vs := [_]) (Cs := []) rfl (.tmp rfl .nil) (by rw [hll]; rfl) trivial ent_nil
   ·
    simp at h22
    --done
end Go.Proofs.YtibccdcemcgkeaaGreat
end
section
set_option maxRecDepth 100000
namespace Go.Proofs.YtibccdcemcgkeaaGreat
/-- A card in memory. -/
structure CdV where
 l : UInt8
 a : Option Addr
 c : Nat
 args : List Bs
def CdV.cells (q : CdV) : List Value := [vU q.l.toNat, .slice q.a q.args.length q.c]
def CdV.cd (q : CdV) : Cd := ⟨q.l, q.args⟩
def cdsOf (qs : List CdV) : List Cd := qs.map CdV.cd
/-- What some cards point at: it never turns. -/
def CdM (qs : List CdV) : HP := ⟨fun M _ => ∀ q ∈ qs, (SlI q.a (q.args.map vS)).at_ M Res.emp ∧ q.args.length ≤ q.c, fun le h q hq => ⟨(SlI q.a (q.args.map vS)).mono le (h q hq).1, (h q hq).2⟩⟩
theorem cdm_cap {qs : List CdV} {M : Kn} {h : Res} (x : (CdM qs).at_ M h) : ∀ q ∈ qs, q.args.length ≤ q.c := fun q hq => (x q hq).2
theorem CdM.pers (qs : List CdV) : Pers (CdM qs) := fun e => e
instance {qs : List CdV} : PersC (CdM qs) := ⟨CdM.pers qs⟩
theorem ent_cd {qs : List CdV} {q : CdV} {Hs : List HP} (h : q ∈ qs) (hp : Has (CdM qs) Hs) : Ent Hs (SlI q.a (q.args.map vS) :: Hs) := ⟨fun {M g} s => by
 obtain ⟨h1, _, a⟩ := hp.sat s
 exact ⟨Res.emp, g, Res.emp_dj _, rfl, (a q h).1, s⟩⟩
theorem ent_cdm_nil {Hs : List HP} : Ent Hs (CdM [] :: Hs) := ⟨fun {M g} s => ⟨Res.emp, g, Res.emp_dj _, rfl, (fun q hq => by cases hq), s⟩⟩
theorem ent_cdm_snoc {qs : List CdV} {q : CdV} {Hs : List HP} (hp : Has (CdM qs) Hs) (hq : Has (SlI q.a (q.args.map vS)) Hs) (hc : q.args.length ≤ q.c) : Ent Hs (CdM (qs ++ [q]) :: Hs) := ⟨fun {M g} s => by
 obtain ⟨h1, _, a⟩ := hp.sat s
 obtain ⟨h2, _, b⟩ := hq.sat s
 refine ⟨Res.emp, g, Res.emp_dj _, rfl, fun x hx => ?_, s⟩
 rcases List.mem_append.1 hx with hx | hx
 · exact a x hx
 · rw [List.mem_singleton.1 hx]; exact ⟨b, hc⟩⟩
theorem ent_cdm_sub {qs rs : List CdV} {Hs : List HP} (hp : Has (CdM qs) Hs) (h : ∀ q ∈ rs, q ∈ qs) : Ent Hs (CdM rs :: Hs) := ⟨fun {M g} s => by
 obtain ⟨h1, _, a⟩ := hp.sat s
 exact ⟨Res.emp, g, Res.emp_dj _, rfl, fun x hx => a x (h x hx), s⟩⟩
theorem ent_cdm_app {qs rs : List CdV} {Hs : List HP} (hp : Has (CdM qs) Hs) (hq : Has (CdM rs) Hs) : Ent Hs (CdM (qs ++ rs) :: Hs) := ⟨fun {M g} s => by
 obtain ⟨h1, _, a⟩ := hp.sat s
 obtain ⟨h2, _, b⟩ := hq.sat s
 refine ⟨Res.emp, g, Res.emp_dj _, rfl, fun x hx => ?_, s⟩
 rcases List.mem_append.1 hx with hx | hx
 · exact a x hx
 · exact b x hx⟩
theorem get_field {α : Type} {f : α → List Value} {sz : Nat} (hf : ∀ x, (f x).length = sz) {l : List α} {m k : Nat} (hk : k < sz) (h : m < l.length) : (l.flatMap f)[m * sz + k]? = (f l[m])[k]? := by
 rw [← get_flat hf h, List.getElem?_take_of_lt hk, List.getElem?_drop]
theorem cdget {qs : List CdV} {j : Nat} (h : j < qs.length) : (qs.flatMap CdV.cells)[2 * j]? = some (vU (qs[j].l.toNat : Int)) ∧ (qs.flatMap CdV.cells)[2 * j + 1]? = some (.slice qs[j].a qs[j].args.length qs[j].c) := by
 constructor
 · have := get_field (f := CdV.cells) (sz := 2) (fun _ => rfl) (k := 0) (by decide) h; rw [Nat.mul_comm]; exact this
 · have := get_field (f := CdV.cells) (sz := 2) (fun _ => rfl) (k := 1) (by decide) h; rw [Nat.mul_comm]; exact this
theorem slices_Index_sp {B : HP} {a : Option Addr} (n c : Nat) (l : List Bs) (x : Bs) (sh : SlA B a (l.map vS)) (hn : l.length = n) (hb : n ≤ 140737488355328) :
    Sp Tryz.prog 199 [.slice a n c, vS x] [B] (X := Int) (fun i => vI i) (fun i => (0 ≤ i ↔ x ∈ l)) (fun _ => [B]) := by
 subst hn
 haveI : RdSl a (l.map vS) [B] := ⟨⟨B, sh, .here⟩⟩
 refine Sp.body (n := 19) Tryz.call199 Tryz.func199 rfl rfl rfl ?_
 refine Za (k:=Zr (k:=Vv (k:=Wq (Za (k:=Za (k:=Zr (k:=Vv (k:=Vv (k:=Vv (k:=Wq (Zb (k:=?_))))))))))))
 refine p_loop (fun (i : { j : Nat // j ≤ l.length ∧ x ∉ l.take j }) => [(0, .slice a l.length c), (1, vS x), (6, .slice a l.length c), (7, vI l.length), (8, vI i.1)]) (fun (i : { j : Nat // j ≤ l.length ∧ x ∉ l.take j }) => [B]) (fun (i : { j : Nat // j ≤ l.length ∧ x ∉ l.take j }) => l.length - i.1) rfl (⟨0, Nat.zero_le _, by simp⟩) ?_ ?_ (fun i => ?_)
 · exact ⟨rfl, rfl, rfl, rfl, rfl, trivial⟩
 ·
  exact ent_pick
 obtain ⟨j, hj, hx⟩ := i
 dsimp only
 try dsimp only
 refine Za (k:=Zr (k:=Vv (k:=Wq (Za (k:=Zi (t:=fun h9 => ?_) (f:=fun h9 => ?_))))))
 ·
  refine Zk (k:=Ya (Za (k:=Zb (k:=Za (k:=Zr (k:=Vv (k:=Vv (k:=Wq (Za (k:=?_))))))))))
  have hjl : j < l.length := by omega
  have hg : l.getD j [] = l[j] := by simp [hjl]
  refine Zr (k:=Vv (k:=Vv (k:=Vv (k:=Ye 1 (k:=?_)))))
  refine r_eload Tryz.underlying9 rfl rfl (get_mapD [] hjl) rfl ?_
  refine Vv (k:=Wq (Zi (t:=fun h16 => ?_) (f:=fun h16 => ?_)))
  ·
   refine Za (k:=Zr (k:=Vv (k:=Vv (k:=Wq (Zt (k:=Vb (Va (Vi (Vb (Va ?_))))))))))
   refine fin_ret (j : Int) (vs := [_]) (Cs := []) rfl (.tmp rfl .nil) rfl ⟨fun _ => ?_, fun _ => by omega⟩ ent_pick
   have : x = l[j] := by rw [← hg]; simpa using h16
   rw [this]; exact List.getElem_mem _
  ·
   refine Zk (k:=Yb (Ya (Zr (k:=Vv (k:=Vv (k:=Wn ?_))))))
   refine to_inv ⟨j + 1, by omega, ?_⟩ (by dsimp only; omega) ⟨rfl, rfl, rfl, rfl, rfl, trivial⟩ ent_pick
   rw [List.take_succ_eq_append_getElem hjl]
   simp only [List.mem_append, List.mem_singleton, not_or]
   exact ⟨hx, fun e => h16 (by rw [hg, e])⟩
 ·
  refine Ze (k:=Xa (Xi (Xb (Ya (Za (k:=Zr (k:=Vv (k:=Wq (Zt (k:=?_))))))))))
  refine fin_ret (-1) (vs := [_]) (Cs := []) rfl (.tmp rfl .nil) rfl ⟨fun h => by omega, fun h => ?_⟩ ent_pick
  rw [List.take_of_length_le (by omega)] at hx
  exact absurd h hx
theorem slices_Contains_sp {B : HP} {a : Option Addr} (n c : Nat) (l : List Bs) (x : Bs) (sh : SlA B a (l.map vS)) (hn : l.length = n) (hb : n ≤ 140737488355328) :
    Sp1 Tryz.prog 174 [.slice a n c, vS x] [B] (vB (decide (x ∈ l))) [B] := by
 refine Sp.body (n := 9) Tryz.call174 Tryz.func174 rfl rfl rfl ?_
 refine Za (k:=Zr (k:=Vv (k:=Wq (Za (k:=Zr (k:=Vv (k:=Vv (k:=?_))))))))
 refine r_callX (slices_Index_sp n c l x sh hn hb) rfl rfl rfl (fun i hi => ?_)
 refine Vv (k:=Vv (k:=Wq (Zt (k:=?_))))
 refine fin_ret () (vs := [_]) (Cs := []) rfl (.tmp rfl .nil) ?_ trivial ent_pick
 rw [← decide_eq_decide.2 hi]; rfl
theorem card_Of_sp (a : Option Addr) (n cap : Nat) (c : UInt8) : Sp Tryz.prog 71 [.slice a n cap, vU c.toNat] [] (X := Nat × Nat) (fun b => .func (.func 119) #[] #[.pointer (some ⟨b.1, 0, none⟩), .pointer (some ⟨b.2, 0, none⟩)]) (fun _ => True) (fun b => [Ce b.1 119 [.slice a n cap], Ce b.2 5 [vU c.toNat]]) := by
 refine Sp.body (n := 6) Tryz.call71 Tryz.func71 rfl rfl rfl ?_
 refine Za (k:=Zr (k:=Zx [_] (k:=fun b2 => Zx [_] (k:=fun b3 => Vv (k:=Wq (Za (k:=Zr (k:=Vv (k:=Vv (k:=Wq (Zt (k:=?_))))))))))))
 refine fin_ret (b2, b3) (vs := [_]) (Cs := []) rfl (.tmp rfl .nil) rfl trivial ?_
 exact ent_pick
def ofL (c : UInt8) : List CdV → Nat → List (Nat × CdV)
 | [], _ => []
 | q :: r, i => if q.l = c then (i, q) :: ofL c r (i + 1) else ofL c r (i + 1)
theorem ofL_app (c : UInt8) (l m : List CdV) (i : Nat) : ofL c (l ++ m) i = ofL c l i ++ ofL c m (i + l.length) := by
 induction l generalizing i with
 | nil => rfl
 | cons q l ih =>
   simp only [List.cons_append, ofL, ih, List.length_cons, show i + 1 + l.length = i + (l.length + 1) from by omega]
   split <;> simp
theorem ofL_take {c : UInt8} {qs : List CdV} {j : Nat} (h : j < qs.length) : ofL c (qs.take (j + 1)) 0 = ofL c (qs.take j) 0 ++ (if qs[j].l = c then [(j, qs[j])] else []) := by
 rw [List.take_succ_eq_append_getElem h, ofL_app, List.length_take]
 have : 0 + min j qs.length = j := by omega
 rw [this]
 simp only [ofL]
theorem ofL_mem {c : UInt8} {qs : List CdV} {i : Nat} {p : Nat × CdV} (h : p ∈ ofL c qs i) : p.2 ∈ qs ∧ p.2.l = c := by
 induction qs generalizing i with
 | nil => cases h
 | cons q r ih =>
   simp only [ofL] at h
   split at h
   · rcases List.mem_cons.1 h with rfl | h
     · rename_i e; exact ⟨by simp, e⟩
     · have := ih h; exact ⟨by simp [this.1], this.2⟩
   · have := ih h; exact ⟨by simp [this.1], this.2⟩
theorem ofL_args {c : UInt8} (qs : List CdV) (i : Nat) : (ofL c qs i).map (fun p => p.2.args) = ((cdsOf qs).filter (fun x => x.l = c)).map (·.args) := by
 induction qs generalizing i with
 | nil => rfl
 | cons q r ih =>
   simp only [ofL, cdsOf, List.map_cons, List.filter_cons]
   have e : q.cd.l = q.l := rfl
   by_cases h : q.l = c
   · rw [if_pos h, e, if_pos (by simp [h]), List.map_cons, List.map_cons, ih]; rfl
   · rw [if_neg h, e, if_neg (by simp [h]), ih]; rfl
abbrev okO (c : UInt8) (qs : List CdV) : List (Nat × CdV) → Nat × CdV → Prop := fun pre x => ∃ r, ofL c qs 0 = pre ++ x :: r
abbrev stopO (c : UInt8) (qs : List CdV) : List (Nat × CdV) → Prop := fun pre => ∃ r, ofL c qs 0 = pre ++ r
abbrev encO (p : Nat × CdV) : List Value := [vI p.1, .slice p.2.a p.2.args.length p.2.c]
theorem ofL_split {c : UInt8} {qs : List CdV} {j : Nat} (h : j < qs.length) : ∃ r, ofL c qs 0 = ofL c (qs.take (j + 1)) 0 ++ r := by
 conv => enter [1, r, 1]; rw [← List.take_append_drop (j + 1) qs, ofL_app]
 exact ⟨_, rfl⟩
theorem card_Of_it {B : HP} {a : Option Addr} (n cap b2 b3 : Nat) (qs : List CdV) (c : UInt8) (sh : SlA B a (qs.flatMap CdV.cells)) (hn : qs.length = n) (hb : n ≤ 140737488355328) :
    Iter Tryz.prog 119 [.pointer (some ⟨b2, 0, none⟩), .pointer (some ⟨b3, 0, none⟩)] encO (okO c qs) (stopO c qs) [Ce b2 119 [.slice a n cap], Ce b3 5 [vU c.toNat], B] [Ce b2 119 [.slice a n cap], Ce b3 5 [vU c.toNat], B] (ofL c qs 0) (fun _ => .tuple #[]) := by
 intro y J Jx ys
 subst hn
 haveI : RdSl a (qs.flatMap CdV.cells) [B] := ⟨⟨B, sh, .here⟩⟩
 refine Sp.body (n := 26) Tryz.call119 Tryz.func119 rfl rfl rfl ?_
 refine Za (k:=Zr (k:=Zd (k:=Vv (k:=Vv (k:=Wq (Zb (k:=?_)))))))
 refine p_loop (fun (i : { j : Nat // j ≤ qs.length }) => [(0, y), (1, .pointer (some ⟨b2, 0, none⟩)), (2, .pointer (some ⟨b3, 0, none⟩)), (6, .slice a qs.length cap), (7, vI qs.length), (8, vI i.1)]) (fun (i : { j : Nat // j ≤ qs.length }) => [J (ofL c (qs.take i.1) 0), Ce b2 119 [.slice a qs.length cap], Ce b3 5 [vU c.toNat], B]) (fun (i : { j : Nat // j ≤ qs.length }) => qs.length - i.1) rfl (⟨0, Nat.zero_le _⟩) ?_ ?_ (fun i => ?_)
 · exact ⟨rfl, rfl, rfl, rfl, rfl, rfl, trivial⟩
 ·
  exact Ent.refl _
 obtain ⟨j, hj⟩ := i
 dsimp only
 try dsimp only
 refine Za (k:=Zr (k:=Vv (k:=Wq (Za (k:=Zi (t:=fun h9 => ?_) (f:=fun h9 => ?_))))))
 ·
  refine Zk (k:=Ya (Za (k:=Zb (k:=Za (k:=?_)))))
  have hjl : j < qs.length := by omega
  have htk := ofL_take (c := c) hjl
  obtain ⟨rr, hrr⟩ := ofL_split (c := c) hjl
  refine Zr (k:=Vv (k:=Ye 2 (k:=?_)))
  refine r_eloada (vs := [_, _]) (sz := 2) Tryz.underlying133 rfl ti133 rfl rfl (by rw [flat_len (sz := 2) (fun _ => rfl)]; omega) rfl (by refine get_flat (fun x => ?_) ?_ <;> first | rfl | omega) rfl ?_
  refine Zc [.int .u8 0, .slice none 0 0] (k:=fun b5 => Vv (k:=Zp (k:=Wq (Za (k:=Zr (k:=Vf 0 5 (k:=Zd (k:=Zd (k:=Vv (k:=Vv (k:=Gi 4 (t:=fun h17 => ?_) (f:=fun h17 => ?_))))))))))))
  ·
   have hlc : qs[j].l = c := u8eq.2 (by omega)
   rw [if_pos hlc] at htk
   refine I1 (k:=Vv (k:=I1 (k:=Vv (k:=I1 (k:=Vf 1 27 (k:=I1 (k:=Zd (k:=I1 (k:=?_)))))))))
   refine r_yield ys (ofL c (qs.take j) 0) (j, qs[j]) ⟨rr, by rw [hrr, htk, List.append_assoc]; rfl⟩ rfl rfl rfl ?_ ?_
   ·
    refine I1 (k:=Vv (k:=P1 (k:=Wq (Z0 (k:=Zk (k:=Yb (Ya (Zr (k:=Vv (k:=Vv (k:=Wn ?_)))))))))))
    refine to_inv ⟨j + 1, by omega⟩ (by dsimp only; omega) ⟨rfl, rfl, rfl, rfl, rfl, rfl, trivial⟩ ?_
    dsimp only
    rw [htk]
    exact ent_pick
   ·
    refine I1 (k:=Vv (k:=P1 (k:=Wq (Z1 (k:=Zt (k:=Vb (Va (Vi (Vb ?_)))))))))
    refine fin_ret (some (ofL c (qs.take (j + 1)) 0)) (vs := []) (Cs := []) rfl .nil rfl (fun p e => by cases e; exact ⟨rr, hrr⟩) ?_
    simp only [endsAt]
    rw [htk]
    exact ent_pick
  ·
   have hlc : ¬ qs[j].l = c := fun e => h17 (by rw [e])
   rw [if_neg hlc, List.append_nil] at htk
   refine O0 (k:=O0 (k:=O0 (k:=O0 (k:=O0 (k:=O0 (k:=P0 (k:=Wq (Z0 (k:=Zk (k:=Yb (Ya ?_)))))))))))
   refine Zr (k:=Vv (k:=Vv (k:=Wn ?_)))
   refine to_inv ⟨j + 1, by omega⟩ (by dsimp only; omega) ⟨rfl, rfl, rfl, rfl, rfl, rfl, trivial⟩ ?_
   dsimp only
   rw [htk]
   exact ent_pick
 ·
  refine Ze (k:=Xa (Xi (Xb ?_)))
  have hjl : j = qs.length := by omega
  subst hjl
  rw [List.take_length]
  refine fin_end none (vs := []) (Cs := []) rfl .nil rfl (fun pre e => by cases e) ?_
  simp only [endsAt]
  exact ent_pick
def oneS (l : List (Nat × CdV)) : Value := match l with
 | [] => .slice none 0 0
 | p :: _ => .slice p.2.a p.2.args.length p.2.c
theorem card_One_sp {B : HP} {a : Option Addr} (n cap : Nat) (qs : List CdV) (c : UInt8) (sh : SlA B a (qs.flatMap CdV.cells)) (hn : qs.length = n) (hb : n ≤ 140737488355328) :
    Sp1 Tryz.prog 72 [.slice a n cap, vU c.toNat] [B] (.tuple #[oneS (ofL c qs 0), vI (ofL c qs 0).length]) [B] := by
 have hle : ∀ (l : List CdV) i, (ofL c l i).length ≤ l.length := by
  intro l
  induction l with
  | nil => intro i; exact Nat.le_refl _
  | cons q r ih => intro i; have := ih (i + 1); simp only [ofL, List.length_cons]; split <;> (try simp only [List.length_cons]) <;> omega
 have hl0 := hle qs 0
 refine Sp.body (n := 22) Tryz.call72 Tryz.func72 rfl rfl rfl ?_
 refine Za (k:=Zr (k:=Vv (k:=Vv (k:=Wq (Za (k:=Zr (k:=Zc [.slice none 0 0] (k:=fun b6 => Wq (Za (k:=Zr (k:=Zc [.int .i64 0] (k:=fun b7 => ?_))))))))))))
 refine Zo (k:=Wq (Za (k:=Za (k:=Zr (k:=Vv (k:=Vv (k:=?_)))))))
 refine r_callX (card_Of_sp a n cap c) rfl rfl rfl (fun x12 _ => ?_)
 refine Wq (Zb (k:=?_))
 refine p_rangeFunc (fun pre => [Ce b6 27 [oneS pre], Ce b7 3 [vI pre.length]]) (fun j pre => [Pu False]) rfl (card_Of_it n cap x12.1 x12.2 qs c sh hn hb) rfl (fun _ => by rfl) rfl ?_ (fun l pre q hok => ?_) ?_ (fun j pre hs => ?_)
 · (refine ent_app ?_; exact ent_step (ce_norm (by rfl) (by rfl)) (ent_step (ce_norm (by rfl) (by rfl)) ent_pick))
 ·
  obtain ⟨rr, hrr⟩ := hok
  have hpl := congrArg List.length hrr
  rw [List.length_append, List.length_cons] at hpl
  refine Zr (k:=Vv (k:=Wg (Zb (k:=Za (k:=Za (k:=Zr (k:=Zd (k:=Vv (k:=Wq (Zi (t:=fun h16 => ?_) (f:=fun h16 => ?_)))))))))))
  ·
   have hp0 : pre = [] := List.eq_nil_of_length_eq_zero (by omega)
   have e1 : oneS (pre ++ [q]) = .slice q.2.a q.2.args.length q.2.c := by rw [hp0]; rfl
   refine Zr (k:=Vv (k:=Zo (k:=Wq (Zr (k:=Zd (k:=Vv (k:=Zo (k:=Wn (Yb ?_)))))))))
   refine to_round ?_
   rw [e1, List.length_append, List.length_singleton]
   exact ent_step (ce_norm (by rfl) (by rfl)) (ent_step (ce_norm (by rfl) (by rfl)) ent_nil)
  ·
   have e1 : oneS (pre ++ [q]) = oneS pre := by
    cases pre with
    | nil => simp at h16
    | cons p r => rfl
   refine Zk (k:=Ya (Zr (k:=Zd (k:=Vv (k:=Zo (k:=Wn (Yb ?_)))))))
   refine to_round ?_
   rw [e1, List.length_append, List.length_singleton]
   exact ent_step (ce_norm (by rfl) (by rfl)) (ent_step (ce_norm (by rfl) (by rfl)) ent_nil)
 ·
  skip
  refine Yb (Ya (Za (k:=Dw [Ce b6 27 [oneS (ofL c qs 0)], Ce b7 3 [vI (ofL c qs 0).length]] (k:=?_))))
  refine Di 0 (t:=Ul) (k:=Di 1 (t:=Ul) (k:=Di 2 (t:=Uv) (k:=Di 3 (t:=Uv) (k:=Dd (k:=Ya (Zt (k:=?_)))))))
  refine fin_ret () (vs := [_, _]) (Cs := []) rfl (.tmp rfl (.tmp rfl .nil)) rfl trivial ?_
  exact ent_pick
 ·
  exact wc_no (fun s => by obtain ⟨_, _, _, _, a, _⟩ := s; exact a)
end Go.Proofs.YtibccdcemcgkeaaGreat
end
section
set_option maxRecDepth 100000
namespace Go.Proofs.YtibccdcemcgkeaaGreat
theorem card_sealed_sp (s : Bs) (hs : s.length ≤ 1099511627776) : SpF Tryz.prog 113 [vS s] (vS (sealB s)) := by
 have h40 := shaB_len s
 refine Sp.body (n := 9) Tryz.call113 Tryz.func113 rfl rfl rfl ?_
 refine Za (k:=Zr (k:=Vv (k:=Wq (Za (k:=Zr (k:=Vv (k:=Vv (k:=Vv (k:=?_)))))))))
 refine r_callF (hash_Sum_sp s hs) rfl rfl rfl ?_
 refine Vv (k:=Vv (k:=Vv (k:=Wq (Zt (k:=?_)))))
 refine fin_ret () (vs := [_]) (Cs := []) rfl (.tmp rfl .nil) ?_ trivial ent_nil
 rfl
theorem argsB_ge (l : List Bs) : l.length ≤ (argsB l).length := by rw [argsB_len]; omega
theorem bodyB_ge : ∀ (l : List Cd), l.length ≤ (bodyB l).length ∧ ∀ c ∈ l, (argsB c.args).length + 2 ≤ (bodyB l).length := by
 intro l
 induction l with
 | nil => exact ⟨Nat.zero_le _, fun c hc => by cases hc⟩
 | cons c l ih =>
   rw [bodyB_cons, List.length_append, List.length_cons, List.length_cons]
   have e : (lineB c).length = (argsB c.args).length + 1 := by simp [lineB]
   refine ⟨by omega, fun x hx => ?_⟩
   rcases List.mem_cons.1 hx with rfl | hx
   · omega
   · have := ih.2 x hx; omega
theorem cds_sizes {qs : List CdV} {N : Nat} (h : (bodyB (cdsOf qs)).length ≤ N) : qs.length ≤ N ∧ ∀ q ∈ qs, (argsB q.args).length ≤ N ∧ q.args.length ≤ N := by
 obtain ⟨h1, h2⟩ := bodyB_ge (cdsOf qs)
 have e0 : (cdsOf qs).length = qs.length := by simp [cdsOf]
 rw [e0] at h1
 refine ⟨by omega, fun q hq => ?_⟩
 have h3 := h2 q.cd (List.mem_map.2 ⟨q, hq, rfl⟩)
 have h4 := argsB_ge q.args
 have e : q.cd.args = q.args := rfl
 rw [e] at h3
 omega
theorem cds_getD {qs : List CdV} {j : Nat} (h : j < qs.length) : (cdsOf qs).getD j cd0 = qs[j].cd := by simp [cdsOf, h]
set_option maxHeartbeats 1000000 in
theorem card_Right_sp {B : HP} {a : Option Addr} (n cap : Nat) (qs : List CdV) (sh : SlA B a (qs.flatMap CdV.cells)) (hn : qs.length = n) (hz : (bodyB (cdsOf qs)).length ≤ 1073741824) :
    Sp1 Tryz.prog 128 [.slice a n cap] [B, CdM qs] (vB (decide (RightC (cdsOf qs)))) [B] := by
 subst hn
 obtain ⟨hb, hqa⟩ := cds_sizes hz
 haveI : RdSl a (qs.flatMap CdV.cells) [B, CdM qs] := ⟨⟨B, sh, .here⟩⟩
 haveI : RdSl a (qs.flatMap CdV.cells) [B] := ⟨⟨B, sh, .here⟩⟩
 obtain ⟨l, hl⟩ : ∃ l, l = cdsOf qs := ⟨_, rfl⟩
 have hll : l.length = qs.length := by rw [hl]; simp [cdsOf]
 rw [← hl]
 refine Sp.body (n := 59) Tryz.call128 Tryz.func128 rfl rfl rfl ?_
 refine Za (k:=Zr (k:=Vv (k:=Wq (Za (k:=Za (k:=Zr (k:=Vv (k:=Vv (k:=Vv (k:=Wq (Zb (k:=?_))))))))))))
 refine p_loop (fun (i : { j : Nat // j ≤ qs.length ∧ ∀ i, i < j → OkC l i }) => [(0, .slice a qs.length cap), (7, .slice a qs.length cap), (8, vI qs.length), (9, vI i.1)]) (fun (i : { j : Nat // j ≤ qs.length ∧ ∀ i, i < j → OkC l i }) => [B, CdM qs]) (fun (i : { j : Nat // j ≤ qs.length ∧ ∀ i, i < j → OkC l i }) => qs.length - i.1) rfl (⟨0, Nat.zero_le _, fun i h => by omega⟩) ?_ ?_ (fun i => ?_)
 · exact ⟨rfl, rfl, rfl, rfl, trivial⟩
 ·
  exact ent_pick
 obtain ⟨j, hj, hok⟩ := i
 dsimp only
 try dsimp only
 refine Za (k:=Zr (k:=Vv (k:=Wq (Za (k:=Zi (t:=fun h10 => ?_) (f:=fun h10 => ?_))))))
 ·
  refine Zk (k:=Ya (Za (k:=Zb (k:=Za (k:=?_)))))
  have hjl : j < qs.length := by omega
  have hlj : l.getD j cd0 = qs[j].cd := by rw [hl]; exact cds_getD hjl
  have hll1 : (l.getD j cd0).l.toNat = qs[j].l.toNat := by rw [hlj]; rfl
  have hfl : (qs.flatMap CdV.cells).length = qs.length * 2 := flat_len (f := CdV.cells) (sz := 2) (fun _ => rfl) qs
  refine Zr (k:=Vv (k:=Ye 2 (k:=?_)))
  refine r_eloada (vs := [_, _]) (sz := 2) Tryz.underlying133 rfl ti133 rfl rfl (by rw [flat_len (sz := 2) (fun _ => rfl)]; omega) rfl (by refine get_flat (fun x => ?_) ?_ <;> first | rfl | omega) rfl ?_
  refine Zc [.int .u8 0, .slice none 0 0] (k:=fun b4 => Vv (k:=Zp (k:=Wq (Za (k:=Za (k:=Dw [Ce b4 133 [vU (qs[j].l.toNat : Int), .slice qs[j].a qs[j].args.length qs[j].c], B] (k:=?_)))))))
  refine Di 0 (t:=Uf 0 5) (k:=Di 1 (t:=Ul) (k:=Di 2 (t:=Uv) (k:=Di 3 (t:=Uv) (k:=Gd 3 (t:=fun h17 => ?_) (f:=fun h17 => ?_)))))
  ·
   refine Di 4 (t:=Uo1) (k:=Di 5 (t:=Uo1) (k:=Di 6 (t:=Uo1) (k:=?_)))
   refine d_first 7 rfl rfl rfl (by kernel_rfl) (by kernel_rfl) (tl_pv (pv_pick_t rfl rfl)) ?_
   refine Di 8 (t:=Uv) (k:=Di 9 (t:=Uo1) (k:=Di 10 (t:=Uo1) (k:=Di 11 (t:=Uo1) (k:=Di 12 (t:=Uu) (k:=Di 13 (t:=Uu) (k:=Di 14 (t:=Uu) (k:=Di 15 (t:=Uu) (k:=Di 16 (t:=Uu) (k:=Di 17 (t:=Uu) (k:=Di 18 (t:=Uu) (k:=Di 19 (t:=Uu) (k:=?_))))))))))))
   refine Di 20 (t:=Uu) (k:=Di 21 (t:=Uo1) (k:=?_))
   refine d_first 22 rfl rfl rfl (by kernel_rfl) (by kernel_rfl) (tl_pv (pv_pick_t rfl rfl)) ?_
   refine Dd (k:=Ya (Z1 (k:=Za (k:=Zr (k:=Vv (k:=Wq (Zt (k:=Va (Vb (Va (Vi ?_)))))))))))
   refine Vb (Va ?_)
   have hn : ¬ OkC l j := fun ok => by
    have h1 := ok.lo
    have h2 := ok.hi
    have h3 := ok.rise
    first
    | omega
    | (have h4 := h3 (by omega); omega)
   refine fin_ret () (vs := [_]) (Cs := []) rfl (.tmp rfl .nil) ?_ trivial ent_pick
   rw [decide_eq_false (right_not (by omega) hn)]; rfl
  ·
   refine Di 4 (t:=U0 (h:=Uf 0 5)) (k:=Di 5 (t:=U0 (h:=Ul)) (k:=Di 6 (t:=U0 (h:=Uv)) (k:=?_)))
   refine d_first 7 rfl rfl rfl (by kernel_rfl) (by kernel_rfl) (tl_pv (pv_pick_f rfl rfl)) ?_
   refine Di 8 (t:=Uv) (k:=Gd 8 (t:=fun h22 => ?_) (f:=fun h22 => ?_))
   ·
    refine Di 9 (t:=Uo1) (k:=Di 10 (t:=Uo1) (k:=Di 11 (t:=Uo1) (k:=Di 12 (t:=Uu) (k:=Di 13 (t:=Uu) (k:=Di 14 (t:=Uu) (k:=Di 15 (t:=Uu) (k:=Di 16 (t:=Uu) (k:=Di 17 (t:=Uu) (k:=Di 18 (t:=Uu) (k:=Di 19 (t:=Uu) (k:=Di 20 (t:=Uu) (k:=?_))))))))))))
    refine Di 21 (t:=Uo1) (k:=?_)
    refine d_first 22 rfl rfl rfl (by kernel_rfl) (by kernel_rfl) (tl_pv (pv_pick_t rfl rfl)) ?_
    refine Dd (k:=Ya (Z1 (k:=Za (k:=Zr (k:=Vv (k:=Wq (Zt (k:=Va (Vb (Va (Vi ?_)))))))))))
    refine Vb (Va ?_)
    have hn : ¬ OkC l j := fun ok => by
     have h1 := ok.lo
     have h2 := ok.hi
     have h3 := ok.rise
     first
     | omega
     | (have h4 := h3 (by omega); omega)
    refine fin_ret () (vs := [_]) (Cs := []) rfl (.tmp rfl .nil) ?_ trivial ent_pick
    rw [decide_eq_false (right_not (by omega) hn)]; rfl
   ·
    refine Di 9 (t:=U0 (h:=Uv)) (k:=Di 10 (t:=U0 (h:=Uv)) (k:=Di 11 (t:=U0 (h:=Uv)) (k:=Gd 11 (t:=fun h25 => ?_) (f:=fun h25 => ?_))))
    ·
     have hlp : (l.getD (j - 1) cd0).l.toNat = qs[j - 1].l.toNat := by
      have e := cds_getD (show j - 1 < qs.length by omega)
      rw [← hl] at e
      rw [e]; rfl
     refine Di 12 (t:=U1 (h:=Uv)) (k:=Di 13 (t:=U1 (h:=Uv)) (k:=Di 14 (t:=U1 (h:=Uv)) (k:=?_)))
     refine d_first 15 rfl rfl rfl (by kernel_rfl) (by kernel_rfl) (tl_in (b := true) rfl (tl_elemAddr (sz := 2) (m := j - 1) (kk := 2 * (j - 1)) Tryz.underlying119 ti133 rfl rfl rfl (by omega) (by omega) (by omega) (Nat.mul_comm _ _))) ?_
     refine d_first 16 rfl rfl rfl (by kernel_rfl) (by kernel_rfl) (tl_in (b := true) rfl (tl_efield (kk := 2 * (j - 1)) Tryz.underlying133 rfl ti5 rfl rfl rfl rfl (by omega))) ?_
     refine d_first 17 rfl rfl rfl (by kernel_rfl) (by kernel_rfl) (tl_in (b := true) rfl (tl_eload Tryz.underlying5 rfl rfl (cdget (j := j - 1) (by omega)).1)) ?_
     refine Di 18 (t:=U1 (h:=Uf 0 5)) (k:=Di 19 (t:=U1 (h:=Ul)) (k:=Di 20 (t:=U1 (h:=Uv)) (k:=?_)))
     refine d_first 21 rfl rfl rfl (by kernel_rfl) (by kernel_rfl) (tl_in (b := false) rfl (tl_pv (pv_pick_t rfl rfl))) ?_
     refine d_first 22 rfl rfl rfl (by kernel_rfl) (by kernel_rfl) (tl_pv (pv_pick_f rfl rfl)) ?_
     refine Dd (k:=Ya (Zi (t:=fun h36 => ?_) (f:=fun h36 => ?_)))
     ·
      refine Za (k:=Zr (k:=Vv (k:=Wq (Zt (k:=Va (Vb (Va (Vi (Vb (Va ?_))))))))))
      have hn : ¬ OkC l j := fun ok => by
       have h1 := ok.lo
       have h2 := ok.hi
       have h3 := ok.rise
       first
       | omega
       | (have h4 := h3 (by omega); omega)
      refine fin_ret () (vs := [_]) (Cs := []) rfl (.tmp rfl .nil) ?_ trivial ent_pick
      rw [decide_eq_false (right_not (by omega) hn)]; rfl
     ·
      refine Zk (k:=Ya (Za (k:=Zr (k:=Vf 1 27 (k:=?_)))))
      refine wo_ent' (ent_cd (q := qs[j]) (List.getElem_mem hjl) HasC.get) ?_
      obtain ⟨q, hq⟩ : ∃ q, q = qs[j] := ⟨_, rfl⟩
      have hqal := (hqa qs[j] (List.getElem_mem hjl)).2
      rw [← hq] at hqal ⊢
      refine Zd (k:=Vv (k:=Vv (k:=Wq (Zb (k:=?_)))))
      refine p_loop (fun (i : { m : Nat // m ≤ q.args.length ∧ ∀ i, i < m → argOk (q.args.getD i []) }) => [(0, .slice a qs.length cap), (7, .slice a qs.length cap), (8, vI qs.length), (9, vI j), (38, .slice q.a q.args.length q.c), (39, vI q.args.length), (40, vI i.1)]) (fun (i : { m : Nat // m ≤ q.args.length ∧ ∀ i, i < m → argOk (q.args.getD i []) }) => [SlI q.a (q.args.map vS), B, CdM qs]) (fun (i : { m : Nat // m ≤ q.args.length ∧ ∀ i, i < m → argOk (q.args.getD i []) }) => q.args.length - i.1) rfl (⟨0, Nat.zero_le _, fun i h => by omega⟩) ?_ ?_ (fun i => ?_)
      · exact ⟨rfl, rfl, rfl, rfl, rfl, rfl, rfl, trivial⟩
      ·
       exact ent_pick
      obtain ⟨m, hm, hma⟩ := i
      dsimp only
      try dsimp only
      refine Za (k:=Zr (k:=Vv (k:=Wq (Za (k:=Zi (t:=fun h41 => ?_) (f:=fun h41 => ?_))))))
      ·
       refine Zk (k:=Ya (Za (k:=Zb (k:=Za (k:=Zr (k:=Ye 1 (k:=?_)))))))
       refine r_eload Tryz.underlying9 rfl rfl (get_mapD [] (by omega)) rfl ?_
       refine Vv (k:=Wq (Za (k:=?_)))
       obtain ⟨x, hx⟩ : ∃ x, x = q.args.getD m [] := ⟨_, rfl⟩
       have hxm : x ∈ (l.getD j cd0).args := by
        rw [hlj, ← hq, hx]
        show _ ∈ q.args
        have hmm : m < q.args.length := by omega
        simp [hmm]
       rw [← hx]
       refine Zr (k:=Vv (k:=Vv (k:=Vv (k:=Gi 2 (t:=fun h46 => ?_) (f:=fun h46 => ?_)))))
       ·
        refine O1 (k:=O1 (k:=P1 (k:=Vv (k:=O1 (k:=O1 (k:=P1 (k:=Wq (Z1 (k:=Za (k:=Zr (k:=Vv (k:=?_))))))))))))
        refine Wq (Zt (k:=Vb (Va (Vi (Vb (Vb (Va (Vi (Vb (Va ?_))))))))))
        have hn : ¬ OkC l j := fun ok => by
         obtain ⟨o1, o2, o3⟩ := ok.args x hxm
         simp_all
        refine fin_ret () (vs := [_]) (Cs := []) rfl (.tmp rfl .nil) ?_ trivial ent_pick
        rw [decide_eq_false (right_not (by omega) hn)]; rfl
       ·
        refine I0 (k:=Vv (k:=I0 (k:=?_)))
        refine r_callF (Contains_one_sp x 32) rfl rfl rfl ?_
        refine P0 (k:=Vv (k:=Gi 6 (t:=fun h50 => ?_) (f:=fun h50 => ?_)))
        ·
         refine O1 (k:=O1 (k:=P1 (k:=Wq (Z1 (k:=Za (k:=Zr (k:=Vv (k:=Wq (Zt (k:=Vb (Va ?_)))))))))))
         refine Vi (Vb (Vb (Va (Vi (Vb (Va ?_))))))
         have hn : ¬ OkC l j := fun ok => by
          obtain ⟨o1, o2, o3⟩ := ok.args x hxm
          simp_all
         refine fin_ret () (vs := [_]) (Cs := []) rfl (.tmp rfl .nil) ?_ trivial ent_pick
         rw [decide_eq_false (right_not (by omega) hn)]; rfl
        ·
         refine I0 (k:=Vv (k:=I0 (k:=?_)))
         refine r_callF (Contains_one_sp x 10) rfl rfl rfl ?_
         refine P0 (k:=Wq (Zi (t:=fun h53 => ?_) (f:=fun h53 => ?_)))
         ·
          refine Za (k:=Zr (k:=Vv (k:=Wq (Zt (k:=Vb (Va (Vi (Vb (Vb (Va (Vi ?_)))))))))))
          refine Vb (Va ?_)
          have hn : ¬ OkC l j := fun ok => by
           obtain ⟨o1, o2, o3⟩ := ok.args x hxm
           simp_all
          refine fin_ret () (vs := [_]) (Cs := []) rfl (.tmp rfl .nil) ?_ trivial ent_pick
          rw [decide_eq_false (right_not (by omega) hn)]; rfl
         ·
          refine Zk (k:=Yb (Ya (Zr (k:=Vv (k:=Vv (k:=Wn ?_))))))
          have hxo : argOk x := by
           refine ⟨?_, ?_, ?_⟩ <;> simp_all
          refine to_inv ⟨m + 1, by omega, fun i hi => ?_⟩ (by dsimp only; omega) ⟨rfl, rfl, rfl, rfl, rfl, rfl, rfl, trivial⟩ ent_pick
          by_cases he : i = m
          · rw [he, ← hx]; exact hxo
          · exact hma i (by omega)
      ·
       refine Ze (k:=Xa (Xi (Xb (Yb (Ya (Zr (k:=Vv (k:=Vv (k:=Wn ?_)))))))))
       have hokj : OkC l j := by
        refine ⟨by omega, by omega, fun h => by omega, fun x hx => ?_⟩
        rw [hlj, ← hq] at hx
        obtain ⟨i, hi, rfl⟩ := mem_getD (d := []) (show x ∈ q.args from hx)
        exact hma i (by omega)
       refine to_inv ⟨j + 1, by omega, fun i hi => ?_⟩ (by dsimp only; omega) ⟨rfl, rfl, rfl, rfl, trivial⟩ ent_pick
       by_cases he : i = j
       · rw [he]; exact hokj
       · exact hok i (by omega)
    ·
     refine Di 12 (t:=Uo0) (k:=Di 13 (t:=Uo0) (k:=Di 14 (t:=Uo0) (k:=Di 15 (t:=Uo0) (k:=Di 16 (t:=Uo0) (k:=Di 17 (t:=Uo0) (k:=Di 18 (t:=Uo0) (k:=Di 19 (t:=Uo0) (k:=Di 20 (t:=Uo0) (k:=?_)))))))))
     refine d_first 21 rfl rfl rfl (by kernel_rfl) (by kernel_rfl) (tl_in (b := false) rfl (tl_pv (pv_pick_f rfl rfl))) ?_
     refine d_first 22 rfl rfl rfl (by kernel_rfl) (by kernel_rfl) (tl_pv (pv_pick_f rfl rfl)) ?_
     refine Dd (k:=Ya (Z0 (k:=Zk (k:=Ya (Za (k:=Zr (k:=Vf 1 27 (k:=?_))))))))
     refine wo_ent' (ent_cd (q := qs[j]) (List.getElem_mem hjl) HasC.get) ?_
     obtain ⟨q, hq⟩ : ∃ q, q = qs[j] := ⟨_, rfl⟩
     have hqal := (hqa qs[j] (List.getElem_mem hjl)).2
     rw [← hq] at hqal ⊢
     refine Zd (k:=Vv (k:=Vv (k:=Wq (Zb (k:=?_)))))
     refine p_loop (fun (i : { m : Nat // m ≤ q.args.length ∧ ∀ i, i < m → argOk (q.args.getD i []) }) => [(0, .slice a qs.length cap), (7, .slice a qs.length cap), (8, vI qs.length), (9, vI j), (38, .slice q.a q.args.length q.c), (39, vI q.args.length), (40, vI i.1)]) (fun (i : { m : Nat // m ≤ q.args.length ∧ ∀ i, i < m → argOk (q.args.getD i []) }) => [SlI q.a (q.args.map vS), B, CdM qs]) (fun (i : { m : Nat // m ≤ q.args.length ∧ ∀ i, i < m → argOk (q.args.getD i []) }) => q.args.length - i.1) rfl (⟨0, Nat.zero_le _, fun i h => by omega⟩) ?_ ?_ (fun i => ?_)
     · exact ⟨rfl, rfl, rfl, rfl, rfl, rfl, rfl, trivial⟩
     ·
      exact ent_pick
     obtain ⟨m, hm, hma⟩ := i
     dsimp only
     try dsimp only
     refine Za (k:=Zr (k:=Vv (k:=Wq (Za (k:=Zi (t:=fun h41 => ?_) (f:=fun h41 => ?_))))))
     ·
      refine Zk (k:=Ya (Za (k:=Zb (k:=Za (k:=Zr (k:=Ye 1 (k:=?_)))))))
      refine r_eload Tryz.underlying9 rfl rfl (get_mapD [] (by omega)) rfl ?_
      refine Vv (k:=Wq (Za (k:=?_)))
      obtain ⟨x, hx⟩ : ∃ x, x = q.args.getD m [] := ⟨_, rfl⟩
      have hxm : x ∈ (l.getD j cd0).args := by
       rw [hlj, ← hq, hx]
       show _ ∈ q.args
       have hmm : m < q.args.length := by omega
       simp [hmm]
      rw [← hx]
      refine Zr (k:=Vv (k:=Vv (k:=Vv (k:=Gi 2 (t:=fun h46 => ?_) (f:=fun h46 => ?_)))))
      ·
       refine O1 (k:=O1 (k:=P1 (k:=Vv (k:=O1 (k:=O1 (k:=P1 (k:=Wq (Z1 (k:=Za (k:=Zr (k:=Vv (k:=?_))))))))))))
       refine Wq (Zt (k:=Vb (Va (Vi (Vb (Vb (Va (Vi (Vb (Va ?_))))))))))
       have hn : ¬ OkC l j := fun ok => by
        obtain ⟨o1, o2, o3⟩ := ok.args x hxm
        simp_all
       refine fin_ret () (vs := [_]) (Cs := []) rfl (.tmp rfl .nil) ?_ trivial ent_pick
       rw [decide_eq_false (right_not (by omega) hn)]; rfl
      ·
       refine I0 (k:=Vv (k:=I0 (k:=?_)))
       refine r_callF (Contains_one_sp x 32) rfl rfl rfl ?_
       refine P0 (k:=Vv (k:=Gi 6 (t:=fun h50 => ?_) (f:=fun h50 => ?_)))
       ·
        refine O1 (k:=O1 (k:=P1 (k:=Wq (Z1 (k:=Za (k:=Zr (k:=Vv (k:=Wq (Zt (k:=Vb (Va ?_)))))))))))
        refine Vi (Vb (Vb (Va (Vi (Vb (Va ?_))))))
        have hn : ¬ OkC l j := fun ok => by
         obtain ⟨o1, o2, o3⟩ := ok.args x hxm
         simp_all
        refine fin_ret () (vs := [_]) (Cs := []) rfl (.tmp rfl .nil) ?_ trivial ent_pick
        rw [decide_eq_false (right_not (by omega) hn)]; rfl
       ·
        refine I0 (k:=Vv (k:=I0 (k:=?_)))
        refine r_callF (Contains_one_sp x 10) rfl rfl rfl ?_
        refine P0 (k:=Wq (Zi (t:=fun h53 => ?_) (f:=fun h53 => ?_)))
        ·
         refine Za (k:=Zr (k:=Vv (k:=Wq (Zt (k:=Vb (Va (Vi (Vb (Vb (Va (Vi ?_)))))))))))
         refine Vb (Va ?_)
         have hn : ¬ OkC l j := fun ok => by
          obtain ⟨o1, o2, o3⟩ := ok.args x hxm
          simp_all
         refine fin_ret () (vs := [_]) (Cs := []) rfl (.tmp rfl .nil) ?_ trivial ent_pick
         rw [decide_eq_false (right_not (by omega) hn)]; rfl
        ·
         refine Zk (k:=Yb (Ya (Zr (k:=Vv (k:=Vv (k:=Wn ?_))))))
         have hxo : argOk x := by
          refine ⟨?_, ?_, ?_⟩ <;> simp_all
         refine to_inv ⟨m + 1, by omega, fun i hi => ?_⟩ (by dsimp only; omega) ⟨rfl, rfl, rfl, rfl, rfl, rfl, rfl, trivial⟩ ent_pick
         by_cases he : i = m
         · rw [he, ← hx]; exact hxo
         · exact hma i (by omega)
     ·
      refine Ze (k:=Xa (Xi (Xb (Yb (Ya (Zr (k:=Vv (k:=Vv (k:=Wn ?_)))))))))
      have hokj : OkC l j := by
       refine ⟨by omega, by omega, fun h => by omega, fun x hx => ?_⟩
       rw [hlj, ← hq] at hx
       obtain ⟨i, hi, rfl⟩ := mem_getD (d := []) (show x ∈ q.args from hx)
       exact hma i (by omega)
      refine to_inv ⟨j + 1, by omega, fun i hi => ?_⟩ (by dsimp only; omega) ⟨rfl, rfl, rfl, rfl, trivial⟩ ent_pick
      by_cases he : i = j
      · rw [he]; exact hokj
      · exact hok i (by omega)
 ·
  refine Ze (k:=Xa (Xi (Xb (Ya (Za (k:=Zr (k:=Vv (k:=Vv (k:=Vv (k:=Vv (k:=Wq ?_)))))))))))
  refine Zt (k:=?_)
  refine fin_ret () (vs := [_]) (Cs := []) rfl (.tmp rfl .nil) ?_ trivial ent_pick
  show vB _ = vB _
  congr 1
  refine decide_eq_decide.2 ⟨fun h => ⟨fun e => ?_, fun i hi => hok i (by omega)⟩, fun h => ?_⟩
  · rw [e] at hll; simp at hll; omega
  · have := List.length_pos_iff.2 h.ne; omega
theorem body_take {l : List Cd} {j : Nat} (h : j < l.length) : bodyB (l.take (j + 1)) = bodyB (l.take j) ++ cardB (l.getD j cd0) := by
 rw [List.take_succ_eq_append_getElem h, bodyB_app]; simp [bodyB, h]
theorem body_take_le (l : List Cd) (j : Nat) : (bodyB (l.take j)).length ≤ (bodyB l).length := by
 conv => rhs; rw [← List.take_append_drop j l, bodyB_app, List.length_append]
 omega
/-- What cards print. -/
def prB (l : List Cd) : Bs := if RightC l then printB l else []
set_option maxHeartbeats 1000000 in
theorem card_Print_sp {B : HP} {a : Option Addr} (n cap : Nat) (qs : List CdV) (sh : SlA B a (qs.flatMap CdV.cells)) (hn : qs.length = n) (hz : (bodyB (cdsOf qs)).length ≤ 1073741824) :
    Sp1 Tryz.prog 79 [.slice a n cap] [B, CdM qs] (vS (prB (cdsOf qs))) [B] := by
 have hR := card_Right_sp n cap qs sh hn hz
 subst hn
 obtain ⟨hb, hqa⟩ := cds_sizes hz
 haveI : RdSl a (qs.flatMap CdV.cells) [B, CdM qs] := ⟨⟨B, sh, .here⟩⟩
 obtain ⟨l, hl⟩ : ∃ l, l = cdsOf qs := ⟨_, rfl⟩
 have hll : l.length = qs.length := by rw [hl]; simp [cdsOf]
 rw [← hl] at hz hR ⊢
 refine Sp.body (n := 29) Tryz.call79 Tryz.func79 rfl rfl rfl ?_
 refine Za (k:=Zr (k:=Vv (k:=Wq (Za (k:=Za (k:=Zr (k:=Vv (k:=?_))))))))
 refine r_call1 hR rfl rfl rfl ?_
 refine Vv (k:=Wq (Zi (t:=fun h8 => ?_) (f:=fun h8 => ?_)))
 ·
  refine Za (k:=Zr (k:=Vv (k:=Wq (Zt (k:=Va ?_)))))
  have hn : ¬ RightC l := by simpa using h8
  refine fin_ret () (vs := [_]) (Cs := []) rfl (.tmp rfl .nil) ?_ trivial ent_pick
  rw [prB, if_neg hn]; rfl
 ·
  refine Zk (k:=Ya (Za (k:=Zr (k:=Zc [.pointer none, .slice none 0 0] (k:=fun b3 => ?_)))))
  refine wo_ent' (fold_newB (p := b3) (by rfl) (by rfl) (by rfl)) ?_
  refine Wq (Za (k:=Za (k:=Zr (k:=Vv (k:=Vv (k:=Vv (k:=Wq (Zb (k:=?_)))))))))
  refine p_loop (fun (i : { j : Nat // j ≤ qs.length }) => [(3, .pointer (some ⟨b3, 0, none⟩)), (9, .slice a qs.length cap), (10, vI qs.length), (11, vI i.1)]) (fun (i : { j : Nat // j ≤ qs.length }) => [IsB b3 (bodyB (l.take i.1)), B, CdM qs]) (fun (i : { j : Nat // j ≤ qs.length }) => qs.length - i.1) rfl (⟨0, Nat.zero_le _⟩) ?_ ?_ (fun i => ?_)
  · exact ⟨rfl, rfl, rfl, rfl, trivial⟩
  ·
   dsimp only
   rw [List.take_zero, show bodyB [] = [] from rfl]
   exact ent_pick
  obtain ⟨j, hj⟩ := i
  dsimp only
  have hle := body_take_le l j
  try dsimp only
  refine Za (k:=Zr (k:=Vv (k:=Wq (Za (k:=Zi (t:=fun h12 => ?_) (f:=fun h12 => ?_))))))
  ·
   refine Zk (k:=Ya (Za (k:=Zb (k:=Za (k:=?_)))))
   have hjl : j < qs.length := by omega
   have hlj : l.getD j cd0 = qs[j].cd := by rw [hl]; exact cds_getD hjl
   have hbt := body_take (l := l) (j := j) (by omega)
   have hle2 := body_take_le l (j + 1)
   obtain ⟨q, hq⟩ : ∃ q, q = qs[j] := ⟨_, rfl⟩
   have hqm : q ∈ qs := by rw [hq]; exact List.getElem_mem _
   have hqal := hqa q hqm
   rw [hlj, ← hq] at hbt
   have hbl := congrArg List.length hbt
   have hcb : cardB q.cd = q.l :: argsB q.args ++ [10] := rfl
   rw [hcb] at hbt hbl
   simp only [List.length_append, List.length_cons, List.length_nil] at hbl
   refine Zr (k:=Ye 2 (k:=?_))
   refine r_eloada (vs := [_, _]) (sz := 2) Tryz.underlying133 rfl ti133 rfl rfl (by rw [flat_len (sz := 2) (fun _ => rfl)]; omega) rfl (by refine get_flat (fun x => ?_) ?_ <;> first | rfl | omega) rfl ?_
   refine Zc [.int .u8 0, .slice none 0 0] (k:=fun b5 => Zp (k:=?_))
   rw [← hq]
   refine Wq (Zr (k:=Vf 0 5 (k:=Zd (k:=Zv [_] (cs := [_]) (k:=fun b17 => ?_)))))
   refine r_b2s (l := [q.l]) Tryz.underlying89 Tryz.underlying9 Tryz.underlying5 rfl (by simp [vUs]) (by simp) rfl ?_
   refine Zv [_] (cs := [_]) (k:=fun b19 => Vf 1 27 (k:=Zd (k:=?_)))
   refine wo_ent' (ent_cd hqm HasC.get) ?_
   refine wo_ent' (ent_row (k := 1) (cap := 1) (sz := 1) (e := 9) (g := b19) (xs := [vS [q.l]]) (cur := [vS [q.l]]) (Nat.le_refl _) (by simp [maxLen]) rfl rfl rfl) ?_
   refine r_appendA (sz := 1) (bytes := 16) Tryz.underlying27 ti9 rfl rfl rfl rfl rfl rfl rfl (by first | rfl | (rw [List.length_map, Nat.mul_one]; try omega) | (rw [flat_len (fun _ => rfl)]; try omega) | (simp; try omega)) (by first | rfl | (simp [oneCell]; done) | (simp [List.all_flatMap, oneCell]; done)) (by omega) (by simp only [maxLen]; omega) rfl (fun a22 c22 => ?_)
   refine wo_ent' (row_norm (v := .slice a22 (1 + q.args.length) c22) (xs := [vS [q.l]] ++ q.args.map vS) (n := 1 + q.args.length) (n' := q.args.length + 1) (xs' := ([q.l] :: q.args).map vS) (by omega) rfl) ?_
   rw [Nat.add_comm 1]
   refine r_call1 (strings_Join_sp c22 [q.l] q.args (by simp) (by omega) (by rw [List.length_singleton]; omega)) rfl rfl rfl ?_
   rw [show joinB ([q.l] :: q.args) = q.l :: argsB q.args from rfl]
   refine Vv (k:=?_)
   refine r_call1 (WriteString_sp b3 (bodyB (l.take j)) (q.l :: argsB q.args ++ [10]) (by simp only [List.length_append, List.length_cons, List.length_nil]; omega)) rfl rfl rfl ?_
   refine Wn (Yb (Ya (Zr (k:=Vv (k:=Vv (k:=Wn ?_))))))
   refine to_inv ⟨j + 1, by omega⟩ (by dsimp only; omega) ⟨rfl, rfl, rfl, rfl, trivial⟩ ?_
   dsimp only
   rw [hbt]
   exact ent_pick
  ·
   refine Ze (k:=Xa (Xi (Xb (Ya (Za (k:=?_))))))
   have hjl : j = qs.length := by omega
   subst hjl
   rw [List.take_of_length_le (by omega)]
   refine Zr (k:=?_)
   refine r_call1 (String_sp b3 (bodyB l) (by omega)) rfl rfl rfl ?_
   refine r_callF (card_sealed_sp (bodyB l) (by omega)) rfl rfl rfl ?_
   refine Vv (k:=Wq (Zt (k:=?_)))
   have hn : RightC l := by simpa using h8
   refine fin_ret () (vs := [_]) (Cs := []) rfl (.tmp rfl .nil) ?_ trivial ent_pick
   rw [prB, if_pos hn]; rfl
end Go.Proofs.YtibccdcemcgkeaaGreat
end
