/- Texts of this proof, put together: SBuf, SCard. -/
import Derived.Lib.MakeNoZero
import Derived.ChangeArms
import Derived.DataReads
import Derived.WideShapes
import Derived.Test.YtibccdcemcgkeaaGreatQ09
import Derived.Test.YtibccdcemcgkeaaGreatQ07
import Derived.Test.YtibccdcemcgkeaaGreatQ05
import Derived.Test.YtibccdcemcgkeaaGreatQ08
set_option linter.unusedVariables false
set_option linter.unusedSimpArgs false
section
set_option maxRecDepth 100000
namespace Go.Proofs.YtibccdcemcgkeaaGreat
section
variable {r : Option Nat} {P : Program} {n : Nat} {ops : Array Oper} {os : List Oper} {A : List HP} {L : Loc} {Hs : List HP} {Q : Out} {ty : TypeId} {d : Nat} {pos : String} {after : Array Edge}
theorem opt_mkNoZero {dst : Option Tmp} {g : FuncId} {fn : Func} {x : Operand} {m : Nat} {t e it : TypeId} {ts : Array TypeId} (hf : P.funcs[g]? = some fn) (hname : (fn.name == "runtime.NumGoroutine") = false)
    (hb : fn.body.isNone = true) (hn : Extern.findNext fn = none) (he : Extern.find fn = some (Extern.BytealgMakeNoZero.makeNoZero #[it] #[t])) (ht : P.underlying t = some (.slice e)) (hx : ev L x = some (vI (m : Int))) (hm : m ≤ 140737488355328) :
    OpT r P n ⟨dst, .call ⟨.value (.func g), #[x], ts⟩, ty, pos, after, none⟩ A L [] (fun x : Nat × List Value => .slice (some ⟨x.1, 0, none⟩) m x.2.length) (fun x => m ≤ x.2.length ∧ x.2.length ≤ maxLen) (fun x => [Ce x.1 e x.2]) := by
 intro a fr w M h hA hfr dj dj' s sA t'
 obtain ⟨cs, hr, h1, h2⟩ := Lib.run_makeNoZero (P := P) w #[it] t e ht m (by omega)
 have hrun : (execOp a.eval ⟨dst, .call ⟨.value (.func g), #[x], ts⟩, ty, pos, after, none⟩).run P w = .ok (.value (.slice (some ⟨w.heap.size, 0, none⟩) m cs.size)) (w.drew.drew.alloc (.cells cs e)) := by
  simp only [execOp, resolve, Act.eval, Deferred.ofValue, Sem.run_bind, Sem.run_pure, Result.andThen_ok, invoke]
  have hq := run_callFunc_extern hf hname hb hn he #[vI (m : Int)] w
  have ha : a.eval x = vI (m : Int) := fr.ev hx
  simp only [Array.append_empty, Array.empty_append, List.map_toArray, List.map_cons, List.map_nil, ha]
  rw [hq, hr]; rfl
 rw [hrun]
 have t2 := t'.drew.drew.alloc (.cells cs e)
 obtain ⟨f1, f2⟩ := fresh_none t'.drew.drew
 obtain ⟨f3, f4⟩ := Res.add_none.1 f2
 obtain ⟨f5, f6⟩ := Res.add_none.1 f3
 replace f4 : hfr w.heap.size = none := f4
 replace f5 : h w.heap.size = none := f5
 replace f6 : hA w.heap.size = none := f6
 obtain ⟨d1, d2⟩ := Res.dj_add_left.1 dj'
 refine ⟨(w.heap.size, cs.toList), M, Res.one w.heap.size (.cells cs e), by simp, ⟨by simpa using h1, by simpa using h2 (by simp only [maxLen]; omega)⟩, Kn.le_refl _, one_dj f6, Res.dj_add_left.2 ⟨one_dj f4, d2⟩, ?_, Res.one w.heap.size (.cells cs e), Res.emp, Res.dj_emp _, (Res.add_emp _).symm, by show _ = Res.one _ _; simp, trivial⟩
 refine t2.le ?_
 intro i o e'
 simp only [Res.add] at e' ⊢
 show (match Res.one w.heap.size _ i with | some o => some o | none => _) = _
 cases e1 : Res.one w.heap.size (Obj.cells cs e) i with
 | some u => rw [e1] at e'; simpa using e'
 | none =>
   rw [e1] at e'
   cases e2 : hA i with
   | some u =>
     rw [e2] at e'
     rcases dj i with y | y
     · rw [y]; simpa using e'
     · rw [y] at e2; cases e2
   | none =>
     rw [e2] at e'
     have e3 : hfr i = some o := by simpa using e'
     rcases d1 i with y | y
     · rw [y]; simpa using e3
     · rw [y] at e3; cases e3
theorem pv_copy0 {x y : Operand} {dT sT e : TypeId} {i : TypeInfo} {a : Option Addr} {c : Nat} (hu : P.underlying dT = some (.slice e)) (hs : P.underlying sT = some (.slice e)) (hi : P.info? e = some i)
    (hx : ev L x = some (.slice a 0 c)) (hy : ev L y = some (.slice none 0 0)) : PV P n L (.call ⟨.builtin .copy, #[x, y], #[dT, sT]⟩) ty (vI 0) :=
 ⟨by intro c; simp, fun ac f w _ _ _ _ => by
  cases a <;> simp [execOp, resolve, f.ev hx, f.ev hy, invoke, builtin, Builtin.copy_, run_underlying hu, run_underlying hs, sizeOf, typeInfo, program, Sem.run, hi, storeCells, Builtin.firstCells, Builtin.lenOf] <;> rfl⟩
end
/-- A Builder that holds nothing yet, and has room. -/
def IsBG (p : Nat) : HP := Ex fun q : Nat × Nat => Al [Ce p 174 [.pointer (some ⟨p, 0, none⟩), .slice (some ⟨q.1, 0, none⟩) 0 q.2], Row 5 1 (.slice (some ⟨q.1, 0, none⟩) 0 q.2) 0 []]
theorem Builder_grow_sp (p m : Nat) (hm : m ≤ 140737488355328) : Sp1 Tryz.prog 201 [.pointer (some ⟨p, 0, none⟩), vI m] [Ce p 174 [.pointer (some ⟨p, 0, none⟩), .slice none 0 0]] (.tuple #[]) [IsBG p] := by
 refine Sp.body (n := 30) Tryz.call201 Tryz.func201 rfl rfl rfl ?_
 refine p_seq rfl ?_
 refine d_draw rfl rfl rfl [Ce p 174 [.pointer (some ⟨p, 0, none⟩), .slice none 0 0]] ?_
 refine d_first 0 rfl rfl rfl (by kernel_rfl) (by kernel_rfl) (tl_pv (pv_move rfl)) ?_
 refine d_first 1 rfl rfl rfl (by kernel_rfl) (by kernel_rfl) (tl_pv (by first | exact pv_nilCheck_p rfl | exact pv_nilCheck_f rfl)) ?_
 refine d_first 2 rfl rfl rfl (by kernel_rfl) (by kernel_rfl) (tl_pv (pv_fieldAddrk Tryz.underlying174 rfl ti89 rfl rfl (k := 1) rfl (by first | exact Nat.zero_add _ | exact Nat.add_zero _ | exact rfl))) ?_
 refine d_first 3 rfl rfl rfl (by kernel_rfl) (by kernel_rfl) (tl_load Tryz.underlying89 rfl rfl rfl) ?_
 refine d_first 4 rfl rfl rfl (by kernel_rfl) (by kernel_rfl) (tl_pv (pv_call_cap_sl Tryz.underlying89 rfl)) ?_
 refine d_first 5 rfl rfl rfl (by kernel_rfl) (by kernel_rfl) (tl_pv (pv_mul rfl rfl (by omega))) ?_
 refine d_first 6 rfl rfl rfl (by kernel_rfl) (by kernel_rfl) (tl_pv (pv_move rfl)) ?_
 refine d_first 7 rfl rfl rfl (by kernel_rfl) (by kernel_rfl) (tl_pv (pv_add rfl rfl (by omega))) ?_
 refine d_first 9 rfl rfl rfl (by kernel_rfl) (by kernel_rfl) (tl_pv (pv_move rfl)) ?_
 refine d_first 10 rfl rfl rfl (by kernel_rfl) (by kernel_rfl) (tl_pv (by first | exact pv_nilCheck_p rfl | exact pv_nilCheck_f rfl)) ?_
 refine d_first 11 rfl rfl rfl (by kernel_rfl) (by kernel_rfl) (tl_pv (pv_fieldAddrk Tryz.underlying174 rfl ti89 rfl rfl (k := 1) rfl (by first | exact Nat.zero_add _ | exact Nat.add_zero _ | exact rfl))) ?_
 refine d_first 12 rfl rfl rfl (by kernel_rfl) (by kernel_rfl) (tl_load Tryz.underlying89 rfl rfl rfl) ?_
 refine d_first 13 rfl rfl rfl (by kernel_rfl) (by kernel_rfl) (tl_pv (pv_call_len_sl Tryz.underlying89 rfl)) ?_
 refine d_next 8 (by kernel_rfl) rfl ?_
 refine an_opT (opt_mkNoZero (m := m) (e := 5) Tryz.func211 (by kernel_rfl) (by kernel_rfl) (by kernel_rfl) (it := 3) (t := 89) (by kernel_rfl) Tryz.underlying89 (vI_eq (by omega)) hm) rfl (fun x13 hx13 => ?_)
 obtain ⟨g, cs⟩ := x13
 obtain ⟨hx1, hx2⟩ := hx13
 dsimp only at hx1 hx2
 dsimp only
 refine d_first 14 rfl rfl rfl (by kernel_rfl) (by kernel_rfl) (tl_pv (pv_slslice_tom (m := 0) Tryz.underlying89 ti5 rfl rfl rfl (Nat.zero_le _))) ?_
 refine d_first 15 rfl rfl rfl (by kernel_rfl) (by kernel_rfl) (tl_pv (pv_assign rfl)) ?_
 refine d_done (by kernel_rfl) ?_
 refine t_seq ?_
 refine p_seq rfl ?_
 refine p_region rfl ?_
 refine wo_pv (pv_move rfl) rfl ?_
 refine wo_pv (pv_move rfl) rfl ?_
 refine wo_pv (by first | exact pv_nilCheck_p rfl | exact pv_nilCheck_f rfl) rfl ?_
 refine wo_pv (pv_fieldAddrk Tryz.underlying174 rfl ti89 rfl rfl (k := 1) rfl (by first | exact Nat.zero_add _ | exact Nat.add_zero _ | exact rfl)) rfl ?_
 refine r_load Tryz.underlying89 rfl rfl rfl rfl ?_
 refine wo_pv (pv_copy0 Tryz.underlying89 Tryz.underlying89 ti5 rfl rfl) rfl ?_
 refine q_seq ?_
 refine p_region rfl ?_
 refine wo_pv (pv_move rfl) rfl ?_
 refine wo_pv (pv_move rfl) rfl ?_
 refine wo_pv (by first | exact pv_nilCheck_p rfl | exact pv_nilCheck_f rfl) rfl ?_
 refine wo_pv (pv_fieldAddrk Tryz.underlying174 rfl ti89 rfl rfl (k := 1) rfl (by first | exact Nat.zero_add _ | exact Nat.add_zero _ | exact rfl)) rfl ?_
 refine r_store ti89 rfl rfl rfl rfl (by simp) ?_
 refine wo_nil ?_
 refine fin_end () (vs := []) (Cs := []) rfl .nil rfl trivial ?_
 refine ent_ex (g, cs.length) ?_
 refine ent_al ?_
 exact (ent_row (k := 0) (cap := cs.length) (sz := 1) (e := 5) (g := g) (xs := []) (cur := cs) (Nat.zero_le _) hx2 (Nat.mul_one _).symm rfl rfl).trans ent_pick
theorem Builder_Grow_sp (p m : Nat) (h0 : 0 < m) (hm : m ≤ 140737488355328) : Sp1 Tryz.prog 176 [.pointer (some ⟨p, 0, none⟩), vI m] [Ce p 174 [.pointer none, .slice none 0 0]] (.tuple #[]) [IsBG p] := by
 refine Sp.body (n := 25) Tryz.call176 Tryz.func176 rfl rfl rfl ?_
 refine p_seq rfl ?_
 refine p_region rfl ?_
 refine wo_pv (pv_move rfl) rfl ?_
 refine r_call1 (copyCheck_nil p (.slice none 0 0)) rfl rfl rfl ?_
 refine q_seq ?_
 refine p_seq rfl ?_
 refine p_seq rfl ?_
 refine p_region rfl ?_
 refine wo_pv (pv_move rfl) rfl ?_
 refine wo_pv (pv_lss rfl rfl) rfl ?_
 refine q_seq ?_
 first | refine p_ite rfl rfl (fun h7 => ?_) (fun h7 => ?_) | refine p_cond rfl rfl (fun h7 => ?_) (fun h7 => ?_)
 ·
  omega
  --done
 ·
  refine p_skip rfl ?_
  refine t_seq ?_
  refine p_seq rfl ?_
  refine d_draw rfl rfl rfl [Ce p 174 [.pointer (some ⟨p, 0, none⟩), .slice none 0 0]] ?_
  refine d_first 0 rfl rfl rfl (by kernel_rfl) (by kernel_rfl) (tl_pv (pv_move rfl)) ?_
  refine d_first 1 rfl rfl rfl (by kernel_rfl) (by kernel_rfl) (tl_pv (by first | exact pv_nilCheck_p rfl | exact pv_nilCheck_f rfl)) ?_
  refine d_first 2 rfl rfl rfl (by kernel_rfl) (by kernel_rfl) (tl_pv (pv_fieldAddrk Tryz.underlying174 rfl ti89 rfl rfl (k := 1) rfl (by first | exact Nat.zero_add _ | exact Nat.add_zero _ | exact rfl))) ?_
  refine d_first 3 rfl rfl rfl (by kernel_rfl) (by kernel_rfl) (tl_load Tryz.underlying89 rfl rfl rfl) ?_
  refine d_first 4 rfl rfl rfl (by kernel_rfl) (by kernel_rfl) (tl_pv (pv_call_cap_sl Tryz.underlying89 rfl)) ?_
  refine d_first 5 rfl rfl rfl (by kernel_rfl) (by kernel_rfl) (tl_pv (pv_move rfl)) ?_
  refine d_first 6 rfl rfl rfl (by kernel_rfl) (by kernel_rfl) (tl_pv (by first | exact pv_nilCheck_p rfl | exact pv_nilCheck_f rfl)) ?_
  refine d_first 7 rfl rfl rfl (by kernel_rfl) (by kernel_rfl) (tl_pv (pv_fieldAddrk Tryz.underlying174 rfl ti89 rfl rfl (k := 1) rfl (by first | exact Nat.zero_add _ | exact Nat.add_zero _ | exact rfl))) ?_
  refine d_first 8 rfl rfl rfl (by kernel_rfl) (by kernel_rfl) (tl_load Tryz.underlying89 rfl rfl rfl) ?_
  refine d_first 9 rfl rfl rfl (by kernel_rfl) (by kernel_rfl) (tl_pv (pv_call_len_sl Tryz.underlying89 rfl)) ?_
  refine d_first 10 rfl rfl rfl (by kernel_rfl) (by kernel_rfl) (tl_pv (pv_sub rfl rfl (by omega))) ?_
  refine d_first 11 rfl rfl rfl (by kernel_rfl) (by kernel_rfl) (tl_pv (pv_move rfl)) ?_
  refine d_first 12 rfl rfl rfl (by kernel_rfl) (by kernel_rfl) (tl_pv (pv_lss rfl rfl)) ?_
  refine d_done (by kernel_rfl) ?_
  refine t_seq ?_
  first | refine p_ite rfl rfl (fun h21 => ?_) (fun h21 => ?_) | refine p_cond rfl rfl (fun h21 => ?_) (fun h21 => ?_)
  ·
   refine p_region rfl ?_
   refine wo_pv (pv_move rfl) rfl ?_
   refine wo_pv (pv_move rfl) rfl ?_
   refine r_call1 (Builder_grow_sp p m hm) rfl rfl rfl ?_
   refine wo_nil ?_
   refine fin_end () (vs := []) (Cs := []) rfl .nil rfl trivial ?_
   exact ent_pick
  ·
   omega
   --done
theorem WriteStringG_sp (p : Nat) (s : List UInt8) (hs : s ≠ []) (h : s.length ≤ 140737488355328) : Sp1 Tryz.prog 126 [.pointer (some ⟨p, 0, none⟩), vS s] [IsBG p] (.tuple #[vI s.length, .nilIface]) [IsB p s] := by
 have hp := List.length_pos_iff.2 hs
 refine Sp.body (n := 19) Tryz.call126 Tryz.func126 rfl rfl rfl ?_
 refine wc_exi fun q => wc_al ?_
 obtain ⟨g, cap⟩ := q
 dsimp only
 refine p_seq rfl ?_
 refine p_region rfl ?_
 refine wo_pv (pv_assign rfl) rfl ?_
 refine wo_pv (pv_assign rfl) rfl ?_
 refine q_seq ?_
 refine p_seq rfl ?_
 refine p_region rfl ?_
 refine wo_pv (pv_move rfl) rfl ?_
 refine r_call1 (copyCheck_own p (.slice (some ⟨g, 0, none⟩) 0 cap)) rfl rfl rfl ?_
 refine q_seq ?_
 refine p_seq rfl ?_
 refine p_region rfl ?_
 refine wo_pv (pv_move rfl) rfl ?_
 refine wo_pv (pv_move rfl) rfl ?_
 refine wo_pv (by first | exact pv_nilCheck_p rfl | exact pv_nilCheck_f rfl) rfl ?_
 refine wo_pv (pv_fieldAddrk Tryz.underlying174 rfl ti89 rfl rfl (k := 1) rfl (by first | exact Nat.zero_add _ | exact Nat.add_zero _ | exact rfl)) rfl ?_
 refine r_load Tryz.underlying89 rfl rfl rfl rfl ?_
 refine wo_pv (pv_move rfl) rfl ?_
 refine wo_opT (by intro c; simp) (opt_appendS Tryz.underlying89 Tryz.underlying9 ti5 rfl rfl rfl rfl rfl (by omega) (xs := []) (k := 0)) rfl (fun x14 hx14 => ?_)
 obtain ⟨⟨a14, c14, rfl⟩, hx14⟩ := hx14
 refine wo_pv (by first | exact pv_nilCheck_p rfl | exact pv_nilCheck_f rfl) rfl ?_
 refine wo_pv (pv_fieldAddrk Tryz.underlying174 rfl ti89 rfl rfl (k := 1) rfl (by first | exact Nat.zero_add _ | exact Nat.add_zero _ | exact rfl)) rfl ?_
 refine r_store ti89 rfl rfl rfl rfl (by simp) ?_
 refine q_seq ?_
 refine p_seq rfl ?_
 refine p_region rfl ?_
 refine wo_pv (pv_move rfl) rfl ?_
 refine wo_pv (pv_call_len_s Tryz.underlying9 rfl) rfl ?_
 refine wo_pv (pv_assign rfl) rfl ?_
 refine wo_pv (pv_assign rfl) rfl ?_
 refine q_seq ?_
 refine p_ret rfl ?_
 refine fin_ret () (vs := [_, _]) (Cs := []) rfl (.tmp rfl (.tmp rfl .nil)) rfl trivial ?_
 refine ent_ex (.pointer (some ⟨p, 0, none⟩)) ?_
 refine ent_ex (.slice a14 (0 + s.length) c14) ?_
 refine ent_al ?_
 refine ent_pu ⟨.inr rfl, fun e => by omega⟩ ?_
 rw [Nat.zero_add, List.nil_append]
 exact ent_pick
def joinB : List Bs → Bs
 | [] => []
 | x :: r => x ++ argsB r
def sumL (l : List Bs) (j : Nat) : Nat := ((l.take j).map List.length).sum
theorem sumL_succ {l : List Bs} {j : Nat} (h : j < l.length) : sumL l (j + 1) = sumL l j + (l.getD j []).length := by
 rw [sumL, sumL, List.take_succ_eq_append_getElem h, List.map_append, List.sum_append]
 simp [h]
theorem argsB_len (l : List Bs) : (argsB l).length = l.length + sumL l l.length := by
 simp only [sumL, List.take_length]
 induction l with
 | nil => rfl
 | cons a l ih => rw [argsB_cons, List.length_cons, List.length_append, ih, List.map_cons, List.sum_cons, List.length_cons]; omega
theorem sumL_le {l : List Bs} {j : Nat} : sumL l j ≤ sumL l l.length := by
 simp only [sumL, List.take_length]
 conv => rhs; rw [← List.take_append_drop j l]
 rw [List.map_append, List.sum_append]
 omega
theorem argsB_take {l : List Bs} {j : Nat} (h : j < l.length) : argsB (l.take (j + 1)) = argsB (l.take j) ++ (32 :: l.getD j []) := by
 rw [List.take_succ_eq_append_getElem h, argsB_app]; simp [argsB, h]
set_option maxHeartbeats 1000000 in
theorem strings_Join_sp {a : Option Addr} (c : Nat) (x : Bs) (rest : List Bs) (hx : x ≠ []) (hl : rest.length ≤ 1073741824) (ht : x.length + (argsB rest).length ≤ 1099511627776) :
    Sp1 Tryz.prog 129 [.slice a (rest.length + 1) c, vS [32]] [Row 9 1 (.slice a (rest.length + 1) c) (rest.length + 1) ((x :: rest).map vS)] (vS (joinB (x :: rest))) [] := by
 have hp := List.length_pos_iff.2 hx
 obtain ⟨l, hll⟩ : ∃ l, l = x :: rest := ⟨_, rfl⟩
 have hln : l.length = rest.length + 1 := by rw [hll]; rfl
 have hal : (argsB l).length = l.length + sumL l l.length := argsB_len l
 have hal2 : (argsB l).length = 1 + (x.length + (argsB rest).length) := by rw [hll, argsB_cons, List.length_cons, List.length_append]; omega
 rw [← hll]
 have h0 : (l.map vS)[0]? = some (vS x) := by rw [hll]; rfl
 have hdr : (l.map vS).drop 1 = rest.map vS := by rw [hll]; rfl
 refine Sp.body (n := 75) Tryz.call129 Tryz.func129 rfl rfl rfl ?_
 refine wc_know (A := Row 9 1 (.slice a (rest.length + 1) c) (rest.length + 1) (l.map vS)) HasC.get row_know (fun hk => ?_)
 obtain ⟨hk1, _, hk3⟩ := hk
 refine p_seq rfl ?_
 refine p_region rfl ?_
 refine wo_pv (pv_assign rfl) rfl ?_
 refine q_seq ?_
 refine p_seq rfl ?_
 refine p_seq rfl ?_
 refine p_region rfl ?_
 refine wo_pv (pv_move rfl) rfl ?_
 refine wo_pv (pv_call_len_sl Tryz.underlying27 rfl) rfl ?_
 refine q_seq ?_
 refine p_block 0 rfl ?_
 refine p_seq rfl ?_
 refine p_region rfl ?_
 refine wo_pv (pv_eql rfl rfl) rfl ?_
 refine wo_pv (pv_assign rfl) rfl ?_
 refine q_seq ?_
 first | refine p_ite rfl rfl (fun h13 => ?_) (fun h13 => ?_) | refine p_cond rfl rfl (fun h13 => ?_) (fun h13 => ?_)
 ·
  omega
  --done
 ·
  refine p_seq rfl ?_
  refine p_region rfl ?_
  refine wo_pv (pv_eql rfl rfl) rfl ?_
  refine wo_pv (pv_assign rfl) rfl ?_
  refine q_seq ?_
  first | refine p_ite rfl rfl (fun h15 => ?_) (fun h15 => ?_) | refine p_cond rfl rfl (fun h15 => ?_) (fun h15 => ?_)
  ·
   refine p_seq rfl ?_
   refine p_region rfl ?_
   refine wo_pv (pv_move rfl) rfl ?_
   refine r_elemAddr (m := 0) (sz := 1) Tryz.underlying27 ti9 rfl rfl rfl rfl (by omega) (by first | (rw [List.length_map]; omega) | (rw [flat_len (sz := 1) (fun _ => rfl)]; omega) | (simp; omega)) (Nat.mul_one _) rfl ?_
   refine r_eload Tryz.underlying9 rfl rfl h0 rfl ?_
   refine wo_pv (pv_assign rfl) rfl ?_
   refine q_seq ?_
   refine p_ret rfl ?_
   refine to_block_ret ?_
   refine t_seq_ret ?_
   have hr : rest = [] := List.eq_nil_of_length_eq_zero (by omega)
   refine fin_ret () (vs := [_]) (Cs := []) rfl (.tmp rfl .nil) ?_ trivial ent_nil
   rw [hll, hr, joinB, argsB_nil, List.append_nil]; rfl
  ·
   refine p_skip rfl ?_
   refine to_block ?_
   refine t_seq ?_
   refine p_seq rfl ?_
   refine p_region rfl ?_
   refine wo_pv (pv_assign rfl) rfl ?_
   refine q_seq ?_
   refine p_seq rfl ?_
   refine p_seq rfl ?_
   refine p_region rfl ?_
   refine wo_pv (pv_move rfl) rfl ?_
   refine wo_pv (pv_call_len_s Tryz.underlying9 rfl) rfl ?_
   refine wo_pv (pv_gtr rfl rfl) rfl ?_
   refine q_seq ?_
   first | refine p_ite rfl rfl (fun h22 => ?_) (fun h22 => ?_) | refine p_cond rfl rfl (fun h22 => ?_) (fun h22 => ?_)
   ·
    refine p_seq rfl ?_
    refine p_seq rfl ?_
    refine p_region rfl ?_
    refine wo_pv (pv_move rfl) rfl ?_
    refine wo_pv (pv_call_len_s Tryz.underlying9 rfl) rfl ?_
    rw [show (([32] : Bs).length : Int) = 1 from rfl]
    refine wo_pv (pv_move rfl) rfl ?_
    refine wo_pv (pv_call_len_sl Tryz.underlying27 rfl) rfl ?_
    refine wo_pv (pv_sub rfl rfl (by omega)) rfl ?_
    refine wo_pv (pv_quo rfl rfl (by omega)) rfl ?_
    refine wo_pv (pv_geq rfl rfl) rfl ?_
    refine q_seq ?_
    first | refine p_ite rfl rfl (fun h29 => ?_) (fun h29 => ?_) | refine p_cond rfl rfl (fun h29 => ?_) (fun h29 => ?_)
    ·
     have hq : 2 ≤ (9223372036854775807 : Int) / (((rest.length + 1 : Nat) : Int) - 1) := Int.le_ediv_of_mul_le (by omega) (by omega)
     omega
     --done
    ·
     refine p_skip rfl ?_
     refine t_seq ?_
     refine p_region rfl ?_
     refine wo_pv (pv_move rfl) rfl ?_
     refine wo_pv (pv_move rfl) rfl ?_
     refine wo_pv (pv_call_len_s Tryz.underlying9 rfl) rfl ?_
     rw [show (([32] : Bs).length : Int) = 1 from rfl]
     refine wo_pv (pv_move rfl) rfl ?_
     refine wo_pv (pv_call_len_sl Tryz.underlying27 rfl) rfl ?_
     refine wo_pv (pv_sub rfl rfl (by omega)) rfl ?_
     refine wo_pv (pv_mul rfl rfl (by omega)) rfl ?_
     refine wo_pv (pv_add rfl rfl (by omega)) rfl ?_
     refine wo_pv (pv_assign rfl) rfl ?_
     refine q_seq ?_
     refine p_seq rfl ?_
     refine p_seq rfl ?_
     refine p_region rfl ?_
     refine wo_pv (pv_move rfl) rfl ?_
     refine wo_pv (pv_call_len_sl Tryz.underlying27 rfl) rfl ?_
     refine wo_pv (pv_move rfl) rfl ?_
     refine q_seq ?_
     refine p_block 1 rfl ?_
     refine p_loop (fun (i : { j : Nat // j ≤ l.length }) => [(0, .slice a (rest.length + 1) c), (1, vS [32]), (5, vI ((rest.length + sumL l i.1 : Nat) : Int)), (39, .slice a (rest.length + 1) c), (40, vI ((rest.length + 1 : Nat) : Int)), (41, vI i.1)]) (fun (i : { j : Nat // j ≤ l.length }) => [Row 9 1 (.slice a (rest.length + 1) c) (rest.length + 1) (l.map vS)]) (fun (i : { j : Nat // j ≤ l.length }) => l.length - i.1) rfl (⟨0, Nat.zero_le _⟩) ?_ ?_ (fun i => ?_)
     · exact ⟨rfl, rfl, vI_eq (by simp only [sumL, List.take_zero, List.map_nil, List.sum_nil]; omega), rfl, rfl, rfl, trivial⟩
     ·
      exact ent_pick
     obtain ⟨j, hj⟩ := i
     dsimp only
     have hsj := sumL_le (l := l) (j := j)
     try dsimp only
     refine p_seq rfl ?_
     refine p_region rfl ?_
     refine wo_pv (pv_lss rfl rfl) rfl ?_
     refine q_seq ?_
     refine p_seq rfl ?_
     first | refine p_ite rfl rfl (fun h42 => ?_) (fun h42 => ?_) | refine p_cond rfl rfl (fun h42 => ?_) (fun h42 => ?_)
     ·
      refine p_skip rfl ?_
      refine t_seq ?_
      refine p_seq rfl ?_
      refine p_block 2 rfl ?_
      refine p_seq rfl ?_
      have hjl : j < l.length := by omega
      have hss := sumL_succ hjl
      have hsj1 := sumL_le (l := l) (j := j + 1)
      refine p_region rfl ?_
      refine r_elemAddr (sz := 1) Tryz.underlying27 ti9 rfl rfl rfl rfl (by omega) (by first | (rw [List.length_map]; omega) | (rw [flat_len (sz := 1) (fun _ => rfl)]; omega) | (simp; omega)) (Nat.mul_one _) rfl ?_
      refine r_eload Tryz.underlying9 rfl rfl (get_mapD [] hjl) rfl ?_
      refine wo_pv (pv_assign rfl) rfl ?_
      refine q_seq ?_
      refine p_seq rfl ?_
      refine p_seq rfl ?_
      refine p_region rfl ?_
      refine wo_pv (pv_move rfl) rfl ?_
      refine wo_pv (pv_call_len_s Tryz.underlying9 rfl) rfl ?_
      refine wo_pv (pv_move rfl) rfl ?_
      refine wo_pv (pv_sub rfl rfl (by omega)) rfl ?_
      refine wo_pv (pv_gtr rfl rfl) rfl ?_
      refine q_seq ?_
      first | refine p_ite rfl rfl (fun h49 => ?_) (fun h49 => ?_) | refine p_cond rfl rfl (fun h49 => ?_) (fun h49 => ?_)
      ·
       omega
       --done
      ·
       refine p_skip rfl ?_
       refine t_seq ?_
       refine p_region rfl ?_
       refine wo_pv (pv_move rfl) rfl ?_
       refine wo_pv (pv_move rfl) rfl ?_
       refine wo_pv (pv_call_len_s Tryz.underlying9 rfl) rfl ?_
       refine wo_pv (pv_add rfl rfl (by omega)) rfl ?_
       refine wo_pv (pv_assign rfl) rfl ?_
       refine wo_nil ?_
       refine to_block ?_
       refine t_seq ?_
       refine p_region rfl ?_
       refine wo_pv (pv_add rfl rfl (by omega)) rfl ?_
       refine wo_pv (pv_move rfl) rfl ?_
       refine wo_nil ?_
       refine to_inv ⟨j + 1, by omega⟩ (by dsimp only; omega) ⟨rfl, rfl, vI_eq (by dsimp only; omega), rfl, rfl, rfl, trivial⟩ ent_pick
     ·
      refine p_exit 1 rfl ?_
      refine t_seq_exit ?_
      refine to_inv_exit ?_
      refine to_block_here ?_
      refine t_seq ?_
      refine p_seq rfl ?_
      have hjl : j = l.length := by omega
      subst hjl
      refine p_region rfl ?_
      refine wo_alloc (zs := [.pointer none, .slice none 0 0]) ti174 rfl rfl rfl (fun b8 => ?_)
      refine q_seq ?_
      refine p_seq rfl ?_
      refine p_region rfl ?_
      refine wo_pv (pv_move rfl) rfl ?_
      refine r_call1 (Builder_Grow_sp b8 (rest.length + sumL l l.length) (by omega) (by omega)) rfl rfl rfl ?_
      refine q_seq ?_
      refine p_seq rfl ?_
      refine p_region rfl ?_
      refine wo_pv (pv_move rfl) rfl ?_
      refine r_elemAddr (m := 0) (sz := 1) Tryz.underlying27 ti9 rfl rfl rfl rfl (by omega) (by first | (rw [List.length_map]; omega) | (rw [flat_len (sz := 1) (fun _ => rfl)]; omega) | (simp; omega)) (Nat.mul_one _) rfl ?_
      refine r_eload Tryz.underlying9 rfl rfl h0 rfl ?_
      refine r_call1 (WriteStringG_sp b8 x hx (by omega)) rfl rfl rfl ?_
      refine q_seq ?_
      refine p_seq rfl ?_
      refine p_seq rfl ?_
      refine p_region rfl ?_
      refine wo_pv (pv_move rfl) rfl ?_
      refine wo_pv (pv_slslice_froma (m := 1) (kk := 1) Tryz.underlying27 ti9 rfl rfl rfl rfl rfl (by omega) hk1 hk3) rfl ?_
      haveI hrd : RdSl (fromA a 1 c 1) (rest.map vS) [Row 9 1 (.slice a (rest.length + 1) c) (rest.length + 1) (l.map vS)] := ⟨⟨_, by rw [← hdr]; exact sla_from (m := 1) (kk := 1) (Nat.mul_one 1) (by omega), .here⟩⟩
      refine wo_pv (pv_call_len_sl Tryz.underlying27 rfl) rfl ?_
      refine wo_pv (pv_move rfl) rfl ?_
      refine q_seq ?_
      refine p_block 3 rfl ?_
      refine p_loop (fun (i : { j : Nat // j ≤ rest.length }) => [(1, vS [32]), (8, .pointer (some ⟨b8, 0, none⟩)), (63, .slice (fromA a 1 c 1) rest.length (c - 1)), (64, vI rest.length), (65, vI i.1)]) (fun (i : { j : Nat // j ≤ rest.length }) => [IsB b8 (x ++ argsB (rest.take i.1)), Row 9 1 (.slice a (rest.length + 1) c) (rest.length + 1) (l.map vS)]) (fun (i : { j : Nat // j ≤ rest.length }) => rest.length - i.1) rfl (⟨0, Nat.zero_le _⟩) ?_ ?_ (fun i => ?_)
      · exact ⟨rfl, rfl, rfl, rfl, rfl, trivial⟩
      ·
       dsimp only
       rw [List.take_zero, argsB_nil, List.append_nil]
       exact ent_pick
      obtain ⟨j, hj⟩ := i
      dsimp only
      try dsimp only
      refine p_seq rfl ?_
      refine p_region rfl ?_
      refine wo_pv (pv_lss rfl rfl) rfl ?_
      refine q_seq ?_
      refine p_seq rfl ?_
      first | refine p_ite rfl rfl (fun h66 => ?_) (fun h66 => ?_) | refine p_cond rfl rfl (fun h66 => ?_) (fun h66 => ?_)
      ·
       refine p_skip rfl ?_
       refine t_seq ?_
       refine p_seq rfl ?_
       refine p_block 4 rfl ?_
       refine p_seq rfl ?_
       have hjl : j < rest.length := by omega
       have hat := argsB_take hjl
       have hlt : (argsB (rest.take (j + 1))).length ≤ (argsB rest).length := by
        conv => rhs; rw [← List.take_append_drop (j + 1) rest, argsB_app, List.length_append]
        omega
       have hlt2 := congrArg List.length hat
       rw [List.length_append, List.length_cons] at hlt2
       refine p_region rfl ?_
       refine r_elemAddr (sz := 1) Tryz.underlying27 ti9 rfl rfl rfl rfl (by omega) (by rw [List.length_map]; omega) (Nat.mul_one _) rfl ?_
       refine r_eload Tryz.underlying9 rfl rfl (get_mapD [] hjl) rfl ?_
       refine wo_pv (pv_assign rfl) rfl ?_
       refine q_seq ?_
       refine p_seq rfl ?_
       refine p_region rfl ?_
       refine wo_pv (pv_move rfl) rfl ?_
       refine r_call1 (WriteString_sp b8 (x ++ argsB (rest.take j)) [32] (by rw [List.length_append, List.length_singleton]; omega)) rfl rfl rfl ?_
       refine q_seq ?_
       refine p_region rfl ?_
       refine wo_pv (pv_move rfl) rfl ?_
       refine r_call1 (WriteString_sp b8 (x ++ argsB (rest.take j) ++ [32]) (rest.getD j []) (by rw [List.length_append, List.length_append, List.length_singleton]; omega)) rfl rfl rfl ?_
       refine wo_nil ?_
       refine to_block ?_
       refine t_seq ?_
       refine p_region rfl ?_
       refine wo_pv (pv_add rfl rfl (by omega)) rfl ?_
       refine wo_pv (pv_move rfl) rfl ?_
       refine wo_nil ?_
       refine to_inv ⟨j + 1, by omega⟩ (by dsimp only; omega) ⟨rfl, rfl, rfl, rfl, rfl, trivial⟩ ?_
       dsimp only
       rw [hat, show x ++ (argsB (rest.take j) ++ 32 :: rest.getD j []) = x ++ argsB (rest.take j) ++ [32] ++ rest.getD j [] from by simp]
       exact ent_pick
      ·
       refine p_exit 3 rfl ?_
       refine t_seq_exit ?_
       refine to_inv_exit ?_
       refine to_block_here ?_
       refine t_seq ?_
       refine p_seq rfl ?_
       have hjl : j = rest.length := by omega
       subst hjl
       rw [List.take_length]
       refine p_region rfl ?_
       refine r_call1 (String_sp b8 (x ++ argsB rest) (by rw [List.length_append]; omega)) rfl rfl rfl ?_
       refine wo_pv (pv_assign rfl) rfl ?_
       refine q_seq ?_
       refine p_ret rfl ?_
       refine fin_ret () (vs := [_]) (Cs := []) rfl (.tmp rfl .nil) (by rw [hll]; rfl) trivial ent_nil
   ·
    simp at h22
    --done
end Go.Proofs.YtibccdcemcgkeaaGreat
end
section
set_option maxRecDepth 100000
namespace Go.Proofs.YtibccdcemcgkeaaGreat
/-- A card in memory. -/
structure CdV where
 l : UInt8
 a : Option Addr
 c : Nat
 args : List Bs
def CdV.cells (q : CdV) : List Value := [vU q.l.toNat, .slice q.a q.args.length q.c]
def CdV.cd (q : CdV) : Cd := ⟨q.l, q.args⟩
def cdsOf (qs : List CdV) : List Cd := qs.map CdV.cd
/-- What some cards point at: it never turns. -/
def CdM (qs : List CdV) : HP := ⟨fun M _ => ∀ q ∈ qs, (SlI q.a (q.args.map vS)).at_ M Res.emp ∧ q.args.length ≤ q.c, fun le h q hq => ⟨(SlI q.a (q.args.map vS)).mono le (h q hq).1, (h q hq).2⟩⟩
theorem cdm_cap {qs : List CdV} {M : Kn} {h : Res} (x : (CdM qs).at_ M h) : ∀ q ∈ qs, q.args.length ≤ q.c := fun q hq => (x q hq).2
theorem CdM.pers (qs : List CdV) : Pers (CdM qs) := fun e => e
instance {qs : List CdV} : PersC (CdM qs) := ⟨CdM.pers qs⟩
theorem ent_cd {qs : List CdV} {q : CdV} {Hs : List HP} (h : q ∈ qs) (hp : Has (CdM qs) Hs) : Ent Hs (SlI q.a (q.args.map vS) :: Hs) := ⟨fun {M g} s => by
 obtain ⟨h1, _, a⟩ := hp.sat s
 exact ⟨Res.emp, g, Res.emp_dj _, rfl, (a q h).1, s⟩⟩
theorem ent_cdm_nil {Hs : List HP} : Ent Hs (CdM [] :: Hs) := ⟨fun {M g} s => ⟨Res.emp, g, Res.emp_dj _, rfl, (fun q hq => by cases hq), s⟩⟩
theorem ent_cdm_snoc {qs : List CdV} {q : CdV} {Hs : List HP} (hp : Has (CdM qs) Hs) (hq : Has (SlI q.a (q.args.map vS)) Hs) (hc : q.args.length ≤ q.c) : Ent Hs (CdM (qs ++ [q]) :: Hs) := ⟨fun {M g} s => by
 obtain ⟨h1, _, a⟩ := hp.sat s
 obtain ⟨h2, _, b⟩ := hq.sat s
 refine ⟨Res.emp, g, Res.emp_dj _, rfl, fun x hx => ?_, s⟩
 rcases List.mem_append.1 hx with hx | hx
 · exact a x hx
 · rw [List.mem_singleton.1 hx]; exact ⟨b, hc⟩⟩
theorem ent_cdm_app {qs rs : List CdV} {Hs : List HP} (hp : Has (CdM qs) Hs) (hq : Has (CdM rs) Hs) : Ent Hs (CdM (qs ++ rs) :: Hs) := ⟨fun {M g} s => by
 obtain ⟨h1, _, a⟩ := hp.sat s
 obtain ⟨h2, _, b⟩ := hq.sat s
 refine ⟨Res.emp, g, Res.emp_dj _, rfl, fun x hx => ?_, s⟩
 rcases List.mem_append.1 hx with hx | hx
 · exact a x hx
 · exact b x hx⟩
theorem get_field {α : Type} {f : α → List Value} {sz : Nat} (hf : ∀ x, (f x).length = sz) {l : List α} {m k : Nat} (hk : k < sz) (h : m < l.length) : (l.flatMap f)[m * sz + k]? = (f l[m])[k]? := by
 rw [← get_flat hf h, List.getElem?_take_of_lt hk, List.getElem?_drop]
theorem cdget {qs : List CdV} {j : Nat} (h : j < qs.length) : (qs.flatMap CdV.cells)[2 * j]? = some (vU (qs[j].l.toNat : Int)) ∧ (qs.flatMap CdV.cells)[2 * j + 1]? = some (.slice qs[j].a qs[j].args.length qs[j].c) := by
 constructor
 · have := get_field (f := CdV.cells) (sz := 2) (fun _ => rfl) (k := 0) (by decide) h; rw [Nat.mul_comm]; exact this
 · have := get_field (f := CdV.cells) (sz := 2) (fun _ => rfl) (k := 1) (by decide) h; rw [Nat.mul_comm]; exact this
theorem slices_Index_sp {B : HP} {a : Option Addr} (n c : Nat) (l : List Bs) (x : Bs) (sh : SlA B a (l.map vS)) (hn : l.length = n) (hb : n ≤ 140737488355328) :
    Sp Tryz.prog 199 [.slice a n c, vS x] [B] (X := Int) (fun i => vI i) (fun i => (0 ≤ i ↔ x ∈ l)) (fun _ => [B]) := by
 subst hn
 haveI : RdSl a (l.map vS) [B] := ⟨⟨B, sh, .here⟩⟩
 refine Sp.body (n := 19) Tryz.call199 Tryz.func199 rfl rfl rfl ?_
 refine p_seq rfl ?_
 refine p_region rfl ?_
 refine wo_pv (pv_assign rfl) rfl ?_
 refine q_seq ?_
 refine p_seq rfl ?_
 refine p_seq rfl ?_
 refine p_region rfl ?_
 refine wo_pv (pv_move rfl) rfl ?_
 refine wo_pv (pv_call_len_sl Tryz.underlying27 rfl) rfl ?_
 refine wo_pv (pv_move rfl) rfl ?_
 refine q_seq ?_
 refine p_block 0 rfl ?_
 refine p_loop (fun (i : { j : Nat // j ≤ l.length ∧ x ∉ l.take j }) => [(0, .slice a l.length c), (1, vS x), (6, .slice a l.length c), (7, vI l.length), (8, vI i.1)]) (fun (i : { j : Nat // j ≤ l.length ∧ x ∉ l.take j }) => [B]) (fun (i : { j : Nat // j ≤ l.length ∧ x ∉ l.take j }) => l.length - i.1) rfl (⟨0, Nat.zero_le _, by simp⟩) ?_ ?_ (fun i => ?_)
 · exact ⟨rfl, rfl, rfl, rfl, rfl, trivial⟩
 ·
  exact ent_pick
 obtain ⟨j, hj, hx⟩ := i
 dsimp only
 try dsimp only
 refine p_seq rfl ?_
 refine p_region rfl ?_
 refine wo_pv (pv_lss rfl rfl) rfl ?_
 refine q_seq ?_
 refine p_seq rfl ?_
 first | refine p_ite rfl rfl (fun h9 => ?_) (fun h9 => ?_) | refine p_cond rfl rfl (fun h9 => ?_) (fun h9 => ?_)
 ·
  refine p_skip rfl ?_
  refine t_seq ?_
  refine p_seq rfl ?_
  refine p_block 1 rfl ?_
  refine p_seq rfl ?_
  refine p_region rfl ?_
  refine wo_pv (pv_move rfl) rfl ?_
  refine wo_pv (pv_assign rfl) rfl ?_
  refine q_seq ?_
  refine p_seq rfl ?_
  have hjl : j < l.length := by omega
  have hg : l.getD j [] = l[j] := by simp [hjl]
  refine p_region rfl ?_
  refine wo_pv (pv_move rfl) rfl ?_
  refine wo_pv (pv_move rfl) rfl ?_
  refine wo_pv (pv_move rfl) rfl ?_
  refine r_elemAddr (sz := 1) Tryz.underlying27 ti9 rfl rfl rfl rfl (by omega) (by first | (rw [List.length_map]; omega) | (rw [flat_len (sz := 1) (fun _ => rfl)]; omega) | (simp; omega)) (Nat.mul_one _) rfl ?_
  refine r_eload Tryz.underlying9 rfl rfl (get_mapD [] hjl) rfl ?_
  refine wo_pv (pv_seql rfl rfl) rfl ?_
  refine q_seq ?_
  first | refine p_ite rfl rfl (fun h16 => ?_) (fun h16 => ?_) | refine p_cond rfl rfl (fun h16 => ?_) (fun h16 => ?_)
  ·
   refine p_seq rfl ?_
   refine p_region rfl ?_
   refine wo_pv (pv_move rfl) rfl ?_
   refine wo_pv (pv_assign rfl) rfl ?_
   refine q_seq ?_
   refine p_ret rfl ?_
   refine to_block_ret ?_
   refine t_seq_ret ?_
   refine to_inv_ret ?_
   refine to_block_ret ?_
   refine t_seq_ret ?_
   refine fin_ret (j : Int) (vs := [_]) (Cs := []) rfl (.tmp rfl .nil) rfl ⟨fun _ => ?_, fun _ => by omega⟩ ent_pick
   have : x = l[j] := by rw [← hg]; simpa using h16
   rw [this]; exact List.getElem_mem _
  ·
   refine p_skip rfl ?_
   refine to_block ?_
   refine t_seq ?_
   refine p_region rfl ?_
   refine wo_pv (pv_add rfl rfl (by omega)) rfl ?_
   refine wo_pv (pv_move rfl) rfl ?_
   refine wo_nil ?_
   refine to_inv ⟨j + 1, by omega, ?_⟩ (by dsimp only; omega) ⟨rfl, rfl, rfl, rfl, rfl, trivial⟩ ent_pick
   rw [List.take_succ_eq_append_getElem hjl]
   simp only [List.mem_append, List.mem_singleton, not_or]
   exact ⟨hx, fun e => h16 (by rw [hg, e])⟩
 ·
  refine p_exit 0 rfl ?_
  refine t_seq_exit ?_
  refine to_inv_exit ?_
  refine to_block_here ?_
  refine t_seq ?_
  refine p_seq rfl ?_
  refine p_region rfl ?_
  refine wo_pv (pv_assign rfl) rfl ?_
  refine q_seq ?_
  refine p_ret rfl ?_
  refine fin_ret (-1) (vs := [_]) (Cs := []) rfl (.tmp rfl .nil) rfl ⟨fun h => by omega, fun h => ?_⟩ ent_pick
  rw [List.take_of_length_le (by omega)] at hx
  exact absurd h hx
theorem slices_Contains_sp {B : HP} {a : Option Addr} (n c : Nat) (l : List Bs) (x : Bs) (sh : SlA B a (l.map vS)) (hn : l.length = n) (hb : n ≤ 140737488355328) :
    Sp1 Tryz.prog 174 [.slice a n c, vS x] [B] (vB (decide (x ∈ l))) [B] := by
 refine Sp.body (n := 9) Tryz.call174 Tryz.func174 rfl rfl rfl ?_
 refine p_seq rfl ?_
 refine p_region rfl ?_
 refine wo_pv (pv_assign rfl) rfl ?_
 refine q_seq ?_
 refine p_seq rfl ?_
 refine p_region rfl ?_
 refine wo_pv (pv_move rfl) rfl ?_
 refine wo_pv (pv_move rfl) rfl ?_
 refine r_callX (slices_Index_sp n c l x sh hn hb) rfl rfl rfl (fun i hi => ?_)
 refine wo_pv (pv_geq rfl rfl) rfl ?_
 refine wo_pv (pv_assign rfl) rfl ?_
 refine q_seq ?_
 refine p_ret rfl ?_
 refine fin_ret () (vs := [_]) (Cs := []) rfl (.tmp rfl .nil) ?_ trivial ent_pick
 rw [← decide_eq_decide.2 hi]; rfl
theorem card_Of_sp (a : Option Addr) (n cap : Nat) (c : UInt8) : Sp Tryz.prog 71 [.slice a n cap, vU c.toNat] [] (X := Nat × Nat) (fun b => .func (.func 119) #[] #[.pointer (some ⟨b.1, 0, none⟩), .pointer (some ⟨b.2, 0, none⟩)]) (fun _ => True) (fun b => [Ce b.1 119 [.slice a n cap], Ce b.2 5 [vU c.toNat]]) := by
 refine Sp.body (n := 6) Tryz.call71 Tryz.func71 rfl rfl rfl ?_
 refine p_seq rfl ?_
 refine p_region rfl ?_
 refine wo_box (vs := [_]) rfl rfl rfl (fun b2 => ?_)
 refine wo_box (vs := [_]) rfl rfl rfl (fun b3 => ?_)
 refine wo_pv (pv_assign rfl) rfl ?_
 refine q_seq ?_
 refine p_seq rfl ?_
 refine p_region rfl ?_
 refine wo_pv (pv_makeFunc rfl rfl) rfl ?_
 refine wo_pv (pv_assign rfl) rfl ?_
 refine q_seq ?_
 refine p_ret rfl ?_
 refine fin_ret (b2, b3) (vs := [_]) (Cs := []) rfl (.tmp rfl .nil) rfl trivial ?_
 exact ent_pick
def ofL (c : UInt8) : List CdV → Nat → List (Nat × CdV)
 | [], _ => []
 | q :: r, i => if q.l = c then (i, q) :: ofL c r (i + 1) else ofL c r (i + 1)
theorem ofL_app (c : UInt8) (l m : List CdV) (i : Nat) : ofL c (l ++ m) i = ofL c l i ++ ofL c m (i + l.length) := by
 induction l generalizing i with
 | nil => rfl
 | cons q l ih =>
   simp only [List.cons_append, ofL, ih, List.length_cons, show i + 1 + l.length = i + (l.length + 1) from by omega]
   split <;> simp
theorem ofL_take {c : UInt8} {qs : List CdV} {j : Nat} (h : j < qs.length) : ofL c (qs.take (j + 1)) 0 = ofL c (qs.take j) 0 ++ (if qs[j].l = c then [(j, qs[j])] else []) := by
 rw [List.take_succ_eq_append_getElem h, ofL_app, List.length_take]
 have : 0 + min j qs.length = j := by omega
 rw [this]
 simp only [ofL]
theorem ofL_mem {c : UInt8} {qs : List CdV} {i : Nat} {p : Nat × CdV} (h : p ∈ ofL c qs i) : p.2 ∈ qs ∧ p.2.l = c := by
 induction qs generalizing i with
 | nil => cases h
 | cons q r ih =>
   simp only [ofL] at h
   split at h
   · rcases List.mem_cons.1 h with rfl | h
     · rename_i e; exact ⟨by simp, e⟩
     · have := ih h; exact ⟨by simp [this.1], this.2⟩
   · have := ih h; exact ⟨by simp [this.1], this.2⟩
theorem ofL_args {c : UInt8} (qs : List CdV) (i : Nat) : (ofL c qs i).map (fun p => p.2.args) = ((cdsOf qs).filter (fun x => x.l = c)).map (·.args) := by
 induction qs generalizing i with
 | nil => rfl
 | cons q r ih =>
   simp only [ofL, cdsOf, List.map_cons, List.filter_cons]
   have e : q.cd.l = q.l := rfl
   by_cases h : q.l = c
   · rw [if_pos h, e, if_pos (by simp [h]), List.map_cons, List.map_cons, ih]; rfl
   · rw [if_neg h, e, if_neg (by simp [h]), ih]; rfl
abbrev okO (c : UInt8) (qs : List CdV) : List (Nat × CdV) → Nat × CdV → Prop := fun pre x => ∃ r, ofL c qs 0 = pre ++ x :: r
abbrev stopO (c : UInt8) (qs : List CdV) : List (Nat × CdV) → Prop := fun pre => ∃ r, ofL c qs 0 = pre ++ r
abbrev encO (p : Nat × CdV) : List Value := [vI p.1, .slice p.2.a p.2.args.length p.2.c]
theorem ofL_split {c : UInt8} {qs : List CdV} {j : Nat} (h : j < qs.length) : ∃ r, ofL c qs 0 = ofL c (qs.take (j + 1)) 0 ++ r := by
 conv => enter [1, r, 1]; rw [← List.take_append_drop (j + 1) qs, ofL_app]
 exact ⟨_, rfl⟩
theorem card_Of_it {B : HP} {a : Option Addr} (n cap b2 b3 : Nat) (qs : List CdV) (c : UInt8) (sh : SlA B a (qs.flatMap CdV.cells)) (hn : qs.length = n) (hb : n ≤ 140737488355328) :
    Iter Tryz.prog 119 [.pointer (some ⟨b2, 0, none⟩), .pointer (some ⟨b3, 0, none⟩)] encO (okO c qs) (stopO c qs) [Ce b2 119 [.slice a n cap], Ce b3 5 [vU c.toNat], B] [Ce b2 119 [.slice a n cap], Ce b3 5 [vU c.toNat], B] (ofL c qs 0) (fun _ => .tuple #[]) := by
 intro y J Jx ys
 subst hn
 haveI : RdSl a (qs.flatMap CdV.cells) [B] := ⟨⟨B, sh, .here⟩⟩
 refine Sp.body (n := 26) Tryz.call119 Tryz.func119 rfl rfl rfl ?_
 refine p_seq rfl ?_
 refine p_region rfl ?_
 refine r_load Tryz.underlying119 rfl rfl rfl rfl ?_
 refine wo_pv (pv_call_len_sl Tryz.underlying119 rfl) rfl ?_
 refine wo_pv (pv_move rfl) rfl ?_
 refine q_seq ?_
 refine p_block 0 rfl ?_
 refine p_loop (fun (i : { j : Nat // j ≤ qs.length }) => [(0, y), (1, .pointer (some ⟨b2, 0, none⟩)), (2, .pointer (some ⟨b3, 0, none⟩)), (6, .slice a qs.length cap), (7, vI qs.length), (8, vI i.1)]) (fun (i : { j : Nat // j ≤ qs.length }) => [J (ofL c (qs.take i.1) 0), Ce b2 119 [.slice a qs.length cap], Ce b3 5 [vU c.toNat], B]) (fun (i : { j : Nat // j ≤ qs.length }) => qs.length - i.1) rfl (⟨0, Nat.zero_le _⟩) ?_ ?_ (fun i => ?_)
 · exact ⟨rfl, rfl, rfl, rfl, rfl, rfl, trivial⟩
 ·
  exact Ent.refl _
 obtain ⟨j, hj⟩ := i
 dsimp only
 try dsimp only
 refine p_seq rfl ?_
 refine p_region rfl ?_
 refine wo_pv (pv_lss rfl rfl) rfl ?_
 refine q_seq ?_
 refine p_seq rfl ?_
 first | refine p_ite rfl rfl (fun h9 => ?_) (fun h9 => ?_) | refine p_cond rfl rfl (fun h9 => ?_) (fun h9 => ?_)
 ·
  refine p_skip rfl ?_
  refine t_seq ?_
  refine p_seq rfl ?_
  refine p_block 1 rfl ?_
  refine p_seq rfl ?_
  have hjl : j < qs.length := by omega
  have htk := ofL_take (c := c) hjl
  obtain ⟨rr, hrr⟩ := ofL_split (c := c) hjl
  refine p_region rfl ?_
  refine wo_pv (pv_move rfl) rfl ?_
  refine r_elemAddr (sz := 2) Tryz.underlying119 ti133 rfl rfl rfl rfl (by omega) (by first | (rw [List.length_map]; omega) | (rw [flat_len (sz := 2) (fun _ => rfl)]; omega) | (simp; omega)) rfl rfl ?_
  refine r_eloada (vs := [_, _]) (sz := 2) Tryz.underlying133 rfl ti133 rfl rfl (by rw [flat_len (sz := 2) (fun _ => rfl)]; omega) rfl (by refine get_flat (fun x => ?_) ?_ <;> first | rfl | omega) rfl ?_
  refine wo_alloc (zs := [.int .u8 0, .slice none 0 0]) ti133 rfl rfl rfl (fun b5 => ?_)
  refine wo_pv (pv_assign rfl) rfl ?_
  refine r_storea ti133 rfl rfl rfl rfl (by simp; try omega) ?_
  refine q_seq ?_
  refine p_seq rfl ?_
  refine p_region rfl ?_
  refine wo_pv (pv_fieldAddrk Tryz.underlying133 rfl ti5 rfl rfl (k := 0) rfl (by first | exact Nat.zero_add _ | exact Nat.add_zero _ | exact rfl)) rfl ?_
  refine r_load Tryz.underlying5 rfl rfl rfl rfl ?_
  refine r_load Tryz.underlying5 rfl rfl rfl rfl ?_
  refine wo_pv (pv_eql rfl rfl) rfl ?_
  refine wo_pv (pv_move rfl) rfl ?_
  first | refine wo_gite (j := 4) rfl rfl (fun h17 => ?_) (fun h17 => ?_) | refine wo_gsplit (j := 4) rfl rfl (fun h17 => ?_) (fun h17 => ?_)
  ·
   have hlc : qs[j].l = c := u8eq.2 (by omega)
   rw [if_pos hlc] at htk
   refine wo_in (b := true) rfl ?_
   refine wo_pv (pv_move rfl) rfl ?_
   refine wo_in (b := true) rfl ?_
   refine wo_pv (pv_move rfl) rfl ?_
   refine wo_in (b := true) rfl ?_
   refine wo_pv (pv_fieldAddrk Tryz.underlying133 rfl ti27 rfl rfl (k := 1) rfl (by first | exact Nat.zero_add _ | exact Nat.add_zero _ | exact rfl)) rfl ?_
   refine wo_in (b := true) rfl ?_
   refine r_load Tryz.underlying27 rfl rfl rfl rfl ?_
   refine wo_in (b := true) rfl ?_
   refine r_yield ys (ofL c (qs.take j) 0) (j, qs[j]) ⟨rr, by rw [hrr, htk, List.append_assoc]; rfl⟩ rfl rfl rfl ?_ ?_
   ·
    refine wo_in (b := true) rfl ?_
    refine wo_pv (by first | exact pv_notd rfl | exact pv_not rfl) rfl ?_
    refine wo_pv (pv_pick_t rfl rfl) rfl ?_
    refine q_seq ?_
    refine p_false rfl rfl ?_
    refine p_skip rfl ?_
    refine to_block ?_
    refine t_seq ?_
    refine p_region rfl ?_
    refine wo_pv (pv_add rfl rfl (by omega)) rfl ?_
    refine wo_pv (pv_move rfl) rfl ?_
    refine wo_nil ?_
    refine to_inv ⟨j + 1, by omega⟩ (by dsimp only; omega) ⟨rfl, rfl, rfl, rfl, rfl, rfl, trivial⟩ ?_
    dsimp only
    rw [htk]
    exact ent_pick
   ·
    refine wo_in (b := true) rfl ?_
    refine wo_pv (by first | exact pv_notd rfl | exact pv_not rfl) rfl ?_
    refine wo_pv (pv_pick_t rfl rfl) rfl ?_
    refine q_seq ?_
    refine p_true rfl rfl ?_
    refine p_ret rfl ?_
    refine to_block_ret ?_
    refine t_seq_ret ?_
    refine to_inv_ret ?_
    refine to_block_ret ?_
    refine fin_ret (some (ofL c (qs.take (j + 1)) 0)) (vs := []) (Cs := []) rfl .nil rfl (fun p e => by cases e; exact ⟨rr, hrr⟩) ?_
    simp only [endsAt]
    rw [htk]
    exact ent_pick
  ·
   have hlc : ¬ qs[j].l = c := fun e => h17 (by rw [e])
   rw [if_neg hlc, List.append_nil] at htk
   refine wo_out (b := false) rfl rfl rfl ?_
   refine wo_out (b := false) rfl rfl rfl ?_
   refine wo_out (b := false) rfl rfl rfl ?_
   refine wo_out (b := false) rfl rfl rfl ?_
   refine wo_out (b := false) rfl rfl rfl ?_
   refine wo_out (b := false) rfl rfl rfl ?_
   refine wo_pv (pv_pick_f rfl rfl) rfl ?_
   refine q_seq ?_
   refine p_false rfl rfl ?_
   refine p_skip rfl ?_
   refine to_block ?_
   refine t_seq ?_
   refine p_region rfl ?_
   refine wo_pv (pv_add rfl rfl (by omega)) rfl ?_
   refine wo_pv (pv_move rfl) rfl ?_
   refine wo_nil ?_
   refine to_inv ⟨j + 1, by omega⟩ (by dsimp only; omega) ⟨rfl, rfl, rfl, rfl, rfl, rfl, trivial⟩ ?_
   dsimp only
   rw [htk]
   exact ent_pick
 ·
  refine p_exit 0 rfl ?_
  refine t_seq_exit ?_
  refine to_inv_exit ?_
  refine to_block_here ?_
  have hjl : j = qs.length := by omega
  subst hjl
  rw [List.take_length]
  refine fin_end none (vs := []) (Cs := []) rfl .nil rfl (fun pre e => by cases e) ?_
  simp only [endsAt]
  exact ent_pick
def oneS (l : List (Nat × CdV)) : Value := match l with
 | [] => .slice none 0 0
 | p :: _ => .slice p.2.a p.2.args.length p.2.c
theorem card_One_sp {B : HP} {a : Option Addr} (n cap : Nat) (qs : List CdV) (c : UInt8) (sh : SlA B a (qs.flatMap CdV.cells)) (hn : qs.length = n) (hb : n ≤ 140737488355328) :
    Sp1 Tryz.prog 72 [.slice a n cap, vU c.toNat] [B] (.tuple #[oneS (ofL c qs 0), vI (ofL c qs 0).length]) [B] := by
 have hle : ∀ (l : List CdV) i, (ofL c l i).length ≤ l.length := by
  intro l
  induction l with
  | nil => intro i; exact Nat.le_refl _
  | cons q r ih => intro i; have := ih (i + 1); simp only [ofL, List.length_cons]; split <;> (try simp only [List.length_cons]) <;> omega
 have hl0 := hle qs 0
 refine Sp.body (n := 22) Tryz.call72 Tryz.func72 rfl rfl rfl ?_
 refine p_seq rfl ?_
 refine p_region rfl ?_
 refine wo_pv (pv_assign rfl) rfl ?_
 refine wo_pv (pv_assign rfl) rfl ?_
 refine q_seq ?_
 refine p_seq rfl ?_
 refine p_region rfl ?_
 refine wo_alloc (zs := [.slice none 0 0]) ti27 rfl rfl rfl (fun b6 => ?_)
 refine q_seq ?_
 refine p_seq rfl ?_
 refine p_region rfl ?_
 refine wo_alloc (zs := [.int .i64 0]) ti3 rfl rfl rfl (fun b7 => ?_)
 refine r_store ti3 rfl rfl rfl rfl (by simp; try omega) ?_
 refine q_seq ?_
 refine p_seq rfl ?_
 refine p_seq rfl ?_
 refine p_region rfl ?_
 refine wo_pv (pv_move rfl) rfl ?_
 refine wo_pv (pv_move rfl) rfl ?_
 refine r_callX (card_Of_sp a n cap c) rfl rfl rfl (fun x12 _ => ?_)
 refine q_seq ?_
 refine p_block 0 rfl ?_
 refine p_rangeFunc (fun pre => [Ce b6 27 [oneS pre], Ce b7 3 [vI pre.length]]) (fun j pre => [Pu False]) rfl (card_Of_it n cap x12.1 x12.2 qs c sh hn hb) rfl (fun _ => by rfl) rfl ?_ (fun l pre q hok => ?_) ?_ (fun j pre hs => ?_)
 · (refine ent_app ?_; exact ent_step (ce_norm (by rfl) (by rfl)) (ent_step (ce_norm (by rfl) (by rfl)) ent_pick))
 ·
  obtain ⟨rr, hrr⟩ := hok
  have hpl := congrArg List.length hrr
  rw [List.length_append, List.length_cons] at hpl
  refine p_region rfl ?_
  refine wo_pv (pv_assign rfl) rfl ?_
  refine q_asg ?_
  refine p_block 1 rfl ?_
  refine p_seq rfl ?_
  refine p_seq rfl ?_
  refine p_region rfl ?_
  refine r_load Tryz.underlying3 rfl rfl rfl rfl ?_
  refine wo_pv (pv_eql rfl rfl) rfl ?_
  refine q_seq ?_
  first | refine p_ite rfl rfl (fun h16 => ?_) (fun h16 => ?_) | refine p_cond rfl rfl (fun h16 => ?_) (fun h16 => ?_)
  ·
   have hp0 : pre = [] := List.eq_nil_of_length_eq_zero (by omega)
   have e1 : oneS (pre ++ [q]) = .slice q.2.a q.2.args.length q.2.c := by rw [hp0]; rfl
   refine p_region rfl ?_
   refine wo_pv (pv_move rfl) rfl ?_
   refine r_store ti27 rfl rfl rfl rfl (by simp; try omega) ?_
   refine q_seq ?_
   refine p_region rfl ?_
   refine r_load Tryz.underlying3 rfl rfl rfl rfl ?_
   refine wo_pv (pv_add rfl rfl (by omega)) rfl ?_
   refine r_store ti3 rfl rfl rfl rfl (by simp; try omega) ?_
   refine wo_nil ?_
   refine to_block ?_
   refine to_round ?_
   rw [e1, List.length_append, List.length_singleton]
   exact ent_step (ce_norm (by rfl) (by rfl)) (ent_step (ce_norm (by rfl) (by rfl)) ent_nil)
  ·
   have e1 : oneS (pre ++ [q]) = oneS pre := by
    cases pre with
    | nil => simp at h16
    | cons p r => rfl
   refine p_skip rfl ?_
   refine t_seq ?_
   refine p_region rfl ?_
   refine r_load Tryz.underlying3 rfl rfl rfl rfl ?_
   refine wo_pv (pv_add rfl rfl (by omega)) rfl ?_
   refine r_store ti3 rfl rfl rfl rfl (by simp; try omega) ?_
   refine wo_nil ?_
   refine to_block ?_
   refine to_round ?_
   rw [e1, List.length_append, List.length_singleton]
   exact ent_step (ce_norm (by rfl) (by rfl)) (ent_step (ce_norm (by rfl) (by rfl)) ent_nil)
 ·
  skip
  refine to_block ?_
  refine t_seq ?_
  refine p_seq rfl ?_
  refine d_draw rfl rfl rfl [Ce b6 27 [oneS (ofL c qs 0)], Ce b7 3 [vI (ofL c qs 0).length]] ?_
  refine d_first 0 rfl rfl rfl (by kernel_rfl) (by kernel_rfl) (tl_load Tryz.underlying27 rfl rfl rfl) ?_
  refine d_first 1 rfl rfl rfl (by kernel_rfl) (by kernel_rfl) (tl_load Tryz.underlying3 rfl rfl rfl) ?_
  refine d_first 2 rfl rfl rfl (by kernel_rfl) (by kernel_rfl) (tl_pv (pv_assign rfl)) ?_
  refine d_first 3 rfl rfl rfl (by kernel_rfl) (by kernel_rfl) (tl_pv (pv_assign rfl)) ?_
  refine d_done (by kernel_rfl) ?_
  refine t_seq ?_
  refine p_ret rfl ?_
  refine fin_ret () (vs := [_, _]) (Cs := []) rfl (.tmp rfl (.tmp rfl .nil)) rfl trivial ?_
  exact ent_pick
 ·
  exact wc_no (fun s => by obtain ⟨_, _, _, _, a, _⟩ := s; exact a)
end Go.Proofs.YtibccdcemcgkeaaGreat
end
