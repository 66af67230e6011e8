/- Texts of this proof, put together: Digit, Digit2, LibS, SlFn, SStore0, SStore2, SHash, SHash2, SHash3, Slic. -/
import Derived.Test.YtdnoacgopfcpbaaGreatQ07
set_option linter.unusedVariables false
set_option linter.unusedSimpArgs false
namespace Go.Proofs.YtdnoacgopfcpbaaGreat
section
set_option maxRecDepth 100000
theorem digit_may_sp (n : Int) : SpF Tryz.prog 206 [vI n] (vB (decide (0 ≤ n ∧ n ≤ 1073741824))) := by
 refine Sp.body (n := 9) Tryz.call206 Tryz.func206 rfl rfl rfl ?_
 refine Qc (k:=Vv (k:=Wq (Qc (k:=Qv (k:=Vv (k:=Gi 2 (t:=fun h5 => ?_) (f:=fun h5 => ?_)))))))
 ·
  refine J1 (k:=J1 (k:=P1 (k:=Vv (k:=Wq (Zt (k:=?_))))))
  refine fin_ret () (vs := [_]) rfl (.tmp rfl .nil) ?_ trivial ent_nil
  simp [pack]; omega
 ·
  refine O0 (k:=O0 (k:=P0 (k:=Vv (k:=Wq (Zt (k:=?_))))))
  refine fin_ret () (vs := [_]) rfl (.tmp rfl .nil) ?_ trivial ent_nil
  simp [pack]; omega
theorem wrap_dgt (m : Nat) : IntKind.u8.wrap (48 + (m : Int) % 10) = ((dgt m).toNat : Int) := by
 rw [dgt_toNat, IntWalk.u8_in _ (by omega)]; omega
theorem digit_Dec_sp (n : Nat) (h : n ≤ 1073741824) : SpF Tryz.prog 159 [vI n] (vS (decN n)) := by
 refine Sp.body (n := 28) Tryz.call159 Tryz.func159 rfl rfl rfl ?_
 refine Qc (k:=Vv (k:=Wq (Za (k:=Qc (k:=Vv (k:=?_))))))
 refine r_callF (digit_may_sp n) rfl rfl rfl ?_
 refine Vv (k:=Wq (Zi (t:=fun h6 => ?_) (f:=fun h6 => ?_)))
 ·
  exfalso; exact h6 ⟨by omega, by omega⟩
  --done
 ·
  refine Zk (k:=Ya (Qc (k:=Qv (k:=Vv (k:=?_)))))
  refine wo_pv (pv_conv rfl Tryz.underlying3 Tryz.underlying5) rfl ?_
  refine Zv [_] (cs := [_]) (k:=fun b11 => ?_)
  refine r_b2s (l := [dgt n]) Tryz.underlying56 Tryz.underlying9 Tryz.underlying5 rfl (by simp [vUs, wrap_dgt]) (by simp) rfl ?_
  refine Vv (k:=Wq (Za (k:=Qc (k:=Qv (k:=Vv (k:=Wq (Zb (k:=?_))))))))
  refine p_loop (fun (i : { p : Nat × List UInt8 // preN p.1 ++ p.2 = decN n ∧ p.1 ≤ n }) => [(0, vI i.1.1), (3, vS i.1.2)]) (fun (i : { p : Nat × List UInt8 // preN p.1 ++ p.2 = decN n ∧ p.1 ≤ n }) => []) (fun (i : { p : Nat × List UInt8 // preN p.1 ++ p.2 = decN n ∧ p.1 ≤ n }) => i.1.1) rfl (⟨(n / 10, [dgt n]), (decN_split n).symm, by dsimp only; omega⟩) ?_ ?_ (fun i => ?_)
  · exact ⟨rfl, rfl, trivial⟩
  ·
   exact ent_pick
  obtain ⟨⟨m, out⟩, hi, hm⟩ := i
  have hlen := decN_len n
  rw [← hi, List.length_append] at hlen
  dsimp only at hi hm hlen
  try dsimp only
  refine Za (k:=Qc (k:=Qv (k:=Wq (Zi (t:=fun h16 => ?_) (f:=fun h16 => ?_)))))
  ·
   refine Zk (k:=Ya (Za (k:=Zb (k:=Zr (k:=Qv (k:=Vv (k:=?_)))))))
   refine wo_pv (pv_conv rfl Tryz.underlying3 Tryz.underlying5) rfl ?_
   refine Zv [_] (cs := [_]) (k:=fun b23 => ?_)
   refine r_b2s (l := [dgt m]) Tryz.underlying56 Tryz.underlying9 Tryz.underlying5 rfl (by simp [vUs, wrap_dgt]) (by simp) rfl ?_
   refine Qv (k:=Vv (k:=Wn (Yb (Ya (Zr (k:=Qv (k:=Vv (k:=Wn ?_))))))))
   refine to_inv ⟨(m / 10, dgt m :: out), ?_, ?_⟩ ?_ ⟨rfl, rfl, trivial⟩ ent_nil
   · rw [← hi, preN_pos (n := m) (by omega)]; simp
   · dsimp only; omega
   · dsimp only; omega
  ·
   refine Ze (k:=Xa (Xi (Xb (Ya (Qc (k:=Qv (k:=Wq (Zt (k:=?_)))))))))
   have hm0 : m = 0 := by omega
   subst hm0
   refine fin_ret () (vs := [_]) rfl (.tmp rfl .nil) ?_ trivial ent_nil
   rw [← hi]; simp [pack, preN]
end
section
set_option maxRecDepth 100000
theorem digit_DecP_sp (n : Nat) : SpF Tryz.prog 159 [vI n] (vS (decP n)) := by
 by_cases h : n ≤ 1073741824
 · rw [decP, if_pos h]; exact digit_Dec_sp n h
 · rw [decP, if_neg h]
   refine Sp.body (n := 28) Tryz.call159 Tryz.func159 rfl rfl rfl ?_
   refine Qc (k:=Vv (k:=Wq (Za (k:=Qc (k:=Vv (k:=?_))))))
   refine r_callF (digit_may_sp n) rfl rfl rfl ?_
   refine Vv (k:=Wq (Zi (t:=fun h6 => ?_) (f:=fun h6 => ?_)))
   ·
    refine Qc (k:=Vv (k:=Wq (Zt (k:=Va ?_))))
    exact fin_ret () (vs := [_]) rfl (.tmp rfl .nil) rfl trivial ent_nil
   ·
    exfalso; exact h6 (by omega)
    --done
theorem zb109ret6 {G : Prop} (h : G := by
    have hd := dn_step (s := s) (i := j) (by omega) n
    rw [hi, if_pos (by omega)] at hd
    refine fin_ret () (vs := [_, _]) rfl (.tmp rfl (.tmp rfl .nil)) ?_ trivial ent_nil
    simp [readDec, hd, pack]) : G := h
theorem zb109ret10 {G : Prop} (h : G := by
    have hjs : j = s.length := by omega
    subst hjs
    rw [List.drop_length, dn] at hi
    have hc : s = [] ∨ ¬ decP n = s := by first | exact .inl ‹s = []› | exact .inr ‹_›
    refine fin_ret () (vs := [_, _]) rfl (.tmp rfl (.tmp rfl .nil)) ?_ trivial ent_nil
    simp only [readDec, ← hi, if_pos hc]
    rfl) : G := h
theorem digit_ReadDec_sp (s : List UInt8) (hs : s.length ≤ 140737488355328) : SpF Tryz.prog 109 [vS s] (.tuple #[vI ((readDec s).getD 0 : Nat), vB (readDec s).isSome]) := by
 refine Sp.body (n := 43) Tryz.call109 Tryz.func109 rfl rfl rfl ?_
 refine Qc (k:=Qv (k:=Wq (Qc (k:=Vv (k:=Wq (Za (k:=Qc (k:=?_))))))))
 refine Qv (k:=Vv (k:=Wq (Zb (k:=?_))))
 refine p_loop (fun (i : { p : Nat × Nat // dn (s.drop p.1) p.2 = dn s 0 ∧ p.1 ≤ s.length ∧ p.2 ≤ 10737418249 }) => [(0, vS s), (7, vI s.length), (8, vI i.1.1), (4, vI i.1.2)]) (fun (i : { p : Nat × Nat // dn (s.drop p.1) p.2 = dn s 0 ∧ p.1 ≤ s.length ∧ p.2 ≤ 10737418249 }) => []) (fun (i : { p : Nat × Nat // dn (s.drop p.1) p.2 = dn s 0 ∧ p.1 ≤ s.length ∧ p.2 ≤ 10737418249 }) => s.length - i.1.1) rfl (⟨(0, 0), rfl, Nat.zero_le _, by omega⟩) ?_ ?_ (fun i => ?_)
 · exact ⟨rfl, rfl, rfl, rfl, trivial⟩
 ·
  exact ent_pick
 obtain ⟨⟨j, n⟩, hi, hj, hn⟩ := i
 dsimp only at hi hj hn
 try dsimp only
 refine Qc (k:=Vv (k:=Wq (Za (k:=Zi (t:=fun h9 => ?_) (f:=fun h9 => ?_)))))
 ·
  refine Zk (k:=Ya (Za (k:=Zb (k:=Qc (k:=Qv (k:=Wq (Za (k:=Qc (k:=?_)))))))))
  refine Qv (k:=Qv (k:=Vv (k:=Gi 4 (t:=fun h15 => ?_) (f:=fun h15 => ?_))))
  ·
   refine O1 (k:=O1 (k:=O1 (k:=O1 (k:=P1 (k:=Vv (k:=O1 (k:=O1 (k:=P1 (k:=Wq (Z1 (k:=Za (k:=?_))))))))))))
   refine Zr (k:=Qv (k:=Wq (Zt (k:=Va (Vb (Va (Vi (Vb (Va ?_)))))))))
   exact zb109ret6
  ·
   refine J0 (k:=J0 (k:=J0 (k:=J0 (k:=P0 (k:=Vv (k:=Gi 10 (t:=fun h21 => ?_) (f:=fun h21 => ?_)))))))
   ·
    refine O1 (k:=O1 (k:=P1 (k:=Wq (Z1 (k:=Qc (k:=Qv (k:=Wq (Zt (k:=Va ?_)))))))))
    refine Vb (Va (Vi (Vb (Va ?_))))
    exact zb109ret6
   ·
    refine J0 (k:=J0 (k:=P0 (k:=Wq (Zi (t:=fun h24 => ?_) (f:=fun h24 => ?_)))))
    ·
     refine Qc (k:=Qv (k:=Wq (Zt (k:=Va (Vb (Va (Vi (Vb (Va ?_)))))))))
     exact zb109ret6
    ·
     refine Zk (k:=Ya (Zr (k:=Qv (k:=Qv (k:=Vv (k:=?_))))))
     refine wo_pv (by first | exact pv_subu rfl rfl (by omega) | exact pv_subw rfl rfl) rfl ?_
     refine wo_pv (pv_conv_in rfl Tryz.underlying5 Tryz.underlying3 (by first | exact wrap_byte _ | exact wrap_u8 _ | exact i64_in' (by omega))) rfl ?_
     refine Qv (k:=Wn (Yb (Ya (Zr (k:=Qv (k:=Wn ?_))))))
     have hd := dn_step (s := s) (i := j) (by omega) n
     rw [hi, if_neg (by omega)] at hd
     refine to_inv ⟨(j + 1, 10 * n + ((s.getD j 0).toNat - 48)), hd.symm, ?_, ?_⟩ ?_ ⟨rfl, rfl, rfl, ?_, trivial⟩ ent_nil
     · dsimp only; omega
     · dsimp only; omega
     · dsimp only; omega
     · have e : (((10 * n + ((s.getD j 0).toNat - 48) : Nat)) : Int) = 10 * (n : Int) + (((s.getD j 0).toNat : Int) - 48) := by omega
       dsimp only; rw [e]; rfl
 ·
  refine Ze (k:=Xa (Xi (Xb (Ya (Za (k:=Qc (k:=Qv (k:=Vv (k:=Gi 2 (t:=fun h36 => ?_) (f:=fun h36 => ?_))))))))))
  ·
   refine O1 (k:=O1 (k:=O1 (k:=O1 (k:=P1 (k:=Wq (Z1 (k:=Qc (k:=Qv (k:=Wq ?_)))))))))
   refine Zt (k:=Va ?_)
   exact zb109ret10
  ·
   refine J0 (k:=I0 (k:=?_))
   refine r_callF (digit_DecP_sp n) rfl rfl rfl ?_
   refine J0 (k:=J0 (k:=P0 (k:=Wq (Zi (t:=fun h41 => ?_) (f:=fun h41 => ?_)))))
   ·
    refine Qc (k:=Qv (k:=Wq (Zt (k:=Va ?_))))
    exact zb109ret10
   ·
    refine Zk (k:=Ya (Qc (k:=Qv (k:=Vv (k:=Wq (Zt (k:=?_)))))))
    have hjs : j = s.length := by omega
    subst hjs
    rw [List.drop_length, dn] at hi
    refine fin_ret () (vs := [_, _]) rfl (.tmp rfl (.tmp rfl .nil)) ?_ trivial ent_nil
    simp_all [readDec, pack, ← hi]
end
section
set_option maxRecDepth 100000
/-- A Builder that one has, with what it holds. -/
def IsB (p : Nat) (l : List UInt8) : HP := Ex fun q1 : Value => Ex fun q2 : Value => Al [Pu ((q1 = .pointer none ∨ q1 = .pointer (some ⟨p, 0, none⟩)) ∧ (l.length = 0 → q2 = .slice none 0 0)), Ce p 225 [q1, q2], Row 5 1 q2 l.length (vUs l)]
theorem copyCheck_nil (p : Nat) (v : Value) : Sp1 Tryz.prog 204 [.pointer (some ⟨p, 0, none⟩)] [Ce p 225 [.pointer none, v]] (.tuple #[]) [Ce p 225 [.pointer (some ⟨p, 0, none⟩), v]] := by
 refine Sp.body (n := 20) Tryz.call204 Tryz.func204 rfl rfl rfl ?_
 refine Qc (k:=Qv (k:=Qx 0 223 (k:=?_)))
 refine wo_pv (pv_peql_nil Tryz.underlying223 rfl rfl) rfl ?_
 refine Wq (Zi (t:=fun h6 => ?_) (f:=fun h6 => ?_))
 ·
  refine Zr (k:=Qv (k:=?_))
  refine r_toUnsafe Tryz.underlying223 Tryz.underlying280 ti225 rfl rfl .here rfl rfl ?_
  refine wo_pv (pv_extern Tryz.func228 (by kernel_rfl) (by kernel_rfl) (by kernel_rfl) (e := Extern.AbiNoEscape.same) (by kernel_rfl) rfl (fun w => rfl)) rfl ?_
  refine r_fromUnsafe Tryz.underlying280 Tryz.underlying223 ti225 rfl (by kernel_rfl) rfl .here rfl ?_
  refine Vv (k:=Vf 0 223 (k:=Zo (k:=Wn ?_)))
  refine fin_end () (vs := []) (Cs := []) rfl .nil rfl trivial ?_
  exact ent_pick
 ·
  simp at h6
  --done
theorem copyCheck_own (p : Nat) (v : Value) : Sp1 Tryz.prog 204 [.pointer (some ⟨p, 0, none⟩)] [Ce p 225 [.pointer (some ⟨p, 0, none⟩), v]] (.tuple #[]) [Ce p 225 [.pointer (some ⟨p, 0, none⟩), v]] := by
 refine Sp.body (n := 20) Tryz.call204 Tryz.func204 rfl rfl rfl ?_
 refine Qc (k:=Qv (k:=Qx 0 223 (k:=?_)))
 refine wo_pv (pv_peql_nil Tryz.underlying223 rfl rfl) rfl ?_
 refine Wq (Zi (t:=fun h6 => ?_) (f:=fun h6 => ?_))
 ·
  simp at h6
  --done
 ·
  refine Qc (k:=Qv (k:=Qx 0 223 (k:=Vv (k:=?_))))
  refine wo_pv (pv_pneq_same Tryz.underlying223 ti225 rfl rfl) rfl ?_
  refine Wq (Zi (t:=fun h19 => ?_) (f:=fun h19 => ?_))
  ·
   cases h19
   --done
  ·
   refine Zk (k:=?_)
   refine fin_end () (vs := []) (Cs := []) rfl .nil rfl trivial ?_
   exact ent_pick
theorem copyCheck_sp (p : Nat) (q v : Value) (hq : q = .pointer none ∨ q = .pointer (some ⟨p, 0, none⟩)) : Sp1 Tryz.prog 204 [.pointer (some ⟨p, 0, none⟩)] [Ce p 225 [q, v]] (.tuple #[]) [Ce p 225 [.pointer (some ⟨p, 0, none⟩), v]] := by
 rcases hq with rfl | rfl
 · exact copyCheck_nil p v
 · exact copyCheck_own p v
theorem WriteString_sp (p : Nat) (l s : List UInt8) (h : l.length + s.length ≤ 140737488355328) : Sp1 Tryz.prog 202 [.pointer (some ⟨p, 0, none⟩), vS s] [IsB p l] (.tuple #[vI s.length, .nilIface]) [IsB p (l ++ s)] := by
 refine Sp.body (n := 19) Tryz.call202 Tryz.func202 rfl rfl rfl ?_
 refine wc_exi fun q1 => wc_exi fun q2 => wc_al (wc_pu fun hq => ?_)
 refine Qc (k:=Qv (k:=Wq (Qc (k:=Vv (k:=?_)))))
 refine r_call1 (copyCheck_sp p q1 q2 hq.1) rfl rfl rfl ?_
 refine Wq (Qc (k:=Qv (k:=Vv (k:=Qx 1 56 (k:=Vv (k:=?_))))))
 refine wo_opT (by intro c; simp) (opt_appendS Tryz.underlying56 Tryz.underlying9 ti5 rfl rfl rfl rfl rfl h (xs := vUs l)) rfl (fun x14 hx14 => ?_)
 obtain ⟨⟨a14, c14, rfl⟩, hx14⟩ := hx14
 refine Vv (k:=Vf 1 56 (k:=?_))
 refine r_store ti56 rfl rfl rfl rfl (by simp) ?_
 refine Wq (Qc (k:=Qv (k:=Qv (k:=Wq (Zt (k:=?_))))))
 refine fin_ret () (vs := [_, _]) (Cs := []) rfl (.tmp rfl (.tmp rfl .nil)) rfl trivial ?_
 refine ent_ex (.pointer (some ⟨p, 0, none⟩)) ?_
 refine ent_ex (.slice a14 (l.length + s.length) c14) ?_
 refine ent_al ?_
 have e1 : (l ++ s).length = l.length + s.length := List.length_append
 have e2 : vUs (l ++ s) = vUs l ++ vUs s := by simp [vUs]
 rw [e1, e2]
 refine ent_pu ⟨.inr rfl, fun e => hx14 e (hq.2 (by omega))⟩ ent_pick
theorem String_nil (p : Nat) (q1 : Value) : wc none Tryz.prog 14 (bodyOf Tryz.f157) (locs 0 [.pointer (some ⟨p, 0, none⟩)]) [Ce p 225 [q1, .slice none 0 0]] (finO Tryz.prog Tryz.f157 (fun _ : Unit => vS []) (fun _ => True) (fun _ => [])) := by
 refine Qc (k:=Vv (k:=Wq (Za (k:=Dw [Ce p 225 [q1, .slice none 0 0]] (k:=?_)))))
 refine Dv 0 (k:=Dv 1 (k:=Di 2 (t:=Uf 1 56) (k:=Di 3 (t:=Ul) (k:=?_))))
 refine d_first 4 rfl rfl rfl (by kernel_rfl) (by kernel_rfl) (tl_pv (pv_usd_nil rfl)) ?_
 refine Dv 5 (k:=Dv 6 (k:=Di 7 (t:=Uf 1 56) (k:=Di 8 (t:=Ul) (k:=Dv 9 (k:=?_)))))
 refine d_first 10 rfl rfl rfl (by kernel_rfl) (by kernel_rfl) (tl_pv (pv_us_none rfl rfl)) ?_
 refine Dv 11 (k:=Dd (k:=Ya (Zt (k:=?_))))
 exact fin_ret () (vs := [_]) (Cs := []) rfl (.tmp rfl .nil) rfl trivial ent_nil
theorem String_own (p : Nat) (q1 : Value) (g cap : Nat) (cur : List Value) (l : List UInt8) (h0 : l ≠ []) (hc : l.length ≤ cap) (hcur : cur.take l.length = vUs l) (h : l.length ≤ 140737488355328) :
    wc none Tryz.prog 14 (bodyOf Tryz.f157) (locs 0 [.pointer (some ⟨p, 0, none⟩)]) [Ce g 5 cur, Ce p 225 [q1, .slice (some ⟨g, 0, none⟩) l.length cap]] (finO Tryz.prog Tryz.f157 (fun _ : Unit => vS l) (fun _ => True) (fun _ => [])) := by
 have hl0 : l.length ≠ 0 := by simpa using h0
 refine Qc (k:=Vv (k:=Wq (Za (k:=Dw [Ce p 225 [q1, .slice (some ⟨g, 0, none⟩) l.length cap]] (k:=?_)))))
 refine Dv 0 (k:=Dv 1 (k:=Di 2 (t:=Uf 1 56) (k:=Di 3 (t:=Ul) (k:=?_))))
 refine d_first 4 rfl rfl rfl (by kernel_rfl) (by kernel_rfl) (tl_pv (pv_usd_row rfl (by omega))) ?_
 refine Dv 5 (k:=Dv 6 (k:=Di 7 (t:=Uf 1 56) (k:=Di 8 (t:=Ul) (k:=Dv 9 (k:=Dn 10 (k:=?_))))))
 refine an_opT (opt_us_row Tryz.underlying263 (by kernel_rfl) rfl rfl h0 (by omega) hcur) rfl (fun _ _ => ?_)
 refine Dv 11 (k:=Dd (k:=Ya (Zt (k:=?_))))
 exact fin_ret () (vs := [_]) (Cs := []) rfl (.tmp rfl .nil) rfl trivial ent_nil
theorem String_sp (p : Nat) (l : List UInt8) (h : l.length ≤ 140737488355328) : Sp1 Tryz.prog 157 [.pointer (some ⟨p, 0, none⟩)] [IsB p l] (vS l) [] := by
 refine Sp.body (n := 14) Tryz.call157 Tryz.func157 rfl rfl rfl ?_
 refine wc_exi fun q1 => wc_exi fun q2 => wc_al (wc_pu fun hq => ?_)
 refine wc_front (Row 5 1 q2 l.length (vUs l)) (wc_row (fun e1 e2 e3 => ?_) (fun g cap cur e1 e2 e3 e4 e5 e6 => ?_))
 · subst e1
   have e4 : l = [] := List.eq_nil_of_length_eq_zero e2
   subst e4
   exact String_nil p q1
 · subst e1
   have h0 : l ≠ [] := fun x => by have := hq.2 (by rw [x]; rfl); cases this
   exact String_own p q1 g cap cur l h0 e2 (by simpa using e6) h
end
section
set_option maxRecDepth 100000
section
variable {r : Option Nat} {P : Program} {n : Nat} {ops : Array Oper} {os : List Oper} {A : List HP} {L : Loc} {Hs : List HP} {Q : Out} {c : Code}
end
theorem get_mapD {α : Type} {f : α → Value} {l : List α} {m : Nat} (d : α) (h : m < l.length) : (l.map f)[m]? = some (f (l.getD m d)) := by simp [h]
end
section
set_option maxRecDepth 100000
theorem indexByte_find (l : List UInt8) (c : UInt8) : Lib.indexByte l c = (match l.findIdx? (· == c) with | none => -1 | some i => (i : Int)) := by
 induction l with
 | nil => rfl
 | cons b l ih =>
   simp only [Lib.indexByte, List.findIdx?_cons, ih]
   by_cases h : b == c
   · simp [h]
   · simp only [h]
     cases l.findIdx? (· == c) with
     | none => rfl
     | some i => have h1 : ¬ ((i : Int) = -1) := by omega
                 simp [h1]
end
section
set_option maxRecDepth 100000
theorem fold_newB {p T : Nat} {v0 v1 : Value} {Hs Rs : List HP} [q : OwnC p T [v0, v1] Hs Rs] (hT : T = 225) (h0 : v0 = .pointer none) (h1 : v1 = .slice none 0 0) : Ent Hs (IsB p [] :: Rs) := by
 subst hT; subst h0; subst h1
 refine ent_ex (.pointer none) ?_
 refine ent_ex (.slice none 0 0) ?_
 refine ent_al (ent_pu ⟨.inl rfl, fun _ => rfl⟩ ?_)
 exact ent_step (ent_pick1 q.get) row_nil
end
section
set_option maxRecDepth 100000
theorem RotateLeft32_sp (x : UInt32) (k : Nat) (hk : k = 1 ∨ k = 5 ∨ k = 30) : SpF Tryz.prog 236 [vW x, vI k] (vW (rotl x k)) := by
 rcases hk with rfl | rfl | rfl
 · skip
   refine Sp.body (n := 17) Tryz.call236 Tryz.func236 rfl rfl rfl ?_
   refine Qc (k:=Vv (k:=Wq (Qc (k:=Vv (k:=?_)))))
   refine wo_pv (pv_conv rfl Tryz.underlying3 Tryz.underlying97) rfl ?_
   refine wo_pv (pv_and rfl rfl) rfl ?_
   refine Vv (k:=Wq (Qc (k:=Qv (k:=?_))))
   refine wo_pv (pv_shlW (m := 1) rfl rfl (by decide) (by omega)) rfl ?_
   refine Qv (k:=?_)
   refine wo_pv (pv_subw rfl rfl) rfl ?_
   refine wo_pv (pv_shrW (m := 31) rfl rfl (by decide) (by omega)) rfl ?_
   refine wo_pv (pv_orW rfl rfl) rfl ?_
   refine Vv (k:=Wq (Zt (k:=?_)))
   exact fin_ret () (vs := [_]) (Cs := []) rfl (.tmp rfl .nil) rfl trivial ent_nil
 · skip
   refine Sp.body (n := 17) Tryz.call236 Tryz.func236 rfl rfl rfl ?_
   refine Qc (k:=Vv (k:=Wq (Qc (k:=Vv (k:=?_)))))
   refine wo_pv (pv_conv rfl Tryz.underlying3 Tryz.underlying97) rfl ?_
   refine wo_pv (pv_and rfl rfl) rfl ?_
   refine Vv (k:=Wq (Qc (k:=Qv (k:=?_))))
   refine wo_pv (pv_shlW (m := 5) rfl rfl (by decide) (by omega)) rfl ?_
   refine Qv (k:=?_)
   refine wo_pv (pv_subw rfl rfl) rfl ?_
   refine wo_pv (pv_shrW (m := 27) rfl rfl (by decide) (by omega)) rfl ?_
   refine wo_pv (pv_orW rfl rfl) rfl ?_
   refine Vv (k:=Wq (Zt (k:=?_)))
   exact fin_ret () (vs := [_]) (Cs := []) rfl (.tmp rfl .nil) rfl trivial ent_nil
 · skip
   refine Sp.body (n := 17) Tryz.call236 Tryz.func236 rfl rfl rfl ?_
   refine Qc (k:=Vv (k:=Wq (Qc (k:=Vv (k:=?_)))))
   refine wo_pv (pv_conv rfl Tryz.underlying3 Tryz.underlying97) rfl ?_
   refine wo_pv (pv_and rfl rfl) rfl ?_
   refine Vv (k:=Wq (Qc (k:=Qv (k:=?_))))
   refine wo_pv (pv_shlW (m := 30) rfl rfl (by decide) (by omega)) rfl ?_
   refine Qv (k:=?_)
   refine wo_pv (pv_subw rfl rfl) rfl ?_
   refine wo_pv (pv_shrW (m := 2) rfl rfl (by decide) (by omega)) rfl ?_
   refine wo_pv (pv_orW rfl rfl) rfl ?_
   refine Vv (k:=Wq (Zt (k:=?_)))
   exact fin_ret () (vs := [_]) (Cs := []) rfl (.tmp rfl .nil) rfl trivial ent_nil
theorem hash_mixed_sp (i : Nat) (b c d : UInt32) (hi : i < 80) : SpF Tryz.prog 235 [vI i, vW b, vW c, vW d] (.tuple #[vW (mixW i b c d).1, vW (mixW i b c d).2]) := by
 have hm : mixW i b c d = if i / 20 = 0 then ((b &&& c) ||| (~~~b &&& d), 0x5a827999) else if i / 20 = 1 then (b ^^^ c ^^^ d, 0x6ed9eba1) else if i / 20 = 2 then ((b &&& c) ||| (b &&& d) ||| (c &&& d), 0x8f1bbcdc) else (b ^^^ c ^^^ d, 0xca62c1d6) := rfl
 refine Sp.body (n := 47) Tryz.call235 Tryz.func235 rfl rfl rfl ?_
 refine Qc (k:=Qv (k:=Wq (Za (k:=Qc (k:=Qv (k:=Wq (Zb (k:=?_))))))))
 refine Qc (k:=Qv (k:=Wq (Zi (t:=fun h12 => ?_) (f:=fun h12 => ?_))))
 ·
  refine Qc (k:=Qv (k:=?_))
  refine wo_pv (pv_andW rfl rfl) rfl ?_
  refine Vv (k:=?_)
  refine wo_pv (pv_notW rfl) rfl ?_
  refine Vv (k:=?_)
  refine wo_pv (pv_andW rfl rfl) rfl ?_
  refine wo_pv (pv_orW rfl rfl) rfl ?_
  refine Qv (k:=Wq (Zt (k:=Vb (Va ?_))))
  rw [if_pos (by omega)] at hm
  rw [hm]
  exact fin_ret () (vs := [_, _]) (Cs := []) rfl (.tmp rfl (.tmp rfl .nil)) rfl trivial ent_nil
 ·
  refine Qc (k:=Qv (k:=Wq (Zi (t:=fun h22 => ?_) (f:=fun h22 => ?_))))
  ·
   refine Qc (k:=Qv (k:=?_))
   refine wo_pv (pv_xorW rfl rfl) rfl ?_
   refine Vv (k:=?_)
   refine wo_pv (pv_xorW rfl rfl) rfl ?_
   refine Qv (k:=Wq (Zt (k:=Vb (Va ?_))))
   rw [if_neg (by omega), if_pos (by omega)] at hm
   rw [hm]
   exact fin_ret () (vs := [_, _]) (Cs := []) rfl (.tmp rfl (.tmp rfl .nil)) rfl trivial ent_nil
  ·
   refine Qc (k:=Qv (k:=Wq (Zi (t:=fun h29 => ?_) (f:=fun h29 => ?_))))
   ·
    refine Qc (k:=Qv (k:=?_))
    refine wo_pv (pv_andW rfl rfl) rfl ?_
    refine Qv (k:=?_)
    refine wo_pv (pv_andW rfl rfl) rfl ?_
    refine wo_pv (pv_orW rfl rfl) rfl ?_
    refine Qv (k:=?_)
    refine wo_pv (pv_andW rfl rfl) rfl ?_
    refine wo_pv (pv_orW rfl rfl) rfl ?_
    refine Qv (k:=Wq (Zt (k:=Vb (Va ?_))))
    rw [if_neg (by omega), if_neg (by omega), if_pos (by omega)] at hm
    rw [hm]
    exact fin_ret () (vs := [_, _]) (Cs := []) rfl (.tmp rfl (.tmp rfl .nil)) rfl trivial ent_nil
   ·
    refine Zk (k:=Yb (Ya (Qc (k:=Qv (k:=?_)))))
    refine wo_pv (pv_xorW rfl rfl) rfl ?_
    refine Vv (k:=?_)
    refine wo_pv (pv_xorW rfl rfl) rfl ?_
    refine Qv (k:=Wq (Zt (k:=?_)))
    rw [if_neg (by omega), if_neg (by omega), if_neg (by omega)] at hm
    rw [hm]
    exact fin_ret () (vs := [_, _]) (Cs := []) rfl (.tmp rfl (.tmp rfl .nil)) rfl trivial ent_nil
theorem vW_getD {l : List UInt32} {m : Nat} (h : m < l.length) : (l.map vW)[m]? = some (vW (l.getD m 0)) := by simp [h]
theorem sp_set {b : Bs} {j : Nat} (hj : j < 80) (x : UInt32) (hx : x = if j < 16 then blkW b j else nextW (spreadL b j) j) : (spreadL b j ++ List.replicate (80 - j) 0).set j x = spreadL b (j + 1) ++ List.replicate (80 - (j + 1)) 0 := by
 have e : List.replicate (80 - j) (0 : UInt32) = 0 :: List.replicate (80 - (j + 1)) 0 := by
  rw [← List.replicate_succ]; congr 1; omega
 rw [e, List.set_append_right _ _ (by rw [spreadL_len]; omega), spreadL_len, Nat.sub_self, List.set_cons_zero, spreadL, hx]
 simp
theorem sp_get {b : Bs} {j m : Nat} (h : m < j) (hj : j ≤ 80) : (spreadL b j ++ List.replicate (80 - j) (0 : UInt32)).getD m 0 = (spreadL b j).getD m 0 := by
 have := spreadL_len b j
 simp [List.getD_eq_getElem?_getD, List.getElem?_append_left, this, h]
theorem vUs_get {l : Bs} {m : Nat} (h : m < l.length) : (vUs l)[m]? = some (vU (l.getD m 0).toNat) := by simp [vUs, h]
theorem hash_spread_sp {B : HP} {a : Option Addr} (c : Nat) (b : Bs) (hb : b.length = 64) (sh : SlA B a (vUs b)) : Sp1 Tryz.prog 234 [.slice a 64 c] [B] (.agg ((spreadL b 80).map vW).toArray) [B] := by
 haveI : RdSl a (vUs b) [B] := ⟨⟨B, sh, .here⟩⟩
 have hvl : (vUs b).length = 64 := by simp [vUs, hb]
 refine Sp.body (n := 72) Tryz.call234 Tryz.func234 rfl rfl rfl ?_
 refine Qc (k:=Zc [.int .u32 0, .int .u32 0, .int .u32 0, .int .u32 0, .int .u32 0, .int .u32 0, .int .u32 0, .int .u32 0, .int .u32 0, .int .u32 0, .int .u32 0, .int .u32 0, .int .u32 0, .int .u32 0, .int .u32 0, .int .u32 0, .int .u32 0, .int .u32 0, .int .u32 0, .int .u32 0, .int .u32 0, .int .u32 0, .int .u32 0, .int .u32 0, .int .u32 0, .int .u32 0, .int .u32 0, .int .u32 0, .int .u32 0, .int .u32 0, .int .u32 0, .int .u32 0, .int .u32 0, .int .u32 0, .int .u32 0, .int .u32 0, .int .u32 0, .int .u32 0, .int .u32 0, .int .u32 0, .int .u32 0, .int .u32 0, .int .u32 0, .int .u32 0, .int .u32 0, .int .u32 0, .int .u32 0, .int .u32 0, .int .u32 0, .int .u32 0, .int .u32 0, .int .u32 0, .int .u32 0, .int .u32 0, .int .u32 0, .int .u32 0, .int .u32 0, .int .u32 0, .int .u32 0, .int .u32 0, .int .u32 0, .int .u32 0, .int .u32 0, .int .u32 0, .int .u32 0, .int .u32 0, .int .u32 0, .int .u32 0, .int .u32 0, .int .u32 0, .int .u32 0, .int .u32 0, .int .u32 0, .int .u32 0, .int .u32 0, .int .u32 0, .int .u32 0, .int .u32 0, .int .u32 0, .int .u32 0] (k:=fun b2 => Wq (Qc (k:=Zc [.int .u32 0, .int .u32 0, .int .u32 0, .int .u32 0, .int .u32 0, .int .u32 0, .int .u32 0, .int .u32 0, .int .u32 0, .int .u32 0, .int .u32 0, .int .u32 0, .int .u32 0, .int .u32 0, .int .u32 0, .int .u32 0, .int .u32 0, .int .u32 0, .int .u32 0, .int .u32 0, .int .u32 0, .int .u32 0, .int .u32 0, .int .u32 0, .int .u32 0, .int .u32 0, .int .u32 0, .int .u32 0, .int .u32 0, .int .u32 0, .int .u32 0, .int .u32 0, .int .u32 0, .int .u32 0, .int .u32 0, .int .u32 0, .int .u32 0, .int .u32 0, .int .u32 0, .int .u32 0, .int .u32 0, .int .u32 0, .int .u32 0, .int .u32 0, .int .u32 0, .int .u32 0, .int .u32 0, .int .u32 0, .int .u32 0, .int .u32 0, .int .u32 0, .int .u32 0, .int .u32 0, .int .u32 0, .int .u32 0, .int .u32 0, .int .u32 0, .int .u32 0, .int .u32 0, .int .u32 0, .int .u32 0, .int .u32 0, .int .u32 0, .int .u32 0, .int .u32 0, .int .u32 0, .int .u32 0, .int .u32 0, .int .u32 0, .int .u32 0, .int .u32 0, .int .u32 0, .int .u32 0, .int .u32 0, .int .u32 0, .int .u32 0, .int .u32 0, .int .u32 0, .int .u32 0, .int .u32 0] (k:=fun b3 => Wq (Za (k:=Qc (k:=Vv (k:=?_)))))))))
 refine Wq (Zb (k:=?_))
 refine p_loop (fun (i : { j : Nat // j ≤ 16 }) => [(0, .slice a 64 c), (2, .pointer (some ⟨b2, 0, none⟩)), (3, .pointer (some ⟨b3, 0, none⟩)), (6, vI i.1)]) (fun (i : { j : Nat // j ≤ 16 }) => [Ce b3 162 ((spreadL b i.1 ++ List.replicate (80 - i.1) 0).map vW), Ce b2 162 ((List.replicate 80 (0 : UInt32)).map vW), B]) (fun (i : { j : Nat // j ≤ 16 }) => 16 - i.1) rfl (⟨0, Nat.zero_le _⟩) ?_ ?_ (fun i => ?_)
 · exact ⟨rfl, rfl, rfl, rfl, trivial⟩
 ·
  exact ent_step (ce_norm (by rfl) (by rfl)) (ent_step (ce_norm (by rfl) (by rfl)) ent_pick)
 obtain ⟨j, hj⟩ := i
 dsimp only
 have hsp := spreadL_len b j
 try dsimp only
 refine Qc (k:=Vv (k:=Wq (Za (k:=Zi (t:=fun h7 => ?_) (f:=fun h7 => ?_)))))
 ·
  refine Zk (k:=Ya (Za (k:=Zb (k:=Qc (k:=Qv (k:=Wq (Dw [B] (k:=?_))))))))
  refine Dv 0 (k:=Dv 1 (k:=Dv 2 (k:=Dv 3 (k:=?_))))
  refine d_first 4 rfl rfl rfl (by kernel_rfl) (by kernel_rfl) (tl_elemAddr (sz := 1) (m := 4 * j) Tryz.underlying56 ti5 rfl rfl rfl (by omega) (by omega) (by omega) (Nat.mul_one _)) ?_
  refine d_first 5 rfl rfl rfl (by kernel_rfl) (by kernel_rfl) (tl_eload Tryz.underlying5 rfl rfl (vUs_get (by omega))) ?_
  refine d_first 6 rfl rfl rfl (by kernel_rfl) (by kernel_rfl) (tl_pv (pv_convW rfl Tryz.underlying5 Tryz.underlying94)) ?_
  refine d_first 7 rfl rfl rfl (by kernel_rfl) (by kernel_rfl) (tl_pv (pv_shlW (m := 24) rfl rfl rfl (by omega))) ?_
  refine Dv 8 (k:=Dv 9 (k:=Dv 10 (k:=Dv 11 (k:=?_))))
  refine d_first 12 rfl rfl rfl (by kernel_rfl) (by kernel_rfl) (tl_elemAddr (sz := 1) (m := 4 * j + 1) Tryz.underlying56 ti5 rfl rfl rfl (by omega) (by omega) (by omega) (Nat.mul_one _)) ?_
  refine d_first 13 rfl rfl rfl (by kernel_rfl) (by kernel_rfl) (tl_eload Tryz.underlying5 rfl rfl (vUs_get (by omega))) ?_
  refine d_first 14 rfl rfl rfl (by kernel_rfl) (by kernel_rfl) (tl_pv (pv_convW rfl Tryz.underlying5 Tryz.underlying94)) ?_
  refine d_first 15 rfl rfl rfl (by kernel_rfl) (by kernel_rfl) (tl_pv (pv_shlW (m := 16) rfl rfl rfl (by omega))) ?_
  refine d_first 16 rfl rfl rfl (by kernel_rfl) (by kernel_rfl) (tl_pv (pv_orW rfl rfl)) ?_
  refine Dv 17 (k:=Dv 18 (k:=Dv 19 (k:=Dv 20 (k:=?_))))
  refine d_first 21 rfl rfl rfl (by kernel_rfl) (by kernel_rfl) (tl_elemAddr (sz := 1) (m := 4 * j + 2) Tryz.underlying56 ti5 rfl rfl rfl (by omega) (by omega) (by omega) (Nat.mul_one _)) ?_
  refine d_first 22 rfl rfl rfl (by kernel_rfl) (by kernel_rfl) (tl_eload Tryz.underlying5 rfl rfl (vUs_get (by omega))) ?_
  refine d_first 23 rfl rfl rfl (by kernel_rfl) (by kernel_rfl) (tl_pv (pv_convW rfl Tryz.underlying5 Tryz.underlying94)) ?_
  refine d_first 24 rfl rfl rfl (by kernel_rfl) (by kernel_rfl) (tl_pv (pv_shlW (m := 8) rfl rfl rfl (by omega))) ?_
  refine d_first 25 rfl rfl rfl (by kernel_rfl) (by kernel_rfl) (tl_pv (pv_orW rfl rfl)) ?_
  refine Dv 26 (k:=Dv 27 (k:=Dv 28 (k:=Dv 29 (k:=?_))))
  refine d_first 30 rfl rfl rfl (by kernel_rfl) (by kernel_rfl) (tl_elemAddr (sz := 1) (m := 4 * j + 3) Tryz.underlying56 ti5 rfl rfl rfl (by omega) (by omega) (by omega) (Nat.mul_one _)) ?_
  refine d_first 31 rfl rfl rfl (by kernel_rfl) (by kernel_rfl) (tl_eload Tryz.underlying5 rfl rfl (vUs_get (by omega))) ?_
  refine d_first 32 rfl rfl rfl (by kernel_rfl) (by kernel_rfl) (tl_pv (pv_convW rfl Tryz.underlying5 Tryz.underlying94)) ?_
  refine d_first 33 rfl rfl rfl (by kernel_rfl) (by kernel_rfl) (tl_pv (pv_orW rfl rfl)) ?_
  refine d_first 34 rfl rfl rfl (by kernel_rfl) (by kernel_rfl) (tl_pv (pv_aindex1 Tryz.underlying162 ti94 rfl rfl rfl (by first | rfl | omega) (by omega))) ?_
  refine Dn 35 (k:=No (k:=Dd (k:=Yb (Ya (Zr (k:=Qv (k:=Wn ?_)))))))
  refine to_inv ⟨j + 1, by omega⟩ (by dsimp only; omega) ⟨rfl, rfl, rfl, rfl, trivial⟩ ?_
  dsimp only
  rw [← sp_set (b := b) (j := j) (by omega) (blkW b j) (by rw [if_pos (by omega)])]
  exact ent_step (ce_norm (by rfl) (by rw [List.map_set]; rfl)) ent_pick
 ·
  refine Ze (k:=Xa (Xi (Xb (Ya (Za (k:=Qc (k:=Vv (k:=Wq (Zb (k:=?_))))))))))
  refine p_loop (fun (i : { j : Nat // 16 ≤ j ∧ j ≤ 80 }) => [(2, .pointer (some ⟨b2, 0, none⟩)), (3, .pointer (some ⟨b3, 0, none⟩)), (5, vI i.1)]) (fun (i : { j : Nat // 16 ≤ j ∧ j ≤ 80 }) => [Ce b3 162 ((spreadL b i.1 ++ List.replicate (80 - i.1) 0).map vW), Ce b2 162 ((List.replicate 80 (0 : UInt32)).map vW), B]) (fun (i : { j : Nat // 16 ≤ j ∧ j ≤ 80 }) => 80 - i.1) rfl (⟨16, by omega, by omega⟩) ?_ ?_ (fun i => ?_)
  · exact ⟨rfl, rfl, rfl, trivial⟩
  ·
   have hj16 : j = 16 := by omega
   subst hj16
   exact ent_pick
  obtain ⟨m, hm1, hm2⟩ := i
  dsimp only
  have hsl : (spreadL b m ++ List.replicate (80 - m) (0 : UInt32)).length = 80 := by rw [List.length_append, spreadL_len, List.length_replicate]; omega
  have hsp := spreadL_len b m
  try dsimp only
  refine Za (k:=Qc (k:=Qv (k:=Wq (Zi (t:=fun h46 => ?_) (f:=fun h46 => ?_)))))
  ·
   refine Zk (k:=Ya (Za (k:=Zb (k:=Dw [Ce b3 162 ((spreadL b m ++ List.replicate (80 - m) 0).map vW)] (k:=?_)))))
   refine Dv 0 (k:=Dv 1 (k:=Dv 2 (k:=?_)))
   refine d_first 3 rfl rfl rfl (by kernel_rfl) (by kernel_rfl) (tl_pv (pv_aindex1 (m := m - 3) Tryz.underlying162 ti94 rfl rfl rfl (by omega) (by omega))) ?_
   refine d_first 4 rfl rfl rfl (by kernel_rfl) (by kernel_rfl) (tl_load Tryz.underlying94 rfl rfl ((vW_getD (m := m - 3) (by omega)).trans (by rw [sp_get (by omega) (by omega)]))) ?_
   refine Dv 5 (k:=Dv 6 (k:=?_))
   refine d_first 7 rfl rfl rfl (by kernel_rfl) (by kernel_rfl) (tl_pv (pv_aindex1 (m := m - 8) Tryz.underlying162 ti94 rfl rfl rfl (by omega) (by omega))) ?_
   refine d_first 8 rfl rfl rfl (by kernel_rfl) (by kernel_rfl) (tl_load Tryz.underlying94 rfl rfl ((vW_getD (m := m - 8) (by omega)).trans (by rw [sp_get (by omega) (by omega)]))) ?_
   refine d_first 9 rfl rfl rfl (by kernel_rfl) (by kernel_rfl) (tl_pv (pv_xorW rfl rfl)) ?_
   refine Dv 10 (k:=Dv 11 (k:=?_))
   refine d_first 12 rfl rfl rfl (by kernel_rfl) (by kernel_rfl) (tl_pv (pv_aindex1 (m := m - 14) Tryz.underlying162 ti94 rfl rfl rfl (by omega) (by omega))) ?_
   refine d_first 13 rfl rfl rfl (by kernel_rfl) (by kernel_rfl) (tl_load Tryz.underlying94 rfl rfl ((vW_getD (m := m - 14) (by omega)).trans (by rw [sp_get (by omega) (by omega)]))) ?_
   refine d_first 14 rfl rfl rfl (by kernel_rfl) (by kernel_rfl) (tl_pv (pv_xorW rfl rfl)) ?_
   refine Dv 15 (k:=Dv 16 (k:=?_))
   refine d_first 17 rfl rfl rfl (by kernel_rfl) (by kernel_rfl) (tl_pv (pv_aindex1 (m := m - 16) Tryz.underlying162 ti94 rfl rfl rfl (by omega) (by omega))) ?_
   refine d_first 18 rfl rfl rfl (by kernel_rfl) (by kernel_rfl) (tl_load Tryz.underlying94 rfl rfl ((vW_getD (m := m - 16) (by omega)).trans (by rw [sp_get (by omega) (by omega)]))) ?_
   refine d_first 19 rfl rfl rfl (by kernel_rfl) (by kernel_rfl) (tl_pv (pv_xorW rfl rfl)) ?_
   refine Dn 20 (k:=?_)
   refine an_callF (RotateLeft32_sp _ 1 (.inl rfl)) rfl rfl rfl ?_
   refine d_first 21 rfl rfl rfl (by kernel_rfl) (by kernel_rfl) (tl_pv (pv_aindex1 Tryz.underlying162 ti94 rfl rfl rfl (by first | rfl | omega) (by omega))) ?_
   refine d_last 22 (by kernel_rfl) rfl (by kernel_rfl) (by kernel_rfl) ?_
   refine No (k:=Yb (Ya (Zr (k:=Qv (k:=Vv (k:=Wn ?_))))))
   refine to_inv ⟨m + 1, by omega, by omega⟩ (by dsimp only; omega) ⟨rfl, rfl, rfl, trivial⟩ ?_
   dsimp only
   rw [← sp_set (b := b) (j := m) (by omega) (nextW (spreadL b m) m) (by rw [if_neg (by omega)])]
   exact ent_step (ce_norm (by rfl) (by rw [List.map_set]; rfl)) ent_pick
  ·
   refine Ze (k:=Xa (Xi (Xb (Ya (Za (k:=?_))))))
   have hm80 : m = 80 := by omega
   subst hm80
   rw [Nat.sub_self, List.replicate_zero, List.append_nil]
   have hsl2 : ((spreadL b 80).map vW).length = 80 := by rw [List.length_map, hsp]
   have hoc : ((spreadL b 80).map vW).all oneCell = true := by simp [oneCell]
   generalize (spreadL b 80).map vW = ws at hsl2 hoc ⊢
   refine Zr (k:=?_)
   refine r_loada (vs := ws) Tryz.underlying162 rfl ti162 rfl (show 0 + 80 ≤ _ by omega) (show (ws.drop 0).take 80 = ws by rw [List.drop_zero]; exact List.take_of_length_le (by omega)) rfl ?_
   refine r_storea (vs := ws) ti162 (show Nat.beq 80 ws.length = true by rw [hsl2]; rfl) rfl rfl hoc (show 0 + ws.length ≤ _ by rw [hsl2]; simp) ?_
   refine Wq (Zt (k:=?_))
   have hfull : setAt ((List.replicate 80 (0 : UInt32)).map vW) 0 ws = ws := by
    have := setAt_mid ws [] ((List.replicate 80 (0 : UInt32)).map vW) [] (by rw [hsl2]; simp)
    simpa using this
   rw [hfull]
   refine fin_ret () (vs := [_]) (Cs := [Ce b2 162 ws]) rfl (.cell (l := ws) (us := ws) rfl (shows_ce (T := 162)) Tryz.underlying162 rfl ti162 (show 80 ≤ ws.length by omega) (show ws.take 80 = ws from List.take_of_length_le (by omega)) .nil) rfl trivial ?_
   exact ent_pick
end
section
set_option maxRecDepth 100000
theorem setAt_full {l vs : List Value} (h : l.length = vs.length) : setAt l 0 vs = vs := by
 have := setAt_mid vs [] l [] (by rw [h])
 simpa using this
/-- So many words added. -/
def addL (h s : List UInt32) (i : Nat) : List UInt32 := (List.zipWith (· + ·) h s).take i ++ h.drop i
theorem addL_len {h s : List UInt32} (e : h.length = s.length) {i : Nat} (hi : i ≤ h.length) : (addL h s i).length = h.length := by
 simp [addL, List.length_zipWith, ← e]; omega
theorem addL_get {h s : List UInt32} (e : h.length = s.length) {i : Nat} (hi : i < h.length) : (addL h s i).getD i 0 = h.getD i 0 := by
 have hl : ((List.zipWith (· + ·) h s).take i).length = i := by simp [List.length_zipWith, ← e]; omega
 simp only [addL, List.getD_eq_getElem?_getD]
 rw [List.getElem?_append_right (by omega), hl, Nat.sub_self, List.getElem?_drop, Nat.add_zero]
theorem addL_set {h s : List UInt32} (e : h.length = s.length) {i : Nat} (hi : i < h.length) : (addL h s i).set i (h.getD i 0 + s.getD i 0) = addL h s (i + 1) := by
 have hl : ((List.zipWith (· + ·) h s).take i).length = i := by simp [List.length_zipWith, ← e]; omega
 have hz : i < (List.zipWith (· + ·) h s).length := by simp [List.length_zipWith, ← e]; omega
 have hd : h.drop i = h[i] :: h.drop (i + 1) := List.drop_eq_getElem_cons hi
 unfold addL
 rw [hd, List.set_append_right _ _ (by omega), hl, Nat.sub_self, List.set_cons_zero, List.take_succ_eq_append_getElem hz]
 have h1 : h.getD i 0 = h[i] := by simp [hi]
 have h2 : s.getD i 0 = s[i] := by simp [← e, hi]
 simp [List.getElem_zipWith, hi, ← e]
theorem hash_take_sp {B : HP} {a : Option Addr} (p c : Nat) (h : W5) (b : Bs) (hb : b.length = 64) (sh : SlA B a (vUs b)) : Sp1 Tryz.prog 224 [.pointer (some ⟨p, 0, none⟩), .slice a 64 c] [Ce p 95 (h.list.map vW), B] (.tuple #[]) [Ce p 95 ((takeW h b).list.map vW), B] := by
 have hwl : (spreadL b 80).length = 80 := spreadL_len b 80
 have htk : takeW h b = (let s := roundsW (spreadL b 80) h 80; ⟨h.a + s.a, h.b + s.b, h.c + s.c, h.d + s.d, h.e + s.e⟩) := rfl
 have hsp := hash_spread_sp c b hb sh
 generalize spreadL b 80 = ws at hwl htk hsp
 have hwm : (ws.map vW).length = 80 := by rw [List.length_map, hwl]
 refine Sp.body (n := 88) Tryz.call224 Tryz.func224 rfl rfl rfl ?_
 refine Qc (k:=Vv (k:=?_))
 refine r_call1 hsp rfl rfl rfl ?_
 refine Zc [.int .u32 0, .int .u32 0, .int .u32 0, .int .u32 0, .int .u32 0, .int .u32 0, .int .u32 0, .int .u32 0, .int .u32 0, .int .u32 0, .int .u32 0, .int .u32 0, .int .u32 0, .int .u32 0, .int .u32 0, .int .u32 0, .int .u32 0, .int .u32 0, .int .u32 0, .int .u32 0, .int .u32 0, .int .u32 0, .int .u32 0, .int .u32 0, .int .u32 0, .int .u32 0, .int .u32 0, .int .u32 0, .int .u32 0, .int .u32 0, .int .u32 0, .int .u32 0, .int .u32 0, .int .u32 0, .int .u32 0, .int .u32 0, .int .u32 0, .int .u32 0, .int .u32 0, .int .u32 0, .int .u32 0, .int .u32 0, .int .u32 0, .int .u32 0, .int .u32 0, .int .u32 0, .int .u32 0, .int .u32 0, .int .u32 0, .int .u32 0, .int .u32 0, .int .u32 0, .int .u32 0, .int .u32 0, .int .u32 0, .int .u32 0, .int .u32 0, .int .u32 0, .int .u32 0, .int .u32 0, .int .u32 0, .int .u32 0, .int .u32 0, .int .u32 0, .int .u32 0, .int .u32 0, .int .u32 0, .int .u32 0, .int .u32 0, .int .u32 0, .int .u32 0, .int .u32 0, .int .u32 0, .int .u32 0, .int .u32 0, .int .u32 0, .int .u32 0, .int .u32 0, .int .u32 0, .int .u32 0] (k:=fun b4 => ?_)
 refine r_storea (vs := ws.map vW) ti162 (show Nat.beq 80 (ws.map vW).length = true by rw [hwm]; rfl) rfl rfl (by simp [oneCell]) (show 0 + (ws.map vW).length ≤ _ by rw [hwm]; exact Nat.le_refl 80) ?_
 rw [setAt_full (by rw [hwm]; rfl)]
 refine Wq (Za (k:=Dw [Ce p 95 (h.list.map vW)] (k:=?_)))
 refine Dv 0 (k:=Dv 1 (k:=?_))
 refine d_first 2 rfl rfl rfl (by kernel_rfl) (by kernel_rfl) (tl_pv (pv_aindex1 (m := 0) Tryz.underlying95 ti94 rfl rfl rfl (by first | rfl | omega) (by omega))) ?_
 refine Di 3 (t:=Ul) (k:=Dv 4 (k:=Dv 5 (k:=?_)))
 refine d_first 6 rfl rfl rfl (by kernel_rfl) (by kernel_rfl) (tl_pv (pv_aindex1 (m := 1) Tryz.underlying95 ti94 rfl rfl rfl (by first | rfl | omega) (by omega))) ?_
 refine Di 7 (t:=Ul) (k:=Dv 8 (k:=Dv 9 (k:=?_)))
 refine d_first 10 rfl rfl rfl (by kernel_rfl) (by kernel_rfl) (tl_pv (pv_aindex1 (m := 2) Tryz.underlying95 ti94 rfl rfl rfl (by first | rfl | omega) (by omega))) ?_
 refine Di 11 (t:=Ul) (k:=Dv 12 (k:=Dv 13 (k:=?_)))
 refine d_first 14 rfl rfl rfl (by kernel_rfl) (by kernel_rfl) (tl_pv (pv_aindex1 (m := 3) Tryz.underlying95 ti94 rfl rfl rfl (by first | rfl | omega) (by omega))) ?_
 refine Di 15 (t:=Ul) (k:=Dv 16 (k:=Dv 17 (k:=?_)))
 refine d_first 18 rfl rfl rfl (by kernel_rfl) (by kernel_rfl) (tl_pv (pv_aindex1 (m := 4) Tryz.underlying95 ti94 rfl rfl rfl (by first | rfl | omega) (by omega))) ?_
 refine Di 19 (t:=Ul) (k:=Dv 20 (k:=Dv 21 (k:=Dv 22 (k:=Dv 23 (k:=Dv 24 (k:=Dd (k:=Ya (Za (k:=Qc (k:=Vv (k:=?_)))))))))))
 refine Wq (Zb (k:=?_))
 refine p_loop (fun (i : { j : Nat // j ≤ 80 }) => [(0, .pointer (some ⟨p, 0, none⟩)), (4, .pointer (some ⟨b4, 0, none⟩)), (5, vW (roundsW ws h i.1).a), (6, vW (roundsW ws h i.1).b), (7, vW (roundsW ws h i.1).c), (8, vW (roundsW ws h i.1).d), (9, vW (roundsW ws h i.1).e), (38, vI i.1)]) (fun (i : { j : Nat // j ≤ 80 }) => [Ce p 95 (h.list.map vW), Ce b4 162 (ws.map vW), B]) (fun (i : { j : Nat // j ≤ 80 }) => 80 - i.1) rfl (⟨0, Nat.zero_le _⟩) ?_ ?_ (fun i => ?_)
 · exact ⟨rfl, rfl, rfl, rfl, rfl, rfl, rfl, rfl, trivial⟩
 ·
  exact ent_pick
 obtain ⟨j, hj⟩ := i
 dsimp only
 try dsimp only
 refine Qc (k:=Vv (k:=Wq (Za (k:=Zi (t:=fun h39 => ?_) (f:=fun h39 => ?_)))))
 ·
  refine Zk (k:=Ya (Za (k:=Zb (k:=Za (k:=?_)))))
  obtain ⟨s, hs⟩ : ∃ s, s = roundsW ws h j := ⟨_, rfl⟩
  have hs2 : roundsW ws h (j + 1) = roundW ws j s := by rw [hs]; rfl
  rw [← hs]
  refine Zr (k:=Qv (k:=Wq (Qc (k:=Qv (k:=Qv (k:=?_))))))
  refine r_callF (hash_mixed_sp j s.b s.c s.d (by omega)) rfl rfl rfl ?_
  refine Qv (k:=Qv (k:=Vv (k:=Wq (Za (k:=Dw [Ce b4 162 (ws.map vW)] (k:=?_))))))
  refine Dv 0 (k:=Dv 2 (k:=Dv 4 (k:=Dv 6 (k:=Dv 8 (k:=?_)))))
  refine d_first 9 rfl rfl rfl (by kernel_rfl) (by kernel_rfl) (tl_pv (pv_aindex1 Tryz.underlying162 ti94 rfl rfl rfl (by first | rfl | omega) (by omega))) ?_
  refine d_first 10 rfl rfl rfl (by kernel_rfl) (by kernel_rfl) (tl_load Tryz.underlying94 rfl rfl (vW_getD (m := j) (by omega))) ?_
  refine Dn 1 (k:=?_)
  refine an_callF (RotateLeft32_sp _ 5 (.inr (.inl rfl))) rfl rfl rfl ?_
  refine d_first 3 rfl rfl rfl (by kernel_rfl) (by kernel_rfl) (tl_pv (pv_addW rfl rfl)) ?_
  refine d_first 5 rfl rfl rfl (by kernel_rfl) (by kernel_rfl) (tl_pv (pv_addW rfl rfl)) ?_
  refine d_first 7 rfl rfl rfl (by kernel_rfl) (by kernel_rfl) (tl_pv (pv_addW rfl rfl)) ?_
  refine d_first 11 rfl rfl rfl (by kernel_rfl) (by kernel_rfl) (tl_pv (pv_addW rfl rfl)) ?_
  refine Dv 12 (k:=Dd (k:=Ya (Zr (k:=Qv (k:=Vv (k:=?_))))))
  refine r_callF (RotateLeft32_sp _ 30 (.inr (.inr rfl))) rfl rfl rfl ?_
  refine Qv (k:=Qv (k:=Qv (k:=Vv (k:=Wn (Yb (Ya (Zr (k:=Vv (k:=?_)))))))))
  refine Vv (k:=Wn ?_)
  refine to_inv ⟨j + 1, by omega⟩ (by dsimp only; omega) ?_ ent_pick
  dsimp only
  rw [hs2]
  exact ⟨rfl, rfl, rfl, rfl, rfl, rfl, rfl, rfl, trivial⟩
 ·
  refine Ze (k:=Xa (Xi (Xb (Ya (Za (k:=?_))))))
  have hj80 : j = 80 := by omega
  subst hj80
  obtain ⟨s, hs⟩ : ∃ s, s = roundsW ws h 80 := ⟨_, rfl⟩
  dsimp only at htk
  rw [← hs] at htk ⊢
  have hh5 : h.list.length = 5 := rfl
  have hs5 : s.list.length = 5 := rfl
  refine Zr (k:=Qv (k:=Qv (k:=Vv (k:=?_))))
  refine wo_pv (pv_buildA (vs := [_, _, _, _, _]) Tryz.underlying95 ti94 rfl rfl rfl ti95 rfl rfl) rfl ?_
  refine Vv (k:=Wq (Zb (k:=?_)))
  refine p_loop (fun (i : { m : Nat // m ≤ 5 }) => [(0, .pointer (some ⟨p, 0, none⟩)), (73, .agg (s.list.map vW).toArray), (74, vI i.1)]) (fun (i : { m : Nat // m ≤ 5 }) => [Ce p 95 ((addL h.list s.list i.1).map vW), B]) (fun (i : { m : Nat // m ≤ 5 }) => 5 - i.1) rfl (⟨0, Nat.zero_le _⟩) ?_ ?_ (fun i => ?_)
  · exact ⟨rfl, rfl, rfl, trivial⟩
  ·
   exact ent_step (ce_norm (by rfl) (by rfl)) ent_pick
  obtain ⟨m, hm⟩ := i
  dsimp only
  have hal := addL_len (h := h.list) (s := s.list) (i := m) rfl hm
  try dsimp only
  refine Qc (k:=Vv (k:=Wq (Za (k:=Zi (t:=fun h75 => ?_) (f:=fun h75 => ?_)))))
  ·
   refine Zk (k:=Ya (Za (k:=Zb (k:=Qc (k:=Vv (k:=?_))))))
   refine wo_pv (pv_aidx Tryz.underlying95 Tryz.underlying94 ti94 rfl rfl rfl rfl rfl (by omega) (vW_getD (m := m) (by omega))) rfl ?_
   refine Qv (k:=Wq (Dw [] (k:=?_)))
   refine Dv 0 (k:=Dv 1 (k:=Dv 2 (k:=?_)))
   refine d_first 3 rfl rfl rfl (by kernel_rfl) (by kernel_rfl) (tl_pv (pv_aindex1 Tryz.underlying95 ti94 rfl rfl rfl (by first | rfl | omega) (by omega))) ?_
   refine Dv 5 (k:=Dv 7 (k:=Dn 4 (k:=?_)))
   refine an_load Tryz.underlying94 rfl rfl ((vW_getD (m := m) (by omega)).trans (by rw [addL_get (hh5.trans hs5.symm) (by omega)])) rfl ?_
   refine d_first 6 rfl rfl rfl (by kernel_rfl) (by kernel_rfl) (tl_pv (pv_addW rfl rfl)) ?_
   refine d_first 8 rfl rfl rfl (by kernel_rfl) (by kernel_rfl) (tl_pv (pv_aindex1 Tryz.underlying95 ti94 rfl rfl rfl (by first | rfl | omega) (by omega))) ?_
   refine Dn 9 (k:=No (k:=Dd (k:=Yb (Ya (Zr (k:=Qv (k:=Wn ?_)))))))
   refine to_inv ⟨m + 1, by omega⟩ (by dsimp only; omega) ⟨rfl, rfl, rfl, trivial⟩ ?_
   dsimp only
   rw [← addL_set (hh5.trans hs5.symm) (by omega)]
   exact ent_step (ce_norm (by rfl) (by rw [List.map_set])) ent_pick
  ·
   refine Ze (k:=Xa (Xi (Xb ?_)))
   have hm5 : m = 5 := by omega
   subst hm5
   refine fin_end () (vs := []) (Cs := []) rfl .nil rfl trivial ?_
   rw [htk]
   exact ent_step (ce_norm (by rfl) (by rfl)) ent_pick
end
section
set_option maxRecDepth 100000
section
variable {r : Option Nat} {P : Program} {n : Nat} {A : List HP} {L : Loc} {ty : TypeId} {pos : String} {after : Array Edge}
theorem opt_copyS {dst : Option Tmp} {x y : Operand} {dT sT e : TypeId} {g dLen dCap T : Nat} {cur : List Value} {s : Bs} (hu : P.underlying dT = some (.slice e)) (hs : (P.info? e).map (·.size) = some 1)
    (hx : ev L x = some (.slice (some ⟨g, 0, none⟩) dLen dCap)) (hy : ev L y = some (vS s)) (hq : s.length ≤ dLen) (hl : s.length ≤ cur.length) :
    OpT r P n ⟨dst, .call ⟨.builtin .copy, #[x, y], #[dT, sT]⟩, ty, pos, after, none⟩ A L [Ce g T cur] (fun _ : Unit => vI s.length) (fun _ => True) (fun _ => [Ce g T (setAt cur 0 (vUs s))]) := by
 refine opt_turn (fun ac f w M h1 hf dj tt hr => ?_)
 have hr' : h1 = Res.one g _ := hr
 subst hr'
 have hb : w.heap[g]? = some (.cells cur.toArray T (0, 0)) := tt.ow _ _ (by simp [Res.add, Res.one])
 obtain ⟨w', hrun, hb', ho', he'⟩ := run_storeCells_ce (P := P) (vUs s) w cur 0 0 hb (by simp [vUs, oneCell]) (by simp [vUs]; omega)
 refine ⟨w', Res.one g (.cells (setAt cur 0 (vUs s)).toArray T (0, 0)), dj_one_any dj, Sat.setBlk dj tt (by simpa using hb') ho' he', rfl, .inl ?_⟩
 cases hq2 : P.info? e with
 | none => simp [hq2] at hs
 | some i =>
   have hi : i.size = 1 := by simpa [hq2] using hs
   have hsz : (Builtin.lenOf (vS s)).run P w = .ok s.length w := rfl
   have hc : (Builtin.firstCells 1 s.length (vS s)).run P w = .ok (vUs s).toArray w := by
    show Result.ok _ w = Result.ok _ w
    congr 1
    apply Array.ext'
    simp [vUs, ByteArray.data_extract]
   have hm : Nat.min s.length dLen = s.length := Nat.min_eq_left hq
   simp only [execOp, resolve, Array.map, f.ev hx, f.ev hy, invoke, builtin]
   simp [execOp, resolve, f.ev hx, f.ev hy, invoke, builtin, Builtin.copy_, run_underlying hu, sizeOf, typeInfo, program, Sem.run, hq2, hi, hsz, hm, hc, hrun]
   rfl
end
/-- The padding, with so many bytes of the length. -/
def padI (s : Bs) (i : Nat) : Bs := s ++ [0x80] ++ zeros (64 * blocksN s - 9 - s.length) ++ (zeros (8 - i) ++ ((List.range 8).map (len8 s)).drop (8 - i))
theorem padI_len (s : Bs) {i : Nat} (h : i ≤ 8) : (padI s i).length = 64 * blocksN s := by
 simp only [padI, blocksN, zeros, List.length_append, List.length_replicate, List.length_drop, List.length_map, List.length_range, List.length_singleton]
 omega
theorem padI_8 (s : Bs) : padI s 8 = padB s := by simp [padI, padB, zeros]
theorem padI_0 (s : Bs) : ((vUs s ++ List.replicate (64 * blocksN s - s.length) (vU 0)).set s.length (vU 128)) = vUs (padI s 0) := by
 have hb : 64 * blocksN s - s.length = (64 * blocksN s - 9 - s.length) + 8 + 1 := by unfold blocksN; omega
 have hl : (vUs s).length = s.length := by simp [vUs]
 rw [List.set_append_right _ _ (by omega), hl, Nat.sub_self, hb, List.replicate_succ, List.set_cons_zero, ← List.replicate_append_replicate]
 simp [padI, vUs, zeros]
theorem padI_set (s : Bs) {i : Nat} (h : i < 8) : (padI s i).set (64 * blocksN s - 1 - i) (len8 s (7 - i)) = padI s (i + 1) := by
 have hp : (s ++ [0x80] ++ zeros (64 * blocksN s - 9 - s.length)).length = 64 * blocksN s - 8 := by
  simp only [blocksN, zeros, List.length_append, List.length_replicate, List.length_singleton]; omega
 have hb : 64 ≤ 64 * blocksN s := by unfold blocksN; omega
 unfold padI
 rw [List.set_append_right _ _ (by omega), hp, show 64 * blocksN s - 1 - i - (64 * blocksN s - 8) = 7 - i from by omega]
 congr 1
 have hz : zeros (8 - i) = zeros (7 - i) ++ [0] := by
  have : 8 - i = (7 - i) + 1 := by omega
  rw [this, zeros, zeros, List.replicate_succ']
 have hzl : (zeros (7 - i)).length = 7 - i := by simp [zeros]
 have hm : 7 - i < ((List.range 8).map (len8 s)).length := by simp; omega
 have hd : ((List.range 8).map (len8 s)).drop (7 - i) = len8 s (7 - i) :: ((List.range 8).map (len8 s)).drop (8 - i) := by
  rw [List.drop_eq_getElem_cons hm]
  have : 7 - i + 1 = 8 - i := by omega
  rw [this]; simp
 rw [hz, List.append_assoc, List.set_append_right _ _ (by omega), hzl, Nat.sub_self, List.singleton_append, List.set_cons_zero, show 8 - (i + 1) = 7 - i from by omega, hd]
theorem vUs_set {l : Bs} {m : Nat} {c : UInt8} : (vUs l).set m (vU c.toNat) = vUs (l.set m c) := by simp [vUs, List.map_set]
theorem len8_byte {s : Bs} (hs : s.length ≤ 1099511627776) {j : Nat} (hj : j < 8) : IntKind.u8.wrap (Int.fdiv (IntKind.u64.wrap (IntKind.u64.wrap (s.length : Int) * 8)) (2 ^ (min (8 * j) IntKind.u64.bits))) = ((len8 s (7 - j)).toNat : Int) := by
 have w64 : ∀ n : Int, IntKind.u64.wrap n = n % 18446744073709551616 := fun n => by simp [IntKind.wrap, IntKind.signed, IntKind.bits]
 have w8 : ∀ n : Int, IntKind.u8.wrap n = n % 256 := fun n => by simp [IntKind.wrap, IntKind.signed, IntKind.bits]
 have h1 : IntKind.u64.wrap (IntKind.u64.wrap (s.length : Int) * 8) = ((8 * s.length : Nat) : Int) := by rw [w64, w64]; omega
 have h2 : min (8 * j) IntKind.u64.bits = 8 * j := Nat.min_eq_left (by simp only [IntKind.bits]; omega)
 rw [h1, h2, two_pow, Int.fdiv_eq_ediv_of_nonneg _ (Int.natCast_nonneg _), w8, ← Int.natCast_ediv]
 have h3 : 7 - (7 - j) = j := by omega
 simp only [len8, h3, UInt8.toNat_ofNat']
 generalize 8 * s.length / 2 ^ (8 * j) = q
 omega
theorem hash_padded_sp (s : Bs) (hs : s.length ≤ 1099511627776) : Sp Tryz.prog 223 [vS s] [] (X := Nat) (fun g => .slice (some ⟨g, 0, none⟩) (64 * blocksN s) (64 * blocksN s)) (fun _ => True) (fun g => [Ce g 5 (vUs (padB s))]) := by
 have hbn : 64 * blocksN s = ((s.length + 8) / 64 + 1) * 64 := by unfold blocksN; omega
 have hbl : s.length + 9 ≤ 64 * blocksN s := by unfold blocksN; omega
 have hbu : 64 * blocksN s ≤ s.length + 72 := by unfold blocksN; omega
 refine Sp.body (n := 43) Tryz.call223 Tryz.func223 rfl rfl rfl ?_
 refine Qc (k:=Vv (k:=Wq (Qc (k:=Qv (k:=Qv (k:=Qv (k:=?_)))))))
 refine Wq (Qc (k:=Qv (k:=?_)))
 refine r_makeSlice (m := 64 * blocksN s) (z := .int .u8 0) Tryz.underlying56 ti5 rfl rfl rfl (vI_eq (by omega)) (vI_eq (by omega)) (by omega) (by rw [show Tryz.t5.bytes = 1 from rfl]; omega) rfl (fun b14 => ?_)
 refine Vv (k:=Wq (Qc (k:=Qv (k:=?_))))
 refine wo_opT (by intro c; simp) (opt_copyS Tryz.underlying56 rfl rfl rfl (by omega) (by rw [List.length_replicate]; omega) (cur := List.replicate (64 * blocksN s) (vU 0)) (T := 5)) rfl (fun _ _ => ?_)
 have hsa : setAt (List.replicate (64 * blocksN s) (vU 0)) 0 (vUs s) = vUs s ++ List.replicate (64 * blocksN s - s.length) (vU 0) := by
  have h1 : List.replicate (64 * blocksN s) (vU 0) = List.replicate s.length (vU 0) ++ List.replicate (64 * blocksN s - s.length) (vU 0) := by rw [List.replicate_append_replicate]; congr 1; omega
  have := setAt_mid (vUs s) [] (List.replicate s.length (vU 0)) (List.replicate (64 * blocksN s - s.length) (vU 0)) (by simp [vUs])
  rw [h1]; simpa using this
 rw [hsa]
 have hl0 : (vUs s ++ List.replicate (64 * blocksN s - s.length) (vU 0)).length = 64 * blocksN s := by simp [vUs]; omega
 refine Wq (Qc (k:=Qv (k:=Vv (k:=?_))))
 refine r_elemAddr (sz := 1) (m := s.length) (kk := s.length) Tryz.underlying56 ti5 rfl rfl rfl rfl (by omega) (by omega) (Nat.mul_one _) rfl ?_
 refine r_store ti5 rfl rfl rfl rfl (show 0 + s.length < _ by omega) ?_
 rw [Nat.zero_add, padI_0]
 refine Wq (Qc (k:=Qv (k:=?_)))
 refine wo_pv (pv_conv rfl Tryz.underlying3 Tryz.underlying96) rfl ?_
 refine wo_pv (pv_mulw rfl rfl) rfl ?_
 refine Vv (k:=Wq (Za (k:=Qc (k:=Vv (k:=Wq (Zb (k:=?_)))))))
 refine p_loop (fun (i : { j : Nat // j ≤ 8 }) => [(4, .slice (some ⟨b14, 0, none⟩) (64 * blocksN s) (64 * blocksN s)), (5, .int .u64 (IntKind.u64.wrap (IntKind.u64.wrap (s.length : Int) * 8))), (26, vI i.1)]) (fun (i : { j : Nat // j ≤ 8 }) => [Ce b14 5 (vUs (padI s i.1))]) (fun (i : { j : Nat // j ≤ 8 }) => 8 - i.1) rfl (⟨0, Nat.zero_le _⟩) ?_ ?_ (fun i => ?_)
 · exact ⟨rfl, rfl, rfl, trivial⟩
 ·
  exact ent_pick
 obtain ⟨j, hj⟩ := i
 dsimp only
 have hpl := padI_len s hj
 have hpv : (vUs (padI s j)).length = 64 * blocksN s := by simp [vUs, hpl]
 try dsimp only
 refine Qc (k:=Vv (k:=Wq (Za (k:=Zi (t:=fun h27 => ?_) (f:=fun h27 => ?_)))))
 ·
  refine Zk (k:=Ya (Za (k:=Zb (k:=Qc (k:=Qv (k:=Wq (Zr (k:=Qv (k:=?_)))))))))
  refine Qv (k:=Qv (k:=Qv (k:=Vv (k:=?_))))
  refine wo_pv (pv_shr (m := 8 * j) rfl (vI_eq (by omega))) rfl ?_
  refine wo_pv (pv_conv rfl Tryz.underlying96 Tryz.underlying5) rfl ?_
  refine r_elemAddr (sz := 1) (m := 64 * blocksN s - 1 - j) (kk := 64 * blocksN s - 1 - j) Tryz.underlying56 ti5 rfl rfl rfl (by omega) (by omega) (by omega) (Nat.mul_one _) rfl ?_
  refine r_store ti5 rfl rfl rfl rfl (show 0 + (64 * blocksN s - 1 - j) < _ by omega) ?_
  rw [Nat.zero_add, len8_byte hs (by omega), vUs_set, padI_set s (by omega)]
  refine Wn (Yb (Ya (Zr (k:=Qv (k:=Wn ?_)))))
  exact to_inv ⟨j + 1, by omega⟩ (by dsimp only; omega) ⟨rfl, rfl, rfl, trivial⟩ ent_pick
 ·
  refine Ze (k:=Xa (Xi (Xb (Ya (Qc (k:=Qv (k:=Wq (Zt (k:=?_)))))))))
  have hj8 : j = 8 := by omega
  subst hj8
  rw [padI_8]
  refine fin_ret b14 (vs := [_]) (Cs := []) rfl (.tmp rfl .nil) rfl trivial ?_
  exact ent_pick
end
section
/-- The address of a slice that begins so many elements on. -/
def fromA (a : Option Addr) (m cap kk : Nat) : Option Addr := if m < cap then elemA a kk else a
section
variable {r : Option Nat} {P : Program} {n : Nat} {L : Loc} {Hs : List HP} {Q : Out} {ty : TypeId}
theorem pv_slslice_froma {x y : Operand} {a : Option Addr} {len cap m kk : Nat} {k : IntKind} {i : Int} {t e : TypeId} {ti : TypeInfo} {sz : Nat} (ht : P.underlying t = some (.slice e)) (hi : P.info? e = some ti) (hsz : ti.size = sz) (hx : ev L x = some (.slice a len cap)) (hy : ev L y = some (.int k i)) (hm : i = (m : Int)) (hk : m * sz = kk) (h : m ≤ len) (hc : len ≤ cap) (ha : ∀ b, a = some b → b.spot = none) :
    PV P n L (.slice t x (some y) none none) ty (.slice (fromA a m cap kk) (len - m) (cap - m)) := by
 by_cases hlt : m < cap
 · have := pv_slslice_fromm (P := P) (n := n) (ty := ty) ht hi hsz hx hy hm hk h hlt ha
   rw [fromA, if_pos hlt]; exact this
 · subst hm
   have := pv_slslice_from (P := P) (n := n) (ty := ty) ht hi hx hy (by omega) (by omega)
   rw [Int.toNat_natCast, if_pos (by omega)] at this
   rw [fromA, if_neg hlt]; exact this
theorem row_know {e : TypeId} {sz k n' c' : Nat} {a : Option Addr} {xs : List Value} {M : Kn} {h : Res} (x : (Row e sz (.slice a n' c') k xs).at_ M h) : k ≤ c' ∧ xs.length = k * sz ∧ ∀ b, a = some b → b.spot = none := by
 rcases x with ⟨h1, h2, h3⟩ | ⟨g, cap, cur, h1, h2, h3, h4, h5, h6, h7⟩
 · cases h1; subst h2; subst h3
   exact ⟨Nat.zero_le _, by simp, fun b e => by cases e⟩
 · cases h1
   exact ⟨h2, h5, fun b e => by cases e; rfl⟩
theorem sla_take {A : HP} {a : Option Addr} {xs : List Value} (sh : SlA A a xs) (k : Nat) : SlA A a (xs.take k) := fun x => by
 rcases sh x with e | ⟨g, off, l, T, fz, e1, e2, e3⟩
 · left; rw [e]; simp
 · refine .inr ⟨g, off, l, T, fz, e1, e2, ?_⟩
   conv => rhs; rw [← e3]
   rw [List.take_take, List.length_take]
theorem sla_from {e : TypeId} {sz k n' c' m kk : Nat} {a : Option Addr} {xs : List Value} (hk : m * sz = kk) (hm : m ≤ k) : SlA (Row e sz (.slice a n' c') k xs) (fromA a m c' kk) (xs.drop kk) := fun x => by
 obtain ⟨h1, h2, h3⟩ := row_know x
 by_cases hlt : m < c'
 · rcases sla_row x with e | ⟨g, off, l, T, fz, e1, e2, e3⟩
   · left; rw [e]; simp
   · refine .inr ⟨g, off + kk, l, T, fz, ?_, e2, ?_⟩
     · rw [fromA, if_pos hlt, e1]; rfl
     · conv => rhs; rw [← e3]
       rw [List.drop_take, List.drop_drop, List.length_drop]
 · left
   have hmk : m = k := by omega
   subst hmk
   rw [← hk, ← h2, List.drop_length]
end
end
end Go.Proofs.YtdnoacgopfcpbaaGreat
