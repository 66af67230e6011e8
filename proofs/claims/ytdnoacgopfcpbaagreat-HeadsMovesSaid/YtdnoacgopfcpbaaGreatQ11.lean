/- Texts of this proof, put together: SCard2, SCard3, SRead, PCk. -/
import Derived.Test.YtdnoacgopfcpbaaGreatQ10
set_option linter.unusedVariables false
set_option linter.unusedSimpArgs false
namespace Go.Proofs.YtdnoacgopfcpbaaGreat
section
set_option maxRecDepth 100000
theorem card_sealed_sp (s : Bs) (hs : s.length ≤ 1099511627776) : SpF Tryz.prog 152 [vS s] (vS (sealB s)) := by
 have h40 := shaB_len s
 refine Sp.body (n := 9) Tryz.call152 Tryz.func152 rfl rfl rfl ?_
 refine Qc (k:=Vv (k:=Wq (Qc (k:=Qv (k:=Vv (k:=?_))))))
 refine r_callF (hash_Sum_sp s hs) rfl rfl rfl ?_
 refine Qv (k:=Vv (k:=Wq (Zt (k:=?_))))
 refine fin_ret () (vs := [_]) (Cs := []) rfl (.tmp rfl .nil) ?_ trivial ent_nil
 rfl
theorem argsB_ge (l : List Bs) : l.length ≤ (argsB l).length := by rw [argsB_len]; omega
theorem bodyB_ge : ∀ (l : List Cd), l.length ≤ (bodyB l).length ∧ ∀ c ∈ l, (argsB c.args).length + 2 ≤ (bodyB l).length := by
 intro l
 induction l with
 | nil => exact ⟨Nat.zero_le _, fun c hc => by cases hc⟩
 | cons c l ih =>
   rw [bodyB_cons, List.length_append, List.length_cons, List.length_cons]
   have e : (lineB c).length = (argsB c.args).length + 1 := by simp [lineB]
   refine ⟨by omega, fun x hx => ?_⟩
   rcases List.mem_cons.1 hx with rfl | hx
   · omega
   · have := ih.2 x hx; omega
theorem cds_sizes {qs : List CdV} {N : Nat} (h : (bodyB (cdsOf qs)).length ≤ N) : qs.length ≤ N ∧ ∀ q ∈ qs, (argsB q.args).length ≤ N ∧ q.args.length ≤ N := by
 obtain ⟨h1, h2⟩ := bodyB_ge (cdsOf qs)
 have e0 : (cdsOf qs).length = qs.length := by simp [cdsOf]
 rw [e0] at h1
 refine ⟨by omega, fun q hq => ?_⟩
 have h3 := h2 q.cd (List.mem_map.2 ⟨q, hq, rfl⟩)
 have h4 := argsB_ge q.args
 have e : q.cd.args = q.args := rfl
 rw [e] at h3
 omega
theorem cds_getD {qs : List CdV} {j : Nat} (h : j < qs.length) : (cdsOf qs).getD j cd0 = qs[j].cd := by simp [cdsOf, h]
theorem zb201ret5 {G : Prop} (h : G := by
    have hn : ¬ OkC l j := fun ok => by
     have h1 := ok.lo
     have h2 := ok.hi
     have h3 := ok.rise
     first
     | omega
     | (have h4 := h3 (by omega); omega)
    refine fin_ret () (vs := [_]) (Cs := []) rfl (.tmp rfl .nil) ?_ trivial ent_pick
    rw [decide_eq_false (right_not (by omega) hn)]; rfl) : G := h
theorem zb201ret10 {G : Prop} (h : G := by
    have hn : ¬ OkC l j := fun ok => by
     obtain ⟨o1, o2, o3⟩ := ok.args x hxm
     simp_all
    refine fin_ret () (vs := [_]) (Cs := []) rfl (.tmp rfl .nil) ?_ trivial ent_pick
    rw [decide_eq_false (right_not (by omega) hn)]; rfl) : G := h
theorem zb201next1 {G : Prop} (h : G := by
    have hxo : argOk x := by
     refine ⟨?_, ?_, ?_⟩ <;> simp_all
    refine to_inv ⟨m + 1, by omega, fun i hi => ?_⟩ (by dsimp only; omega) ⟨rfl, rfl, rfl, rfl, rfl, rfl, rfl, trivial⟩ ent_pick
    by_cases he : i = m
    · rw [he, ← hx]; exact hxo
    · exact hma i (by omega)) : G := h
theorem zb201next0 {G : Prop} (h : G := by
    have hokj : OkC l j := by
     refine ⟨by omega, by omega, fun h => by omega, fun x hx => ?_⟩
     rw [hlj, ← hq] at hx
     obtain ⟨i, hi, rfl⟩ := mem_getD (d := []) (show x ∈ q.args from hx)
     exact hma i (by omega)
    refine to_inv ⟨j + 1, by omega, fun i hi => ?_⟩ (by dsimp only; omega) ⟨rfl, rfl, rfl, rfl, trivial⟩ ent_pick
    by_cases he : i = j
    · rw [he]; exact hokj
    · exact hok i (by omega)) : G := h
set_option maxHeartbeats 1000000 in
theorem card_Right_sp {B : HP} {a : Option Addr} (n cap : Nat) (qs : List CdV) (sh : SlA B a (qs.flatMap CdV.cells)) (hn : qs.length = n) (hz : (bodyB (cdsOf qs)).length ≤ 1073741824) :
    Sp1 Tryz.prog 201 [.slice a n cap] [B, CdM qs] (vB (decide (RightC (cdsOf qs)))) [B] := by
 subst hn
 obtain ⟨hb, hqa⟩ := cds_sizes hz
 haveI : RdSl a (qs.flatMap CdV.cells) [B, CdM qs] := ⟨⟨B, sh, .here⟩⟩
 haveI : RdSl a (qs.flatMap CdV.cells) [B] := ⟨⟨B, sh, .here⟩⟩
 obtain ⟨l, hl⟩ : ∃ l, l = cdsOf qs := ⟨_, rfl⟩
 have hll : l.length = qs.length := by rw [hl]; simp [cdsOf]
 rw [← hl]
 refine Sp.body (n := 59) Tryz.call201 Tryz.func201 rfl rfl rfl ?_
 refine Qc (k:=Vv (k:=Wq (Za (k:=Qc (k:=Qv (k:=Vv (k:=Wq (Zb (k:=?_)))))))))
 refine p_loop (fun (i : { j : Nat // j ≤ qs.length ∧ ∀ i, i < j → OkC l i }) => [(0, .slice a qs.length cap), (7, .slice a qs.length cap), (8, vI qs.length), (9, vI i.1)]) (fun (i : { j : Nat // j ≤ qs.length ∧ ∀ i, i < j → OkC l i }) => [B, CdM qs]) (fun (i : { j : Nat // j ≤ qs.length ∧ ∀ i, i < j → OkC l i }) => qs.length - i.1) rfl (⟨0, Nat.zero_le _, fun i h => by omega⟩) ?_ ?_ (fun i => ?_)
 · exact ⟨rfl, rfl, rfl, rfl, trivial⟩
 ·
  exact ent_pick
 obtain ⟨j, hj, hok⟩ := i
 dsimp only
 try dsimp only
 refine Qc (k:=Vv (k:=Wq (Za (k:=Zi (t:=fun h10 => ?_) (f:=fun h10 => ?_)))))
 ·
  refine Zk (k:=Ya (Za (k:=Zb (k:=Za (k:=?_)))))
  have hjl : j < qs.length := by omega
  have hlj : l.getD j cd0 = qs[j].cd := by rw [hl]; exact cds_getD hjl
  have hll1 : (l.getD j cd0).l.toNat = qs[j].l.toNat := by rw [hlj]; rfl
  have hfl : (qs.flatMap CdV.cells).length = qs.length * 2 := flat_len (f := CdV.cells) (sz := 2) (fun _ => rfl) qs
  refine Zr (k:=Vv (k:=Ye 2 (k:=?_)))
  refine r_eloada (vs := [_, _]) (sz := 2) Tryz.underlying220 rfl ti220 rfl rfl (by rw [flat_len (sz := 2) (fun _ => rfl)]; omega) rfl (by refine get_flat (fun x => ?_) ?_ <;> first | rfl | omega) rfl ?_
  refine Zc [.int .u8 0, .slice none 0 0] (k:=fun b4 => Vv (k:=Zp (k:=Wq (Za (k:=Za (k:=Dw [Ce b4 220 [vU (qs[j].l.toNat : Int), .slice qs[j].a qs[j].args.length qs[j].c], B] (k:=?_)))))))
  refine Di 0 (t:=Uf 0 5) (k:=Di 1 (t:=Ul) (k:=Dv 2 (k:=Dv 3 (k:=Gd 3 (t:=fun h17 => ?_) (f:=fun h17 => ?_)))))
  ·
   refine D1 4 (k:=D1 5 (k:=D1 6 (k:=DP1 7 (k:=Dv 8 (k:=D1 9 (k:=D1 10 (k:=D1 11 (k:=Di 12 (t:=Uu) (k:=Di 13 (t:=Uu) (k:=Di 14 (t:=Uu) (k:=Di 15 (t:=Uu) (k:=?_))))))))))))
   refine Di 16 (t:=Uu) (k:=Di 17 (t:=Uu) (k:=Di 18 (t:=Uu) (k:=Di 19 (t:=Uu) (k:=Di 20 (t:=Uu) (k:=D1 21 (k:=DP1 22 (k:=Dd (k:=Ya (Z1 (k:=Qc (k:=?_)))))))))))
   refine Vv (k:=Wq (Zt (k:=Va (Vb (Va (Vi (Vb (Va ?_))))))))
   exact zb201ret5
  ·
   refine Di 4 (t:=U0 (h:=Uf 0 5)) (k:=Di 5 (t:=U0 (h:=Ul)) (k:=Di 6 (t:=U0 (h:=Uv)) (k:=DP0 7 (k:=Dv 8 (k:=Gd 8 (t:=fun h22 => ?_) (f:=fun h22 => ?_))))))
   ·
    refine D1 9 (k:=D1 10 (k:=D1 11 (k:=Di 12 (t:=Uu) (k:=Di 13 (t:=Uu) (k:=Di 14 (t:=Uu) (k:=Di 15 (t:=Uu) (k:=Di 16 (t:=Uu) (k:=Di 17 (t:=Uu) (k:=Di 18 (t:=Uu) (k:=Di 19 (t:=Uu) (k:=Di 20 (t:=Uu) (k:=?_))))))))))))
    refine D1 21 (k:=DP1 22 (k:=Dd (k:=Ya (Z1 (k:=Qc (k:=Vv (k:=Wq (Zt (k:=Va (Vb ?_))))))))))
    refine Va (Vi (Vb (Va ?_)))
    exact zb201ret5
   ·
    refine Di 9 (t:=U0 (h:=Uv)) (k:=Di 10 (t:=U0 (h:=Uv)) (k:=Di 11 (t:=U0 (h:=Uv)) (k:=Gd 11 (t:=fun h25 => ?_) (f:=fun h25 => ?_))))
    ·
     have hlp : (l.getD (j - 1) cd0).l.toNat = qs[j - 1].l.toNat := by
      have e := cds_getD (show j - 1 < qs.length by omega)
      rw [← hl] at e
      rw [e]; rfl
     refine Di 12 (t:=U1 (h:=Uv)) (k:=Di 13 (t:=U1 (h:=Uv)) (k:=Di 14 (t:=U1 (h:=Uv)) (k:=?_)))
     refine d_first 15 rfl rfl rfl (by kernel_rfl) (by kernel_rfl) (tl_in (b := true) rfl (tl_elemAddr (sz := 2) (m := j - 1) (kk := 2 * (j - 1)) Tryz.underlying170 ti220 rfl rfl rfl (by omega) (by omega) (by omega) (Nat.mul_comm _ _))) ?_
     refine d_first 16 rfl rfl rfl (by kernel_rfl) (by kernel_rfl) (tl_in (b := true) rfl (tl_efield (kk := 2 * (j - 1)) Tryz.underlying220 rfl ti5 rfl rfl rfl rfl (by omega))) ?_
     refine d_first 17 rfl rfl rfl (by kernel_rfl) (by kernel_rfl) (tl_in (b := true) rfl (tl_eload Tryz.underlying5 rfl rfl (cdget (j := j - 1) (by omega)).1)) ?_
     refine Di 18 (t:=U1 (h:=Uf 0 5)) (k:=Di 19 (t:=U1 (h:=Ul)) (k:=Di 20 (t:=U1 (h:=Uv)) (k:=Di 21 (t:=U0 (h:=UP1)) (k:=DP0 22 (k:=Dd (k:=Ya (Zi (t:=fun h36 => ?_) (f:=fun h36 => ?_))))))))
     ·
      refine Qc (k:=Vv (k:=Wq (Zt (k:=Va (Vb (Va (Vi (Vb (Va ?_)))))))))
      exact zb201ret5
     ·
      refine Zk (k:=Ya (Qc (k:=Vf 1 27 (k:=?_))))
      refine wo_ent' (ent_cd (q := qs[j]) (List.getElem_mem hjl) HasC.get) ?_
      obtain ⟨q, hq⟩ : ∃ q, q = qs[j] := ⟨_, rfl⟩
      have hqal := (hqa qs[j] (List.getElem_mem hjl)).2
      rw [← hq] at hqal ⊢
      refine Zd (k:=Qv (k:=Wq (Zb (k:=?_))))
      refine p_loop (fun (i : { m : Nat // m ≤ q.args.length ∧ ∀ i, i < m → argOk (q.args.getD i []) }) => [(0, .slice a qs.length cap), (7, .slice a qs.length cap), (8, vI qs.length), (9, vI j), (38, .slice q.a q.args.length q.c), (39, vI q.args.length), (40, vI i.1)]) (fun (i : { m : Nat // m ≤ q.args.length ∧ ∀ i, i < m → argOk (q.args.getD i []) }) => [SlI q.a (q.args.map vS), B, CdM qs]) (fun (i : { m : Nat // m ≤ q.args.length ∧ ∀ i, i < m → argOk (q.args.getD i []) }) => q.args.length - i.1) rfl (⟨0, Nat.zero_le _, fun i h => by omega⟩) ?_ ?_ (fun i => ?_)
      · exact ⟨rfl, rfl, rfl, rfl, rfl, rfl, rfl, trivial⟩
      ·
       exact ent_pick
      obtain ⟨m, hm, hma⟩ := i
      dsimp only
      try dsimp only
      refine Qc (k:=Vv (k:=Wq (Za (k:=Zi (t:=fun h41 => ?_) (f:=fun h41 => ?_)))))
      ·
       refine Zk (k:=Ya (Za (k:=Zb (k:=Qc (k:=Ye 1 (k:=Yl (hv:=by exact get_mapD [] (by omega)) (k:=Vv (k:=Wq (Za (k:=?_))))))))))
       obtain ⟨x, hx⟩ : ∃ x, x = q.args.getD m [] := ⟨_, rfl⟩
       have hxm : x ∈ (l.getD j cd0).args := by
        rw [hlj, ← hq, hx]
        show _ ∈ q.args
        have hmm : m < q.args.length := by omega
        simp [hmm]
       rw [← hx]
       refine Zr (k:=Qv (k:=Vv (k:=Gi 2 (t:=fun h46 => ?_) (f:=fun h46 => ?_))))
       ·
        refine O1 (k:=O1 (k:=P1 (k:=Vv (k:=O1 (k:=O1 (k:=P1 (k:=Wq (Z1 (k:=Qc (k:=Vv (k:=?_)))))))))))
        refine Wq (Zt (k:=Vb (Va (Vi (Vb (Vb (Va (Vi (Vb (Va ?_))))))))))
        exact zb201ret10
       ·
        refine J0 (k:=I0 (k:=?_))
        refine r_callF (Contains_one_sp x 32) rfl rfl rfl ?_
        refine P0 (k:=Vv (k:=Gi 6 (t:=fun h50 => ?_) (f:=fun h50 => ?_)))
        ·
         refine O1 (k:=O1 (k:=P1 (k:=Wq (Z1 (k:=Qc (k:=Vv (k:=Wq (Zt (k:=Vb (Va ?_))))))))))
         refine Vi (Vb (Vb (Va (Vi (Vb (Va ?_))))))
         exact zb201ret10
        ·
         refine J0 (k:=I0 (k:=?_))
         refine r_callF (Contains_one_sp x 10) rfl rfl rfl ?_
         refine P0 (k:=Wq (Zi (t:=fun h53 => ?_) (f:=fun h53 => ?_)))
         ·
          refine Qc (k:=Vv (k:=Wq (Zt (k:=Vb (Va (Vi (Vb (Vb (Va (Vi ?_))))))))))
          refine Vb (Va ?_)
          exact zb201ret10
         ·
          refine Zk (k:=Yb (Ya (Zr (k:=Qv (k:=Wn ?_)))))
          exact zb201next1
      ·
       refine Ze (k:=Xa (Xi (Xb (Yb (Ya (Zr (k:=Qv (k:=Wn ?_))))))))
       exact zb201next0
    ·
     refine D0 12 (k:=D0 13 (k:=D0 14 (k:=D0 15 (k:=D0 16 (k:=D0 17 (k:=D0 18 (k:=D0 19 (k:=D0 20 (k:=Di 21 (t:=U0 (h:=UP0)) (k:=DP0 22 (k:=Dd (k:=?_))))))))))))
     refine Ya (Z0 (k:=Zk (k:=Ya (Qc (k:=Vf 1 27 (k:=?_))))))
     refine wo_ent' (ent_cd (q := qs[j]) (List.getElem_mem hjl) HasC.get) ?_
     obtain ⟨q, hq⟩ : ∃ q, q = qs[j] := ⟨_, rfl⟩
     have hqal := (hqa qs[j] (List.getElem_mem hjl)).2
     rw [← hq] at hqal ⊢
     refine Zd (k:=Qv (k:=Wq (Zb (k:=?_))))
     refine p_loop (fun (i : { m : Nat // m ≤ q.args.length ∧ ∀ i, i < m → argOk (q.args.getD i []) }) => [(0, .slice a qs.length cap), (7, .slice a qs.length cap), (8, vI qs.length), (9, vI j), (38, .slice q.a q.args.length q.c), (39, vI q.args.length), (40, vI i.1)]) (fun (i : { m : Nat // m ≤ q.args.length ∧ ∀ i, i < m → argOk (q.args.getD i []) }) => [SlI q.a (q.args.map vS), B, CdM qs]) (fun (i : { m : Nat // m ≤ q.args.length ∧ ∀ i, i < m → argOk (q.args.getD i []) }) => q.args.length - i.1) rfl (⟨0, Nat.zero_le _, fun i h => by omega⟩) ?_ ?_ (fun i => ?_)
     · exact ⟨rfl, rfl, rfl, rfl, rfl, rfl, rfl, trivial⟩
     ·
      exact ent_pick
     obtain ⟨m, hm, hma⟩ := i
     dsimp only
     try dsimp only
     refine Qc (k:=Vv (k:=Wq (Za (k:=Zi (t:=fun h41 => ?_) (f:=fun h41 => ?_)))))
     ·
      refine Zk (k:=Ya (Za (k:=Zb (k:=Qc (k:=Ye 1 (k:=Yl (hv:=by exact get_mapD [] (by omega)) (k:=Vv (k:=Wq (Za (k:=?_))))))))))
      obtain ⟨x, hx⟩ : ∃ x, x = q.args.getD m [] := ⟨_, rfl⟩
      have hxm : x ∈ (l.getD j cd0).args := by
       rw [hlj, ← hq, hx]
       show _ ∈ q.args
       have hmm : m < q.args.length := by omega
       simp [hmm]
      rw [← hx]
      refine Zr (k:=Qv (k:=Vv (k:=Gi 2 (t:=fun h46 => ?_) (f:=fun h46 => ?_))))
      ·
       refine O1 (k:=O1 (k:=P1 (k:=Vv (k:=O1 (k:=O1 (k:=P1 (k:=Wq (Z1 (k:=Qc (k:=Vv (k:=?_)))))))))))
       refine Wq (Zt (k:=Vb (Va (Vi (Vb (Vb (Va (Vi (Vb (Va ?_))))))))))
       exact zb201ret10
      ·
       refine J0 (k:=I0 (k:=?_))
       refine r_callF (Contains_one_sp x 32) rfl rfl rfl ?_
       refine P0 (k:=Vv (k:=Gi 6 (t:=fun h50 => ?_) (f:=fun h50 => ?_)))
       ·
        refine O1 (k:=O1 (k:=P1 (k:=Wq (Z1 (k:=Qc (k:=Vv (k:=Wq (Zt (k:=Vb (Va ?_))))))))))
        refine Vi (Vb (Vb (Va (Vi (Vb (Va ?_))))))
        exact zb201ret10
       ·
        refine J0 (k:=I0 (k:=?_))
        refine r_callF (Contains_one_sp x 10) rfl rfl rfl ?_
        refine P0 (k:=Wq (Zi (t:=fun h53 => ?_) (f:=fun h53 => ?_)))
        ·
         refine Qc (k:=Vv (k:=Wq (Zt (k:=Vb (Va (Vi (Vb (Vb (Va (Vi ?_))))))))))
         refine Vb (Va ?_)
         exact zb201ret10
        ·
         refine Zk (k:=Yb (Ya (Zr (k:=Qv (k:=Wn ?_)))))
         exact zb201next1
     ·
      refine Ze (k:=Xa (Xi (Xb (Yb (Ya (Zr (k:=Qv (k:=Wn ?_))))))))
      exact zb201next0
 ·
  refine Ze (k:=Xa (Xi (Xb (Ya (Qc (k:=Qv (k:=Qv (k:=Wq ?_))))))))
  refine Zt (k:=?_)
  refine fin_ret () (vs := [_]) (Cs := []) rfl (.tmp rfl .nil) ?_ trivial ent_pick
  show vB _ = vB _
  congr 1
  refine decide_eq_decide.2 ⟨fun h => ⟨fun e => ?_, fun i hi => hok i (by omega)⟩, fun h => ?_⟩
  · rw [e] at hll; simp at hll; omega
  · have := List.length_pos_iff.2 h.ne; omega
theorem body_take {l : List Cd} {j : Nat} (h : j < l.length) : bodyB (l.take (j + 1)) = bodyB (l.take j) ++ cardB (l.getD j cd0) := by
 rw [List.take_succ_eq_append_getElem h, bodyB_app]; simp [bodyB, h]
theorem body_take_le (l : List Cd) (j : Nat) : (bodyB (l.take j)).length ≤ (bodyB l).length := by
 conv => rhs; rw [← List.take_append_drop j l, bodyB_app, List.length_append]
 omega
/-- What cards print. -/
def prB (l : List Cd) : Bs := if RightC l then printB l else []
set_option maxHeartbeats 1000000 in
theorem card_Print_sp {B : HP} {a : Option Addr} (n cap : Nat) (qs : List CdV) (sh : SlA B a (qs.flatMap CdV.cells)) (hn : qs.length = n) (hz : (bodyB (cdsOf qs)).length ≤ 1073741824) :
    Sp1 Tryz.prog 155 [.slice a n cap] [B, CdM qs] (vS (prB (cdsOf qs))) [B] := by
 have hR := card_Right_sp n cap qs sh hn hz
 subst hn
 obtain ⟨hb, hqa⟩ := cds_sizes hz
 haveI : RdSl a (qs.flatMap CdV.cells) [B, CdM qs] := ⟨⟨B, sh, .here⟩⟩
 obtain ⟨l, hl⟩ : ∃ l, l = cdsOf qs := ⟨_, rfl⟩
 have hll : l.length = qs.length := by rw [hl]; simp [cdsOf]
 rw [← hl] at hz hR ⊢
 refine Sp.body (n := 29) Tryz.call155 Tryz.func155 rfl rfl rfl ?_
 refine Qc (k:=Vv (k:=Wq (Za (k:=Qc (k:=Vv (k:=?_))))))
 refine r_call1 hR rfl rfl rfl ?_
 refine Vv (k:=Wq (Zi (t:=fun h8 => ?_) (f:=fun h8 => ?_)))
 ·
  refine Qc (k:=Vv (k:=Wq (Zt (k:=Va ?_))))
  have hn : ¬ RightC l := by simpa using h8
  refine fin_ret () (vs := [_]) (Cs := []) rfl (.tmp rfl .nil) ?_ trivial ent_pick
  rw [prB, if_neg hn]; rfl
 ·
  refine Zk (k:=Ya (Qc (k:=Zc [.pointer none, .slice none 0 0] (k:=fun b3 => ?_))))
  refine wo_ent' (fold_newB (p := b3) (by rfl) (by rfl) (by rfl)) ?_
  refine Wq (Za (k:=Qc (k:=Qv (k:=Vv (k:=Wq (Zb (k:=?_)))))))
  refine p_loop (fun (i : { j : Nat // j ≤ qs.length }) => [(3, .pointer (some ⟨b3, 0, none⟩)), (9, .slice a qs.length cap), (10, vI qs.length), (11, vI i.1)]) (fun (i : { j : Nat // j ≤ qs.length }) => [IsB b3 (bodyB (l.take i.1)), B, CdM qs]) (fun (i : { j : Nat // j ≤ qs.length }) => qs.length - i.1) rfl (⟨0, Nat.zero_le _⟩) ?_ ?_ (fun i => ?_)
  · exact ⟨rfl, rfl, rfl, rfl, trivial⟩
  ·
   dsimp only
   rw [List.take_zero, show bodyB [] = [] from rfl]
   exact ent_pick
  obtain ⟨j, hj⟩ := i
  dsimp only
  have hle := body_take_le l j
  try dsimp only
  refine Qc (k:=Vv (k:=Wq (Za (k:=Zi (t:=fun h12 => ?_) (f:=fun h12 => ?_)))))
  ·
   refine Zk (k:=Ya (Za (k:=Zb (k:=Za (k:=?_)))))
   have hjl : j < qs.length := by omega
   have hlj : l.getD j cd0 = qs[j].cd := by rw [hl]; exact cds_getD hjl
   have hbt := body_take (l := l) (j := j) (by omega)
   have hle2 := body_take_le l (j + 1)
   obtain ⟨q, hq⟩ : ∃ q, q = qs[j] := ⟨_, rfl⟩
   have hqm : q ∈ qs := by rw [hq]; exact List.getElem_mem _
   have hqal := hqa q hqm
   rw [hlj, ← hq] at hbt
   have hbl := congrArg List.length hbt
   have hcb : cardB q.cd = q.l :: argsB q.args ++ [10] := rfl
   rw [hcb] at hbt hbl
   simp only [List.length_append, List.length_cons, List.length_nil] at hbl
   refine Zr (k:=Ye 2 (k:=?_))
   refine r_eloada (vs := [_, _]) (sz := 2) Tryz.underlying220 rfl ti220 rfl rfl (by rw [flat_len (sz := 2) (fun _ => rfl)]; omega) rfl (by refine get_flat (fun x => ?_) ?_ <;> first | rfl | omega) rfl ?_
   refine Zc [.int .u8 0, .slice none 0 0] (k:=fun b5 => Zp (k:=?_))
   rw [← hq]
   refine Wq (Zr (k:=Qx 0 5 (k:=Zv [_] (cs := [_]) (k:=fun b17 => ?_))))
   refine r_b2s (l := [q.l]) Tryz.underlying56 Tryz.underlying9 Tryz.underlying5 rfl (by simp [vUs]) (by simp) rfl ?_
   refine Zv [_] (cs := [_]) (k:=fun b19 => Qx 1 27 (k:=?_))
   refine wo_ent' (ent_cd hqm HasC.get) ?_
   refine wo_ent' (ent_row (k := 1) (cap := 1) (sz := 1) (e := 9) (g := b19) (xs := [vS [q.l]]) (cur := [vS [q.l]]) (Nat.le_refl _) (by simp [maxLen]) rfl rfl rfl) ?_
   refine r_appendA (sz := 1) (bytes := 16) Tryz.underlying27 ti9 rfl rfl rfl rfl rfl rfl rfl (by first | rfl | (rw [List.length_map, Nat.mul_one]; try omega) | (rw [flat_len (fun _ => rfl)]; try omega) | (simp; try omega)) (by first | rfl | (simp [oneCell]; done) | (simp [List.all_flatMap, oneCell]; done)) (by omega) (by simp only [maxLen]; omega) rfl (fun a22 c22 => ?_)
   refine wo_ent' (row_norm (v := .slice a22 (1 + q.args.length) c22) (xs := [vS [q.l]] ++ q.args.map vS) (n := 1 + q.args.length) (n' := q.args.length + 1) (xs' := ([q.l] :: q.args).map vS) (by omega) rfl) ?_
   rw [Nat.add_comm 1]
   refine r_call1 (strings_Join_sp c22 [q.l] q.args (by simp) (by omega) (by rw [List.length_singleton]; omega)) rfl rfl rfl ?_
   rw [show joinB ([q.l] :: q.args) = q.l :: argsB q.args from rfl]
   refine Vv (k:=?_)
   refine r_call1 (WriteString_sp b3 (bodyB (l.take j)) (q.l :: argsB q.args ++ [10]) (by simp only [List.length_append, List.length_cons, List.length_nil]; omega)) rfl rfl rfl ?_
   refine Wn (Yb (Ya (Zr (k:=Qv (k:=Wn ?_)))))
   refine to_inv ⟨j + 1, by omega⟩ (by dsimp only; omega) ⟨rfl, rfl, rfl, rfl, trivial⟩ ?_
   dsimp only
   rw [hbt]
   exact ent_pick
  ·
   refine Ze (k:=Xa (Xi (Xb (Ya (Za (k:=?_))))))
   have hjl : j = qs.length := by omega
   subst hjl
   rw [List.take_of_length_le (by omega)]
   refine Zr (k:=?_)
   refine r_call1 (String_sp b3 (bodyB l) (by omega)) rfl rfl rfl ?_
   refine r_callF (card_sealed_sp (bodyB l) (by omega)) rfl rfl rfl ?_
   refine Vv (k:=Wq (Zt (k:=?_)))
   have hn : RightC l := by simpa using h8
   refine fin_ret () (vs := [_]) (Cs := []) rfl (.tmp rfl .nil) ?_ trivial ent_pick
   rw [prB, if_pos hn]; rfl
end
section
set_option maxRecDepth 100000
theorem reads_len {s : Bs} {l : List Cd} (h : ReadsC s l) : 43 ≤ s.length ∧ s.take (s.length - 43) = bodyB l ∧ sealB (s.take (s.length - 43)) = s := by
 have e : s = sealB (bodyB l) := h.2.symm
 subst e
 rw [sealB_len]
 have ht : (sealB (bodyB l)).take (bodyB l).length = bodyB l := by
  rw [sealB, List.append_assoc, List.append_assoc]
  exact List.take_left
 rw [Nat.add_sub_cancel, ht]
 exact ⟨by omega, rfl, rfl⟩
/-- What stands ahead is what has been read so far. -/
def Upto (s : Bs) (m : List Cd) (rest : Bs) : Prop := ∀ l, ReadsC s l → ∃ l2, l = m ++ l2 ∧ bodyB l2 = rest
theorem upto_end {s : Bs} {m : List Cd} (h : Upto s m []) {l : List Cd} (k : ReadsC s l) : l = m := by
 obtain ⟨l2, e, e2⟩ := h l k
 cases l2 with
 | nil => rw [e, List.append_nil]
 | cons c l2 => rw [bodyB_cons] at e2; simp at e2
/-- A right line ahead. -/
theorem upto_line {s : Bs} {m : List Cd} {rest : Bs} (h : Upto s m rest) (hr : rest ≠ []) {l : List Cd} (k : ReadsC s l) : ∃ c l3, l = (m ++ [c]) ++ l3 ∧ rest = lineB c ++ 10 :: bodyB l3 ∧ 10 ∉ lineB c ∧ foldW (splitB 32 (lineB c)) = some (c.l, c.args) := by
 obtain ⟨l2, e, e2⟩ := h l k
 cases l2 with
 | nil => exact absurd e2.symm hr
 | cons c l2 =>
   have hb := k.1.both c (by rw [e]; simp)
   exact ⟨c, l2, by rw [e]; simp, by rw [← e2, bodyB_cons], lineB_no10 hb.1 hb.2, foldW_line hb.1 hb.2⟩
theorem upto_nocut {s : Bs} {m : List Cd} {rest : Bs} (h : Upto s m rest) (hr : rest ≠ []) (hn : (10 : UInt8) ∉ rest) : ∀ l, ¬ ReadsC s l := fun l k => by
 obtain ⟨c, l3, _, e, _, _⟩ := upto_line h hr k
 exact hn (by rw [e]; simp)
theorem upto_step {s : Bs} {m : List Cd} {line rest : Bs} (h : Upto s m (line ++ 10 :: rest)) (hn : (10 : UInt8) ∉ line) {c : UInt8} {xs : List Bs} (hf : foldW (splitB 32 line) = some (c, xs)) : Upto s (m ++ [⟨c, xs⟩]) rest := fun l k => by
 obtain ⟨d, l3, e1, e2, e3, e4⟩ := upto_line h (by simp) k
 obtain ⟨q1, q2⟩ := cut_uniq hn e3 e2
 rw [q1, e4] at hf
 cases hf
 exact ⟨l3, by rw [e1], q2.symm⟩
theorem upto_bad {s : Bs} {m : List Cd} {line rest : Bs} (h : Upto s m (line ++ 10 :: rest)) (hn : (10 : UInt8) ∉ line) (hf : foldW (splitB 32 line) = none) : ∀ l, ¬ ReadsC s l := fun l k => by
 obtain ⟨d, l3, e1, e2, e3, e4⟩ := upto_line h (by simp) k
 obtain ⟨q1, q2⟩ := cut_uniq hn e3 e2
 rw [q1, e4] at hf
 cases hf
theorem foldW_none {pre r : List Bs} {w : Bs} {st : UInt8 × List Bs} (h : foldW pre = some st) (hw : stepW st w = none) : foldW (pre ++ w :: r) = none := by
 have e : pre ++ w :: r = (pre ++ [w]) ++ r := by simp
 have h1 : foldW (pre ++ [w]) = none := by rw [foldW_snoc, h]; exact hw
 rw [e, foldW, List.foldlM_append]
 rw [foldW] at h1
 rw [h1]; rfl
/-- A card that is being made. -/
def CdB (b : Nat) (pre : List Bs) : HP := Ex fun z : UInt8 × List Bs × Option Addr × Nat => Al [Pu (foldW pre = some (z.1, z.2.1)), Ce b 220 [vU z.1.toNat, .slice z.2.2.1 z.2.1.length z.2.2.2], Row 9 1 (.slice z.2.2.1 z.2.1.length z.2.2.2) z.2.1.length (z.2.1.map vS)]
theorem fold_cdb {b T : Nat} {pre : List Bs} {v0 v1 : Value} {Hs R1 Rs : List HP} (c : UInt8) (xs : List Bs) (a : Option Addr) (k m : Nat) (hf : foldW pre = some (c, xs)) (hm : m = xs.length) [q : OwnC b T [v0, v1] Hs R1] (hT : T = 220) (h0 : v0 = vU c.toNat) (h1 : v1 = .slice a m k) {n : Nat} {ys : List Value} {e sz : Nat} [q2 : RowC (.slice a m k) e sz n ys R1 Rs] (he : e = 9) (hsz : sz = 1) (hn : n = m) (hy : ys = xs.map vS) : Ent Hs (CdB b pre :: Rs) := by
 subst hT; subst h0; subst h1; subst he; subst hsz; subst hn; subst hy; subst hm
 refine ent_ex (c, xs, a, k) ?_
 refine ent_al (ent_pu hf ?_)
 exact Picks.ent (.cons q.get (.cons q2.get .nil))
theorem cds_snoc (qs : List CdV) (q : CdV) : cdsOf (qs ++ [q]) = cdsOf qs ++ [q.cd] := by simp [cdsOf]
abbrev cardV (x : (Option Addr × Nat) × List CdV) : Value := .slice x.1.1 x.2.length x.1.2
abbrev cardH (x : (Option Addr × Nat) × List CdV) : List HP := [Row 220 2 (.slice x.1.1 x.2.length x.1.2) x.2.length (x.2.flatMap CdV.cells), CdM x.2]
theorem ent_nocards {Hs : List HP} : Ent Hs (cardH ((none, 0), [])) := (row_nil (e := 220) (sz := 2)).trans (ent_cdm_nil.trans (show Ent _ [Row 220 2 (.slice none 0 0) 0 [], CdM []] from ent_pick))
theorem zb105ret2 {G : Prop} (h : G := by
    have hn : readC s = none := readC_none.2 fun l h => by
     have := hrl l h
     first
     | omega
     | (exact absurd this.2.2 (by simpa using h23))
    refine fin_ret ((none, 0), []) (vs := [_, _]) (Cs := []) rfl (.tmp rfl (.tmp rfl .nil)) ?_ (by rw [hn]; rfl) ent_nocards
    rw [hn]; rfl) : G := h
theorem zb105ret17 {G : Prop} (h : G := by
    have hn : readC s = none := readC_none.2 fun l h => by
     first
     | exact hnr (by simpa using h66) l h
     | (have he : rest = [] := by simpa using h66
        have e := upto_end (hu he) h
        rw [← e] at h71
        have e2 : prB l = s := by rw [prB, if_pos h.1]; exact h.2
        exact absurd e2 (by simpa using h71))
    refine fin_ret ((none, 0), []) (vs := [_, _]) (Cs := []) rfl (.tmp rfl (.tmp rfl .nil)) ?_ (by rw [hn]; rfl) ent_nocards
    rw [hn]; rfl) : G := h
theorem zb105join16 {G : Prop} (h : G := by
    first
    | (have he : rest = [] := by simpa using h30
       subst he
       exact to_inv ⟨((a, ac), qs, []), by dsimp only; omega, fun _ => hu, fun h => absurd rfl h⟩ trivial ⟨rfl, rfl, rfl, trivial⟩ ent_pick)
    | (have hm : more = false := by simpa using h38
       exact to_inv ⟨((a, ac), qs, rest), by dsimp only; omega, fun h => absurd h hne, fun _ => upto_nocut hu hne (hcc.1 hm)⟩ trivial ⟨rfl, rfl, rfl, trivial⟩ ent_pick)
    | exact to_inv ⟨((a, ac), qs, rest), by dsimp only; omega, fun h => absurd h hne, fun _ => hbad⟩ trivial ⟨rfl, rfl, rfl, trivial⟩ ent_pick) : G := h
set_option maxHeartbeats 2000000 in
theorem card_Read_sp (s : Bs) (hs : s.length ≤ 1073741824) : Sp Tryz.prog 105 [vS s] [] (X := (Option Addr × Nat) × List CdV) (fun x => .tuple #[cardV x, vB (readC s).isSome]) (fun x => cdsOf x.2 = (readC s).getD []) cardH := by
 have hrl := fun l (h : ReadsC s l) => reads_len h
 refine Sp.body (n := 73) Tryz.call105 Tryz.func105 rfl rfl rfl ?_
 refine Qc (k:=Qv (k:=Wq (Zs (k:=Za (k:=Qc (k:=Qv (k:=Vv (k:=?_))))))))
 refine Vv (k:=Gi 3 (t:=fun h14 => ?_) (f:=fun h14 => ?_))
 ·
  refine O1 (k:=O1 (k:=O1 (k:=O1 (k:=O1 (k:=O1 (k:=O1 (k:=O1 (k:=P1 (k:=Wq (Z1 (k:=Za (k:=?_))))))))))))
  refine Zr (k:=Qv (k:=Wq (Zt (k:=Va (Vs ?_)))))
  exact zb105ret2
 ·
  refine J0 (k:=J0 (k:=J0 (k:=J0 (k:=I0 (k:=?_)))))
  refine wo_pv (pv_slice_tom (m := s.length - 43) Tryz.underlying9 rfl rfl (by omega) (by omega)) rfl ?_
  refine I0 (k:=?_)
  refine r_callF (card_sealed_sp (s.take (s.length - 43)) (by rw [List.length_take]; omega)) rfl rfl rfl ?_
  refine J0 (k:=J0 (k:=P0 (k:=Wq (Zi (t:=fun h23 => ?_) (f:=fun h23 => ?_)))))
  ·
   refine Qc (k:=Qv (k:=Wq (Zt (k:=Va (Vs ?_)))))
   exact zb105ret2
  ·
   refine Zk (k:=Ya (Za (k:=?_)))
   have h43 : 43 ≤ s.length := by omega
   refine Zr (k:=Vv (k:=Wq (Qc (k:=Qv (k:=Qv (k:=?_))))))
   refine wo_pv (pv_slice_tom (m := s.length - 43) Tryz.underlying9 rfl rfl (by omega) (by omega)) rfl ?_
   refine Vv (k:=Wq (Za (k:=Zl (k:=Ya ?_))))
   refine p_cut (fun (i : { x : (Option Addr × Nat) × List CdV × Bs // (bodyB (cdsOf x.2.1)).length ≤ s.length ∧ (x.2.2 = [] → Upto s (cdsOf x.2.1) []) ∧ (x.2.2 ≠ [] → ∀ l, ¬ ReadsC s l) }) => [(0, vS s), (4, .slice i.1.1.1 i.1.2.1.length i.1.1.2), (5, vS i.1.2.2)]) (fun (i : { x : (Option Addr × Nat) × List CdV × Bs // (bodyB (cdsOf x.2.1)).length ≤ s.length ∧ (x.2.2 = [] → Upto s (cdsOf x.2.1) []) ∧ (x.2.2 ≠ [] → ∀ l, ¬ ReadsC s l) }) => [Row 220 2 (.slice i.1.1.1 i.1.2.1.length i.1.1.2) i.1.2.1.length (i.1.2.1.flatMap CdV.cells), CdM i.1.2.1]) rfl (fun i => ?_) ?_
   ·
    obtain ⟨⟨⟨a, ac⟩, qs, rest⟩, hz, hu, hnr⟩ := i
    dsimp only at hz hu hnr
    have hP := card_Print_sp (B := Row 220 2 (.slice a qs.length ac) qs.length (qs.flatMap CdV.cells)) qs.length ac qs sla_row rfl (by omega)
    try dsimp only
    refine Za (k:=Qc (k:=Qv (k:=Vv (k:=Gi 2 (t:=fun h66 => ?_) (f:=fun h66 => ?_)))))
    ·
     refine O1 (k:=O1 (k:=O1 (k:=O1 (k:=P1 (k:=Wq (Z1 (k:=Qc (k:=Qv (k:=Wq ?_)))))))))
     refine Zt (k:=Va (Vs ?_))
     exact zb105ret17
    ·
     refine J0 (k:=I0 (k:=?_))
     refine r_call1 hP rfl rfl rfl ?_
     refine J0 (k:=J0 (k:=P0 (k:=Wq (Zi (t:=fun h71 => ?_) (f:=fun h71 => ?_)))))
     ·
      refine Qc (k:=Qv (k:=Wq (Zt (k:=Va (Vs ?_)))))
      exact zb105ret17
     ·
      refine Zk (k:=Ya (Qc (k:=Qv (k:=Vv (k:=Wq (Zt (k:=Vs ?_)))))))
      have he : prB (cdsOf qs) = s := by simpa using h71
      have hr : readC s = some (cdsOf qs) := readC_iff.2 (by
       rw [prB] at he
       split at he
       · rename_i hR; exact ⟨hR, he⟩
       · rw [← he] at h43; simp at h43)
      refine fin_ret ((a, ac), qs) (vs := [_, _]) (Cs := []) rfl (.tmp rfl (.tmp rfl .nil)) ?_ (by rw [hr]; rfl) ent_pick
      rw [hr]; rfl
   ·
    refine Zb (k:=?_)
    refine p_loop (fun (i : { x : (Option Addr × Nat) × List CdV × Bs // Upto s (cdsOf x.2.1) x.2.2 ∧ (bodyB (cdsOf x.2.1)).length + x.2.2.length ≤ s.length }) => [(0, vS s), (4, .slice i.1.1.1 i.1.2.1.length i.1.1.2), (5, vS i.1.2.2)]) (fun (i : { x : (Option Addr × Nat) × List CdV × Bs // Upto s (cdsOf x.2.1) x.2.2 ∧ (bodyB (cdsOf x.2.1)).length + x.2.2.length ≤ s.length }) => [Row 220 2 (.slice i.1.1.1 i.1.2.1.length i.1.1.2) i.1.2.1.length (i.1.2.1.flatMap CdV.cells), CdM i.1.2.1]) (fun (i : { x : (Option Addr × Nat) × List CdV × Bs // Upto s (cdsOf x.2.1) x.2.2 ∧ (bodyB (cdsOf x.2.1)).length + x.2.2.length ≤ s.length }) => i.1.2.2.length) rfl (⟨((none, 0), [], s.take (s.length - 43)), fun l h => ⟨l, rfl, (hrl l h).2.1.symm⟩, by show 0 + (s.take _).length ≤ _; rw [List.length_take]; omega⟩) ?_ ?_ (fun i => ?_)
    · exact ⟨rfl, rfl, rfl, trivial⟩
    ·
     exact ent_nocards
    obtain ⟨⟨⟨a, ac⟩, qs, rest⟩, hu, hz⟩ := i
    dsimp only at hu hz ⊢
    try dsimp only
    refine Za (k:=Qc (k:=Qv (k:=Wq (Zi (t:=fun h30 => ?_) (f:=fun h30 => ?_)))))
    ·
     refine Zk (k:=Ya (Zb (k:=Za (k:=?_))))
     have hne : rest ≠ [] := by simpa using h30
     have hqn : qs.length ≤ 1073741824 := (cds_sizes (N := 1073741824) (by omega)).1
     obtain ⟨line, hln⟩ : ∃ w, (cutP 10 rest).1 = w := ⟨_, rfl⟩
     obtain ⟨behind, hbh⟩ : ∃ w, (cutP 10 rest).2.1 = w := ⟨_, rfl⟩
     obtain ⟨more, hmo⟩ : ∃ w, (cutP 10 rest).2.2 = w := ⟨_, rfl⟩
     have hcc : (more = false → (10 : UInt8) ∉ rest) ∧ (more = true → rest = line ++ 10 :: behind ∧ (10 : UInt8) ∉ line) := by
      rcases cutP_cases 10 rest with ⟨hn, hc⟩ | ⟨x, r, he, hn, hc⟩
      · rw [hc] at hmo hln hbh
        subst hmo
        exact ⟨fun _ => hn, fun h => (by cases h)⟩
      · rw [hc] at hmo hln hbh
        subst hmo; subst hln; subst hbh
        exact ⟨fun h => (by cases h), fun _ => ⟨he, hn⟩⟩
     refine Zr (k:=Vv (k:=?_))
     refine r_callF (Cut_sp rest 10 (by omega)) rfl rfl rfl ?_
     rw [cutV, hln, hbh, hmo]
     refine Vv (k:=?_)
     refine wo_pv (pv_extract (v := vS line) rfl rfl) rfl ?_
     refine wo_pv (pv_extract (v := vS behind) rfl rfl) rfl ?_
     refine wo_pv (pv_extract (v := vB more) rfl rfl) rfl ?_
     refine Qv (k:=Vv (k:=Wq (Za (k:=Qc (k:=Qv (k:=Wq (Zi (t:=fun h38 => ?_) (f:=fun h38 => ?_))))))))
     ·
      refine Ze (k:=Xa (Xo (k:=Xi (Xb ?_))))
      exact zb105join16
     ·
      refine Zk (k:=Ya (Za (k:=?_)))
      have hm : more = true := by simpa using h38
      obtain ⟨hrest, hn10⟩ := hcc.2 hm
      have hrl2 := congrArg List.length hrest
      rw [List.length_append, List.length_cons] at hrl2
      rw [hrest] at hu
      refine Zr (k:=Zc [.int .u8 0, .slice none 0 0] (k:=fun b9 => Wq (Za (k:=Qc (k:=Vv (k:=?_))))))
      refine r_callX (escape_Words_sp line) rfl rfl rfl (fun x40 _ => ?_)
      refine Wq (Zb (k:=?_))
      refine p_rangeFunc (fun pre => [CdB b9 pre, Row 220 2 (.slice a qs.length ac) qs.length (qs.flatMap CdV.cells), CdM qs]) (fun j pre => match j with | some 0 => [Pu (∀ l, ¬ ReadsC s l), Row 220 2 (.slice a qs.length ac) qs.length (qs.flatMap CdV.cells), CdM qs] | _ => [Pu False]) rfl (escape_Words_it line (by omega) x40) rfl (fun _ => by rfl) rfl ?_ (fun l pre w hok => ?_) ?_ (fun j pre hs => ?_)
      · (refine ent_app ?_; refine Ent.trans (row_nil (e := 9) (sz := 1)) ?_; exact ent_step (fold_cdb 0 [] none 0 0 (by rfl) (by rfl) (by rfl) (by rfl) (by rfl) (by rfl) (by rfl) (by rfl) (by rfl)) ent_pick)
      ·
       obtain ⟨rr, hrr⟩ := hok
       refine wc_front (CdB b9 pre) (wc_exi fun z => wc_al (wc_pu fun hq => ?_))
       obtain ⟨c, xs, za, zc⟩ := z
       dsimp only at hq
       dsimp only
       have hxl : xs.length ≤ line.length + 1 := by
        have h1 := (foldW_len pre (0, []) (c, xs) hq).1
        have h2 := congrArg (fun l => (argsB l).length) hrr
        have h3 := congrArg List.length (splitB_join line)
        have h4 := argsB_ge xs
        dsimp only at h1 h2
        rw [argsB_app, List.length_append] at h2
        rw [List.length_cons] at h3
        rw [argsB_nil, List.length_nil] at h1
        omega
       have hsn : foldW (pre ++ [w]) = stepW (c, xs) w := by rw [foldW_snoc, hq]; rfl
       refine Zr (k:=Vv (k:=Wg (Zb (k:=Zb (k:=Qc (k:=Qx 0 5 (k:=Qv (k:=Wq ?_))))))))
       refine Zi (t:=fun h42 => ?_) (f:=fun h42 => ?_)
       ·
        refine Zr (k:=Qx 1 27 (k:=Vv (k:=Zv [_] (cs := [_]) (k:=fun b49 => ?_))))
        refine r_append1 (sz := 1) (bytes := 16) Tryz.underlying27 ti9 rfl rfl rfl rfl rfl rfl rfl (by rfl) (by rfl) (by omega) (by simp only [maxLen]; omega) rfl (fun a50 c50 => ?_)
        refine Vf 1 27 (k:=Zo (k:=Wn (Yb (Yb ?_))))
        refine to_round ?_
        first
        | (rw [stepW, if_pos (show 0 < c.toNat by omega)] at hsn
           exact ent_step (fold_cdb c (xs ++ [w]) a50 c50 (xs.length + 1) hsn (by simp) (by rfl) (by rfl) (by rfl) (by rfl) (by rfl) (by rfl) (by simp)) ent_pick)
        | (rw [stepW, if_neg (show ¬ 0 < c.toNat by omega), if_pos (show w.length = 1 by omega)] at hsn
           exact ent_step (fold_cdb (w.getD 0 0) xs za zc xs.length hsn (by rfl) (by rfl) (by rfl) (by rfl) (by rfl) (by rfl) (by rfl) (by rfl)) ent_pick)
       ·
        refine Qc (k:=Qv (k:=Qv (k:=Wq (Zi (t:=fun h52 => ?_) (f:=fun h52 => ?_)))))
        ·
         refine Zr (k:=Vv (k:=?_))
         refine wo_pv (pv_indexm (m := 0) Tryz.underlying9 rfl rfl rfl (by omega)) rfl ?_
         refine Vf 0 5 (k:=Zo (k:=Wn (Yb (Yb ?_))))
         refine to_round ?_
         first
         | (rw [stepW, if_pos (show 0 < c.toNat by omega)] at hsn
            exact ent_step (fold_cdb c (xs ++ [w]) a50 c50 (xs.length + 1) hsn (by simp) (by rfl) (by rfl) (by rfl) (by rfl) (by rfl) (by rfl) (by simp)) ent_pick)
         | (rw [stepW, if_neg (show ¬ 0 < c.toNat by omega), if_pos (show w.length = 1 by omega)] at hsn
            exact ent_step (fold_cdb (w.getD 0 0) xs za zc xs.length hsn (by rfl) (by rfl) (by rfl) (by rfl) (by rfl) (by rfl) (by rfl) (by rfl)) ent_pick)
        ·
         refine Ze (k:=Xo (k:=Xo (k:=?_)))
         refine to_round_exit 0 ?_
         rw [stepW, if_neg (show ¬ 0 < c.toNat by omega), if_neg (show ¬ w.length = 1 by omega)] at hsn
         have hbad : ∀ l, ¬ ReadsC s l := upto_bad hu hn10 (by rw [hrr]; exact foldW_none hq (by rw [← hsn, foldW_snoc, hq]; rfl))
         exact ent_pu hbad ent_pick
      ·
       skip
       refine Yb (Ya ?_)
       refine wc_front (CdB b9 (splitB 32 line)) (wc_exi fun z => wc_al (wc_pu fun hq => ?_))
       obtain ⟨c, xs, za, zc⟩ := z
       dsimp only at hq
       dsimp only
       have hst := upto_step hu hn10 hq
       have hcl := foldW_card hq
       refine wc_know (A := Row 9 1 (.slice za xs.length zc) xs.length (xs.map vS)) HasC.get row_know (fun hk => ?_)
       refine Zr (k:=?_)
       refine wo_frz za ?_
       refine Vv (k:=Zm [_, _] (k:=Zv [_] (cs := [_, _]) (k:=fun b61 => ?_)))
       refine r_append1 (sz := 2) (bytes := 32) Tryz.underlying170 ti220 rfl rfl rfl rfl rfl rfl rfl (by rfl) (by rfl) (by omega) (by simp only [maxLen]; omega) rfl (fun a62 c62 => ?_)
       refine Qv (k:=Vv (k:=Wn (Yb ?_)))
       obtain ⟨q, hqq⟩ : ∃ q : CdV, q = ⟨c, za, zc, xs⟩ := ⟨_, rfl⟩
       have hqc : q.cd = ⟨c, xs⟩ := by rw [hqq]; rfl
       refine to_inv ⟨((a62, c62), qs ++ [q], behind), ?_, ?_⟩ ?_ ⟨rfl, sl_eq (by simp), rfl, trivial⟩ ?_
       · dsimp only; rw [cds_snoc, hqc]; exact hst
       · dsimp only
         rw [cds_snoc, hqc, bodyB_app, List.length_append]
         have : (bodyB [⟨c, xs⟩] : Bs).length = (cardB ⟨c, xs⟩).length := by simp [bodyB]
         omega
       · dsimp only; omega
       · dsimp only
         rw [show (qs ++ [q]).length = qs.length + 1 from by simp]
         refine (ent_cdm_snoc (qs := qs) (q := q) HasC.get (by rw [hqq]; exact HasC.get) (by rw [hqq]; exact hk.1)).trans ?_
         exact ent_step (row_norm (by rfl) (by rw [hqq]; simp [CdV.cells])) ent_pick
      ·
       rcases j with _ | _ | j
       · exact wc_no (fun s => by obtain ⟨_, _, _, _, a, _⟩ := s; exact a)
       · refine wc_ent0 (Gs := [Pu (∀ l, ¬ ReadsC s l), Row 220 2 (.slice a qs.length ac) qs.length (qs.flatMap CdV.cells), CdM qs]) (show Ent ([Pu (∀ l, ¬ ReadsC s l), Row 220 2 (.slice a qs.length ac) qs.length (qs.flatMap CdV.cells), CdM qs] ++ _) _ from ent_pick) (wc_pu fun hbad => ?_)
         refine Ze (k:=Xo (k:=Xa (Xo (k:=Xi (Xb ?_)))))
         exact zb105join16
       · exact wc_no (fun s => by obtain ⟨_, _, _, _, a, _⟩ := s; exact a)
    ·
     refine Ze (k:=Xa (Xi (Xb ?_)))
     exact zb105join16
end
section
set_option maxRecDepth 100000
def rdI (s : Bs) : Int := match readDec s with | some n => (n : Int) | none => -1
end
structure Tg where
 kind : UInt8
 name : Bs
 target : Bs
 value : Bs
 deriving DecidableEq, Repr
def tg0 : Tg := ⟨0, [], [], []⟩
structure Ck where
 base : Bs
 comment : Bs
 date : Int
 files : List (Bs × Bs)
 parents : List Bs
 tags : List Tg
 user : Bs
 deriving DecidableEq, Repr
def ck0 : Ck := ⟨[], [], 0, [], [], [], []⟩
structure OkT (own : Bool) (l : List Tg) (i : Nat) : Prop where
 kind : (l.getD i tg0).kind.toNat = 43 ∨ (l.getD i tg0).kind.toNat = 42 ∨ ((l.getD i tg0).kind.toNat = 45 ∧ (l.getD i tg0).value = [])
 name : wordP (l.getD i tg0).name
 val : (l.getD i tg0).value.length ≤ 12
 tgt : (own = true → (l.getD i tg0).target = [42]) ∧ (own = false → isN (l.getD i tg0).target = true)
 rise : 0 < i → (blt (l.getD (i - 1) tg0).name (l.getD i tg0).name = true ∨ (l.getD (i - 1) tg0).name = (l.getD i tg0).name) ∧ ((l.getD (i - 1) tg0).name = (l.getD i tg0).name → blt (l.getD (i - 1) tg0).target (l.getD i tg0).target = true)
structure RightT (own : Bool) (l : List Tg) : Prop where
 ok : ∀ i, i < l.length → OkT own l i
 len : l.length ≤ 12
structure OkF (whole : Bool) (l : List (Bs × Bs)) (i : Nat) : Prop where
 name : wordP (l.getD i ([], [])).1
 rise : 0 < i → blt (l.getD (i - 1) ([], [])).1 (l.getD i ([], [])).1 = true
 hash : isN (l.getD i ([], [])).2 = true ∨ (whole = false ∧ (l.getD i ([], [])).2 = [])
structure RightF (whole : Bool) (l : List (Bs × Bs)) : Prop where
 ok : ∀ i, i < l.length → OkF whole l i
 len : l.length ≤ 12
structure RightP (l : List Bs) (most : Int) : Prop where
 ok : ∀ i, i < l.length → isN (l.getD i []) = true ∧ l.getD i [] ∉ l.take i
 len : (l.length : Int) ≤ most
instance (own : Bool) (l : List Tg) (i : Nat) : Decidable (OkT own l i) := decidable_of_iff (((l.getD i tg0).kind.toNat = 43 ∨ (l.getD i tg0).kind.toNat = 42 ∨ ((l.getD i tg0).kind.toNat = 45 ∧ (l.getD i tg0).value = [])) ∧ wordP (l.getD i tg0).name ∧ (l.getD i tg0).value.length ≤ 12 ∧ ((own = true → (l.getD i tg0).target = [42]) ∧ (own = false → isN (l.getD i tg0).target = true)) ∧ (0 < i → (blt (l.getD (i - 1) tg0).name (l.getD i tg0).name = true ∨ (l.getD (i - 1) tg0).name = (l.getD i tg0).name) ∧ ((l.getD (i - 1) tg0).name = (l.getD i tg0).name → blt (l.getD (i - 1) tg0).target (l.getD i tg0).target = true))) ⟨fun ⟨a, b, c, d, e⟩ => ⟨a, b, c, d, e⟩, fun ⟨a, b, c, d, e⟩ => ⟨a, b, c, d, e⟩⟩
instance (own : Bool) (l : List Tg) : Decidable (RightT own l) := decidable_of_iff ((∀ i, i < l.length → OkT own l i) ∧ l.length ≤ 12) ⟨fun ⟨a, b⟩ => ⟨a, b⟩, fun ⟨a, b⟩ => ⟨a, b⟩⟩
instance (w : Bool) (l : List (Bs × Bs)) (i : Nat) : Decidable (OkF w l i) := decidable_of_iff (wordP (l.getD i ([], [])).1 ∧ (0 < i → blt (l.getD (i - 1) ([], [])).1 (l.getD i ([], [])).1 = true) ∧ (isN (l.getD i ([], [])).2 = true ∨ (w = false ∧ (l.getD i ([], [])).2 = []))) ⟨fun ⟨a, b, c⟩ => ⟨a, b, c⟩, fun ⟨a, b, c⟩ => ⟨a, b, c⟩⟩
instance (w : Bool) (l : List (Bs × Bs)) : Decidable (RightF w l) := decidable_of_iff ((∀ i, i < l.length → OkF w l i) ∧ l.length ≤ 12) ⟨fun ⟨a, b⟩ => ⟨a, b⟩, fun ⟨a, b⟩ => ⟨a, b⟩⟩
instance (l : List Bs) (m : Int) : Decidable (RightP l m) := decidable_of_iff ((∀ i, i < l.length → isN (l.getD i []) = true ∧ l.getD i [] ∉ l.take i) ∧ (l.length : Int) ≤ m) ⟨fun ⟨a, b⟩ => ⟨a, b⟩, fun ⟨a, b⟩ => ⟨a, b⟩⟩
structure RightK (c : Ck) : Prop where
 base : c.base = [] ∨ isN c.base = true
 comment : c.comment.length ≤ 40
 date : 0 ≤ c.date ∧ c.date ≤ 1073741824
 files : RightF (decide (c.base = [])) c.files
 parents : RightP c.parents 3
 tags : RightT true c.tags
 user : wordP c.user
instance (c : Ck) : Decidable (RightK c) := decidable_of_iff ((c.base = [] ∨ isN c.base = true) ∧ c.comment.length ≤ 40 ∧ (0 ≤ c.date ∧ c.date ≤ 1073741824) ∧ RightF (decide (c.base = [])) c.files ∧ RightP c.parents 3 ∧ RightT true c.tags ∧ wordP c.user) ⟨fun ⟨a, b, c, d, e, f, g⟩ => ⟨a, b, c, d, e, f, g⟩, fun ⟨a, b, c, d, e, f, g⟩ => ⟨a, b, c, d, e, f, g⟩⟩
def tgCard (t : Tg) : Cd := ⟨84, [t.kind :: t.name, t.target] ++ if t.value = [] then [] else [escB t.value]⟩
def flCard (f : Bs × Bs) : Cd := ⟨70, if f.2 = [] then [f.1] else [f.1, f.2]⟩
def bCards (b : Bs) : List Cd := if b = [] then [] else [⟨66, [b]⟩]
def pCards (l : List Bs) : List Cd := if l = [] then [] else [⟨80, l⟩]
def ckCards (c : Ck) : List Cd := bCards c.base ++ [⟨67, [46 :: escB c.comment]⟩, ⟨68, [decN c.date.toNat]⟩] ++ c.files.map flCard ++ pCards c.parents ++ (c.tags.map tgCard ++ [⟨85, [c.user]⟩])
def ckB (c : Ck) : Bs := printB (ckCards c)
/-! Right check-ins' cards are right. -/
theorem isN_argOk {s : Bs} (h : isN s = true) : argOk s := by
 have := of_decide_eq_true h
 exact isN_ok this.1 this.2
theorem isN_len {s : Bs} (h : isN s = true) : s.length = 40 := (of_decide_eq_true h).1
theorem decN_dig : ∀ (n : Nat), decN n ≠ [] ∧ ∀ c ∈ decN n, 48 ≤ c.toNat ∧ c.toNat ≤ 57 := by
 intro n
 induction n using Nat.strongRecOn with
 | _ n ih =>
   rw [decN]
   split
   · refine ⟨by simp, fun c hc => ?_⟩
     rw [List.mem_singleton.1 hc, dgt_toNat]; omega
   · refine ⟨by simp, fun c hc => ?_⟩
     rcases List.mem_append.1 hc with hc | hc
     · exact (ih (n / 10) (by omega)).2 c hc
     · rw [List.mem_singleton.1 hc, dgt_toNat]; omega
theorem decN_lt : ∀ (k n : Nat), n < 10 ^ k → (decN n).length ≤ k ∨ k = 0 := by
 intro k
 induction k with
 | zero => intros; exact .inr rfl
 | succ k ih =>
   intro n h
   left
   rw [decN]
   split
   · simp
   · rw [List.length_append, List.length_singleton]
     rw [Nat.pow_succ] at h
     rcases ih (n / 10) (by omega) with h1 | h1
     · omega
     · subst h1; omega
theorem decN_10 {n : Nat} (h : n ≤ 1073741824) : (decN n).length ≤ 10 := by
 rcases decN_lt 10 n (by omega) with h | h <;> omega
theorem decN_argOk (n : Nat) : argOk (decN n) := argOk_iff.2 ⟨fun e => (decN_dig n).1 (List.eq_nil_of_length_eq_zero e), fun d hd => by have := (decN_dig n).2 d hd; omega⟩
theorem argOk_cons {c : UInt8} {s : Bs} (hc : c.toNat ≠ 32 ∧ c.toNat ≠ 10) (h : ∀ d ∈ s, d.toNat ≠ 32 ∧ d.toNat ≠ 10) : argOk (c :: s) := argOk_iff.2 ⟨by simp, fun d hd => by
 rcases List.mem_cons.1 hd with rfl | hd
 · exact hc
 · exact h d hd⟩
theorem word_no {s : Bs} (h : wordP s) : ∀ d ∈ s, d.toNat ≠ 32 ∧ d.toNat ≠ 10 := fun d hd => by have := h.1 d hd; omega
theorem tgCard_ok {own : Bool} {l : List Tg} (h : RightT own l) : ∀ t ∈ l, ∀ a ∈ (tgCard t).args, argOk a := by
 intro t ht a ha
 obtain ⟨i, hi, rfl⟩ := mem_getD (d := tg0) ht
 obtain ⟨hk, o2, _, o4, _⟩ := h.ok i hi
 generalize l.getD i tg0 = t at hk o2 o4 ha
 have hn := word_no o2
 have ht2 : argOk t.target := by
  cases own with
  | true => rw [o4.1 rfl]; exact ⟨by simp, by decide, by decide⟩
  | false => exact isN_argOk (o4.2 rfl)
 simp only [tgCard, List.mem_append, List.mem_cons, List.not_mem_nil, or_false] at ha
 rcases ha with (rfl | rfl) | ha
 · exact argOk_cons (by omega) hn
 · exact ht2
 · split at ha
   · cases ha
   · rename_i hv
     rw [List.mem_singleton.1 ha]; exact argOk_esc hv
theorem pw_app {k : Nat} {l m : List Cd} (h1 : ∀ a ∈ l, a.l.toNat ≤ k) (h2 : ∀ b ∈ m, k ≤ b.l.toNat) (p1 : l.Pairwise (fun a b => a.l.toNat ≤ b.l.toNat)) (p2 : m.Pairwise (fun a b => a.l.toNat ≤ b.l.toNat)) : (l ++ m).Pairwise (fun a b => a.l.toNat ≤ b.l.toNat) := by
 rw [List.pairwise_append]
 exact ⟨p1, p2, fun a ha b hb => Nat.le_trans (h1 a ha) (h2 b hb)⟩
theorem pw_const {l : List Cd} {k : Nat} (h : ∀ a ∈ l, a.l.toNat = k) : l.Pairwise (fun a b => a.l.toNat ≤ b.l.toNat) := by
 rw [List.pairwise_iff_getElem]
 intro i j hi hj _
 rw [h _ (List.getElem_mem hi), h _ (List.getElem_mem hj)]
 exact Nat.le_refl _
theorem bCards_let (b : Bs) : ∀ a ∈ bCards b, a.l.toNat = 66 := by unfold bCards; split <;> simp
theorem pCards_let (l : List Bs) : ∀ a ∈ pCards l, a.l.toNat = 80 := by unfold pCards; split <;> simp
theorem fCards_let (l : List (Bs × Bs)) : ∀ a ∈ l.map flCard, a.l.toNat = 70 := by
 intro a ha; obtain ⟨f, _, rfl⟩ := List.mem_map.1 ha; rfl
theorem tCards_let (l : List Tg) : ∀ a ∈ l.map tgCard, a.l.toNat = 84 := by
 intro a ha; obtain ⟨f, _, rfl⟩ := List.mem_map.1 ha; rfl
theorem tu_right (l : List Tg) (u : Bs) : (∀ a ∈ l.map tgCard ++ [(⟨85, [u]⟩ : Cd)], 84 ≤ a.l.toNat ∧ a.l.toNat ≤ 85) ∧ (l.map tgCard ++ [(⟨85, [u]⟩ : Cd)]).Pairwise (fun a b => a.l.toNat ≤ b.l.toNat) := by
 have h1 : ∀ a ∈ [(⟨85, [u]⟩ : Cd)], a.l.toNat = 85 := by simp
 refine ⟨fun a ha => ?_, pw_app (k := 84) (fun a ha => by rw [tCards_let l a ha]; exact Nat.le_refl _) (fun b hb => by rw [h1 b hb]; decide) (pw_const (tCards_let l)) (pw_const h1)⟩
 rcases List.mem_append.1 ha with ha | ha
 · rw [tCards_let l a ha]; decide
 · rw [h1 a ha]; decide
theorem rightK_cards {c : Ck} (h : RightK c) : RightC (ckCards c) := by
 have htu := tu_right c.tags c.user
 have hcd : ∀ a ∈ [(⟨67, [46 :: escB c.comment]⟩ : Cd), ⟨68, [decN c.date.toNat]⟩], a.l.toNat = 67 ∨ a.l.toNat = 68 := by simp
 have hcdp : [(⟨67, [46 :: escB c.comment]⟩ : Cd), ⟨68, [decN c.date.toNat]⟩].Pairwise (fun a b => a.l.toNat ≤ b.l.toNat) := by simp
 refine RightC.mk' (by simp [ckCards]) ?_ ?_ ?_
 · intro a ha
   unfold ckCards at ha
   rw [List.mem_append] at ha
   rcases ha with ha | ha
   · rw [List.mem_append] at ha
     rcases ha with ha | ha
     · rw [List.mem_append] at ha
       rcases ha with ha | ha
       · rw [List.mem_append] at ha
         rcases ha with ha | ha
         · rw [bCards_let _ a ha]; decide
         · rcases hcd a ha with e | e <;> rw [e] <;> decide
       · rw [fCards_let _ a ha]; decide
     · rw [pCards_let _ a ha]; decide
   · have := htu.1 a ha; omega
 · intro a ha x hx
   unfold ckCards at ha
   rw [List.mem_append] at ha
   rcases ha with ha | ha
   · rw [List.mem_append] at ha
     rcases ha with ha | ha
     · rw [List.mem_append] at ha
       rcases ha with ha | ha
       · rw [List.mem_append] at ha
         rcases ha with ha | ha
         · unfold bCards at ha
           split at ha
           · cases ha
           · rename_i hb
             rw [List.mem_singleton.1 ha] at hx
             rw [List.mem_singleton.1 hx]
             exact isN_argOk (h.base.resolve_left hb)
         · simp only [List.mem_cons, List.not_mem_nil, or_false] at ha
           rcases ha with rfl | rfl
           · rw [List.mem_singleton.1 hx]; exact argOk_cons (by decide) (escB_ok _)
           · rw [List.mem_singleton.1 hx]; exact decN_argOk _
       · obtain ⟨f, hf, rfl⟩ := List.mem_map.1 ha
         obtain ⟨i, hi, rfl⟩ := mem_getD (d := ([], [])) hf
         obtain ⟨o1, _, o3⟩ := h.files.ok i hi
         generalize c.files.getD i ([], []) = f at o1 o3 hx
         unfold flCard at hx
         dsimp only at hx
         split at hx
         · rw [List.mem_singleton.1 hx]; exact wordP_ok o1
         · rename_i hf2
           simp only [List.mem_cons, List.not_mem_nil, or_false] at hx
           rcases hx with rfl | rfl
           · exact wordP_ok o1
           · exact isN_argOk (o3.resolve_right (fun e => hf2 e.2))
     · unfold pCards at ha
       split at ha
       · cases ha
       · rw [List.mem_singleton.1 ha] at hx
         obtain ⟨i, hi, rfl⟩ := mem_getD (d := []) hx
         exact isN_argOk (h.parents.ok i hi).1
   · rw [List.mem_append] at ha
     rcases ha with ha | ha
     · obtain ⟨t, ht, rfl⟩ := List.mem_map.1 ha
       exact tgCard_ok h.tags t ht x hx
     · rw [List.mem_singleton.1 ha] at hx
       rw [List.mem_singleton.1 hx]; exact wordP_ok h.user
 · unfold ckCards
   refine pw_app (k := 80) (fun a ha => ?_) (fun a ha => by have := htu.1 a ha; omega) ?_ htu.2
   · rw [List.mem_append] at ha
     rcases ha with ha | ha
     · rw [List.mem_append] at ha
       rcases ha with ha | ha
       · rw [List.mem_append] at ha
         rcases ha with ha | ha
         · rw [bCards_let _ a ha]; decide
         · rcases hcd a ha with e | e <;> rw [e] <;> decide
       · rw [fCards_let _ a ha]; decide
     · rw [pCards_let _ a ha]; exact Nat.le_refl _
   · refine pw_app (k := 70) (fun a ha => ?_) (fun a ha => by rw [pCards_let _ a ha]; decide) ?_ (pw_const (pCards_let _))
     · rw [List.mem_append] at ha
       rcases ha with ha | ha
       · rw [List.mem_append] at ha
         rcases ha with ha | ha
         · rw [bCards_let _ a ha]; decide
         · rcases hcd a ha with e | e <;> rw [e] <;> decide
       · rw [fCards_let _ a ha]; exact Nat.le_refl _
     · refine pw_app (k := 68) (fun a ha => ?_) (fun a ha => by rw [fCards_let _ a ha]; decide) ?_ (pw_const (fCards_let _))
       · rw [List.mem_append] at ha
         rcases ha with ha | ha
         · rw [bCards_let _ a ha]; decide
         · rcases hcd a ha with e | e <;> rw [e] <;> decide
       · exact pw_app (k := 66) (fun a ha => by rw [bCards_let _ a ha]; exact Nat.le_refl _) (fun a ha => by rcases hcd a ha with e | e <;> rw [e] <;> decide) (pw_const (bCards_let _)) hcdp
end Go.Proofs.YtdnoacgopfcpbaaGreat
