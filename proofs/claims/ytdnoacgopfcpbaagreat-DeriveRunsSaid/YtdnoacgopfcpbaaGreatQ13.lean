/- Texts of this proof, put together: SCk3, SCk4. -/
import Derived.Test.YtdnoacgopfcpbaaGreatQ12
set_option linter.unusedVariables false
set_option linter.unusedSimpArgs false
namespace Go.Proofs.YtdnoacgopfcpbaaGreat
section
set_option maxRecDepth 100000
/-- Where a check-in's parts lie. -/
structure CkA where
 fa : Option Addr
 fc : Nat
 pa : Option Addr
 pc : Nat
 ta : Option Addr
 tc : Nat
def ckVals (x : CkA) (c : Ck) : List Value := [vS c.base, vS c.comment, vI c.date, .slice x.fa c.files.length x.fc, .slice x.pa c.parents.length x.pc, .slice x.ta c.tags.length x.tc, vS c.user]
/-- No greater than can be. -/
structure TgZ (l : List Tg) : Prop where
 n : l.length ≤ 1073741824
 z : ∀ t ∈ l, t.name.length ≤ 1099511627 ∧ t.target.length ≤ 1099511627 ∧ t.value.length ≤ 1099511627
structure CkZ (c : Ck) : Prop where
 base : c.base.length ≤ 1099511627
 comment : c.comment.length ≤ 1099511627
 user : c.user.length ≤ 1099511627
 fn : c.files.length ≤ 1073741824
 fz : ∀ f ∈ c.files, f.1.length ≤ 1099511627 ∧ f.2.length ≤ 1099511627
 pn : c.parents.length ≤ 1073741824
 pz : ∀ p ∈ c.parents, p.length ≤ 1099511627
 tags : TgZ c.tags
theorem zb161ret1 {G : Prop} (h : G := by
    refine fin_ret () (vs := [_]) (Cs := []) rfl (.tmp rfl .nil) ?_ trivial ent_pick
    show vB _ = vB _
    congr 1
    try simp only [isN_fold] at *
    first
    | exact (decide_eq_false (fun h => h40 h.tags)).symm
    | exact (decide_eq_false (fun h => h35 h.parents)).symm
    | exact (decide_eq_false (fun h => h30 h.files)).symm
    | exact (decide_eq_false (fun h => h22 h.date)).symm
    | exact (decide_eq_false (fun h => by have := h.comment; omega)).symm
    | exact (decide_eq_false (fun h => h11 (h.base.resolve_left h6))).symm
    | exact decide_eq_decide.2 ⟨fun h => ⟨.inl h6, by omega, h22, h30, h35, h40, h⟩, fun h => h.user⟩
    | exact decide_eq_decide.2 ⟨fun h => ⟨.inr h11, by omega, h22, h30, h35, h40, h⟩, fun h => h.user⟩) : G := h
set_option maxHeartbeats 2000000 in
theorem checkin_Right_sp {Bf Bt : HP} (x : CkA) (c : Ck) (z : CkZ c) (shf : SlA Bf x.fa (c.files.flatMap flCells)) (sht : SlA Bt x.ta (c.tags.flatMap tgCells)) (hpc : c.parents.length ≤ x.pc) :
    Sp1 Tryz.prog 161 [.agg (ckVals x c).toArray] [Bf, SlI x.pa (c.parents.map vS), Bt] (vB (decide (RightK c))) [Bf, Bt] := by
 obtain ⟨z1, z2, z3, z4, z5, z6, z7, z8, z9⟩ := z
 have hF := checkin_files_sp (decide (c.base = [])) c.files.length x.fc c.files shf rfl z4 (fun t ht => by have := z5 t ht; omega)
 have hP := checkin_names_sp 3 c.parents.length x.pc c.parents (B := SlI x.pa (c.parents.map vS)) sla_sli rfl hpc z6 (fun t ht => by have := z7 t ht; omega)
 have hT := checkin_RightTags_sp true c.tags.length x.tc c.tags sht rfl z8 (fun t ht => by have := z9 t ht; omega)
 refine Sp.body (n := 45) Tryz.call161 Tryz.func161 rfl rfl rfl ?_
 refine Qc (k:=Zx [_, _, _, _, _, _, _] (k:=fun b1 => Vv (k:=Wq (Qc (k:=Qx 0 9 (k:=Qv (k:=Gi 3 (t:=fun h6 => ?_) (f:=fun h6 => ?_))))))))
 ·
  refine O1 (k:=O1 (k:=O1 (k:=P1 (k:=Vv (k:=I1 (k:=Vf 1 9 (k:=I1 (k:=Zd (k:=J1 (k:=I1 (k:=?_)))))))))))
  refine Vv (k:=P1 (k:=Vv (k:=Gi 14 (t:=fun h17 => ?_) (f:=fun h17 => ?_))))
  ·
   refine I1 (k:=Vf 2 3 (k:=I1 (k:=Zd (k:=I1 (k:=?_)))))
   refine r_callF (checkin_dated_sp c.date) rfl rfl rfl ?_
   refine P1 (k:=Vv (k:=Gi 19 (t:=fun h22 => ?_) (f:=fun h22 => ?_)))
   ·
    refine I1 (k:=Vf 3 26 (k:=I1 (k:=Zd (k:=I1 (k:=Vf 0 9 (k:=I1 (k:=Zd (k:=J1 (k:=I1 (k:=?_))))))))))
    refine r_call1 hF rfl rfl rfl ?_
    refine P1 (k:=Vv (k:=Gi 27 (t:=fun h30 => ?_) (f:=fun h30 => ?_)))
    ·
     refine I1 (k:=Vf 4 27 (k:=I1 (k:=Zd (k:=I1 (k:=?_)))))
     refine r_call1 hP rfl rfl rfl ?_
     refine P1 (k:=Vv (k:=Gi 32 (t:=fun h35 => ?_) (f:=fun h35 => ?_)))
     ·
      refine I1 (k:=Vf 5 28 (k:=I1 (k:=Zd (k:=I1 (k:=?_)))))
      refine r_call1 hT rfl rfl rfl ?_
      refine P1 (k:=Vv (k:=Gi 37 (t:=fun h40 => ?_) (f:=fun h40 => ?_)))
      ·
       refine I1 (k:=Vf 6 9 (k:=I1 (k:=Zd (k:=I1 (k:=?_)))))
       refine r_callF (escape_Word_sp c.user (by omega)) rfl rfl rfl ?_
       refine P1 (k:=Vv (k:=Wq (Zt (k:=?_))))
       exact zb161ret1
      ·
       refine O0 (k:=O0 (k:=O0 (k:=P0 (k:=Vv (k:=Wq (Zt (k:=?_)))))))
       exact zb161ret1
     ·
      refine O0 (k:=O0 (k:=O0 (k:=P0 (k:=Vv (k:=O0 (k:=O0 (k:=O0 (k:=P0 (k:=Vv (k:=Wq (Zt (k:=?_))))))))))))
      exact zb161ret1
    ·
     refine O0 (k:=O0 (k:=O0 (k:=P0 (k:=Vv (k:=O0 (k:=O0 (k:=O0 (k:=P0 (k:=Vv (k:=O0 (k:=O0 (k:=?_))))))))))))
     refine O0 (k:=P0 (k:=Vv (k:=Wq (Zt (k:=?_)))))
     exact zb161ret1
   ·
    refine O0 (k:=O0 (k:=O0 (k:=O0 (k:=O0 (k:=O0 (k:=P0 (k:=Vv (k:=O0 (k:=O0 (k:=O0 (k:=P0 (k:=?_))))))))))))
    refine Vv (k:=O0 (k:=O0 (k:=O0 (k:=P0 (k:=Vv (k:=O0 (k:=O0 (k:=O0 (k:=P0 (k:=Vv (k:=Wq ?_)))))))))))
    refine Zt (k:=?_)
    exact zb161ret1
  ·
   refine O0 (k:=O0 (k:=O0 (k:=P0 (k:=Vv (k:=O0 (k:=O0 (k:=O0 (k:=O0 (k:=O0 (k:=O0 (k:=P0 (k:=?_))))))))))))
   refine Vv (k:=O0 (k:=O0 (k:=O0 (k:=P0 (k:=Vv (k:=O0 (k:=O0 (k:=O0 (k:=P0 (k:=Vv (k:=O0 (k:=?_))))))))))))
   refine O0 (k:=O0 (k:=P0 (k:=Vv (k:=Wq (Zt (k:=?_))))))
   exact zb161ret1
 ·
  refine I0 (k:=Vf 0 9 (k:=I0 (k:=Zd (k:=I0 (k:=?_)))))
  refine r_callF (hash_Is_sp c.base (by omega)) rfl rfl rfl ?_
  refine P0 (k:=Vv (k:=Gi 8 (t:=fun h11 => ?_) (f:=fun h11 => ?_)))
  ·
   refine I1 (k:=Vf 1 9 (k:=I1 (k:=Zd (k:=J1 (k:=J1 (k:=P1 (k:=Vv (k:=Gi 14 (t:=fun h17 => ?_) (f:=fun h17 => ?_)))))))))
   ·
    refine I1 (k:=Vf 2 3 (k:=I1 (k:=Zd (k:=I1 (k:=?_)))))
    refine r_callF (checkin_dated_sp c.date) rfl rfl rfl ?_
    refine P1 (k:=Vv (k:=Gi 19 (t:=fun h22 => ?_) (f:=fun h22 => ?_)))
    ·
     refine I1 (k:=Vf 3 26 (k:=I1 (k:=Zd (k:=I1 (k:=Vf 0 9 (k:=I1 (k:=Zd (k:=J1 (k:=I1 (k:=?_))))))))))
     refine r_call1 hF rfl rfl rfl ?_
     refine P1 (k:=Vv (k:=Gi 27 (t:=fun h30 => ?_) (f:=fun h30 => ?_)))
     ·
      refine I1 (k:=Vf 4 27 (k:=I1 (k:=Zd (k:=I1 (k:=?_)))))
      refine r_call1 hP rfl rfl rfl ?_
      refine P1 (k:=Vv (k:=Gi 32 (t:=fun h35 => ?_) (f:=fun h35 => ?_)))
      ·
       refine I1 (k:=Vf 5 28 (k:=I1 (k:=Zd (k:=I1 (k:=?_)))))
       refine r_call1 hT rfl rfl rfl ?_
       refine P1 (k:=Vv (k:=Gi 37 (t:=fun h40 => ?_) (f:=fun h40 => ?_)))
       ·
        refine I1 (k:=Vf 6 9 (k:=I1 (k:=Zd (k:=I1 (k:=?_)))))
        refine r_callF (escape_Word_sp c.user (by omega)) rfl rfl rfl ?_
        refine P1 (k:=Vv (k:=Wq (Zt (k:=?_))))
        exact zb161ret1
       ·
        refine O0 (k:=O0 (k:=O0 (k:=P0 (k:=Vv (k:=Wq (Zt (k:=?_)))))))
        exact zb161ret1
      ·
       refine O0 (k:=O0 (k:=O0 (k:=P0 (k:=Vv (k:=O0 (k:=O0 (k:=O0 (k:=P0 (k:=Vv (k:=Wq (Zt (k:=?_))))))))))))
       exact zb161ret1
     ·
      refine O0 (k:=O0 (k:=O0 (k:=P0 (k:=Vv (k:=O0 (k:=O0 (k:=O0 (k:=P0 (k:=Vv (k:=O0 (k:=O0 (k:=?_))))))))))))
      refine O0 (k:=P0 (k:=Vv (k:=Wq (Zt (k:=?_)))))
      exact zb161ret1
    ·
     refine O0 (k:=O0 (k:=O0 (k:=O0 (k:=O0 (k:=O0 (k:=P0 (k:=Vv (k:=O0 (k:=O0 (k:=O0 (k:=P0 (k:=?_))))))))))))
     refine Vv (k:=O0 (k:=O0 (k:=O0 (k:=P0 (k:=Vv (k:=O0 (k:=O0 (k:=O0 (k:=P0 (k:=Vv (k:=Wq ?_)))))))))))
     refine Zt (k:=?_)
     exact zb161ret1
   ·
    refine O0 (k:=O0 (k:=O0 (k:=P0 (k:=Vv (k:=O0 (k:=O0 (k:=O0 (k:=O0 (k:=O0 (k:=O0 (k:=P0 (k:=?_))))))))))))
    refine Vv (k:=O0 (k:=O0 (k:=O0 (k:=P0 (k:=Vv (k:=O0 (k:=O0 (k:=O0 (k:=P0 (k:=Vv (k:=O0 (k:=?_))))))))))))
    refine O0 (k:=O0 (k:=P0 (k:=Vv (k:=Wq (Zt (k:=?_))))))
    exact zb161ret1
  ·
   refine O0 (k:=O0 (k:=O0 (k:=O0 (k:=P0 (k:=Vv (k:=O0 (k:=O0 (k:=O0 (k:=P0 (k:=Vv (k:=O0 (k:=?_))))))))))))
   refine O0 (k:=O0 (k:=O0 (k:=O0 (k:=O0 (k:=P0 (k:=Vv (k:=O0 (k:=O0 (k:=O0 (k:=P0 (k:=Vv (k:=?_))))))))))))
   refine O0 (k:=O0 (k:=O0 (k:=P0 (k:=Vv (k:=O0 (k:=O0 (k:=O0 (k:=P0 (k:=Vv (k:=Wq (Zt (k:=?_))))))))))))
   exact zb161ret1
theorem checkin_one_sp (l : UInt8) (a : Option Addr) (n c : Nat) : SpF Tryz.prog 162 [vU l.toNat, .slice a n c] (.agg #[vU l.toNat, .slice a n c]) := by
 refine Sp.body (n := 8) Tryz.call162 Tryz.func162 rfl rfl rfl ?_
 refine Qc (k:=Zc [.int .u8 0, .slice none 0 0] (k:=fun b4 => Wq (Qc (k:=Qv (k:=Vx (Ps [_, _]) (k:=Zp (k:=Wq (Zt (k:=?_)))))))))
 refine fin_ret () (vs := [_]) (Cs := [Ce b4 220 [vU l.toNat, .slice a n c]]) rfl (.cell (l := [vU l.toNat, .slice a n c]) (us := [vU l.toNat, .slice a n c]) rfl (shows_ce (T := 220)) Tryz.underlying220 rfl ti220 (by exact Nat.le_of_ble_eq_true rfl) rfl .nil) rfl trivial ?_
 exact ent_pick
section
variable {r : Option Nat} {P : Program} {n : Nat} {ops : Array Oper} {os : List Oper} {L : Loc} {Hs : List HP} {Q : Out} {c : Code}
/-- A block that one has, given up for good. -/
theorem wo_frzC (b : Nat) {T : TypeId} {l : List Value} {Rs : List HP} [h : OwnC b T l Hs Rs] (K : wo r P n ops os L (SlI (some ⟨b, 0, none⟩) l :: Rs) Q) : wo r P n ops os L Hs Q := by
 intro ac M m s w hf dj t
 obtain ⟨g1, g2, dg, e, y, s2⟩ := s.2
 subst e
 obtain ⟨h1, h2, d12, e, hb, sr⟩ := h.get.sat s2
 subst e
 have hb' : h1 = Res.one b _ := hb
 subst hb'
 obtain ⟨d1, d2⟩ := Res.dj_add_right.1 dg
 obtain ⟨f1, f2⟩ := Res.dj_add_left.1 dj
 obtain ⟨f3, f4⟩ := Res.dj_add_left.1 f2
 have eq : (g1.add ((Res.one b (.cells l.toArray T (0, 0))).add h2)).add hf = (Res.one b (.cells l.toArray T (0, 0))).add ((g1.add h2).add hf) := by
  rw [← Res.add_assoc g1, Res.add_comm d1]
  simp only [Res.add_assoc]
 have t' : Sat w M ((Res.one b (.cells l.toArray T (0, 0))).add ((g1.add h2).add hf)) := eq ▸ t
 obtain ⟨M', le, hi, t2⟩ := freeze_sat (Res.dj_add_right.2 ⟨Res.dj_add_right.2 ⟨Res.dj_comm d1, d12⟩, f3⟩) t'
 exact wo_on K (a := ac) (M := M') (h := g1.add h2) ⟨s.1, g1, h2, d2, rfl, (Al _).mono le y, Res.emp, h2, Res.emp_dj _, rfl, .inr ⟨b, 0, l, T, (0, 0), rfl, hi, by simp⟩, SL.mono le sr⟩ le (Res.dj_add_left.2 ⟨f1, f4⟩) t2
theorem wc_frzC (b : Nat) {T : TypeId} {l : List Value} {Rs : List HP} [h : OwnC b T l Hs Rs] (K : wc r P n c L (SlI (some ⟨b, 0, none⟩) l :: Rs) Q) : wc r P n c L Hs Q := by
 intro ac M m s w hf dj t
 obtain ⟨g1, g2, dg, e, y, s2⟩ := s.2
 subst e
 obtain ⟨h1, h2, d12, e, hb, sr⟩ := h.get.sat s2
 subst e
 have hb' : h1 = Res.one b _ := hb
 subst hb'
 obtain ⟨d1, d2⟩ := Res.dj_add_right.1 dg
 obtain ⟨f1, f2⟩ := Res.dj_add_left.1 dj
 obtain ⟨f3, f4⟩ := Res.dj_add_left.1 f2
 have eq : (g1.add ((Res.one b (.cells l.toArray T (0, 0))).add h2)).add hf = (Res.one b (.cells l.toArray T (0, 0))).add ((g1.add h2).add hf) := by
  rw [← Res.add_assoc g1, Res.add_comm d1]
  simp only [Res.add_assoc]
 have t' : Sat w M ((Res.one b (.cells l.toArray T (0, 0))).add ((g1.add h2).add hf)) := eq ▸ t
 obtain ⟨M', le, hi, t2⟩ := freeze_sat (Res.dj_add_right.2 ⟨Res.dj_add_right.2 ⟨Res.dj_comm d1, d12⟩, f3⟩) t'
 exact wout_of (K ac M' (g1.add h2) ⟨s.1, g1, h2, d2, rfl, (Al _).mono le y, Res.emp, h2, Res.emp_dj _, rfl, .inr ⟨b, 0, l, T, (0, 0), rfl, hi, by simp⟩, SL.mono le sr⟩) le (Res.dj_add_left.2 ⟨f1, f4⟩) t2
theorem wo_frzR (a : Option Addr) {e sz n' c' k : Nat} {xs : List Value} {Rs : List HP} [h : RowAC a e sz n' c' k xs Hs Rs] (K : wo r P n ops os L (SlI a xs :: Rs) Q) : wo r P n ops os L Hs Q := wo_freezeRow h.get K
theorem wc_frzR (a : Option Addr) {e sz n' c' k : Nat} {xs : List Value} {Rs : List HP} [h : RowAC a e sz n' c' k xs Hs Rs] (K : wc r P n c L (SlI a xs :: Rs) Q) : wc r P n c L Hs Q := wc_freezeRow h.get K
end
theorem cdsOf_app (l m : List CdV) : cdsOf (l ++ m) = cdsOf l ++ cdsOf m := by simp [cdsOf]
theorem fm_snoc {α : Type} (f : α → List Value) (l : List α) (a : α) : (l ++ [a]).flatMap f = l.flatMap f ++ f a := by simp
theorem zb164join8 {G : Prop} (h : G := by
    first
    | exact to_inv ⟨((a31, c31), [t.kind :: t.name, t.target, escB t.value]), by simp [tgCard, h25], hk31.1⟩ trivial ⟨rfl, rfl, rfl, rfl, rfl, trivial⟩ ent_pick
    | exact to_inv ⟨((some ⟨b22, 0, none⟩, 2), [t.kind :: t.name, t.target]), by simp [tgCard, Classical.not_not.1 h25], Nat.le_refl _⟩ trivial ⟨rfl, rfl, rfl, rfl, rfl, trivial⟩ ent_pick) : G := h
set_option maxHeartbeats 1000000 in
theorem checkin_TagCards_sp {B : HP} {a : Option Addr} (n cap : Nat) (l : List Tg) (sh : SlA B a (l.flatMap tgCells)) (hn : l.length = n) (z : TgZ l) :
    Sp Tryz.prog 164 [.slice a n cap] [B] (X := (Option Addr × Nat) × List CdV) cardV (fun x => cdsOf x.2 = l.map tgCard) (fun x => cardH x ++ [B]) := by
 obtain ⟨hb, hz⟩ := z
 subst hn
 haveI : RdSl a (l.flatMap tgCells) [B] := ⟨⟨B, sh, .here⟩⟩
 refine Sp.body (n := 39) Tryz.call164 Tryz.func164 rfl rfl rfl ?_
 refine Qc (k:=Vv (k:=Wq (Qc (k:=Vv (k:=Wq (Za (k:=Qc (k:=Vv (k:=?_)))))))))
 refine Qv (k:=Wq (Zb (k:=?_)))
 refine p_loop (fun (i : { x : (Option Addr × Nat) × List CdV // x.2.length ≤ l.length ∧ cdsOf x.2 = (l.take x.2.length).map tgCard }) => [(3, .slice i.1.1.1 i.1.2.length i.1.1.2), (7, .slice a l.length cap), (8, vI l.length), (9, vI i.1.2.length)]) (fun (i : { x : (Option Addr × Nat) × List CdV // x.2.length ≤ l.length ∧ cdsOf x.2 = (l.take x.2.length).map tgCard }) => [Row 220 2 (.slice i.1.1.1 i.1.2.length i.1.1.2) i.1.2.length (i.1.2.flatMap CdV.cells), CdM i.1.2, B]) (fun (i : { x : (Option Addr × Nat) × List CdV // x.2.length ≤ l.length ∧ cdsOf x.2 = (l.take x.2.length).map tgCard }) => l.length - i.1.2.length) rfl (⟨((none, 0), []), Nat.zero_le _, rfl⟩) ?_ ?_ (fun i => ?_)
 · exact ⟨rfl, rfl, rfl, rfl, trivial⟩
 ·
  exact (row_nil (e := 220) (sz := 2)).trans (ent_cdm_nil.trans (show Ent _ [Row 220 2 (.slice none 0 0) 0 [], CdM [], B] from ent_pick))
 obtain ⟨⟨⟨oa, oc⟩, qs⟩, hj, hcd⟩ := i
 dsimp only at hj hcd ⊢
 try dsimp only
 refine Qc (k:=Vv (k:=Wq (Za (k:=Zi (t:=fun h10 => ?_) (f:=fun h10 => ?_)))))
 ·
  refine Zk (k:=Ya (Za (k:=Zb (k:=Za (k:=?_)))))
  have hjl : qs.length < l.length := by omega
  obtain ⟨t, ht⟩ : ∃ t, t = l[qs.length] := ⟨_, rfl⟩
  have hzj := hz t (by rw [ht]; exact List.getElem_mem hjl)
  have htk : (l.take (qs.length + 1)).map tgCard = cdsOf qs ++ [tgCard t] := by rw [List.take_succ_eq_append_getElem hjl, List.map_append, ← hcd, ht]; rfl
  refine Zr (k:=Ye 4 (k:=?_))
  refine r_eloada (vs := [_, _, _, _]) (sz := 4) Tryz.underlying60 rfl ti60 rfl rfl (by rw [flat_len (sz := 4) (fun _ => rfl)]; omega) rfl (by refine get_flat (fun x => ?_) ?_ <;> first | rfl | omega) rfl ?_
  rw [← ht]
  refine Zc [.int .u8 0, vS [], vS [], vS []] (k:=fun b5 => Zp (k:=Wq (Qc (k:=Qx 0 5 (k:=Zv [_] (cs := [_]) (k:=fun b15 => ?_))))))
  refine r_b2s (l := [t.kind]) Tryz.underlying56 Tryz.underlying9 Tryz.underlying5 rfl (by simp [vUs]) (by simp) rfl ?_
  refine Qx 1 9 (k:=Vv (k:=Qx 2 9 (k:=Zv [_, _] (cs := [_, _]) (k:=fun b22 => Vv (k:=Wq ?_)))))
  refine p_cut (fun (i : { x : (Option Addr × Nat) × List Bs // x.2 = (tgCard t).args ∧ x.2.length ≤ x.1.2 }) => [(3, .slice oa qs.length oc), (6, .slice i.1.1.1 i.1.2.length i.1.1.2), (7, .slice a l.length cap), (8, vI l.length), (9, vI qs.length)]) (fun (i : { x : (Option Addr × Nat) × List Bs // x.2 = (tgCard t).args ∧ x.2.length ≤ x.1.2 }) => [SlI i.1.1.1 (i.1.2.map vS), Row 220 2 (.slice oa qs.length oc) qs.length (qs.flatMap CdV.cells), CdM qs, B]) rfl (fun i => ?_) ?_
  ·
   obtain ⟨⟨⟨ga, gc⟩, xs⟩, hxs, hxc⟩ := i
   dsimp only at hxs hxc ⊢
   try dsimp only
   refine Zr (k:=Qv (k:=Vx (Ps [_, _]) (k:=Zv [_] (cs := [_, _]) (k:=fun b35 => ?_))))
   refine r_append1 (sz := 2) (bytes := 32) Tryz.underlying170 ti220 rfl rfl rfl rfl rfl rfl rfl (by rfl) (by rfl) (by omega) (by simp only [maxLen]; omega) rfl (fun a36 c36 => ?_)
   refine Vv (k:=Wn (Yb (Ya (Zr (k:=Qv (k:=Wn ?_))))))
   obtain ⟨q, hqq⟩ : ∃ q : CdV, q = ⟨84, ga, gc, xs⟩ := ⟨_, rfl⟩
   have hqc : q.cd = tgCard t := by rw [hqq]; show (⟨84, xs⟩ : Cd) = _; rw [hxs]; rfl
   have hql : (qs ++ [q]).length = qs.length + 1 := by simp
   refine to_inv ⟨((a36, c36), qs ++ [q]), ?_, ?_⟩ ?_ ⟨sl_eq hql.symm, rfl, rfl, vI_eq (by dsimp only; omega), trivial⟩ ?_
   · dsimp only; omega
   · dsimp only; rw [hql, htk, cds_snoc, hqc]
   · dsimp only; omega
   · dsimp only
     rw [hql]
     refine (ent_cdm_snoc (qs := qs) (q := q) HasC.get (by rw [hqq]; exact HasC.get) (by rw [hqq]; exact hxc)).trans ?_
     exact ent_step (row_norm (by rfl) (by rw [hqq]; simp [CdV.cells])) ent_pick
  ·
   refine Qc (k:=Qx 3 9 (k:=Vv (k:=Wq (Zi (t:=fun h25 => ?_) (f:=fun h25 => ?_)))))
   ·
    refine Zr (k:=Vv (k:=Qx 3 9 (k:=?_)))
    refine r_callF (escape_Put_sp t.value (by omega)) rfl rfl rfl ?_
    refine Zv [_] (cs := [_]) (k:=fun b30 => ?_)
    refine wo_ent' (ent_row (k := 2) (cap := 2) (sz := 1) (e := 9) (g := b22) (xs := [vS ([t.kind] ++ t.name), vS t.target]) (cur := [vS ([t.kind] ++ t.name), vS t.target]) (Nat.le_refl _) (by simp [maxLen]) rfl rfl rfl) ?_
    refine r_append1 (sz := 1) (bytes := 16) Tryz.underlying27 ti9 rfl rfl rfl rfl rfl rfl rfl (by rfl) (by rfl) (by omega) (by simp only [maxLen]; omega) rfl (fun a31 c31 => ?_)
    refine wo_know (A := Row 9 1 (.slice a31 (2 + 1) c31) (2 + 1) ([vS ([t.kind] ++ t.name), vS t.target] ++ [vS (escB t.value)])) HasC.get row_know (fun hk31 => ?_)
    refine wo_frzR a31 ?_
    rw [show ([vS ([t.kind] ++ t.name), vS t.target] ++ [vS (escB t.value)]) = ([t.kind :: t.name, t.target, escB t.value] : List Bs).map vS from rfl]
    refine Vv (k:=Wn ?_)
    exact zb164join8
   ·
    refine wc_frzC b22 ?_
    rw [show [vS ([t.kind] ++ t.name), vS t.target] = ([t.kind :: t.name, t.target] : List Bs).map vS from rfl]
    refine Zk (k:=?_)
    exact zb164join8
 ·
  refine Ze (k:=Xa (Xi (Xb (Ya (Qc (k:=Qv (k:=Wq (Zt (k:=?_)))))))))
  have hjl : qs.length = l.length := by omega
  rw [hjl, List.take_length] at hcd
  refine fin_ret ((oa, oc), qs) (vs := [_]) (Cs := []) rfl (.tmp rfl .nil) rfl hcd ?_
  exact ent_pick
theorem one1_len {l : List (List Bs)} (h : l.length ≠ 1) : one1 l = none := by
 match l, h with
 | [], _ => rfl
 | [_], h => exact absurd rfl h
 | a :: b :: r, _ => simp [one1]
theorem one1_one (xs : List Bs) : one1 [xs] = if xs.length = 1 then some (xs.getD 0 []) else none := by
 match xs with
 | [] => rfl
 | [a] => rfl
 | a :: b :: r => simp [one1]
theorem ofL_argsOf (x : UInt8) (qs : List CdV) : (ofL x qs 0).map (fun p => p.2.args) = argsOf x (cdsOf qs) := ofL_args qs 0
theorem zb106ret3 {G : Prop} (h : G := by
    first
    | (rw [one1_len (by rw [List.length_map]; omega)]
       exact fin_ret () (vs := [_, _]) (Cs := []) rfl (.tmp rfl (.tmp rfl .nil)) rfl trivial ent_pick)
    | (rw [List.map_singleton, ho, if_neg (by omega)]
       exact fin_ret () (vs := [_, _]) (Cs := []) rfl (.tmp rfl (.tmp rfl .nil)) rfl trivial ent_pick)) : G := h
theorem checkin_single_sp {B : HP} {a : Option Addr} (n cap : Nat) (qs : List CdV) (c : UInt8) (sh : SlA B a (qs.flatMap CdV.cells)) (hn : qs.length = n) (hb : n ≤ 1073741824) :
    Sp1 Tryz.prog 106 [.slice a n cap, vU c.toNat] [B, CdM qs] (.tuple #[vS ((one1 (argsOf c (cdsOf qs))).getD []), vB (one1 (argsOf c (cdsOf qs))).isSome]) [B] := by
 have hO := card_One_sp n cap qs c sh hn (by omega)
 have hof := ofL_argsOf c qs
 obtain ⟨l, hl⟩ : ∃ l, l = ofL c qs 0 := ⟨_, rfl⟩
 have hm : ∀ p ∈ l, p.2 ∈ qs := fun p hp => (ofL_mem (by rw [← hl]; exact hp)).1
 rw [← hl] at hO hof
 have hlq : l.length ≤ qs.length := by
  have h1 := congrArg List.length hof
  rw [List.length_map] at h1
  rw [h1]
  simp only [argsOf, List.length_map]
  refine Nat.le_trans (List.length_filter_le _ _) ?_
  simp [cdsOf]
 rw [← hof]
 refine Sp.body (n := 24) Tryz.call106 Tryz.func106 rfl rfl rfl ?_
 refine Qc (k:=Qv (k:=Wq (Qc (k:=Qv (k:=?_)))))
 refine r_call1 hO rfl rfl rfl ?_
 refine Vv (k:=?_)
 refine wo_pv (pv_extract (v := oneS l) rfl rfl) rfl ?_
 refine wo_pv (pv_extract (v := vI l.length) rfl rfl) rfl ?_
 refine Qv (k:=Wq (Za (k:=Qc (k:=Qv (k:=Vv (k:=Gi 2 (t:=fun h16 => ?_) (f:=fun h16 => ?_)))))))
 ·
  refine O1 (k:=O1 (k:=O1 (k:=P1 (k:=Wq (Z1 (k:=Qc (k:=Qv (k:=Wq (Zt (k:=?_))))))))))
  refine Va ?_
  exact zb106ret3
 ·
  obtain ⟨p, hp⟩ : ∃ p, l = [p] := List.length_eq_one_iff.1 (by omega)
  subst hp
  have hpm := hm p (by simp)
  have ho := one1_one p.2.args
  refine J0 (k:=J0 (k:=J0 (k:=P0 (k:=Wq (Zi (t:=fun h20 => ?_) (f:=fun h20 => ?_))))))
  ·
   refine Qc (k:=Qv (k:=Wq (Zt (k:=Va ?_))))
   exact zb106ret3
  ·
   refine Zk (k:=Ya (Qc (k:=Vv (k:=?_))))
   refine wo_ent' (ent_cd hpm HasC.get) ?_
   have hl1 : p.2.args.length = 1 := by omega
   refine Ye 1 (m := 0) (k:=Yl (hv:=by exact get_mapD [] (m := 0) (by omega)) (k:=Qv (k:=Wq (Zt (k:=?_)))))
   rw [List.map_singleton, ho, if_pos hl1]
   exact fin_ret () (vs := [_, _]) (Cs := []) rfl (.tmp rfl (.tmp rfl .nil)) rfl trivial ent_pick
end
section
set_option maxRecDepth 100000
theorem readT_app (l m : List (List Bs)) : readT (l ++ m) = (readT l).bind fun ts => (readT m).map (ts ++ ·) := by
 induction l with
 | nil =>
   simp only [List.nil_append, readT, Option.bind_some]
   cases readT m <;> simp
 | cons x l ih =>
   simp only [List.cons_append, readT]
   cases tgOf x with
   | none => rfl
   | some t =>
     dsimp only
     rw [ih]
     cases readT l with
     | none => rfl
     | some ts => cases readT m <;> simp
theorem readT_bad {l r : List (List Bs)} {x : List Bs} (h : tgOf x = none) : readT (l ++ x :: r) = none := by
 rw [readT_app]
 cases readT l with
 | none => rfl
 | some ts => simp [readT, h]
theorem readT_good {l : List (List Bs)} {x : List Bs} {ts : List Tg} {t : Tg} (h : readT l = some ts) (hx : tgOf x = some t) : readT (l ++ [x]) = some (ts ++ [t]) := by
 rw [readT_app, h]; simp [readT, hx]
/-- Tags that are being read. -/
def TgB (b : Nat) (pre : List (List Bs)) : HP := Ex fun z : List Tg × Option Addr × Nat => Al [Pu (readT pre = some z.1), Ce b 28 [.slice z.2.1 z.1.length z.2.2], Row 60 4 (.slice z.2.1 z.1.length z.2.2) z.1.length (z.1.flatMap tgCells)]
theorem fold_tgb {b T : Nat} {pre : List (List Bs)} {v : Value} {Hs R1 Rs : List HP} (ts : List Tg) (a : Option Addr) (k m : Nat) (hf : readT pre = some ts) (hm : m = ts.length) [q : OwnC b T [v] Hs R1] (hT : T = 28) (h1 : v = .slice a m k) {n : Nat} {ys : List Value} {e sz : Nat} [q2 : RowC (.slice a m k) e sz n ys R1 Rs] (he : e = 60) (hsz : sz = 4) (hn : n = m) (hy : ys = ts.flatMap tgCells) : Ent Hs (TgB b pre :: Rs) := by
 subst hT; subst h1; subst he; subst hsz; subst hn; subst hy; subst hm
 refine ent_ex (ts, a, k) ?_
 refine ent_al (ent_pu hf ?_)
 exact Picks.ent (.cons q.get (.cons q2.get .nil))
abbrev tagV (x : (Option Addr × Nat) × List Tg) : Value := .slice x.1.1 x.2.length x.1.2
abbrev tagH (x : (Option Addr × Nat) × List Tg) : HP := Row 60 4 (.slice x.1.1 x.2.length x.1.2) x.2.length (x.2.flatMap tgCells)
theorem zb110roundret {G : Prop} (h : G := by
    refine to_round_ret ?_
    have hb : tgOf xs = none := by
     rw [htg]
     first
     | rw [if_pos (by omega)]
     | (have hn : unescB (xs.getD 2 []) = none := by cases e : unescB (xs.getD 2 []) with
          | none => rfl
          | some v => rw [e] at h52; simp at h52
        rw [hn]; rfl)
    refine ent_pu (by rw [hall]; exact readT_bad hb) ?_
    exact ent_step (ce_norm (by rfl) (by rfl)) (ent_step (ce_norm (by rfl) (by rfl)) ent_nil)) : G := h
theorem zb110ret {G : Prop} (h : G := by
    first
    | (rw [hbad]
       refine fin_ret ((none, 0), []) (vs := [_, _]) (Cs := [Ce b2 28 [.slice none 0 0], Ce b3 4 [.bool false]]) rfl (.cell1 (l := [.slice none 0 0]) rfl (shows_ce (T := 28)) Tryz.underlying28 rfl rfl (.cell1 (l := [.bool false]) rfl (shows_ce (T := 4)) Tryz.underlying4 rfl rfl .nil)) rfl rfl ?_
       exact (row_nil (e := 60) (sz := 4)).trans (show Ent _ [Row 60 4 (.slice none 0 0) 0 [], B, Ce b2 28 [.slice none 0 0], Ce b3 4 [.bool false]] from ent_pick))
    | (rw [hq]
       refine fin_ret ((ta, tc), ts) (vs := [_, _]) (Cs := [Ce b2 28 [.slice ta ts.length tc], Ce b3 4 [.bool true]]) rfl (.cell1 (l := [.slice ta ts.length tc]) rfl (shows_ce (T := 28)) Tryz.underlying28 rfl rfl (.cell1 (l := [.bool true]) rfl (shows_ce (T := 4)) Tryz.underlying4 rfl rfl .nil)) rfl rfl ?_
       exact ent_pick)) : G := h
set_option maxHeartbeats 2000000 in
theorem checkin_ReadTags_sp {B : HP} {a : Option Addr} (n cap : Nat) (qs : List CdV) (sh : SlA B a (qs.flatMap CdV.cells)) (hn : qs.length = n) (hz : (bodyB (cdsOf qs)).length ≤ 1073741824) :
    Sp Tryz.prog 110 [.slice a n cap] [B, CdM qs] (X := (Option Addr × Nat) × List Tg) (fun x => .tuple #[tagV x, vB (readT (argsOf 84 (cdsOf qs))).isSome]) (fun x => x.2 = (readT (argsOf 84 (cdsOf qs))).getD []) (fun x => [tagH x, B]) := by
 have hof := ofL_argsOf 84 qs
 obtain ⟨hqn, hqz⟩ := cds_sizes hz
 refine Sp.body (n := 60) Tryz.call110 Tryz.func110 rfl rfl rfl ?_
 refine Qc (k:=Zc [.slice none 0 0] (k:=fun b2 => Zc [.bool false] (k:=fun b3 => Wq (Qc (k:=Zc [.slice none 0 0] (k:=fun b4 => Wq (Za (k:=Qc (k:=?_)))))))))
 refine Vv (k:=?_)
 refine r_callX (card_Of_sp a n cap 84) rfl rfl rfl (fun x11 _ => ?_)
 refine Wq (Zb (k:=?_))
 refine p_rangeFunc (fun pre => [Ce b2 28 [.slice none 0 0], Ce b3 4 [.bool false], TgB b4 (pre.map (fun p => p.2.args)), CdM qs]) (fun j pre => match j with | none => [Pu (readT (argsOf 84 (cdsOf qs)) = none), Ce b2 28 [.slice none 0 0], Ce b3 4 [.bool false]] | _ => [Pu False]) rfl (card_Of_it n cap x11.1 x11.2 qs 84 sh hn (by omega)) rfl (fun _ => by rfl) rfl ?_ (fun l pre q hok => ?_) ?_ (fun j pre hs => ?_)
 · (refine ent_app ?_; simp only [List.map_nil]; refine Ent.trans (row_nil (e := 60) (sz := 4)) ?_; exact (fold_tgb (b := b4) (pre := []) [] none 0 0 (by rfl) (by rfl) (by rfl) (by rfl) (by rfl) (by rfl) (by rfl) (by rfl)).trans ent_pick)
 ·
  obtain ⟨rr, hrr⟩ := hok
  obtain ⟨hqm, _⟩ := ofL_mem (p := q) (by rw [hrr]; simp)
  have hqzz := hqz q.2 hqm
  have hqc := ent_cd hqm (Hs := [Ce b2 28 [.slice none 0 0], Ce b3 4 [.bool false], TgB b4 (pre.map (fun p => p.2.args)), CdM qs]) HasC.get
  have hall : argsOf 84 (cdsOf qs) = pre.map (fun p => p.2.args) ++ q.2.args :: rr.map (fun p => p.2.args) := by rw [← hof, hrr]; simp
  refine wc_ent' hqc ?_
  refine wc_front (TgB b4 (pre.map (fun p => p.2.args))) (wc_exi fun z => wc_al (wc_pu fun hq => ?_))
  obtain ⟨ts, ta, tc⟩ := z
  obtain ⟨qi, ql, qa, qc, xs⟩ := q
  dsimp only at hq hqzz hall hqm
  dsimp only [encO]
  have htl : ts.length ≤ pre.length := by
   have key : ∀ (l : List (List Bs)) (ts : List Tg), readT l = some ts → ts.length = l.length := by
    intro l
    induction l with
    | nil => intro ts h; cases h; rfl
    | cons x l ih =>
      intro ts h
      simp only [readT] at h
      split at h
      · cases h
      · cases e : readT l with
        | none => rw [e] at h; cases h
        | some us => rw [e] at h; cases h; simp [ih us e]
   have := key _ _ hq
   simp at this; omega
  have hpl : pre.length ≤ qs.length := by
   have h1 := congrArg List.length hrr
   have h2 : (ofL 84 qs 0).length ≤ qs.length := by
    have h3 := congrArg List.length hof
    rw [List.length_map] at h3
    rw [h3]
    simp only [argsOf, List.length_map]
    refine Nat.le_trans (List.length_filter_le _ _) ?_
    simp [cdsOf]
   simp at h1; omega
  have htg : tgOf xs = if xs.length < 2 ∨ 3 < xs.length ∨ (xs.getD 0 []).length < 2 then none else if xs.length = 3 then (unescB (xs.getD 2 [])).map (fun v => ⟨(xs.getD 0 []).getD 0 0, (xs.getD 0 []).drop 1, xs.getD 1 [], v⟩) else some ⟨(xs.getD 0 []).getD 0 0, (xs.getD 0 []).drop 1, xs.getD 1 [], []⟩ := rfl
  have hx0 : ∀ i, i < xs.length → (xs.getD i []).length ≤ 1073741824 := by
   intro i hi
   have h1 := argsB_len xs
   have h2 := sumL_succ (l := xs) hi
   have h3 := sumL_le (l := xs) (j := i + 1)
   omega
  refine Zr (k:=Vv (k:=Wg (Zb (k:=Za (k:=Qc (k:=Qv (k:=Qv (k:=Gi 3 (t:=fun h17 => ?_) (f:=fun h17 => ?_)))))))))
  ·
   refine O1 (k:=O1 (k:=O1 (k:=P1 (k:=Vv (k:=O1 (k:=O1 (k:=O1 (k:=O1 (k:=O1 (k:=P1 (k:=Wq ?_)))))))))))
   refine Z1 (k:=Qc (k:=Zo (k:=Zo (k:=Wq (Zt (k:=Va (Vb ?_)))))))
   exact zb110roundret
  ·
   refine J0 (k:=J0 (k:=J0 (k:=P0 (k:=Vv (k:=Gi 8 (t:=fun h22 => ?_) (f:=fun h22 => ?_))))))
   ·
    refine O1 (k:=O1 (k:=O1 (k:=O1 (k:=O1 (k:=P1 (k:=Wq (Z1 (k:=Qc (k:=Zo (k:=Zo (k:=?_)))))))))))
    refine Wq (Zt (k:=Va (Vb ?_)))
    exact zb110roundret
   ·
    refine J0 (k:=I0 (k:=Ye 1 (m := 0) (k:=I0 (k:=Yl (hv:=by exact get_mapD [] (m := 0) (by omega)) (k:=J0 (k:=J0 (k:=P0 (k:=Wq ?_))))))))
    refine Zi (t:=fun h28 => ?_) (f:=fun h28 => ?_)
    ·
     refine Qc (k:=Zo (k:=Zo (k:=Wq (Zt (k:=Va (Vb ?_))))))
     exact zb110roundret
    ·
     refine Zk (k:=Ya (Za (k:=?_)))
     have hx00 := hx0 0 (by omega)
     rw [if_neg (by omega)] at htg
     refine Dw [SlI qa (xs.map vS)] (k:=?_)
     refine Dv 0 (k:=?_)
     refine d_first 1 rfl rfl rfl (by kernel_rfl) (by kernel_rfl) (tl_elemAddr (m := 0) (sz := 1) Tryz.underlying27 ti9 rfl rfl rfl rfl (by omega) (by first | (rw [List.length_map]; omega) | (rw [flat_len (sz := 1) (fun _ => rfl)]; omega) | (simp; omega)) (Nat.mul_one _)) ?_
     refine d_first 2 rfl rfl rfl (by kernel_rfl) (by kernel_rfl) (tl_eload Tryz.underlying9 rfl rfl (get_mapD [] (m := 0) (by omega))) ?_
     refine d_first 3 rfl rfl rfl (by kernel_rfl) (by kernel_rfl) (tl_pv (pv_indexm (m := 0) Tryz.underlying9 rfl rfl rfl (by omega))) ?_
     refine Dv 4 (k:=?_)
     refine d_first 5 rfl rfl rfl (by kernel_rfl) (by kernel_rfl) (tl_elemAddr (m := 0) (sz := 1) Tryz.underlying27 ti9 rfl rfl rfl rfl (by omega) (by first | (rw [List.length_map]; omega) | (rw [flat_len (sz := 1) (fun _ => rfl)]; omega) | (simp; omega)) (Nat.mul_one _)) ?_
     refine d_first 6 rfl rfl rfl (by kernel_rfl) (by kernel_rfl) (tl_eload Tryz.underlying9 rfl rfl (get_mapD [] (m := 0) (by omega))) ?_
     refine d_first 7 rfl rfl rfl (by kernel_rfl) (by kernel_rfl) (tl_pv (pv_slice_fromm (m := 1) Tryz.underlying9 rfl rfl rfl (by omega))) ?_
     refine Dv 8 (k:=?_)
     refine d_first 9 rfl rfl rfl (by kernel_rfl) (by kernel_rfl) (tl_elemAddr (m := 1) (sz := 1) Tryz.underlying27 ti9 rfl rfl rfl rfl (by omega) (by first | (rw [List.length_map]; omega) | (rw [flat_len (sz := 1) (fun _ => rfl)]; omega) | (simp; omega)) (Nat.mul_one _)) ?_
     refine d_first 10 rfl rfl rfl (by kernel_rfl) (by kernel_rfl) (tl_eload Tryz.underlying9 rfl rfl (get_mapD [] (m := 1) (by omega))) ?_
     refine Di 11 (t:=Ux (Ps [_, _, _, vS []])) (k:=Dn 12 (k:=Nc [.int .u8 0, vS [], vS [], vS []] (k:=fun b7 => Dn 13 (k:=Na (k:=Dd (k:=Ya (Za (k:=Qc (k:=Qv (k:=?_))))))))))
     refine Vv (k:=Wq (Zi (t:=fun h43 => ?_) (f:=fun h43 => ?_)))
     ·
      refine Za (k:=?_)
      have hx02 := hx0 2 (by omega)
      rw [if_pos (by omega)] at htg
      refine Zr (k:=Vv (k:=Ye 1 (m := 2) (k:=Yl (hv:=by exact get_mapD [] (m := 2) (by omega)) (k:=?_))))
      refine r_callF (escape_Read_sp (xs.getD 2 []) (by omega)) rfl rfl rfl ?_
      refine Qv (k:=Qv (k:=Vv (k:=Wq (Za (k:=Qc (k:=Qv (k:=Wq ?_)))))))
      refine Zi (t:=fun h52 => ?_) (f:=fun h52 => ?_)
      ·
       refine Qc (k:=Zo (k:=Zo (k:=Wq (Zt (k:=Va (Va (Vb ?_)))))))
       exact zb110roundret
      ·
       refine Zk (k:=Ya ?_)
       obtain ⟨v, hv⟩ : ∃ v, unescB (xs.getD 2 []) = some v := by cases e : unescB (xs.getD 2 []) with
        | none => rw [e] at h52; simp at h52
        | some v => exact ⟨v, rfl⟩
       rw [hv, Option.map_some] at htg
       rw [hv]
       refine Zr (k:=Vv (k:=Vf 3 9 (k:=Zo (k:=Wq (Zr (k:=Zd (k:=Zm [_, _, _, _] (k:=Zv [_] (cs := [_, _, _, _]) (k:=fun b57 => ?_)))))))))
       refine r_append1 (sz := 4) (bytes := 56) Tryz.underlying28 ti60 rfl rfl rfl rfl rfl rfl rfl (by rfl) (by rfl) (by omega) (by simp only [maxLen]; omega) rfl (fun a58 c58 => ?_)
       refine Zo (k:=Wn (Yb ?_))
       refine to_round ?_
       have hg := readT_good hq htg
       rw [List.map_append, List.map_singleton]
       exact (fold_tgb (b := b4) _ a58 c58 (ts.length + 1) hg (by simp) (by rfl) (by rfl) (by rfl) (by rfl) (by rfl) (by simp [tgCells])).trans ent_pick
     ·
      rw [if_neg (by omega)] at htg
      refine Zk (k:=Ya (Zr (k:=Zd (k:=Zm [_, _, _, _] (k:=Zv [_] (cs := [_, _, _, _]) (k:=fun b57 => ?_))))))
      refine r_append1 (sz := 4) (bytes := 56) Tryz.underlying28 ti60 rfl rfl rfl rfl rfl rfl rfl (by rfl) (by rfl) (by omega) (by simp only [maxLen]; omega) rfl (fun a58 c58 => ?_)
      refine Zo (k:=Wn (Yb ?_))
      refine to_round ?_
      have hg := readT_good hq htg
      rw [List.map_append, List.map_singleton]
      exact (fold_tgb (b := b4) _ a58 c58 (ts.length + 1) hg (by simp) (by rfl) (by rfl) (by rfl) (by rfl) (by rfl) (by simp [tgCells])).trans ent_pick
 ·
  skip
  refine Yb (Ya (Za (k:=?_)))
  refine wc_front (TgB b4 ((ofL 84 qs 0).map (fun p => p.2.args))) (wc_exi fun z => wc_al (wc_pu fun hq => ?_))
  rw [hof] at hq
  obtain ⟨ts, ta, tc⟩ := z
  dsimp only at hq
  dsimp only
  refine Zr (k:=Zd (k:=Zo (k:=Zo (k:=Wq (Zt (k:=?_))))))
  exact zb110ret
 ·
  rcases j with _ | j
  · refine wc_ent0 (Gs := [Pu (readT (argsOf 84 (cdsOf qs)) = none), Ce b2 28 [.slice none 0 0], Ce b3 4 [.bool false], B]) (show Ent ([Pu (readT (argsOf 84 (cdsOf qs)) = none), Ce b2 28 [.slice none 0 0], Ce b3 4 [.bool false]] ++ _) _ from ent_pick) (wc_pu fun hbad => ?_)
    refine Zt (k:=Vb (Va ?_))
    exact zb110ret
  · exact wc_no (fun s => by obtain ⟨_, _, _, _, a, _⟩ := s; exact a)
end
end Go.Proofs.YtdnoacgopfcpbaaGreat
