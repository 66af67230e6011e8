/- Texts of this proof, put together: SCk5, PCk3, SCk6. -/
import Derived.Test.YtdnoacgopfcpbaaGreatQ13
set_option linter.unusedVariables false
set_option linter.unusedSimpArgs false
namespace Go.Proofs.YtdnoacgopfcpbaaGreat
section
set_option maxRecDepth 100000
section
variable {P : Program}
/-- What is one's own may be given up for good ahead of a call. -/
theorem Sp.frzC {f : FuncId} {args : List Value} {As : List HP} {X : Type} {val : X → Value} {φ : X → Prop} {Bs : X → List HP} {b T : Nat} {l : List Value}
    (sp : Sp P f args (SlI (some ⟨b, 0, none⟩) l :: As) val φ Bs) : Sp P f args (Ce b T l :: As) val φ Bs := by
 refine ⟨sp.enters, fun w M h hf d t s => ?_⟩
 obtain ⟨h1, h2, d12, e, hb, s2⟩ := s
 have hb' : h1 = Res.one b _ := hb
 subst hb'
 subst e
 obtain ⟨d1, d2⟩ := Res.dj_add_left.1 d
 have eq : ((Res.one b (.cells l.toArray T (0, 0))).add h2).add hf = (Res.one b (.cells l.toArray T (0, 0))).add (h2.add hf) := by simp only [Res.add_assoc]
 obtain ⟨M', le, hi, t2⟩ := freeze_sat (Res.dj_add_right.2 ⟨d12, d1⟩) (eq ▸ t)
 refine (sp.calls w M' h2 hf d2 t2 ⟨Res.emp, h2, Res.emp_dj _, rfl, .inr ⟨b, 0, l, T, (0, 0), rfl, hi, by simp⟩, SL.mono le s2⟩).mono ?_
 rintro e w' ⟨x, M2, h', e1, p, l2, r⟩
 exact ⟨x, M2, h', e1, p, Kn.le_trans le l2, r⟩
end
section
variable {r : Option Nat} {P : Program} {n : Nat} {ops : Array Oper} {A : List HP} {L : Loc} {Hs : List HP} {ty : TypeId} {d : Nat} {pos : String} {after : Array Edge}
theorem an_appendA {K : Loc → List HP → Prop} {t e : TypeId} {x y : Operand} {i : TypeInfo} {z : Value} (ht : P.underlying t = some (.slice e)) (hi : P.info? e = some i) (hz : i.zero = some z) (hzs : Nat.beq z.cells.size i.size = true) {sz : Nat} (hsz : i.size = sz) (hs0 : Nat.blt 0 sz = true) {bytes : Nat} (hby : i.bytes = bytes)
    {v : Value} {k : Nat} {xs news : List Value} {a : Option Addr} {m c : Nat} {B : HP} {R1 R2 : List HP} (hx : ev L x = some v) (hy : ev L y = some (.slice a m c)) [h1 : RowC v e sz k xs Hs R1] [h2 : PickSl a news B R1 R2]
    (hl : news.length = m * sz) (ho : news.all oneCell = true) (hbytes : (k + m) * bytes ≤ 140737488355328) (h63 : k + m ≤ maxLen) (hd : Nat.blt d n = true)
    (k' : ∀ a' c', K ((d, .slice a' (k + m) c') :: L) (Row e sz (.slice a' (k + m) c') (k + m) (xs ++ news) :: B :: R2)) : AnOp r P n ops A ⟨some d, .call ⟨.builtin .append, #[x, y], #[t, t]⟩, ty, pos, after, none⟩ K L Hs := by
 haveI : PicksC [Row e sz v k xs, B] Hs R2 := ⟨.cons h1.get (.cons h2.get .nil)⟩
 refine an_opT (opt_appendA ht hi hz hzs hsz hs0 hby hx hy h2.sla hl ho hbytes h63 (xs := xs)) (by simpa [dstOk] using hd) (fun v' ⟨a', c', h'⟩ => ?_)
 subst h'
 exact k' a' c'
end
theorem cells_len (l : List CdV) : (l.flatMap CdV.cells).length = l.length * 2 := flat_len (f := CdV.cells) (sz := 2) (fun _ => rfl) l
theorem cells_one (l : List CdV) : (l.flatMap CdV.cells).all oneCell = true := by
 rw [List.all_flatMap]
 exact List.all_eq_true.2 fun x _ => rfl
theorem ent_cdm_one {a : Option Addr} {c : Nat} (l : UInt8) (xs : List Bs) (vs : List Value) {Hs : List HP} (hq : Has (SlI a vs) Hs) (hv : vs = xs.map vS) (hc : xs.length ≤ c) : Ent Hs (CdM [⟨l, a, c, xs⟩] :: Hs) := ⟨fun {M g} s => by
 obtain ⟨h2, _, b⟩ := hq.sat s
 subst hv
 exact ⟨Res.emp, g, Res.emp_dj _, rfl, (fun x hx => by rw [List.mem_singleton.1 hx]; exact ⟨b, hc⟩), s⟩⟩
theorem ent_cdm_new {qs : List CdV} {a : Option Addr} {c : Nat} (l : UInt8) (xs : List Bs) (vs : List Value) {Hs : List HP} (hp : Has (CdM qs) Hs) (hq : Has (SlI a vs) Hs) (hv : vs = xs.map vS) (hc : xs.length ≤ c) : Ent Hs (CdM (qs ++ [⟨l, a, c, xs⟩]) :: Hs) := by
 subst hv
 exact ent_cdm_snoc (q := ⟨l, a, c, xs⟩) hp hq hc
def prK (c : Ck) : Bs := if RightK c then ckB c else []
/-- The cards ahead of the tags. -/
def ckHead (c : Ck) : List Cd := bCards c.base ++ [⟨67, [46 :: escB c.comment]⟩, ⟨68, [decN c.date.toNat]⟩] ++ c.files.map flCard ++ pCards c.parents
theorem cdsLen {qs : List CdV} {l : List Cd} (h : cdsOf qs = l) : qs.length = l.length := by rw [← h]; simp [cdsOf]
theorem zb113next0 {G : Prop} (h : G := by
    have hql2 : (fs ++ [q]).length = fs.length + 1 := by simp
    first
    | (refine to_inv ⟨(((a49, c49), fs ++ [q]), j + 1), ?_, ?_⟩ ?_ ⟨rfl, sl_eq hql2.symm, rfl, rfl, rfl, trivial⟩ ?_
       · dsimp only; omega
       · dsimp only; rw [htk, cds_snoc, hqc, hfs, List.append_assoc]
       · dsimp only; omega
       · dsimp only
         rw [hql2]
         refine (ent_cdm_snoc (qs := fs) (q := q) HasC.get (by rw [hqs]; exact HasC.get) hqx).trans ?_
         exact ent_step (row_norm (by rfl) (by rw [fm_snoc, hqv])) ent_pick)
    | (refine to_inv ⟨(((a58, c58), fs ++ [q]), j + 1), ?_, ?_⟩ ?_ ⟨rfl, sl_eq hql2.symm, rfl, rfl, rfl, trivial⟩ ?_
       · dsimp only; omega
       · dsimp only; rw [htk, cds_snoc, hqc, hfs, List.append_assoc]
       · dsimp only; omega
       · dsimp only
         rw [hql2]
         refine (ent_cdm_snoc (qs := fs) (q := q) HasC.get (by rw [hqs]; exact HasC.get) hqx).trans ?_
         exact ent_step (row_norm (by rfl) (by rw [fm_snoc, hqv])) ent_pick)) : G := h
theorem zb113ret {G : Prop} (h : G := by
    refine fin_ret () (vs := [_]) (Cs := []) rfl (.tmp rfl .nil) rfl trivial ?_
    exact ent_pick) : G := h
theorem zb113join16 {G : Prop} (h : G := by
    first
    | (have hp : c.parents ≠ [] := fun e => by rw [e] at h63; simp at h63
       have hql2 : (fs ++ [(⟨80, x.pa, x.pc, c.parents⟩ : CdV)]).length = fs.length + 1 := by simp
       refine to_inv ⟨((a69, c69), fs ++ [⟨80, x.pa, x.pc, c.parents⟩]), ?_⟩ trivial ⟨rfl, sl_eq hql2.symm, trivial⟩ ?_
       · dsimp only; rw [cds_snoc, hfs, ckHead, pCards, if_neg hp]; simp [CdV.cd]
       · dsimp only
         rw [hql2]
         refine (ent_cdm_snoc (qs := fs) (q := ⟨80, x.pa, x.pc, c.parents⟩) HasC.get HasC.get hpc).trans ?_
         exact ent_step (row_norm (by rfl) (by rw [fm_snoc]; rfl)) ent_pick)
    | (have hp : c.parents = [] := List.eq_nil_of_length_eq_zero (by omega)
       refine to_inv ⟨((fa, fc), fs), ?_⟩ trivial ⟨rfl, rfl, trivial⟩ ent_pick
       dsimp only; rw [hfs, ckHead, pCards, if_pos hp]; simp)) : G := h
theorem zb113join6 {G : Prop} (h : G := by
    first
    | (have hb : c.base ≠ [] := h11
       refine to_inv ⟨((a18, c18), [⟨66, some ⟨b15, 0, none⟩, 1, [c.base]⟩]), by simp [cdsOf, CdV.cd, bCards, hb]⟩ trivial ⟨rfl, rfl, trivial⟩ ?_
       refine Ent.trans (ent_cdm_one (a := some ⟨b15, 0, none⟩) (c := 1) 66 [c.base] [vS c.base] HasC.get rfl (Nat.le_refl _)) ?_
       dsimp only [List.length_cons, List.length_nil]
       exact ent_step (row_norm (by rfl) (by rfl)) ent_pick)
    | (have hb : c.base = [] := Classical.not_not.1 h11
       refine to_inv ⟨((none, 0), []), by simp [cdsOf, bCards, hb]⟩ trivial ⟨rfl, rfl, trivial⟩ ?_
       refine Ent.trans ent_cdm_nil ?_
       dsimp only [List.length_nil]
       rw [show ([] : List CdV).flatMap CdV.cells = [] from rfl]
       exact ent_pick)) : G := h
set_option maxHeartbeats 4000000 in
theorem checkin_Print_sp {Bf Bt : HP} (x : CkA) (c : Ck) (z : CkZ c) (shf : SlA Bf x.fa (c.files.flatMap flCells)) (sht : SlA Bt x.ta (c.tags.flatMap tgCells)) (hpc : c.parents.length ≤ x.pc) :
    Sp1 Tryz.prog 113 [.agg (ckVals x c).toArray] [Bf, SlI x.pa (c.parents.map vS), Bt] (vS (prK c)) [Bf, Bt] := by
 have hRt := checkin_Right_sp x c z shf sht hpc
 have hTC := checkin_TagCards_sp c.tags.length x.tc c.tags sht rfl z.tags
 haveI : RdSl x.fa (c.files.flatMap flCells) [Bf, SlI x.pa (c.parents.map vS), Bt] := ⟨⟨Bf, shf, .here⟩⟩
 obtain ⟨z1, z2, z3, z4, z5, z6, z7, z8, z9⟩ := z
 refine Sp.body (n := 82) Tryz.call113 Tryz.func113 rfl rfl rfl ?_
 refine Qc (k:=Zx [_, _, _, _, _, _, _] (k:=fun b1 => Vv (k:=Wq (Za (k:=Qc (k:=Zm [_, _, _, _, _, _, _] (k:=?_)))))))
 refine r_call1 hRt rfl rfl rfl ?_
 refine Vv (k:=Wq (Zi (t:=fun h8 => ?_) (f:=fun h8 => ?_)))
 ·
  refine Qc (k:=Vv (k:=Wq (Zt (k:=Va ?_))))
  have hn : ¬ RightK c := by simpa using h8
  refine fin_ret () (vs := [_]) (Cs := []) rfl (.tmp rfl .nil) ?_ trivial ent_pick
  rw [prK, if_neg hn]; rfl
 ·
  have hR : RightK c := by simpa using h8
  have hsz := ck_small hR
  have hDec : SpF Tryz.prog 159 [vI c.date] (vS (decN c.date.toNat)) := by
   have h1 := hR.date
   have := digit_Dec_sp c.date.toNat (by omega)
   rwa [Int.toNat_of_nonneg h1.1] at this
  refine Zk (k:=Ya (Qc (k:=Vv (k:=Wq ?_))))
  refine p_cut (fun (i : { x : (Option Addr × Nat) × List CdV // cdsOf x.2 = bCards c.base }) => [(1, .pointer (some ⟨b1, 0, none⟩)), (3, .slice i.1.1.1 i.1.2.length i.1.1.2)]) (fun (i : { x : (Option Addr × Nat) × List CdV // cdsOf x.2 = bCards c.base }) => [Row 220 2 (.slice i.1.1.1 i.1.2.length i.1.1.2) i.1.2.length (i.1.2.flatMap CdV.cells), CdM i.1.2, Ce b1 30 [vS c.base, vS c.comment, vI c.date, .slice x.fa c.files.length x.fc, .slice x.pa c.parents.length x.pc, .slice x.ta c.tags.length x.tc, vS c.user], Bf, SlI x.pa (c.parents.map vS), Bt]) rfl (fun i => ?_) ?_
  ·
   obtain ⟨⟨⟨oa, oc⟩, qs⟩, hcd⟩ := i
   dsimp only at hcd ⊢
   have hql := cdsLen hcd
   have hbl : (bCards c.base).length ≤ 1 := by unfold bCards; split <;> simp
   try dsimp only
   refine Za (k:=Dw [Ce b1 30 [vS c.base, vS c.comment, vI c.date, .slice x.fa c.files.length x.fc, .slice x.pa c.parents.length x.pc, .slice x.ta c.tags.length x.tc, vS c.user]] (k:=?_))
   refine Dv 0 (k:=Di 1 (t:=Uf 1 9) (k:=Di 2 (t:=Ul) (k:=Di 7 (t:=Uf 2 3) (k:=Di 8 (t:=Ul) (k:=Dn 3 (k:=?_))))))
   refine an_callF (escape_Put_sp c.comment (by omega)) rfl rfl rfl ?_
   have hel := (escB_len c.comment).2
   refine Dv 4 (k:=Dn 5 (k:=Nl [_] (cs := [_]) (k:=fun b24 => Dn 6 (k:=?_))))
   refine an_callF (checkin_one_sp 67 (some ⟨b24, 0, none⟩) 1 1) rfl rfl rfl ?_
   refine Dn 9 (k:=?_)
   refine an_callF hDec rfl rfl rfl ?_
   refine Dn 10 (k:=Nl [_] (cs := [_]) (k:=fun b29 => Dn 11 (k:=?_)))
   refine an_callF (checkin_one_sp 68 (some ⟨b29, 0, none⟩) 1 1) rfl rfl rfl ?_
   refine Dn 12 (k:=Nl [_, _] (cs := [_, _, _, _]) (k:=fun b31 => Dn 13 (k:=?_)))
   refine an_append1 (sz := 2) (bytes := 32) Tryz.underlying170 ti220 rfl rfl rfl rfl rfl rfl rfl (by rfl) (by rfl) (by omega) (by simp only [maxLen]; omega) rfl (fun a32 c32 => ?_)
   refine Dv 14 (k:=Dd (k:=Ya (Za (k:=Za (k:=?_)))))
   refine wc_frzC b24 ?_
   refine wc_frzC b29 ?_
   obtain ⟨ps, hps⟩ : ∃ ps : List CdV, ps = qs ++ [⟨67, some ⟨b24, 0, none⟩, 1, [46 :: escB c.comment]⟩] ++ [⟨68, some ⟨b29, 0, none⟩, 1, [decN c.date.toNat]⟩] := ⟨_, rfl⟩
   have hpcd : cdsOf ps = bCards c.base ++ [⟨67, [46 :: escB c.comment]⟩, ⟨68, [decN c.date.toNat]⟩] := by rw [hps, cdsOf_app, cdsOf_app, hcd, List.append_assoc]; rfl
   have hpl : ps.length = qs.length + 2 := by rw [hps]; simp
   have hpf : ps.flatMap CdV.cells = qs.flatMap CdV.cells ++ [vU ((67 : UInt8).toNat : Int), .slice (some ⟨b24, 0, none⟩) 1 1, vU ((68 : UInt8).toNat : Int), .slice (some ⟨b29, 0, none⟩) 1 1] := by rw [hps]; simp [CdV.cells]
   refine Zr (k:=Qx 3 26 (k:=Qv (k:=Wq (Zb (k:=?_)))))
   refine p_loop (fun (i : { y : ((Option Addr × Nat) × List CdV) × Nat // y.2 ≤ c.files.length ∧ cdsOf y.1.2 = cdsOf ps ++ (c.files.take y.2).map flCard }) => [(1, .pointer (some ⟨b1, 0, none⟩)), (3, .slice i.1.1.1.1 i.1.1.2.length i.1.1.1.2), (34, .slice x.fa c.files.length x.fc), (35, vI c.files.length), (36, vI i.1.2)]) (fun (i : { y : ((Option Addr × Nat) × List CdV) × Nat // y.2 ≤ c.files.length ∧ cdsOf y.1.2 = cdsOf ps ++ (c.files.take y.2).map flCard }) => [Row 220 2 (.slice i.1.1.1.1 i.1.1.2.length i.1.1.1.2) i.1.1.2.length (i.1.1.2.flatMap CdV.cells), CdM i.1.1.2, Ce b1 30 [vS c.base, vS c.comment, vI c.date, .slice x.fa c.files.length x.fc, .slice x.pa c.parents.length x.pc, .slice x.ta c.tags.length x.tc, vS c.user], Bf, SlI x.pa (c.parents.map vS), Bt]) (fun (i : { y : ((Option Addr × Nat) × List CdV) × Nat // y.2 ≤ c.files.length ∧ cdsOf y.1.2 = cdsOf ps ++ (c.files.take y.2).map flCard }) => c.files.length - i.1.2) rfl (⟨(((a32, c32), ps), 0), Nat.zero_le _, by simp⟩) ?_ ?_ (fun i => ?_)
   · exact ⟨rfl, sl_eq hpl.symm, rfl, rfl, rfl, trivial⟩
   ·
    dsimp only
    rw [hpl, hpf]
    refine Ent.trans (ent_cdm_new (qs := qs) (a := some ⟨b24, 0, none⟩) (c := 1) 67 [46 :: escB c.comment] [vS ([46] ++ escB c.comment)] HasC.get HasC.get rfl (Nat.le_refl _)) ?_
    refine Ent.trans (ent_cdm_new (qs := qs ++ [⟨67, some ⟨b24, 0, none⟩, 1, [46 :: escB c.comment]⟩]) (a := some ⟨b29, 0, none⟩) (c := 1) 68 [decN c.date.toNat] [vS (decN c.date.toNat)] HasC.get HasC.get rfl (Nat.le_refl _)) ?_
    rw [hps]
    exact ent_step (row_norm (by rfl) (by rfl)) ent_pick
   obtain ⟨⟨⟨⟨fa, fc⟩, fs⟩, j⟩, hj, hfs⟩ := i
   dsimp only at hj hfs ⊢
   have hfl := cdsLen hfs
   have hpl0 : (cdsOf ps).length = ps.length := by simp [cdsOf]
   rw [List.length_append, List.length_map, List.length_take, hpl0] at hfl
   try dsimp only
   refine Qc (k:=Vv (k:=Wq (Za (k:=Zi (t:=fun h37 => ?_) (f:=fun h37 => ?_)))))
   ·
    refine Zk (k:=Ya (Za (k:=Zb (k:=Za (k:=?_)))))
    have hjl : j < c.files.length := by omega
    obtain ⟨f, hf⟩ : ∃ f, f = c.files[j] := ⟨_, rfl⟩
    have hfz := z5 f (by rw [hf]; exact List.getElem_mem _)
    have htk : (c.files.take (j + 1)).map flCard = (c.files.take j).map flCard ++ [flCard f] := by rw [List.take_succ_eq_append_getElem hjl, List.map_append, hf]; rfl
    refine Zr (k:=Ye 2 (k:=?_))
    refine r_eloada (vs := [_, _]) (sz := 2) Tryz.underlying25 rfl ti25 rfl rfl (by rw [flat_len (sz := 2) (fun _ => rfl)]; omega) rfl (by refine get_flat (fun x => ?_) ?_ <;> first | rfl | omega) rfl ?_
    rw [← hf]
    refine Zc [vS [], vS []] (k:=fun b5 => Zp (k:=Wq (Qc (k:=Qx 1 9 (k:=Vv (k:=Wq (Zi (t:=fun h42 => ?_) (f:=fun h42 => ?_))))))))
    ·
     refine Zr (k:=Vv (k:=Qx 0 9 (k:=Zv [_] (cs := [_]) (k:=fun b46 => ?_))))
     refine r_callF (checkin_one_sp 70 (some ⟨b46, 0, none⟩) 1 1) rfl rfl rfl ?_
     refine Zv [_] (cs := [_, _]) (k:=fun b48 => ?_)
     refine r_append1 (sz := 2) (bytes := 32) Tryz.underlying170 ti220 rfl rfl rfl rfl rfl rfl rfl (by rfl) (by rfl) (by omega) (by simp only [maxLen]; omega) rfl (fun a49 c49 => ?_)
     refine wo_frzC b46 ?_
     obtain ⟨q, hqq⟩ : ∃ q : CdV, q = ⟨70, some ⟨b46, 0, none⟩, 1, [f.1]⟩ := ⟨_, rfl⟩
     have hqc : q.cd = flCard f := by rw [hqq, flCard, if_pos h42]; rfl
     have hqx : q.args.length ≤ q.c := by rw [hqq]; exact Nat.le_refl _
     have hqs : SlI q.a (q.args.map vS) = SlI (some ⟨b46, 0, none⟩) [vS f.1] := by rw [hqq]; rfl
     have hqv : q.cells = [vU ((70 : UInt8).toNat : Int), .slice (some ⟨b46, 0, none⟩) 1 1] := by rw [hqq]; rfl
     refine Vv (k:=Wn (Yb (Ya (Zr (k:=Qv (k:=Wn ?_))))))
     exact zb113next0
    ·
     refine Zr (k:=Vv (k:=Qx 0 9 (k:=Qx 1 9 (k:=Zv [_, _] (cs := [_, _]) (k:=fun b55 => ?_)))))
     refine r_callF (checkin_one_sp 70 (some ⟨b55, 0, none⟩) 2 2) rfl rfl rfl ?_
     refine Zv [_] (cs := [_, _]) (k:=fun b57 => ?_)
     refine r_append1 (sz := 2) (bytes := 32) Tryz.underlying170 ti220 rfl rfl rfl rfl rfl rfl rfl (by rfl) (by rfl) (by omega) (by simp only [maxLen]; omega) rfl (fun a58 c58 => ?_)
     refine wo_frzC b55 ?_
     obtain ⟨q, hqq⟩ : ∃ q : CdV, q = ⟨70, some ⟨b55, 0, none⟩, 2, [f.1, f.2]⟩ := ⟨_, rfl⟩
     have hqc : q.cd = flCard f := by rw [hqq, flCard, if_neg h42]; rfl
     have hqx : q.args.length ≤ q.c := by rw [hqq]; exact Nat.le_refl _
     have hqs : SlI q.a (q.args.map vS) = SlI (some ⟨b55, 0, none⟩) [vS f.1, vS f.2] := by rw [hqq]; rfl
     have hqv : q.cells = [vU ((70 : UInt8).toNat : Int), .slice (some ⟨b55, 0, none⟩) 2 2] := by rw [hqq]; rfl
     refine Vv (k:=Wn (Yb (Ya (Zr (k:=Qv (k:=Wn ?_))))))
     exact zb113next0
   ·
    refine Ze (k:=Xa (Xi (Xb (Ya ?_))))
    refine p_cut (fun (i : { y : (Option Addr × Nat) × List CdV // cdsOf y.2 = ckHead c }) => [(1, .pointer (some ⟨b1, 0, none⟩)), (3, .slice i.1.1.1 i.1.2.length i.1.1.2)]) (fun (i : { y : (Option Addr × Nat) × List CdV // cdsOf y.2 = ckHead c }) => [Row 220 2 (.slice i.1.1.1 i.1.2.length i.1.1.2) i.1.2.length (i.1.2.flatMap CdV.cells), CdM i.1.2, Ce b1 30 [vS c.base, vS c.comment, vI c.date, .slice x.fa c.files.length x.fc, .slice x.pa c.parents.length x.pc, .slice x.ta c.tags.length x.tc, vS c.user], Bf, SlI x.pa (c.parents.map vS), Bt]) rfl (fun i => ?_) ?_
    ·
     obtain ⟨⟨⟨ga, gc⟩, gs⟩, hgs⟩ := i
     dsimp only at hgs ⊢
     have hgl := cdsLen hgs
     have hhl : (ckHead c).length ≤ 20 := by
      have h1 := hR.files.len
      have h4 : (pCards c.parents).length ≤ 1 := by unfold pCards; split <;> simp
      simp only [ckHead, List.length_append, List.length_map, List.length_cons, List.length_nil]; omega
     have htl := hR.tags.len
     try dsimp only
     refine Za (k:=Dw [Ce b1 30 [vS c.base, vS c.comment, vI c.date, .slice x.fa c.files.length x.fc, .slice x.pa c.parents.length x.pc, .slice x.ta c.tags.length x.tc, vS c.user]] (k:=?_))
     refine Dv 0 (k:=Di 1 (t:=Uf 5 28) (k:=Di 2 (t:=Ul) (k:=Di 5 (t:=Uf 6 9) (k:=Di 6 (t:=Ul) (k:=?_)))))
     refine d_next2 3 7 (by kernel_rfl) rfl rfl ?_ ?_
     ·
      refine an_callX hTC rfl rfl rfl (fun x73 hx73 => ?_)
      refine d_next2 4 7 (by kernel_rfl) rfl rfl ?_ ?_
      ·
       obtain ⟨⟨ta, tc⟩, tqs⟩ := x73
       dsimp only [cardV, cardH] at hx73 ⊢
       have htq := cdsLen hx73
       rw [List.length_map] at htq
       refine an_appendA (sz := 2) (bytes := 32) Tryz.underlying170 ti220 rfl rfl rfl rfl rfl rfl rfl (cells_len tqs) (cells_one tqs) (by omega) (by simp only [maxLen]; omega) rfl (fun a74 c74 => ?_)
       refine Dn 7 (k:=Nl [_] (cs := [_]) (k:=fun b77 => Dn 8 (k:=?_)))
       refine an_callF (checkin_one_sp 85 (some ⟨b77, 0, none⟩) 1 1) rfl rfl rfl ?_
       refine Dn 9 (k:=Nl [_] (cs := [_, _]) (k:=fun b79 => Dn 10 (k:=?_)))
       refine an_append1 (sz := 2) (bytes := 32) Tryz.underlying170 ti220 rfl rfl rfl rfl rfl rfl rfl (by rfl) (by rfl) (by omega) (by simp only [maxLen]; omega) rfl (fun a80 c80 => ?_)
       refine Dn 11 (k:=?_)
       obtain ⟨al, hal⟩ : ∃ al : List CdV, al = gs ++ tqs ++ [⟨85, some ⟨b77, 0, none⟩, 1, [c.user]⟩] := ⟨_, rfl⟩
       have halc : cdsOf al = ckCards c := by rw [hal, cdsOf_app, cdsOf_app, hgs, hx73, ckHead, ckCards]; simp [cdsOf, CdV.cd]
       have hall : al.length = gs.length + tqs.length + 1 := by rw [hal]; simp; omega
       have hxx : gs.flatMap CdV.cells ++ tqs.flatMap CdV.cells ++ [vU ((85 : UInt8).toNat : Int), .slice (some ⟨b77, 0, none⟩) 1 1] = al.flatMap CdV.cells := by rw [hal]; simp [CdV.cells]
       have hPr := card_Print_sp (B := Row 220 2 (.slice a80 (gs.length + tqs.length + 1) c80) (gs.length + tqs.length + 1) (gs.flatMap CdV.cells ++ tqs.flatMap CdV.cells ++ [vU ((85 : UInt8).toNat : Int), .slice (some ⟨b77, 0, none⟩) 1 1])) (a := a80) (gs.length + tqs.length + 1) c80 al (by rw [← hxx]; exact sla_row) hall (by rw [halc]; omega)
       have hPr2 : Sp1 Tryz.prog 155 [.slice a80 (gs.length + tqs.length + 1) c80] [Ce b77 9 [vS c.user], Row 220 2 (.slice a80 (gs.length + tqs.length + 1) c80) (gs.length + tqs.length + 1) (gs.flatMap CdV.cells ++ tqs.flatMap CdV.cells ++ [vU ((85 : UInt8).toNat : Int), .slice (some ⟨b77, 0, none⟩) 1 1]), CdM gs, CdM tqs] (vS (prK c)) [] := by
        refine Sp.frzC (Sp.mono hPr ?_ (fun u _ => ⟨(), ?_, trivial, ent_nil⟩))
        · refine Ent.trans (ent_cdm_app (qs := gs) (rs := tqs) HasC.get HasC.get) ?_
          refine Ent.trans (ent_cdm_new (qs := gs ++ tqs) (a := some ⟨b77, 0, none⟩) (c := 1) 85 [c.user] [vS c.user] HasC.get HasC.get rfl (Nat.le_refl _)) ?_
          rw [hal]
          exact ent_pick
        · rw [prK, if_pos hR, prB, halc, if_pos (rightK_cards hR)]; rfl
       refine an_call1 hPr2 rfl rfl rfl ?_
       refine Dv 12 (k:=Dd (k:=Ya (Zt (k:=?_))))
       exact zb113ret
      ·
       refine Nl [_] (cs := [_]) (k:=fun b77 => Dn 4 (k:=?_))
       obtain ⟨⟨ta, tc⟩, tqs⟩ := x73
       dsimp only [cardV, cardH] at hx73 ⊢
       have htq := cdsLen hx73
       rw [List.length_map] at htq
       refine an_appendA (sz := 2) (bytes := 32) Tryz.underlying170 ti220 rfl rfl rfl rfl rfl rfl rfl (cells_len tqs) (cells_one tqs) (by omega) (by simp only [maxLen]; omega) rfl (fun a74 c74 => ?_)
       refine Dn 8 (k:=?_)
       refine an_callF (checkin_one_sp 85 (some ⟨b77, 0, none⟩) 1 1) rfl rfl rfl ?_
       refine Dn 9 (k:=Nl [_] (cs := [_, _]) (k:=fun b79 => Dn 10 (k:=?_)))
       refine an_append1 (sz := 2) (bytes := 32) Tryz.underlying170 ti220 rfl rfl rfl rfl rfl rfl rfl (by rfl) (by rfl) (by omega) (by simp only [maxLen]; omega) rfl (fun a80 c80 => ?_)
       refine Dn 11 (k:=?_)
       obtain ⟨al, hal⟩ : ∃ al : List CdV, al = gs ++ tqs ++ [⟨85, some ⟨b77, 0, none⟩, 1, [c.user]⟩] := ⟨_, rfl⟩
       have halc : cdsOf al = ckCards c := by rw [hal, cdsOf_app, cdsOf_app, hgs, hx73, ckHead, ckCards]; simp [cdsOf, CdV.cd]
       have hall : al.length = gs.length + tqs.length + 1 := by rw [hal]; simp; omega
       have hxx : gs.flatMap CdV.cells ++ tqs.flatMap CdV.cells ++ [vU ((85 : UInt8).toNat : Int), .slice (some ⟨b77, 0, none⟩) 1 1] = al.flatMap CdV.cells := by rw [hal]; simp [CdV.cells]
       have hPr := card_Print_sp (B := Row 220 2 (.slice a80 (gs.length + tqs.length + 1) c80) (gs.length + tqs.length + 1) (gs.flatMap CdV.cells ++ tqs.flatMap CdV.cells ++ [vU ((85 : UInt8).toNat : Int), .slice (some ⟨b77, 0, none⟩) 1 1])) (a := a80) (gs.length + tqs.length + 1) c80 al (by rw [← hxx]; exact sla_row) hall (by rw [halc]; omega)
       have hPr2 : Sp1 Tryz.prog 155 [.slice a80 (gs.length + tqs.length + 1) c80] [Ce b77 9 [vS c.user], Row 220 2 (.slice a80 (gs.length + tqs.length + 1) c80) (gs.length + tqs.length + 1) (gs.flatMap CdV.cells ++ tqs.flatMap CdV.cells ++ [vU ((85 : UInt8).toNat : Int), .slice (some ⟨b77, 0, none⟩) 1 1]), CdM gs, CdM tqs] (vS (prK c)) [] := by
        refine Sp.frzC (Sp.mono hPr ?_ (fun u _ => ⟨(), ?_, trivial, ent_nil⟩))
        · refine Ent.trans (ent_cdm_app (qs := gs) (rs := tqs) HasC.get HasC.get) ?_
          refine Ent.trans (ent_cdm_new (qs := gs ++ tqs) (a := some ⟨b77, 0, none⟩) (c := 1) 85 [c.user] [vS c.user] HasC.get HasC.get rfl (Nat.le_refl _)) ?_
          rw [hal]
          exact ent_pick
        · rw [prK, if_pos hR, prB, halc, if_pos (rightK_cards hR)]; rfl
       refine an_call1 hPr2 rfl rfl rfl ?_
       refine Dv 12 (k:=Dd (k:=Ya (Zt (k:=?_))))
       exact zb113ret
     ·
      refine Nl [_] (cs := [_]) (k:=fun b77 => Dn 3 (k:=?_))
      refine an_callX hTC rfl rfl rfl (fun x73 hx73 => ?_)
      refine Dn 4 (k:=?_)
      obtain ⟨⟨ta, tc⟩, tqs⟩ := x73
      dsimp only [cardV, cardH] at hx73 ⊢
      have htq := cdsLen hx73
      rw [List.length_map] at htq
      refine an_appendA (sz := 2) (bytes := 32) Tryz.underlying170 ti220 rfl rfl rfl rfl rfl rfl rfl (cells_len tqs) (cells_one tqs) (by omega) (by simp only [maxLen]; omega) rfl (fun a74 c74 => ?_)
      refine Dn 8 (k:=?_)
      refine an_callF (checkin_one_sp 85 (some ⟨b77, 0, none⟩) 1 1) rfl rfl rfl ?_
      refine Dn 9 (k:=Nl [_] (cs := [_, _]) (k:=fun b79 => Dn 10 (k:=?_)))
      refine an_append1 (sz := 2) (bytes := 32) Tryz.underlying170 ti220 rfl rfl rfl rfl rfl rfl rfl (by rfl) (by rfl) (by omega) (by simp only [maxLen]; omega) rfl (fun a80 c80 => ?_)
      refine Dn 11 (k:=?_)
      obtain ⟨al, hal⟩ : ∃ al : List CdV, al = gs ++ tqs ++ [⟨85, some ⟨b77, 0, none⟩, 1, [c.user]⟩] := ⟨_, rfl⟩
      have halc : cdsOf al = ckCards c := by rw [hal, cdsOf_app, cdsOf_app, hgs, hx73, ckHead, ckCards]; simp [cdsOf, CdV.cd]
      have hall : al.length = gs.length + tqs.length + 1 := by rw [hal]; simp; omega
      have hxx : gs.flatMap CdV.cells ++ tqs.flatMap CdV.cells ++ [vU ((85 : UInt8).toNat : Int), .slice (some ⟨b77, 0, none⟩) 1 1] = al.flatMap CdV.cells := by rw [hal]; simp [CdV.cells]
      have hPr := card_Print_sp (B := Row 220 2 (.slice a80 (gs.length + tqs.length + 1) c80) (gs.length + tqs.length + 1) (gs.flatMap CdV.cells ++ tqs.flatMap CdV.cells ++ [vU ((85 : UInt8).toNat : Int), .slice (some ⟨b77, 0, none⟩) 1 1])) (a := a80) (gs.length + tqs.length + 1) c80 al (by rw [← hxx]; exact sla_row) hall (by rw [halc]; omega)
      have hPr2 : Sp1 Tryz.prog 155 [.slice a80 (gs.length + tqs.length + 1) c80] [Ce b77 9 [vS c.user], Row 220 2 (.slice a80 (gs.length + tqs.length + 1) c80) (gs.length + tqs.length + 1) (gs.flatMap CdV.cells ++ tqs.flatMap CdV.cells ++ [vU ((85 : UInt8).toNat : Int), .slice (some ⟨b77, 0, none⟩) 1 1]), CdM gs, CdM tqs] (vS (prK c)) [] := by
       refine Sp.frzC (Sp.mono hPr ?_ (fun u _ => ⟨(), ?_, trivial, ent_nil⟩))
       · refine Ent.trans (ent_cdm_app (qs := gs) (rs := tqs) HasC.get HasC.get) ?_
         refine Ent.trans (ent_cdm_new (qs := gs ++ tqs) (a := some ⟨b77, 0, none⟩) (c := 1) 85 [c.user] [vS c.user] HasC.get HasC.get rfl (Nat.le_refl _)) ?_
         rw [hal]
         exact ent_pick
       · rw [prK, if_pos hR, prB, halc, if_pos (rightK_cards hR)]; rfl
      refine an_call1 hPr2 rfl rfl rfl ?_
      refine Dv 12 (k:=Dd (k:=Ya (Zt (k:=?_))))
      exact zb113ret
    ·
     refine Za (k:=?_)
     have hjl : j = c.files.length := by omega
     subst hjl
     rw [List.take_length, hpcd] at hfs
     refine Zr (k:=Qx 4 27 (k:=Qv (k:=Wq (Zi (t:=fun h63 => ?_) (f:=fun h63 => ?_)))))
     ·
      refine Zr (k:=Vv (k:=Qx 4 27 (k:=?_)))
      refine r_callF (checkin_one_sp 80 x.pa c.parents.length x.pc) rfl rfl rfl ?_
      refine Zv [_] (cs := [_, _]) (k:=fun b68 => ?_)
      refine r_append1 (sz := 2) (bytes := 32) Tryz.underlying170 ti220 rfl rfl rfl rfl rfl rfl rfl (by rfl) (by rfl) (by omega) (by simp only [maxLen]; omega) rfl (fun a69 c69 => ?_)
      refine Vv (k:=Wn ?_)
      exact zb113join16
     ·
      refine Zk (k:=?_)
      exact zb113join16
  ·
   refine Za (k:=?_)
   refine wc_ent' (row_nil (e := 220) (sz := 2)) ?_
   refine Zr (k:=Qx 0 9 (k:=Vv (k:=Wq (Zi (t:=fun h11 => ?_) (f:=fun h11 => ?_)))))
   ·
    refine Zr (k:=Vv (k:=Qx 0 9 (k:=Zv [_] (cs := [_]) (k:=fun b15 => ?_))))
    refine r_callF (checkin_one_sp 66 (some ⟨b15, 0, none⟩) 1 1) rfl rfl rfl ?_
    refine Zv [_] (cs := [_, _]) (k:=fun b17 => ?_)
    refine r_append1 (sz := 2) (bytes := 32) Tryz.underlying170 ti220 rfl rfl rfl rfl rfl rfl rfl (by rfl) (by rfl) (by omega) (by simp only [maxLen]; omega) rfl (fun a18 c18 => ?_)
    refine wo_frzC b15 ?_
    refine Vv (k:=Wn ?_)
    exact zb113join6
   ·
    refine Zk (k:=?_)
    exact zb113join6
end
def prgText (l : List Cd) : Option Bs := unescB (Lib.trimPrefix ((one1 (argsOf 67 l)).getD []) [46])
def prgDay (l : List Cd) : Option Nat := readDec ((one1 (argsOf 68 l)).getD [])
def prgC (l : List Cd) : Ck := ⟨(one1 (argsOf 66 l)).getD [], (prgText l).getD [], (((prgDay l).getD 0 : Nat) : Int), (argsOf 70 l).map flOf, (argsOf 80 l).headD [], (readT (argsOf 84 l)).getD [], (one1 (argsOf 85 l)).getD []⟩
theorem prgCk_some {l : List Cd} {c : Ck} (h : prgCk l = some c) : (one1 (argsOf 67 l)).isSome = true ∧ (one1 (argsOf 68 l)).isSome = true ∧ (one1 (argsOf 85 l)).isSome = true ∧ (prgText l).isSome = true ∧ (prgDay l).isSome = true ∧ (readT (argsOf 84 l)).isSome = true ∧ c = prgC l := by
 unfold prgCk at h
 split at h
 · rename_i a b d e1 e2 e3
   split at h
   · rename_i x y z f1 f2 f3
     cases h
     have g1 : prgText l = some x := by rw [prgText, e1]; exact f1
     have g2 : prgDay l = some y := by rw [prgDay, e2]; exact f2
     rw [e1, e2, e3, g1, g2, f3]
     refine ⟨rfl, rfl, rfl, rfl, rfl, rfl, ?_⟩
     rw [prgC, g1, g2, f3, e3]; rfl
   · cases h
 · cases h
theorem reads_prg {s : Bs} {l : List Cd} (hl : ReadsC s l) {c : Ck} (h : ReadsK s c) : prgCk l = some c := by
 rw [hl.uniq h.reads]; exact prgCk_cards h.1
theorem mem_le_args {xs : List Bs} {a : Bs} (h : a ∈ xs) : a.length ≤ (argsB xs).length := by
 obtain ⟨i, hi, rfl⟩ := mem_getD (d := []) h
 have h1 := argsB_len xs
 have h2 := sumL_succ (l := xs) hi
 have h3 := sumL_le (l := xs) (j := i + 1)
 omega
theorem bodyB_args : ∀ (l : List Cd), l.length ≤ (bodyB l).length ∧ ∀ c ∈ l, (argsB c.args).length ≤ (bodyB l).length := by
 intro l
 induction l with
 | nil => exact ⟨Nat.zero_le _, fun c hc => by cases hc⟩
 | cons c l ih =>
   rw [bodyB_cons, List.length_append, List.length_cons, List.length_cons]
   have e : (lineB c).length = (argsB c.args).length + 1 := by simp [lineB]
   refine ⟨by omega, fun x hx => ?_⟩
   rcases List.mem_cons.1 hx with rfl | hx
   · omega
   · have := ih.2 x hx; omega
theorem argsOf_sizes {l : List Cd} {N : Nat} (h : (bodyB l).length ≤ N) (x : UInt8) : (argsOf x l).length ≤ N ∧ ∀ xs ∈ argsOf x l, xs.length ≤ N ∧ ∀ a ∈ xs, a.length ≤ N := by
 obtain ⟨h1, h2⟩ := bodyB_args l
 constructor
 · simp only [argsOf, List.length_map]
   exact Nat.le_trans (List.length_filter_le _ _) (by omega)
 · intro xs hxs
   simp only [argsOf, List.mem_map, List.mem_filter] at hxs
   obtain ⟨c, ⟨hc, _⟩, rfl⟩ := hxs
   have h3 := h2 c hc
   have h4 := argsB_len c.args
   exact ⟨by omega, fun a ha => by have := mem_le_args ha; omega⟩
theorem one1_le {l : List (List Bs)} {N : Nat} (h : ∀ xs ∈ l, ∀ a ∈ xs, a.length ≤ N) : ((one1 l).getD []).length ≤ N := by
 match l, h with
 | [], _ => simp [one1]
 | [[]], _ => simp [one1]
 | [[a]], h => simpa [one1] using h [a] (by simp) a (by simp)
 | [a :: b :: r], _ => simp [one1]
 | a :: b :: r, _ => simp [one1]
theorem trim_le (s p : Bs) : (Lib.trimPrefix s p).length ≤ s.length := by
 unfold Lib.trimPrefix
 split <;> simp
theorem readT_le {N : Nat} : ∀ {l : List (List Bs)} {ts : List Tg}, (∀ xs ∈ l, ∀ a ∈ xs, a.length ≤ N) → readT l = some ts → ts.length = l.length ∧ ∀ t ∈ ts, t.name.length ≤ N ∧ t.target.length ≤ N ∧ t.value.length ≤ N := by
 intro l
 induction l with
 | nil => intro ts _ h; cases h; exact ⟨rfl, fun t ht => by cases ht⟩
 | cons x l ih =>
   intro ts hz h
   simp only [readT] at h
   cases e : tgOf x with
   | none => rw [e] at h; cases h
   | some t =>
     rw [e] at h
     dsimp only at h
     cases e2 : readT l with
     | none => rw [e2] at h; cases h
     | some us =>
       rw [e2] at h
       cases h
       obtain ⟨i1, i2⟩ := ih (fun xs hxs => hz xs (by simp [hxs])) e2
       refine ⟨by simp [i1], fun u hu => ?_⟩
       rcases List.mem_cons.1 hu with rfl | hu
       · have hx : ∀ i, (x.getD i []).length ≤ N := fun i => by
           by_cases hi : i < x.length
           · exact hz x (by simp) _ (by simp [hi])
           · simp [hi]
         unfold tgOf at e
         split at e
         · cases e
         · split at e
           · cases e3 : unescB (x.getD 2 []) with
             | none => rw [e3] at e; cases e
             | some v =>
               rw [e3] at e
               cases e
               dsimp only
               have := unescB_len e3
               have := hx 2
               have := hx 0
               have := hx 1
               simp only [List.length_drop]; omega
           · cases e
             dsimp only
             have := hx 0
             have := hx 1
             simp only [List.length_drop, List.length_nil]; omega
       · exact i2 u hu
section
set_option maxRecDepth 100000
theorem ckZ_prg {l : List Cd} {N : Nat} (h : (bodyB l).length ≤ N) (hN : N ≤ 1073741824) : CkZ (prgC l) := by
 have hz := fun x => argsOf_sizes h x
 have h1 : ∀ x, ((one1 (argsOf x l)).getD []).length ≤ N := fun x => one1_le fun xs hx a ha => ((hz x).2 xs hx).2 a ha
 have hd : ∀ (xs : List Bs) i, xs ∈ argsOf 70 l → (xs.getD i []).length ≤ N := fun xs i hx => by
  by_cases hi : i < xs.length
  · exact ((hz 70).2 xs hx).2 _ (by simp [hi])
  · simp [hi]
 refine ⟨?_, ?_, ?_, ?_, ?_, ?_, ?_, ?_, ?_⟩
 · exact Nat.le_trans (h1 66) (by omega)
 · show ((prgText l).getD []).length ≤ _
   cases e : prgText l with
   | none => simp
   | some t =>
     have h2 := unescB_len e
     have h3 := trim_le ((one1 (argsOf 67 l)).getD []) [46]
     have := h1 67
     simp only [Option.getD_some]; omega
 · exact Nat.le_trans (h1 85) (by omega)
 · show ((argsOf 70 l).map flOf).length ≤ _
   rw [List.length_map]; have := (hz 70).1; omega
 · intro f hf
   obtain ⟨xs, hx, rfl⟩ := List.mem_map.1 (show f ∈ (argsOf 70 l).map flOf from hf)
   have := hd xs 0 hx
   have := hd xs 1 hx
   unfold flOf
   split
   · dsimp only; omega
   · split
     · dsimp only [List.length_nil]; omega
     · simp
 · show ((argsOf 80 l).headD []).length ≤ _
   have := (hz 80).2
   cases e : argsOf 80 l with
   | nil => simp
   | cons a r => rw [e] at this; have := (this a (by simp)).1; simp only [List.headD_cons]; omega
 · intro p hp
   have h3 : p ∈ (argsOf 80 l).headD [] := hp
   have := (hz 80).2
   cases e : argsOf 80 l with
   | nil => rw [e] at h3; simp at h3
   | cons a r => rw [e] at this h3; have := (this a (by simp)).2 p h3; omega
 · show ((readT (argsOf 84 l)).getD []).length ≤ _
   cases e : readT (argsOf 84 l) with
   | none => simp
   | some ts =>
     have := (readT_le (N := N) (fun xs hx a ha => ((hz 84).2 xs hx).2 a ha) e).1
     have := (hz 84).1
     simp only [Option.getD_some]; omega
 · intro t ht
   have h3 : t ∈ (readT (argsOf 84 l)).getD [] := ht
   cases e : readT (argsOf 84 l) with
   | none => rw [e] at h3; simp at h3
   | some ts =>
     rw [e] at h3
     have := (readT_le (N := N) (fun xs hx a ha => ((hz 84).2 xs hx).2 a ha) e).2 t h3
     omega
abbrev ckH (x : CkA × Ck) : List HP := [Row 25 2 (.slice x.1.fa x.2.files.length x.1.fc) x.2.files.length (x.2.files.flatMap flCells), SlI x.1.pa (x.2.parents.map vS), Row 60 4 (.slice x.1.ta x.2.tags.length x.1.tc) x.2.tags.length (x.2.tags.flatMap tgCells)]
theorem sli_nil {Hs : List HP} : Ent Hs (SlI none [] :: Hs) := ⟨fun {M g} s => ⟨Res.emp, g, Res.emp_dj _, rfl, .inl rfl, s⟩⟩
def ka0 : CkA := ⟨none, 0, none, 0, none, 0⟩
theorem ent_noCk {Hs : List HP} : Ent Hs (Row 25 2 (.slice none 0 0) 0 [] :: SlI none [] :: Row 60 4 (.slice none 0 0) 0 [] :: Hs) := (row_nil (e := 60) (sz := 4)).trans (sli_nil.trans row_nil)
/-- The files that have been read so far. -/
def FlB (b : Nat) (base text : Bs) (day : Int) (tv : Value) (user : Bs) (fl : List (Bs × Bs)) : HP := Ex fun z : Option Addr × Nat => Al [Ce b 30 [vS base, vS text, vI day, .slice z.1 fl.length z.2, .slice none 0 0, tv, vS user], Row 25 2 (.slice z.1 fl.length z.2) fl.length (fl.flatMap flCells)]
theorem fold_flb {b T : Nat} {base text : Bs} {day : Int} {tv : Value} {user : Bs} {fl : List (Bs × Bs)} {vs : List Value} {Hs R1 Rs : List HP} (a : Option Addr) (k m : Nat) (hm : m = fl.length) [q : OwnC b T vs Hs R1] (hT : T = 30) (h1 : vs = [vS base, vS text, vI day, .slice a m k, .slice none 0 0, tv, vS user]) {n : Nat} {ys : List Value} {e sz : Nat} [q2 : RowC (.slice a m k) e sz n ys R1 Rs] (he : e = 25) (hsz : sz = 2) (hn : n = m) (hy : ys = fl.flatMap flCells) : Ent Hs (FlB b base text day tv user fl :: Rs) := by
 subst hT; subst h1; subst he; subst hsz; subst hn; subst hy; subst hm
 refine ent_ex (a, k) ?_
 refine ent_al ?_
 exact Picks.ent (.cons q.get (.cons q2.get .nil))
/-- Where a parent list lies. -/
def OneAt (qs : List CdV) (pa : Option Addr) (pc : Nat) (xs : List Bs) : Prop := (pa = none ∧ xs = [] ∧ pc = 0) ∨ ∃ q ∈ qs, q.a = pa ∧ q.args = xs ∧ q.c = pc
theorem oneS_at (x : UInt8) (qs : List CdV) : ∃ pa pc, oneS (ofL x qs 0) = .slice pa ((argsOf x (cdsOf qs)).headD []).length pc ∧ OneAt qs pa pc ((argsOf x (cdsOf qs)).headD []) := by
 have h := ofL_argsOf x qs
 have hm : ∀ p ∈ ofL x qs 0, p.2 ∈ qs := fun p hp => (ofL_mem hp).1
 cases e : ofL x qs 0 with
 | nil =>
   rw [e] at h
   rw [← h]
   exact ⟨none, 0, rfl, .inl ⟨rfl, rfl, rfl⟩⟩
 | cons p r =>
   rw [e] at h hm
   rw [← h]
   exact ⟨p.2.a, p.2.c, rfl, .inr ⟨p.2, hm p (by simp), rfl, rfl, rfl⟩⟩
theorem ent_one {qs : List CdV} {pa : Option Addr} {pc : Nat} {xs : List Bs} {Hs : List HP} (h : OneAt qs pa pc xs) (hp : Has (CdM qs) Hs) : Ent Hs (SlI pa (xs.map vS) :: Hs) := by
 rcases h with ⟨rfl, rfl, _⟩ | ⟨q, hq, rfl, rfl, _⟩
 · exact sli_nil
 · exact ent_cd hq hp
theorem one_cap {qs : List CdV} {pa : Option Addr} {pc : Nat} {xs : List Bs} (h : OneAt qs pa pc xs) (hc : ∀ q ∈ qs, q.args.length ≤ q.c) : xs.length ≤ pc := by
 rcases h with ⟨_, rfl, _⟩ | ⟨q, hq, _, rfl, rfl⟩
 · exact Nat.zero_le _
 · exact hc q hq
theorem zb61ret12 {G : Prop} (h : G := by
    have hn : readK s = none := hnone fun c h => by
     obtain ⟨o1, o2, o3, o4, o5, o6, _⟩ := prgCk_some (reads_prg hrd h)
     first
     | (rw [o6] at h82; exact absurd h82 (by decide))
     | (rw [o5] at h79; exact absurd h79 (by decide))
     | (rw [o4] at h75; exact absurd h75 (by decide))
     | (rw [o3] at h71; exact absurd h71 (by decide))
     | (rw [o2] at h67; exact absurd h67 (by decide))
     | (rw [o1] at h63; exact absurd h63 (by decide))
    rw [hn]
    refine fin_ret (ka0, ck0) (vs := [_, _]) (Cs := [Ce b2 30 (ckVals ka0 ck0)]) rfl (.cell (l := ckVals ka0 ck0) (us := ckVals ka0 ck0) rfl (shows_ce (T := 30)) Tryz.underlying30 rfl ti30 (by exact Nat.le_of_ble_eq_true rfl) rfl (.tmp rfl .nil)) rfl ⟨rfl, Nat.le_refl _⟩ ?_
    exact ent_noCk.trans (show Ent _ [Row 25 2 (.slice none 0 0) 0 [], SlI none [], Row 60 4 (.slice none 0 0) 0 [], Ce b2 30 [vS [], vS [], vI 0, .slice none 0 0, .slice none 0 0, .slice none 0 0, vS []]] from ent_pick)) : G := h
set_option maxHeartbeats 4000000 in
theorem checkin_Read_sp (s : Bs) (hs : s.length ≤ 1073741824) : Sp Tryz.prog 61 [vS s] [] (X := CkA × Ck) (fun x => .tuple #[.agg (ckVals x.1 x.2).toArray, vB (readK s).isSome]) (fun x => x.2 = (readK s).getD ck0 ∧ x.2.parents.length ≤ x.1.pc) ckH := by
 refine Sp.body (n := 135) Tryz.call61 Tryz.func61 rfl rfl rfl ?_
 refine Qc (k:=Zc [vS [], vS [], .int .i64 0, .slice none 0 0, .slice none 0 0, .slice none 0 0, vS []] (k:=fun b2 => Vv (k:=Wq (Qc (k:=Vv (k:=?_))))))
 refine r_callX (card_Read_sp s hs) rfl rfl rfl (fun x24 hx24 => ?_)
 obtain ⟨⟨ca, cc⟩, qs⟩ := x24
 dsimp only [cardV, cardH] at hx24 ⊢
 refine Vv (k:=?_)
 refine wo_pv (pv_extract (v := .slice ca qs.length cc) rfl rfl) rfl ?_
 refine wo_pv (pv_extract (v := vB (readC s).isSome) rfl rfl) rfl ?_
 refine Qv (k:=Wq (Za (k:=Qc (k:=Qv (k:=Wq (Zi (t:=fun h28 => ?_) (f:=fun h28 => ?_)))))))
 ·
  refine Qc (k:=Vx (Ps [vS [], vS [], .int .i64 0, .slice none 0 0, .slice none 0 0, .slice none 0 0, vS []]) (k:=Zp (k:=Vv (k:=Wq (Zt (k:=Va ?_))))))
  have hn : readK s = none := the_none fun c h => by
   rw [readC_iff.2 h.reads] at h28; simp at h28
  rw [hn]
  refine fin_ret (ka0, ck0) (vs := [_, _]) (Cs := [Ce b2 30 (ckVals ka0 ck0)]) rfl (.cell (l := ckVals ka0 ck0) (us := ckVals ka0 ck0) rfl (shows_ce (T := 30)) Tryz.underlying30 rfl ti30 (by exact Nat.le_of_ble_eq_true rfl) rfl (.tmp rfl .nil)) rfl ⟨rfl, Nat.le_refl _⟩ ?_
  exact ent_noCk.trans (show Ent _ [Row 25 2 (.slice none 0 0) 0 [], SlI none [], Row 60 4 (.slice none 0 0) 0 [], Ce b2 30 [vS [], vS [], vI 0, .slice none 0 0, .slice none 0 0, .slice none 0 0, vS []]] from ent_pick)
 ·
  have hl : readC s = some (cdsOf qs) := by cases e : readC s with
   | none => rw [e] at h28; simp at h28
   | some l => rw [e] at hx24; rw [hx24]; rfl
  have hrd := readC_iff.1 hl
  have hbz : (bodyB (cdsOf qs)).length ≤ 1073741824 := by
   have h1 := congrArg List.length hrd.2
   rw [printB, sealB_len] at h1; omega
  obtain ⟨hqn, hqz⟩ := cds_sizes hbz
  have hz := fun x => argsOf_sizes hbz x
  have h1z : ∀ x, ((one1 (argsOf x (cdsOf qs))).getD []).length ≤ 1073741824 := fun x => one1_le fun xs hx a ha => ((hz x).2 xs hx).2 a ha
  have hS := fun c => checkin_single_sp (B := Row 220 2 (.slice ca qs.length cc) qs.length (qs.flatMap CdV.cells)) (a := ca) qs.length cc qs c sla_row rfl hqn
  have htz := trim_le ((one1 (argsOf 67 (cdsOf qs))).getD []) [46]
  have hz67 := h1z 67
  have hz68 := h1z 68
  have hnone : ∀ (h : ∀ c, ReadsK s c → False), readK s = none := fun h => the_none h
  refine Zk (k:=Ya (Qc (k:=Zc [vS [], vS [], .int .i64 0, .slice none 0 0, .slice none 0 0, .slice none 0 0, vS []] (k:=fun b6 => Wq (Qc (k:=Vv (k:=?_)))))))
  refine r_call1 (hS 67) rfl rfl rfl ?_
  refine Vv (k:=?_)
  refine wo_pv (pv_extract (v := vS ((one1 (argsOf 67 (cdsOf qs))).getD [])) rfl rfl) rfl ?_
  refine wo_pv (pv_extract (v := vB (one1 (argsOf 67 (cdsOf qs))).isSome) rfl rfl) rfl ?_
  refine Qv (k:=Wq (Qc (k:=Vv (k:=?_))))
  refine r_call1 (hS 68) rfl rfl rfl ?_
  refine Vv (k:=?_)
  refine wo_pv (pv_extract (v := vS ((one1 (argsOf 68 (cdsOf qs))).getD [])) rfl rfl) rfl ?_
  refine wo_pv (pv_extract (v := vB (one1 (argsOf 68 (cdsOf qs))).isSome) rfl rfl) rfl ?_
  refine Qv (k:=Wq (Qc (k:=Vv (k:=?_))))
  refine r_call1 (hS 85) rfl rfl rfl ?_
  refine Vv (k:=?_)
  refine wo_pv (pv_extract (v := vS ((one1 (argsOf 85 (cdsOf qs))).getD [])) rfl rfl) rfl ?_
  refine wo_pv (pv_extract (v := vB (one1 (argsOf 85 (cdsOf qs))).isSome) rfl rfl) rfl ?_
  refine Qv (k:=Wq (Qc (k:=Vv (k:=?_))))
  refine r_callF (TrimPrefix_sp ((one1 (argsOf 67 (cdsOf qs))).getD []) [46]) rfl rfl rfl ?_
  refine r_callF (escape_Read_sp _ (by omega)) rfl rfl rfl ?_
  refine Vv (k:=?_)
  refine wo_pv (pv_extract (v := vS ((prgText (cdsOf qs)).getD [])) rfl rfl) rfl ?_
  refine wo_pv (pv_extract (v := vB (prgText (cdsOf qs)).isSome) rfl rfl) rfl ?_
  refine Qv (k:=Wq (Qc (k:=Vv (k:=?_))))
  refine r_callF (digit_ReadDec_sp _ (by omega)) rfl rfl rfl ?_
  refine Vv (k:=?_)
  refine wo_pv (pv_extract (v := vI (((prgDay (cdsOf qs)).getD 0 : Nat) : Int)) rfl rfl) rfl ?_
  refine wo_pv (pv_extract (v := vB (prgDay (cdsOf qs)).isSome) rfl rfl) rfl ?_
  refine Qv (k:=Wq (Qc (k:=Vv (k:=?_))))
  refine r_callX (checkin_ReadTags_sp (B := Row 220 2 (.slice ca qs.length cc) qs.length (qs.flatMap CdV.cells)) (a := ca) qs.length cc qs sla_row rfl hbz) rfl rfl rfl (fun x58 hx58 => ?_)
  obtain ⟨⟨ta, tc⟩, ts⟩ := x58
  dsimp only [tagV, tagH] at hx58 ⊢
  refine Vv (k:=?_)
  refine wo_pv (pv_extract (v := .slice ta ts.length tc) rfl rfl) rfl ?_
  refine wo_pv (pv_extract (v := vB (readT (argsOf 84 (cdsOf qs))).isSome) rfl rfl) rfl ?_
  refine Qv (k:=Wq (Za (k:=Qc (k:=Qv (k:=Vv (k:=Gi 2 (t:=fun h63 => ?_) (f:=fun h63 => ?_)))))))
  ·
   refine O1 (k:=O1 (k:=P1 (k:=Vv (k:=O1 (k:=O1 (k:=P1 (k:=Vv (k:=O1 (k:=O1 (k:=P1 (k:=Vv (k:=?_))))))))))))
   refine O1 (k:=O1 (k:=P1 (k:=Vv (k:=O1 (k:=O1 (k:=P1 (k:=Wq (Z1 (k:=Qc (k:=Vx (Ps [vS [], vS [], .int .i64 0, .slice none 0 0, .slice none 0 0, .slice none 0 0, vS []]) (k:=?_)))))))))))
   refine Zp (k:=Vv (k:=Wq (Zt (k:=Va ?_))))
   exact zb61ret12
  ·
   refine J0 (k:=J0 (k:=P0 (k:=Vv (k:=Gi 6 (t:=fun h67 => ?_) (f:=fun h67 => ?_)))))
   ·
    refine O1 (k:=O1 (k:=P1 (k:=Vv (k:=O1 (k:=O1 (k:=P1 (k:=Vv (k:=O1 (k:=O1 (k:=P1 (k:=Vv (k:=?_))))))))))))
    refine O1 (k:=O1 (k:=P1 (k:=Wq (Z1 (k:=Qc (k:=Vx (Ps [vS [], vS [], .int .i64 0, .slice none 0 0, .slice none 0 0, .slice none 0 0, vS []]) (k:=Zp (k:=Vv (k:=Wq (Zt (k:=?_)))))))))))
    refine Va ?_
    exact zb61ret12
   ·
    refine J0 (k:=J0 (k:=P0 (k:=Vv (k:=Gi 10 (t:=fun h71 => ?_) (f:=fun h71 => ?_)))))
    ·
     refine O1 (k:=O1 (k:=P1 (k:=Vv (k:=O1 (k:=O1 (k:=P1 (k:=Vv (k:=O1 (k:=O1 (k:=P1 (k:=Wq ?_)))))))))))
     refine Z1 (k:=Qc (k:=Vx (Ps [vS [], vS [], .int .i64 0, .slice none 0 0, .slice none 0 0, .slice none 0 0, vS []]) (k:=Zp (k:=Vv (k:=Wq (Zt (k:=Va ?_)))))))
     exact zb61ret12
    ·
     refine J0 (k:=J0 (k:=P0 (k:=Vv (k:=Gi 14 (t:=fun h75 => ?_) (f:=fun h75 => ?_)))))
     ·
      refine O1 (k:=O1 (k:=P1 (k:=Vv (k:=O1 (k:=O1 (k:=P1 (k:=Wq (Z1 (k:=Qc (k:=Vx (Ps [vS [], vS [], .int .i64 0, .slice none 0 0, .slice none 0 0, .slice none 0 0, vS []]) (k:=?_)))))))))))
      refine Zp (k:=Vv (k:=Wq (Zt (k:=Va ?_))))
      exact zb61ret12
     ·
      refine J0 (k:=J0 (k:=P0 (k:=Vv (k:=Gi 18 (t:=fun h79 => ?_) (f:=fun h79 => ?_)))))
      ·
       refine O1 (k:=O1 (k:=P1 (k:=Wq (Z1 (k:=Qc (k:=Vx (Ps [vS [], vS [], .int .i64 0, .slice none 0 0, .slice none 0 0, .slice none 0 0, vS []]) (k:=Zp (k:=Vv (k:=Wq (Zt (k:=?_)))))))))))
       refine Va ?_
       exact zb61ret12
      ·
       refine J0 (k:=J0 (k:=P0 (k:=Wq (Zi (t:=fun h82 => ?_) (f:=fun h82 => ?_)))))
       ·
        refine Qc (k:=Vx (Ps [vS [], vS [], .int .i64 0, .slice none 0 0, .slice none 0 0, .slice none 0 0, vS []]) (k:=Zp (k:=Vv (k:=Wq (Zt (k:=Va ?_))))))
        exact zb61ret12
       ·
        refine Zk (k:=Ya (Qc (k:=Vv (k:=?_))))
        refine r_call1 (hS 66) rfl rfl rfl ?_
        refine Vv (k:=?_)
        refine wo_pv (pv_extract (v := vS ((one1 (argsOf 66 (cdsOf qs))).getD [])) rfl rfl) rfl ?_
        refine wo_pv (pv_extract (v := vB (one1 (argsOf 66 (cdsOf qs))).isSome) rfl rfl) rfl ?_
        refine Vf 0 9 (k:=Zo (k:=Wq (Qc (k:=Qv (k:=Qv (k:=Vf 1 9 (k:=Zo (k:=Vf 2 3 (k:=?_)))))))))
        refine Zo (k:=Vf 6 9 (k:=Zo (k:=Vf 5 28 (k:=Zo (k:=Wq (Za (k:=Qc (k:=Vv (k:=?_)))))))))
        refine r_callX (card_Of_sp ca qs.length cc 70) rfl rfl rfl (fun x99 _ => ?_)
        refine Wq (Zb (k:=?_))
        refine p_rangeFunc (fun pre => [FlB b6 ((one1 (argsOf 66 (cdsOf qs))).getD []) ((prgText (cdsOf qs)).getD []) (((prgDay (cdsOf qs)).getD 0 : Nat) : Int) (.slice ta ts.length tc) ((one1 (argsOf 85 (cdsOf qs))).getD []) (pre.map (fun p => flOf p.2.args)), CdM qs, Row 60 4 (.slice ta ts.length tc) ts.length (ts.flatMap tgCells), Ce b2 30 [vS [], vS [], vI 0, .slice none 0 0, .slice none 0 0, .slice none 0 0, vS []]]) (fun j pre => [Pu False]) rfl (card_Of_it qs.length cc x99.1 x99.2 qs 70 (B := Row 220 2 (.slice ca qs.length cc) qs.length (qs.flatMap CdV.cells)) sla_row rfl (by omega)) rfl (fun _ => by rfl) rfl ?_ (fun l pre q hok => ?_) ?_ (fun j pre hs => ?_)
        · (refine ent_app ?_; simp only [List.map_nil]; refine Ent.trans (row_nil (e := 25) (sz := 2)) ?_; exact (fold_flb (b := b6) (fl := []) none 0 0 (by rfl) (by rfl) (by rfl) (by rfl) (by rfl) (by rfl) (by rfl)).trans ent_pick)
        ·
         obtain ⟨rr, hrr⟩ := hok
         obtain ⟨hqm, _⟩ := ofL_mem (p := q) (by rw [hrr]; simp)
         have hqzz := hqz q.2 hqm
         have hpl : pre.length ≤ 1073741824 := by
          have h1 := congrArg List.length (ofL_argsOf 70 qs)
          have h2 := (hz 70).1
          have h3 := congrArg List.length hrr
          rw [List.length_map] at h1
          simp at h3; omega
         refine wc_ent' (ent_cd hqm HasC.get) ?_
         refine wc_front (FlB b6 ((one1 (argsOf 66 (cdsOf qs))).getD []) ((prgText (cdsOf qs)).getD []) (((prgDay (cdsOf qs)).getD 0 : Nat) : Int) (.slice ta ts.length tc) ((one1 (argsOf 85 (cdsOf qs))).getD []) (pre.map (fun p => flOf p.2.args))) (wc_exi fun z => wc_al ?_)
         obtain ⟨za, zc⟩ := z
         obtain ⟨qi, ql, qa, qc, xs⟩ := q
         dsimp only at hqzz hqm
         dsimp only [encO]
         obtain ⟨fl, hfl⟩ : ∃ fl, fl = pre.map (fun p => flOf p.2.args) := ⟨_, rfl⟩
         have hfll : fl.length ≤ 1073741824 := by rw [hfl, List.length_map]; exact hpl
         rw [← hfl]
         have hfo : flOf xs = if xs.length = 2 then (xs.getD 0 [], xs.getD 1 []) else if xs.length = 1 then (xs.getD 0 [], []) else ([], []) := rfl
         refine Zr (k:=Vv (k:=Wg (Zb (k:=Qc (k:=Vx (Ps [vS [], vS []]) (k:=Zc [vS [], vS []] (k:=fun b21 => Zp (k:=Wq (Za (k:=Za (k:=?_)))))))))))
         refine Zr (k:=Qv (k:=Wq (Zb (k:=Za (k:=Zb (k:=Za (k:=Zb (k:=Za (k:=Za (k:=Za (k:=?_)))))))))))
         refine Zr (k:=Qv (k:=Wq (Zi (t:=fun h105 => ?_) (f:=fun h105 => ?_))))
         ·
          refine Ze (k:=Xa (Xa (Xb (Ya (Zr (k:=Vv (k:=Ye 1 (m := 1) (k:=Yl (hv:=by exact get_mapD [] (m := 1) (by omega)) (k:=Vf 1 9 (k:=Zo (k:=Wn ?_)))))))))))
          refine Yb (Ya (Qc (k:=Vv (k:=Ye 1 (m := 0) (k:=Yl (hv:=by exact get_mapD [] (m := 0) (by omega)) (k:=Vf 0 9 (k:=Zo (k:=Wq (Ze (k:=Xb ?_))))))))))
          refine Ya (Zr (k:=Qx 3 26 (k:=Zm [_, _] (k:=Zv [_] (cs := [_, _]) (k:=fun b120 => ?_)))))
          refine r_append1 (sz := 2) (bytes := 32) Tryz.underlying26 ti25 rfl rfl rfl rfl rfl rfl rfl (by rfl) (by rfl) (by omega) (by simp only [maxLen]; omega) rfl (fun a121 c121 => ?_)
          refine Vf 3 26 (k:=Zo (k:=Wn (Yb ?_)))
          refine to_round ?_
          rw [List.map_append, List.map_singleton, ← hfl]
          first
          | (rw [if_pos (by omega)] at hfo
             exact ent_step (fold_flb a121 c121 (fl.length + 1) (by simp) (by rfl) (by rfl) (by rfl) (by rfl) (by rfl) (by rw [fm_snoc, hfo]; rfl)) ent_pick)
          | (rw [if_neg (by omega), if_pos (by omega)] at hfo
             exact ent_step (fold_flb a121 c121 (fl.length + 1) (by simp) (by rfl) (by rfl) (by rfl) (by rfl) (by rfl) (by rw [fm_snoc, hfo]; rfl)) ent_pick)
          | (rw [if_neg (by omega), if_neg (by omega)] at hfo
             exact ent_step (fold_flb a121 c121 (fl.length + 1) (by simp) (by rfl) (by rfl) (by rfl) (by rfl) (by rfl) (by rw [fm_snoc, hfo]; rfl)) ent_pick)
         ·
          refine Zk (k:=Ya (Qc (k:=Qv (k:=Wq (Zi (t:=fun h107 => ?_) (f:=fun h107 => ?_))))))
          ·
           refine Ze (k:=Xa (Xo (k:=Xa (Xb (Ya (Qc (k:=Vv (k:=Ye 1 (m := 0) (k:=Yl (hv:=by exact get_mapD [] (m := 0) (by omega)) (k:=Vf 0 9 (k:=?_)))))))))))
           refine Zo (k:=Wq (Ze (k:=Xb (Ya (Zr (k:=Qx 3 26 (k:=Zm [_, _] (k:=Zv [_] (cs := [_, _]) (k:=fun b120 => ?_)))))))))
           refine r_append1 (sz := 2) (bytes := 32) Tryz.underlying26 ti25 rfl rfl rfl rfl rfl rfl rfl (by rfl) (by rfl) (by omega) (by simp only [maxLen]; omega) rfl (fun a121 c121 => ?_)
           refine Vf 3 26 (k:=Zo (k:=Wn (Yb ?_)))
           refine to_round ?_
           rw [List.map_append, List.map_singleton, ← hfl]
           first
           | (rw [if_pos (by omega)] at hfo
              exact ent_step (fold_flb a121 c121 (fl.length + 1) (by simp) (by rfl) (by rfl) (by rfl) (by rfl) (by rfl) (by rw [fm_snoc, hfo]; rfl)) ent_pick)
           | (rw [if_neg (by omega), if_pos (by omega)] at hfo
              exact ent_step (fold_flb a121 c121 (fl.length + 1) (by simp) (by rfl) (by rfl) (by rfl) (by rfl) (by rfl) (by rw [fm_snoc, hfo]; rfl)) ent_pick)
           | (rw [if_neg (by omega), if_neg (by omega)] at hfo
              exact ent_step (fold_flb a121 c121 (fl.length + 1) (by simp) (by rfl) (by rfl) (by rfl) (by rfl) (by rfl) (by rw [fm_snoc, hfo]; rfl)) ent_pick)
          ·
           refine Zk (k:=Ya (Ze (k:=Xo (k:=Xa (Xo (k:=Xa (Xb (Ya (Zr (k:=Qx 3 26 (k:=?_)))))))))))
           refine Zm [_, _] (k:=Zv [_] (cs := [_, _]) (k:=fun b120 => ?_))
           refine r_append1 (sz := 2) (bytes := 32) Tryz.underlying26 ti25 rfl rfl rfl rfl rfl rfl rfl (by rfl) (by rfl) (by omega) (by simp only [maxLen]; omega) rfl (fun a121 c121 => ?_)
           refine Vf 3 26 (k:=Zo (k:=Wn (Yb ?_)))
           refine to_round ?_
           rw [List.map_append, List.map_singleton, ← hfl]
           first
           | (rw [if_pos (by omega)] at hfo
              exact ent_step (fold_flb a121 c121 (fl.length + 1) (by simp) (by rfl) (by rfl) (by rfl) (by rfl) (by rfl) (by rw [fm_snoc, hfo]; rfl)) ent_pick)
           | (rw [if_neg (by omega), if_pos (by omega)] at hfo
              exact ent_step (fold_flb a121 c121 (fl.length + 1) (by simp) (by rfl) (by rfl) (by rfl) (by rfl) (by rfl) (by rw [fm_snoc, hfo]; rfl)) ent_pick)
           | (rw [if_neg (by omega), if_neg (by omega)] at hfo
              exact ent_step (fold_flb a121 c121 (fl.length + 1) (by simp) (by rfl) (by rfl) (by rfl) (by rfl) (by rfl) (by rw [fm_snoc, hfo]; rfl)) ent_pick)
        ·
         skip
         refine Yb (Ya (Za (k:=?_)))
         have hfiles : (ofL 70 qs 0).map (fun p => flOf p.2.args) = (prgC (cdsOf qs)).files := by
          show _ = (argsOf 70 (cdsOf qs)).map flOf
          rw [← ofL_argsOf 70 qs, List.map_map]; rfl
         rw [hfiles]
         refine wc_front (FlB b6 ((one1 (argsOf 66 (cdsOf qs))).getD []) ((prgText (cdsOf qs)).getD []) (((prgDay (cdsOf qs)).getD 0 : Nat) : Int) (.slice ta ts.length tc) ((one1 (argsOf 85 (cdsOf qs))).getD []) ((prgC (cdsOf qs)).files)) (wc_exi fun z => wc_al ?_)
         obtain ⟨za, zc⟩ := z
         dsimp only
         refine wc_know (A := CdM qs) HasC.get cdm_cap (fun hcap => ?_)
         obtain ⟨pa, pc, hone, hat⟩ := oneS_at 80 qs
         have hpcap := one_cap hat hcap
         refine wc_ent' (ent_one hat HasC.get) ?_
         refine Zr (k:=Vv (k:=?_))
         refine r_call1 (card_One_sp (B := Row 220 2 (.slice ca qs.length cc) qs.length (qs.flatMap CdV.cells)) (a := ca) qs.length cc qs 80 sla_row rfl (by omega)) rfl rfl rfl ?_
         rw [hone]
         refine Vv (k:=?_)
         refine wo_pv (pv_extract (v := .slice pa ((argsOf 80 (cdsOf qs)).headD []).length pc) rfl rfl) rfl ?_
         refine Vv (k:=Vf 4 27 (k:=Zo (k:=Wq (Za (k:=Qc (k:=?_))))))
         have hPr := checkin_Print_sp (Bf := Row 25 2 (.slice za ((prgC (cdsOf qs)).files).length zc) ((prgC (cdsOf qs)).files).length (((prgC (cdsOf qs)).files).flatMap flCells)) (Bt := Row 60 4 (.slice ta ts.length tc) ts.length (ts.flatMap tgCells)) ⟨za, zc, pa, pc, ta, tc⟩ (prgC (cdsOf qs)) (ckZ_prg hbz (by omega)) sla_row (by rw [show (prgC (cdsOf qs)).tags = ts from hx58.symm]; exact sla_row) hpcap
         rw [show (prgC (cdsOf qs)).parents = (argsOf 80 (cdsOf qs)).headD [] from rfl] at hPr
         have hcv : (Value.agg #[vS ((one1 (argsOf 66 (cdsOf qs))).getD []), vS ((prgText (cdsOf qs)).getD []), vI (((prgDay (cdsOf qs)).getD 0 : Nat) : Int), .slice za ((prgC (cdsOf qs)).files).length zc, .slice pa ((argsOf 80 (cdsOf qs)).headD []).length pc, .slice ta ts.length tc, vS ((one1 (argsOf 85 (cdsOf qs))).getD [])]) = .agg (ckVals ⟨za, zc, pa, pc, ta, tc⟩ (prgC (cdsOf qs))).toArray := by rw [hx58]; rfl
         rw [← hcv] at hPr
         refine Zm [_, _, _, _, _, _, _] (k:=?_)
         refine r_call1 hPr rfl rfl rfl ?_
         refine Qv (k:=Wq (Zi (t:=fun h132 => ?_) (f:=fun h132 => ?_)))
         ·
          refine Qc (k:=Vx (Ps [vS [], vS [], .int .i64 0, .slice none 0 0, .slice none 0 0, .slice none 0 0, vS []]) (k:=Zp (k:=Vv (k:=Wq (Zt (k:=Va ?_))))))
          have hn : readK s = none := hnone fun c h => by
           obtain ⟨_, _, _, _, _, _, o7⟩ := prgCk_some (reads_prg hrd h)
           have e : prK (prgC (cdsOf qs)) = s := by rw [← o7, prK, if_pos h.1]; exact h.2
           exact h132 e
          rw [hn]
          refine fin_ret (ka0, ck0) (vs := [_, _]) (Cs := [Ce b2 30 (ckVals ka0 ck0)]) rfl (.cell (l := ckVals ka0 ck0) (us := ckVals ka0 ck0) rfl (shows_ce (T := 30)) Tryz.underlying30 rfl ti30 (by exact Nat.le_of_ble_eq_true rfl) rfl (.tmp rfl .nil)) rfl ⟨rfl, Nat.le_refl _⟩ ?_
          exact ent_noCk.trans (show Ent _ [Row 25 2 (.slice none 0 0) 0 [], SlI none [], Row 60 4 (.slice none 0 0) 0 [], Ce b2 30 [vS [], vS [], vI 0, .slice none 0 0, .slice none 0 0, .slice none 0 0, vS []]] from ent_pick)
         ·
          refine Zk (k:=Ya (Qc (k:=Zm [_, _, _, _, _, _, _] (k:=Zp (k:=Vv (k:=Wq (Zt (k:=?_))))))))
          have he : prK (prgC (cdsOf qs)) = s := Classical.not_not.1 h132
          have hk : readK s = some (prgC (cdsOf qs)) := readK_iff.2 (by
           rw [prK] at he
           split at he
           · rename_i hR; exact ⟨hR, he⟩
           · have := (reads_len hrd).1
             rw [← he] at this; simp at this)
          rw [hk]
          refine fin_ret (⟨za, zc, pa, pc, ta, tc⟩, prgC (cdsOf qs)) (vs := [_, _]) (Cs := [Ce b2 30 [vS ((one1 (argsOf 66 (cdsOf qs))).getD []), vS ((prgText (cdsOf qs)).getD []), vI (((prgDay (cdsOf qs)).getD 0 : Nat) : Int), .slice za ((prgC (cdsOf qs)).files).length zc, .slice pa ((argsOf 80 (cdsOf qs)).headD []).length pc, .slice ta ts.length tc, vS ((one1 (argsOf 85 (cdsOf qs))).getD [])]]) rfl (.cell (l := [vS ((one1 (argsOf 66 (cdsOf qs))).getD []), vS ((prgText (cdsOf qs)).getD []), vI (((prgDay (cdsOf qs)).getD 0 : Nat) : Int), .slice za ((prgC (cdsOf qs)).files).length zc, .slice pa ((argsOf 80 (cdsOf qs)).headD []).length pc, .slice ta ts.length tc, vS ((one1 (argsOf 85 (cdsOf qs))).getD [])]) rfl (shows_ce (T := 30)) Tryz.underlying30 rfl ti30 (by exact Nat.le_of_ble_eq_true rfl) rfl (.tmp rfl .nil)) ?_ ⟨rfl, hpcap⟩ ?_
          · show Value.tuple #[_, _] = Value.tuple #[_, _]
            rw [← hcv]; rfl
          · show Ent _ [Row 25 2 (.slice za ((prgC (cdsOf qs)).files).length zc) ((prgC (cdsOf qs)).files).length (((prgC (cdsOf qs)).files).flatMap flCells), SlI pa (((argsOf 80 (cdsOf qs)).headD []).map vS), Row 60 4 (.slice ta ((readT (argsOf 84 (cdsOf qs))).getD []).length tc) ((readT (argsOf 84 (cdsOf qs))).getD []).length (((readT (argsOf 84 (cdsOf qs))).getD []).flatMap tgCells), _]
            rw [← hx58]
            exact ent_pick
        ·
         exact wc_no (fun s => by obtain ⟨_, _, _, _, a, _⟩ := s; exact a)
end
end Go.Proofs.YtdnoacgopfcpbaaGreat
