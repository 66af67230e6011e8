/- Texts of this proof, put together: SR10i, SR10j, SR10k, PNames, SR10l, SBook, PKeep, SKeep, PKeep2. -/
import Derived.Test.YtibccdcemcgkeaaGreatQ08
import Derived.Test.YtibccdcemcgkeaaGreatQ21
import Derived.Test.YtibccdcemcgkeaaGreatQ16
import Derived.Test.YtibccdcemcgkeaaGreatQ17
import Derived.Test.YtibccdcemcgkeaaGreatQ18
import Derived.Test.YtibccdcemcgkeaaGreatQ12
import Derived.Test.YtibccdcemcgkeaaGreatQ07
import Derived.Test.YtibccdcemcgkeaaGreatQ19
set_option linter.unusedVariables false
set_option linter.unusedSimpArgs false
section
set_option maxRecDepth 100000
namespace Go.Proofs.YtibccdcemcgkeaaGreat
section
variable {r : Option Nat} {P : Program} {n : Nat} {ops : Array Oper} {A : List HP} {L : Loc} {Hs : List HP}
theorem an_ent {K : Loc → List HP → Prop} {o : Oper} {Gs : List HP} (hg : o.guard = none) (e : Ent Hs Gs) (k : AnOp r P n ops A o K L Gs) : AnOp r P n ops A o K L Hs := by
 obtain ⟨h, ⟨j, w, u, e1, _⟩ | ⟨g, X, val, φ, As, Rs, Bs, e2, t, k2⟩⟩ := k
 · rw [hg] at e1; cases e1
 · exact ⟨h, .inr ⟨g, X, val, φ, As, Rs, Bs, e.trans e2, t, k2⟩⟩
end
set_option maxHeartbeats 2000000 in
theorem ref10_Control_sp {Bt : HP} (ta : Option Addr) (tc : Nat) (c : Ct) (zt : TgZ c.tags) (hd : 0 ≤ c.date ∧ c.date ≤ 1073741824) (hz : (bodyB (ctCards c)).length ≤ 1073741824) (sht : SlA Bt ta (c.tags.flatMap tgCells)) :
    Sp1 Tryz.prog 58 [.agg (ctVals ta tc c).toArray] [Bt] (vS (ctB c)) [Bt] := by
 have hTC := ref10_ops_sp c.tags.length tc c.tags sht rfl zt
 have hcl := (bodyB_ge (ctCards c)).1
 have hcn : (ctCards c).length = c.tags.length + 2 := by simp [ctCards]
 have hDec : SpF Tryz.prog 50 [vI c.date] (vS (decN c.date.toNat)) := by
  have := ref1_Dec_sp c.date.toNat (by omega)
  rwa [Int.toNat_of_nonneg hd.1] at this
 refine Sp.body (n := 22) Tryz.call58 Tryz.func58 rfl rfl rfl ?_
 refine Za (k:=Zr (k:=Zx [_, _, _] (k:=fun b1 => Vv (k:=Wq (Za (k:=Dw [Ce b1 54 [vI c.date, .slice ta c.tags.length tc, vS c.user]] (k:=?_)))))))
 refine Di 0 (t:=Uf 0 3) (k:=Di 1 (t:=Ul) (k:=Di 6 (t:=Uf 1 28) (k:=Di 7 (t:=Ul) (k:=Dn 2 (k:=?_)))))
 refine an_callF hDec rfl rfl rfl ?_
 refine d_next2 3 8 (by kernel_rfl) rfl rfl ?_ ?_
 ·
  refine Nl [_] (cs := [_]) (k:=fun b7 => Di 4 (t:=Ux (Ps [_, _])) (k:=?_))
  refine d_next2 5 8 (by kernel_rfl) rfl rfl ?_ ?_
  ·
   refine Nl [_] (cs := [_, _]) (k:=fun b9 => Dn 8 (k:=?_))
   refine an_callX hTC rfl rfl rfl (fun x12 hx12 => ?_)
   refine Dn 9 (k:=?_)
   obtain ⟨⟨oa, oc⟩, tqs⟩ := x12
   dsimp only [cardV] at hx12 ⊢
   have htq := cdsLen hx12
   rw [List.length_map] at htq
   obtain ⟨ds, hds⟩ : ∃ ds : List CdV, ds = [⟨68, some ⟨b7, 0, none⟩, 1, [decN c.date.toNat]⟩] := ⟨_, rfl⟩
   have hdf : [vU 68, .slice (some ⟨b7, 0, none⟩) 1 1] = ds.flatMap CdV.cells := by rw [hds]; rfl
   refine an_ent rfl (ent_row (k := 1) (cap := 1) (sz := 2) (e := 109) (g := b9) (xs := ds.flatMap CdV.cells) (cur := [vU 68, .slice (some ⟨b7, 0, none⟩) 1 1]) (Nat.le_refl _) (by simp [maxLen]) rfl (by rw [← hdf]; rfl) (by rw [← hdf]; rfl)) ?_
   refine an_appendA (sz := 2) (bytes := 32) Tryz.underlying107 ti109 rfl rfl rfl rfl rfl rfl rfl (cells_len tqs) (cells_one tqs) (by omega) (by simp only [maxLen]; omega) rfl (fun a13 c13 => ?_)
   refine Di 10 (t:=Uv) (k:=Dd (k:=Ya (Za (k:=Zr (k:=Vv (k:=Vf 2 9 (k:=Zd (k:=Zv [_] (cs := [_]) (k:=fun b17 => Vx (Ps [_, _]) (k:=Zv [_] (cs := [_, _]) (k:=fun b19 => ?_)))))))))))
   refine r_append1 (sz := 2) (bytes := 32) Tryz.underlying107 ti109 rfl rfl rfl rfl rfl rfl rfl (by rfl) (by rfl) (by omega) (by simp only [maxLen]; omega) rfl (fun a20 c20 => ?_)
   refine wo_frzC b7 ?_
   refine wo_frzC b17 ?_
   obtain ⟨al, hal⟩ : ∃ al : List CdV, al = ds ++ tqs ++ [⟨85, some ⟨b17, 0, none⟩, 1, [c.user]⟩] := ⟨_, rfl⟩
   have halc : cdsOf al = ctCards c := by rw [hal, cdsOf_app, cdsOf_app, hx12, hds, ctCards]; simp [cdsOf, CdV.cd]
   have hall : al.length = 1 + tqs.length + 1 := by rw [hal, hds]; simp; omega
   have hxx : ds.flatMap CdV.cells ++ tqs.flatMap CdV.cells ++ [vU 85, .slice (some ⟨b17, 0, none⟩) 1 1] = al.flatMap CdV.cells := by rw [hal]; simp [CdV.cells]
   have hPr := ref10_Print_sp (B := Row 109 2 (.slice a20 (1 + tqs.length + 1) c20) (1 + tqs.length + 1) (ds.flatMap CdV.cells ++ tqs.flatMap CdV.cells ++ [vU 85, .slice (some ⟨b17, 0, none⟩) 1 1])) (a := a20) (1 + tqs.length + 1) c20 al (by rw [← hxx]; exact sla_row) hall (by rw [halc]; omega)
   rw [halc] at hPr
   refine wo_ent' (ent_cdm_one (a := some ⟨b7, 0, none⟩) (c := 1) 68 [decN c.date.toNat] [vS (decN c.date.toNat)] HasC.get rfl (Nat.le_refl _)) ?_
   rw [← hds]
   refine wo_ent' (ent_cdm_app (qs := ds) (rs := tqs) HasC.get HasC.get) ?_
   refine wo_ent' (ent_cdm_new (qs := ds ++ tqs) (a := some ⟨b17, 0, none⟩) (c := 1) 85 [c.user] [vS c.user] HasC.get HasC.get rfl (Nat.le_refl _)) ?_
   rw [← hal]
   refine r_call1 hPr rfl rfl rfl ?_
   refine Vv (k:=Wq (Zt (k:=?_)))
   exact fin_ret () (vs := [_]) (Cs := []) rfl (.tmp rfl .nil) rfl trivial ent_pick
  ·
   refine an_callX hTC rfl rfl rfl (fun x12 hx12 => ?_)
   refine Dn 5 (k:=Nl [_] (cs := [_, _]) (k:=fun b9 => Dn 9 (k:=?_)))
   obtain ⟨⟨oa, oc⟩, tqs⟩ := x12
   dsimp only [cardV] at hx12 ⊢
   have htq := cdsLen hx12
   rw [List.length_map] at htq
   obtain ⟨ds, hds⟩ : ∃ ds : List CdV, ds = [⟨68, some ⟨b7, 0, none⟩, 1, [decN c.date.toNat]⟩] := ⟨_, rfl⟩
   have hdf : [vU 68, .slice (some ⟨b7, 0, none⟩) 1 1] = ds.flatMap CdV.cells := by rw [hds]; rfl
   refine an_ent rfl (ent_row (k := 1) (cap := 1) (sz := 2) (e := 109) (g := b9) (xs := ds.flatMap CdV.cells) (cur := [vU 68, .slice (some ⟨b7, 0, none⟩) 1 1]) (Nat.le_refl _) (by simp [maxLen]) rfl (by rw [← hdf]; rfl) (by rw [← hdf]; rfl)) ?_
   refine an_appendA (sz := 2) (bytes := 32) Tryz.underlying107 ti109 rfl rfl rfl rfl rfl rfl rfl (cells_len tqs) (cells_one tqs) (by omega) (by simp only [maxLen]; omega) rfl (fun a13 c13 => ?_)
   refine Di 10 (t:=Uv) (k:=Dd (k:=Ya (Za (k:=Zr (k:=Vv (k:=Vf 2 9 (k:=Zd (k:=Zv [_] (cs := [_]) (k:=fun b17 => Vx (Ps [_, _]) (k:=Zv [_] (cs := [_, _]) (k:=fun b19 => ?_)))))))))))
   refine r_append1 (sz := 2) (bytes := 32) Tryz.underlying107 ti109 rfl rfl rfl rfl rfl rfl rfl (by rfl) (by rfl) (by omega) (by simp only [maxLen]; omega) rfl (fun a20 c20 => ?_)
   refine wo_frzC b7 ?_
   refine wo_frzC b17 ?_
   obtain ⟨al, hal⟩ : ∃ al : List CdV, al = ds ++ tqs ++ [⟨85, some ⟨b17, 0, none⟩, 1, [c.user]⟩] := ⟨_, rfl⟩
   have halc : cdsOf al = ctCards c := by rw [hal, cdsOf_app, cdsOf_app, hx12, hds, ctCards]; simp [cdsOf, CdV.cd]
   have hall : al.length = 1 + tqs.length + 1 := by rw [hal, hds]; simp; omega
   have hxx : ds.flatMap CdV.cells ++ tqs.flatMap CdV.cells ++ [vU 85, .slice (some ⟨b17, 0, none⟩) 1 1] = al.flatMap CdV.cells := by rw [hal]; simp [CdV.cells]
   have hPr := ref10_Print_sp (B := Row 109 2 (.slice a20 (1 + tqs.length + 1) c20) (1 + tqs.length + 1) (ds.flatMap CdV.cells ++ tqs.flatMap CdV.cells ++ [vU 85, .slice (some ⟨b17, 0, none⟩) 1 1])) (a := a20) (1 + tqs.length + 1) c20 al (by rw [← hxx]; exact sla_row) hall (by rw [halc]; omega)
   rw [halc] at hPr
   refine wo_ent' (ent_cdm_one (a := some ⟨b7, 0, none⟩) (c := 1) 68 [decN c.date.toNat] [vS (decN c.date.toNat)] HasC.get rfl (Nat.le_refl _)) ?_
   rw [← hds]
   refine wo_ent' (ent_cdm_app (qs := ds) (rs := tqs) HasC.get HasC.get) ?_
   refine wo_ent' (ent_cdm_new (qs := ds ++ tqs) (a := some ⟨b17, 0, none⟩) (c := 1) 85 [c.user] [vS c.user] HasC.get HasC.get rfl (Nat.le_refl _)) ?_
   rw [← hal]
   refine r_call1 hPr rfl rfl rfl ?_
   refine Vv (k:=Wq (Zt (k:=?_)))
   exact fin_ret () (vs := [_]) (Cs := []) rfl (.tmp rfl .nil) rfl trivial ent_pick
 ·
  refine an_callX hTC rfl rfl rfl (fun x12 hx12 => ?_)
  refine Dn 3 (k:=Nl [_] (cs := [_]) (k:=fun b7 => Di 4 (t:=Ux (Ps [_, _])) (k:=Dn 5 (k:=Nl [_] (cs := [_, _]) (k:=fun b9 => Dn 9 (k:=?_))))))
  obtain ⟨⟨oa, oc⟩, tqs⟩ := x12
  dsimp only [cardV] at hx12 ⊢
  have htq := cdsLen hx12
  rw [List.length_map] at htq
  obtain ⟨ds, hds⟩ : ∃ ds : List CdV, ds = [⟨68, some ⟨b7, 0, none⟩, 1, [decN c.date.toNat]⟩] := ⟨_, rfl⟩
  have hdf : [vU 68, .slice (some ⟨b7, 0, none⟩) 1 1] = ds.flatMap CdV.cells := by rw [hds]; rfl
  refine an_ent rfl (ent_row (k := 1) (cap := 1) (sz := 2) (e := 109) (g := b9) (xs := ds.flatMap CdV.cells) (cur := [vU 68, .slice (some ⟨b7, 0, none⟩) 1 1]) (Nat.le_refl _) (by simp [maxLen]) rfl (by rw [← hdf]; rfl) (by rw [← hdf]; rfl)) ?_
  refine an_appendA (sz := 2) (bytes := 32) Tryz.underlying107 ti109 rfl rfl rfl rfl rfl rfl rfl (cells_len tqs) (cells_one tqs) (by omega) (by simp only [maxLen]; omega) rfl (fun a13 c13 => ?_)
  refine Di 10 (t:=Uv) (k:=Dd (k:=Ya (Za (k:=Zr (k:=Vv (k:=Vf 2 9 (k:=Zd (k:=Zv [_] (cs := [_]) (k:=fun b17 => Vx (Ps [_, _]) (k:=Zv [_] (cs := [_, _]) (k:=fun b19 => ?_)))))))))))
  refine r_append1 (sz := 2) (bytes := 32) Tryz.underlying107 ti109 rfl rfl rfl rfl rfl rfl rfl (by rfl) (by rfl) (by omega) (by simp only [maxLen]; omega) rfl (fun a20 c20 => ?_)
  refine wo_frzC b7 ?_
  refine wo_frzC b17 ?_
  obtain ⟨al, hal⟩ : ∃ al : List CdV, al = ds ++ tqs ++ [⟨85, some ⟨b17, 0, none⟩, 1, [c.user]⟩] := ⟨_, rfl⟩
  have halc : cdsOf al = ctCards c := by rw [hal, cdsOf_app, cdsOf_app, hx12, hds, ctCards]; simp [cdsOf, CdV.cd]
  have hall : al.length = 1 + tqs.length + 1 := by rw [hal, hds]; simp; omega
  have hxx : ds.flatMap CdV.cells ++ tqs.flatMap CdV.cells ++ [vU 85, .slice (some ⟨b17, 0, none⟩) 1 1] = al.flatMap CdV.cells := by rw [hal]; simp [CdV.cells]
  have hPr := ref10_Print_sp (B := Row 109 2 (.slice a20 (1 + tqs.length + 1) c20) (1 + tqs.length + 1) (ds.flatMap CdV.cells ++ tqs.flatMap CdV.cells ++ [vU 85, .slice (some ⟨b17, 0, none⟩) 1 1])) (a := a20) (1 + tqs.length + 1) c20 al (by rw [← hxx]; exact sla_row) hall (by rw [halc]; omega)
  rw [halc] at hPr
  refine wo_ent' (ent_cdm_one (a := some ⟨b7, 0, none⟩) (c := 1) 68 [decN c.date.toNat] [vS (decN c.date.toNat)] HasC.get rfl (Nat.le_refl _)) ?_
  rw [← hds]
  refine wo_ent' (ent_cdm_app (qs := ds) (rs := tqs) HasC.get HasC.get) ?_
  refine wo_ent' (ent_cdm_new (qs := ds ++ tqs) (a := some ⟨b17, 0, none⟩) (c := 1) 85 [c.user] [vS c.user] HasC.get HasC.get rfl (Nat.le_refl _)) ?_
  rw [← hal]
  refine r_call1 hPr rfl rfl rfl ?_
  refine Vv (k:=Wq (Zt (k:=?_)))
  exact fin_ret () (vs := [_]) (Cs := []) rfl (.tmp rfl .nil) rfl trivial ent_pick
end Go.Proofs.YtibccdcemcgkeaaGreat
end
section
set_option maxRecDepth 100000
namespace Go.Proofs.YtibccdcemcgkeaaGreat
set_option maxHeartbeats 1000000 in
theorem ref10_Cluster_sp {B : HP} {a : Option Addr} (n cap : Nat) (l : List Bs) (sh : SlA B a (l.map vS)) (hn : l.length = n) (hz : (bodyB (clCards l)).length ≤ 1073741824) :
    Sp1 Tryz.prog 59 [.slice a n cap] [B] (vS (clB l)) [B] := by
 subst hn
 haveI : RdSl a (l.map vS) [B] := ⟨⟨B, sh, .here⟩⟩
 have hcl := (bodyB_ge (clCards l)).1
 have hcn : (clCards l).length = l.length := by simp [clCards]
 refine Sp.body (n := 21) Tryz.call59 Tryz.func59 rfl rfl rfl ?_
 refine Za (k:=Zr (k:=Vv (k:=Wq (Za (k:=Zr (k:=Vv (k:=Wq (Za (k:=Za (k:=Zr (k:=Vv (k:=?_))))))))))))
 refine Vv (k:=Vv (k:=Wq (Zb (k:=?_))))
 refine p_loop (fun (i : { x : (Option Addr × Nat) × List CdV // x.2.length ≤ l.length ∧ cdsOf x.2 = clCards (l.take x.2.length) }) => [(3, .slice i.1.1.1 i.1.2.length i.1.1.2), (6, .slice a l.length cap), (7, vI l.length), (8, vI i.1.2.length)]) (fun (i : { x : (Option Addr × Nat) × List CdV // x.2.length ≤ l.length ∧ cdsOf x.2 = clCards (l.take x.2.length) }) => [Row 109 2 (.slice i.1.1.1 i.1.2.length i.1.1.2) i.1.2.length (i.1.2.flatMap CdV.cells), CdM i.1.2, B]) (fun (i : { x : (Option Addr × Nat) × List CdV // x.2.length ≤ l.length ∧ cdsOf x.2 = clCards (l.take x.2.length) }) => l.length - i.1.2.length) rfl (⟨((none, 0), []), Nat.zero_le _, rfl⟩) ?_ ?_ (fun i => ?_)
 · exact ⟨rfl, rfl, rfl, rfl, trivial⟩
 ·
  exact (row_nil (e := 109) (sz := 2)).trans (ent_cdm_nil.trans (show Ent _ [Row 109 2 (.slice none 0 0) 0 [], CdM [], B] from ent_pick))
 obtain ⟨⟨⟨oa, oc⟩, qs⟩, hj, hcd⟩ := i
 dsimp only at hj hcd ⊢
 try dsimp only
 refine Za (k:=Zr (k:=Vv (k:=Wq (Za (k:=Zi (t:=fun h9 => ?_) (f:=fun h9 => ?_))))))
 ·
  refine Zk (k:=Ya (Za (k:=Zb (k:=Za (k:=?_)))))
  have hjl : qs.length < l.length := by omega
  have htk : clCards (l.take (qs.length + 1)) = cdsOf qs ++ [clCard (l.getD qs.length [])] := by rw [List.take_succ_eq_append_getElem hjl, clCards, List.map_append, hcd]; simp [clCards, hjl]
  refine Zr (k:=Ye 1 (k:=?_))
  refine r_eload Tryz.underlying9 rfl rfl (get_mapD [] hjl) rfl ?_
  obtain ⟨x, hx⟩ : ∃ x, x = l.getD qs.length [] := ⟨_, rfl⟩
  rw [← hx] at htk ⊢
  refine Vv (k:=Wq (Zr (k:=Vv (k:=Vv (k:=Zv [_] (cs := [_]) (k:=fun b14 => Vx (Ps [_, _]) (k:=Zv [_] (cs := [_, _]) (k:=fun b16 => ?_))))))))
  refine r_append1 (sz := 2) (bytes := 32) Tryz.underlying107 ti109 rfl rfl rfl rfl rfl rfl rfl (by rfl) (by rfl) (by omega) (by simp only [maxLen]; omega) rfl (fun a17 c17 => ?_)
  refine wo_frzC b14 ?_
  refine Vv (k:=Wn (Yb (Ya (Zr (k:=Vv (k:=Vv (k:=Wn ?_)))))))
  obtain ⟨q, hqq⟩ : ∃ q : CdV, q = ⟨77, some ⟨b14, 0, none⟩, 1, [x]⟩ := ⟨_, rfl⟩
  have hqc : q.cd = clCard x := by rw [hqq]; rfl
  have hql : (qs ++ [q]).length = qs.length + 1 := by simp
  refine to_inv ⟨((a17, c17), qs ++ [q]), ?_, ?_⟩ ?_ ⟨sl_eq hql.symm, rfl, rfl, vI_eq (by dsimp only; omega), trivial⟩ ?_
  · dsimp only; omega
  · dsimp only; rw [hql, htk, cds_snoc, hqc]
  · dsimp only; omega
  · dsimp only
    rw [hql]
    refine (ent_cdm_new (qs := qs) (a := some ⟨b14, 0, none⟩) (c := 1) 77 [x] [vS x] HasC.get HasC.get rfl (Nat.le_refl _)).trans ?_
    rw [← hqq]
    exact ent_step (row_norm (by rfl) (by rw [fm_snoc, hqq]; rfl)) ent_pick
 ·
  refine Ze (k:=Xa (Xi (Xb (Ya (Za (k:=?_))))))
  have hjl : qs.length = l.length := by omega
  rw [hjl, List.take_length] at hcd
  have hPr := ref10_Print_sp (B := Row 109 2 (.slice oa qs.length oc) qs.length (qs.flatMap CdV.cells)) (a := oa) qs.length oc qs sla_row rfl (by rw [hcd]; omega)
  rw [hcd] at hPr
  refine Zr (k:=Vv (k:=?_))
  refine r_call1 hPr rfl rfl rfl ?_
  refine Vv (k:=Wq (Zt (k:=?_)))
  exact fin_ret () (vs := [_]) (Cs := []) rfl (.tmp rfl .nil) rfl trivial ent_pick
end Go.Proofs.YtibccdcemcgkeaaGreat
end
section
set_option maxRecDepth 100000
namespace Go.Proofs.YtibccdcemcgkeaaGreat
def putB (n : Bs) : List Bs → List Bs
 | [] => [n]
 | x :: r => if blt x n = true then x :: putB n r else if x = n then x :: r else n :: x :: r
theorem putB_at (n : Bs) : ∀ (l : List Bs) (j : Nat), j ≤ l.length → (∀ i, i < j → blt (l.getD i []) n = true) → (j < l.length → blt (l.getD j []) n = false) → putB n l = if j < l.length ∧ l.getD j [] = n then l else l.take j ++ [n] ++ l.drop j := by
 intro l
 induction l with
 | nil => intro j hj _ _; simp [putB]
 | cons x r ih =>
   intro j hj h1 h2
   cases j with
   | zero =>
     have h3 := h2 (by simp)
     simp only [List.getD_cons_zero] at h3
     simp only [putB, h3]
     by_cases e : x = n
     · simp [e]
     · simp [e]
   | succ j =>
     have h3 := h1 0 (by omega)
     simp only [List.getD_cons_zero] at h3
     have h4 := ih j (by simpa using hj) (fun i hi => by have := h1 (i + 1) (by omega); simpa using this) (fun h => by have := h2 (by simp; omega); simpa using this)
     simp only [putB, h3, if_true, h4, List.getD_cons_succ, List.length_cons, Nat.add_lt_add_iff_right]
     split <;> simp
theorem putB_mem (n : Bs) (l : List Bs) (x : Bs) : x ∈ putB n l ↔ x = n ∨ x ∈ l := by
 induction l with
 | nil => simp [putB]
 | cons y r ih =>
   simp only [putB]
   split
   · simp only [List.mem_cons, ih]
     constructor
     · rintro (h | h | h) <;> simp [h]
     · rintro (h | h | h) <;> simp [h]
   · split
     · rename_i _ e; subst e; simp
     · simp
theorem putB_sorted (n : Bs) {l : List Bs} (h : l.Pairwise (· < ·)) : (putB n l).Pairwise (· < ·) := by
 induction l with
 | nil => simp [putB]
 | cons y r ih =>
   rw [List.pairwise_cons] at h
   simp only [putB]
   split
   · rename_i hb
     rw [List.pairwise_cons]
     refine ⟨fun x hx => ?_, ih h.2⟩
     rcases (putB_mem n r x).1 hx with e | e
     · rw [e]; exact (blt_iff y n).1 hb
     · exact h.1 x e
   · split
     · exact List.pairwise_cons.2 h
     · rename_i hb hne
       have hlt : n < y := by
        have h1 : ¬ y < n := fun e => hb ((blt_iff y n).2 e)
        rcases Std.lt_trichotomy n y with e | e | e
        · exact e
        · exact absurd e.symm hne
        · exact absurd e h1
       rw [List.pairwise_cons, List.pairwise_cons]
       refine ⟨fun x hx => ?_, h.1, h.2⟩
       rcases List.mem_cons.1 hx with e | e
       · rw [e]; exact hlt
       · exact List.lt_trans hlt (h.1 x e)
theorem putB_len (n : Bs) (l : List Bs) : (putB n l).length ≤ l.length + 1 := by
 induction l with
 | nil => simp [putB]
 | cons y r ih =>
   simp only [putB]
   split
   · simp; omega
   · split <;> simp
theorem all_vS (l : List Bs) : (l.map vS).all oneCell = true := by simp [oneCell]
end Go.Proofs.YtibccdcemcgkeaaGreat
end
section
namespace Go.Proofs.YtibccdcemcgkeaaGreat
def putA (l ns : List Bs) : List Bs := ns.foldl (fun l n => putB n l) l
theorem putA_snoc (l ns : List Bs) (n : Bs) : putA l (ns ++ [n]) = putB n (putA l ns) := by simp [putA]
theorem putA_mem (ns : List Bs) : ∀ (l : List Bs) (x : Bs), x ∈ putA l ns ↔ x ∈ l ∨ x ∈ ns := by
 induction ns with
 | nil => intro l x; simp [putA]
 | cons n ns ih =>
   intro l x
   have h := ih (putB n l) x
   have e : putA l (n :: ns) = putA (putB n l) ns := rfl
   rw [e, h, putB_mem, List.mem_cons]
   constructor
   · rintro ((h | h) | h) <;> simp [h]
   · rintro (h | h | h) <;> simp [h]
theorem putA_sorted (ns : List Bs) : ∀ (l : List Bs), l.Pairwise (· < ·) → (putA l ns).Pairwise (· < ·) := by
 induction ns with
 | nil => intro l h; exact h
 | cons n ns ih => intro l h; exact ih _ (putB_sorted n h)
theorem putA_len (ns : List Bs) : ∀ (l : List Bs), (putA l ns).length ≤ l.length + ns.length := by
 induction ns with
 | nil => intro l; exact Nat.le_refl _
 | cons n ns ih =>
   intro l
   have h := ih (putB n l)
   have h2 := putB_len n l
   have e : putA l (n :: ns) = putA (putB n l) ns := rfl
   rw [e, List.length_cons]; omega
theorem dedS_mem (l : List Bs) (x : Bs) : x ∈ dedS l ↔ x ∈ l := by
 induction l using list_snoc_ind with
 | h0 => exact Iff.rfl
 | h1 l y ih =>
   rw [dedS_snoc]
   split
   · rename_i h
     rw [ih, List.mem_append, List.mem_singleton]
     refine ⟨.inl, fun h2 => h2.elim id fun e => ?_⟩
     exact ih.1 (by rw [e]; exact List.mem_of_getLast? h)
   · rw [List.mem_append, List.mem_append, ih]
theorem dedS_sorted (l : List Bs) (h : l.Pairwise (fun x y => x ≤ y)) : (dedS l).Pairwise (· < ·) := by
 induction l using list_snoc_ind with
 | h0 => exact List.Pairwise.nil
 | h1 l y ih =>
   rw [List.pairwise_append] at h
   obtain ⟨h1, _, h3⟩ := h
   have hl := ih h1
   rw [dedS_snoc]
   split
   · exact hl
   · rename_i hne
     rw [List.pairwise_append]
     refine ⟨hl, by simp, fun a ha b hb => ?_⟩
     rw [List.mem_singleton.1 hb]
     have hab : a ≤ y := h3 a ((dedS_mem l a).1 ha) y (by simp)
     rcases Std.lt_trichotomy a y with e | e | e
     · exact e
     · exfalso
       subst e
       -- a is the last: all before the last are less than it, and it is no greater than a
       rcases hg : (dedS l).getLast? with _ | z
       · rw [List.getLast?_eq_none_iff.1 hg] at ha; cases ha
       · have hz : z ∈ dedS l := List.mem_of_getLast? hg
         have hza : z ≤ a := h3 z ((dedS_mem l z).1 hz) a (by simp)
         by_cases ez : z = a
         · rw [ez] at hg; exact hne hg
         · obtain ⟨ys, hys⟩ : ∃ ys, dedS l = ys ++ [z] := List.getLast?_eq_some_iff.1 hg
           rw [hys] at ha hl
           rw [List.pairwise_append] at hl
           rcases List.mem_append.1 ha with h4 | h4
           · have := hl.2.2 a h4 z (by simp)
             exact absurd this (List.not_lt.2 hza)
           · exact ez (List.mem_singleton.1 h4).symm
     · exact absurd e (List.not_lt.2 hab)
theorem namesR_sorted (s : Bs) : (namesR s).Pairwise (· < ·) := (dedS_sorted _ (sortB_sorted _)).filter _
theorem namesR_mem (s x : Bs) : x ∈ namesR s ↔ x ∈ namesP s ∧ x ≠ [] := by
 rw [namesR, List.mem_filter, dedS_mem, (sortB_perm _).mem_iff]; simp
/-- Names of a check-in, in the document's order. -/
def nsK (c : Ck) : List Bs := (if c.base = [] then [] else [c.base]) ++ (c.files.map (·.2)).filter (· ≠ []) ++ c.parents
noncomputable def outK (s : Bs) : List Bs := match readK s with
 | some c => putA [] (nsK c)
 | none => []
noncomputable def outT (s : Bs) : List Bs := match readCt s with
 | some c => putA (outK s) (c.tags.map (·.target))
 | none => outK s
noncomputable def outC (s : Bs) : List Bs := match readCl s with
 | some l => l
 | none => outT s
theorem isN_ne {s : Bs} (h : isN s = true) : s ≠ [] := fun e => by have := isN_len h; rw [e] at this; cases this
theorem rise_pw {l : List Bs} (h : ∀ i, 0 < i → i < l.length → blt (l.getD (i - 1) []) (l.getD i []) = true) : l.Pairwise (· < ·) := by
 induction l using list_snoc_ind with
 | h0 => exact List.Pairwise.nil
 | h1 l y ih =>
   have ih' := ih (fun i h0 h1 => by
    have := h i h0 (by simp; omega)
    have e1 : ∀ k, k < l.length → (l ++ [y]).getD k [] = l.getD k [] := fun k hk => by simp [hk, List.getElem?_append]
    rw [e1 _ (by omega), e1 _ h1] at this
    exact this)
   rw [List.pairwise_append]
   refine ⟨ih', by simp, fun a ha b hb => ?_⟩
   rw [List.mem_singleton.1 hb]
   rcases hg : l.getLast? with _ | z
   · rw [List.getLast?_eq_none_iff.1 hg] at ha; cases ha
   · obtain ⟨ys, rfl⟩ := List.getLast?_eq_some_iff.1 hg
     have h2 := h (ys.length + 1) (by omega) (by simp)
     have e1 : (ys ++ [z] ++ [y]).getD (ys.length + 1 - 1) [] = z := by simp
     have e2 : (ys ++ [z] ++ [y]).getD (ys.length + 1) [] = y := by simp
     rw [e1, e2] at h2
     have hzy := (blt_iff z y).1 h2
     rcases List.mem_append.1 ha with h4 | h4
     · exact List.lt_trans ((List.pairwise_append.1 ih').2.2 a h4 z (by simp)) hzy
     · rw [List.mem_singleton.1 h4]; exact hzy
theorem only_ct {s : Bs} {c : Ct} (h : readCt s = some c) : readK s = none := the_none fun k hk => by
 have e := hk.reads.uniq (readCt_iff.1 h).reads
 have h1 : (⟨67, [46 :: escB k.comment]⟩ : Cd) ∈ ckCards k := by simp [ckCards]
 rw [e] at h1
 simp only [ctCards, List.mem_cons, List.mem_append, List.mem_map, List.mem_singleton] at h1
 rcases h1 with h1 | ⟨t, _, h1⟩ | h1 | h1
 · have := congrArg Cd.l h1; simp at this
 · have := congrArg Cd.l h1; simp [tgCard] at this
 · have := congrArg Cd.l h1; simp at this
 · cases h1
theorem only_cl {s : Bs} {l : List Bs} (h : readCl s = some l) : readK s = none ∧ readCt s = none := by
 constructor
 · refine the_none fun k hk => ?_
   have e := hk.reads.uniq (readCl_iff.1 h).reads
   have h1 : (⟨67, [46 :: escB k.comment]⟩ : Cd) ∈ ckCards k := by simp [ckCards]
   rw [e] at h1
   have := clCards_let l _ h1
   simp at this
 · refine the_none fun k hk => ?_
   have e := hk.reads.uniq (readCl_iff.1 h).reads
   have h1 : (⟨68, [decN k.date.toNat]⟩ : Cd) ∈ ctCards k := by simp [ctCards]
   rw [e] at h1
   have := clCards_let l _ h1
   simp at this
theorem right_parents {c : Ck} (h : RightK c) : ∀ p ∈ c.parents, isN p = true := fun p hp => by
 obtain ⟨i, hi, rfl⟩ := List.getElem_of_mem hp
 have := (h.parents.ok i hi).1
 simpa [hi] using this
theorem right_files {c : Ck} (h : RightK c) : ∀ f ∈ c.files, f.2 = [] ∨ isN f.2 = true := fun f hf => by
 obtain ⟨i, hi, rfl⟩ := List.getElem_of_mem hf
 have := (h.files.ok i hi).hash
 have e : c.files.getD i ([], []) = c.files[i] := by simp [hi]
 rw [e] at this
 rcases this with h | ⟨_, h⟩
 · exact .inr h
 · exact .inl h
theorem right_targets {c : Ct} (h : RightCt c) : ∀ t ∈ c.tags, isN t.target = true := fun t ht => by
 obtain ⟨i, hi, rfl⟩ := List.getElem_of_mem ht
 have := (h.tags.ok i hi).tgt.2 rfl
 have e : c.tags.getD i tg0 = c.tags[i] := by simp [hi]
 rwa [e] at this
theorem right_names {l : List Bs} (h : RightCl l) : ∀ n ∈ l, isN n = true := fun n hn => by
 obtain ⟨i, hi, rfl⟩ := List.getElem_of_mem hn
 have := (h.ok i hi).1
 simpa [hi] using this
theorem outC_names (s : Bs) : outC s = namesR s := by
 refine sorted_eq ?_ (namesR_sorted s) fun k => ?_
 · unfold outC
   split
   · rename_i l h
     exact rise_pw fun i h0 hi => ((readCl_iff.1 h).1.ok i hi).2 h0
   · unfold outT
     have hk : (outK s).Pairwise (· < ·) := by
      unfold outK
      split
      · exact putA_sorted _ _ .nil
      · exact .nil
     split
     · exact putA_sorted _ _ hk
     · exact hk
 · rw [namesR_mem]
   unfold outC
   cases hl : readCl s with
   | some l =>
     obtain ⟨h1, h2⟩ := only_cl hl
     simp only [namesP, h1, h2, hl, Option.getD_some]
     exact ⟨fun h => ⟨h, isN_ne (right_names (readCl_iff.1 hl).1 k h)⟩, fun h => h.1⟩
   | none =>
     dsimp only
     unfold outT
     cases ht : readCt s with
     | some c =>
       have h1 := only_ct ht
       simp only [namesP, h1, ht, outK]
       rw [putA_mem]
       constructor
       · rintro (h | h)
         · cases h
         · obtain ⟨t, h2, rfl⟩ := List.mem_map.1 h
           exact ⟨h, isN_ne (right_targets (readCt_iff.1 ht).1 t h2)⟩
       · exact fun h => .inr h.1
     | none =>
       dsimp only
       unfold outK
       cases hk : readK s with
       | none => simp [namesP, hk, ht, hl]
       | some c =>
         have hR := (readK_iff.1 hk).1
         simp only [namesP, hk]
         rw [putA_mem]
         simp only [nsK, List.mem_append, List.mem_cons, List.mem_filter, List.mem_map]
         constructor
         · rintro (h | (h | h) | h)
           · cases h
           · by_cases e : c.base = []
             · rw [if_pos e] at h; cases h
             · rw [if_neg e, List.mem_singleton] at h
               exact ⟨.inl (.inl h), by rw [h]; exact e⟩
           · exact ⟨.inr h.1, by simpa using h.2⟩
           · exact ⟨.inl (.inr h), isN_ne (right_parents hR k h)⟩
         · rintro ⟨(h | h) | h, hne⟩
           · refine .inr (.inl (.inl ?_))
             rw [if_neg (by rw [← h]; exact hne), h]; simp
           · exact .inr (.inr h)
           · exact .inr (.inl (.inr ⟨h, by simpa using hne⟩))
end Go.Proofs.YtibccdcemcgkeaaGreat
end
section
set_option maxRecDepth 100000
namespace Go.Proofs.YtibccdcemcgkeaaGreat
theorem isN_40 {s : Bs} (h : isN s = true) : s.length ≤ 40 := by rw [isN_len h]; omega
end Go.Proofs.YtibccdcemcgkeaaGreat
end
section
set_option maxRecDepth 100000
namespace Go.Proofs.YtibccdcemcgkeaaGreat
def withinI (n lo hi : Int) : Int := lo + n % (hi - lo + 1)
theorem withinI_in {n lo hi : Int} (h : lo ≤ hi) : lo ≤ withinI n lo hi ∧ withinI n lo hi ≤ hi := by
 have h1 := Int.emod_nonneg n (show hi - lo + 1 ≠ 0 by omega)
 have h2 := Int.emod_lt_of_pos n (show 0 < hi - lo + 1 by omega)
 unfold withinI; omega
theorem tmod_cases (n m : Int) (hm : 1 ≤ m) : (0 ≤ n.tmod m ∧ n.tmod m = n % m ∨ n.tmod m < 0 ∧ n.tmod m + m = n % m) ∧ -m < n.tmod m ∧ n.tmod m < m := by
 have e1 := Int.emod_nonneg n (show m ≠ 0 by omega)
 have e2 := Int.emod_lt_of_pos n (show 0 < m by omega)
 have hd := Int.emod_emod_of_dvd n (Int.dvd_refl m)
 rcases Int.lt_or_le n 0 with h | h
 · have h2 : n.tmod m = -((-n) % m) := by
     have : n = -(-n) := by omega
     conv => lhs; rw [this]
     rw [Int.neg_tmod, Int.tmod_eq_emod_of_nonneg (by omega)]
   have e3 := Int.emod_nonneg (-n) (show m ≠ 0 by omega)
   have e4 := Int.emod_lt_of_pos (-n) (show 0 < m by omega)
   have hs : (n % m + (-n) % m) % m = 0 := by
    rw [← Int.add_emod, Int.add_right_neg, Int.zero_emod]
   by_cases hz : (-n) % m = 0
   · have : n % m = 0 := by
       rw [hz, Int.add_zero, Int.emod_emod_of_dvd n (Int.dvd_refl m)] at hs; exact hs
     rw [h2, hz, this]; omega
   · have hsum : n % m + (-n) % m = m := by
       have hpos : 0 < n % m + (-n) % m := by omega
       have hlt : n % m + (-n) % m < m + m := by omega
       have hge : m ≤ n % m + (-n) % m := by
        apply Classical.byContradiction; intro hc
        rw [Int.emod_eq_of_lt (by omega) (by omega)] at hs
        omega
       have : (n % m + (-n) % m - m) % m = 0 := by rw [Int.sub_emod, hs]; simp
       rw [Int.emod_eq_of_lt (by omega) (by omega)] at this
       omega
     rw [h2]; omega
 · rw [Int.tmod_eq_emod_of_nonneg h]; omega
theorem book_Within_sp (n lo hi : Int) (h1 : -1099511627776 ≤ lo) (h2 : lo ≤ hi) (h3 : hi ≤ 1099511627776) : SpF Tryz.prog 21 [vI n, vI lo, vI hi] (vI (withinI n lo hi)) := by
 have hc := tmod_cases n (hi - lo + 1) (by omega)
 have hw : withinI n lo hi = lo + n % (hi - lo + 1) := rfl
 refine Sp.body (n := 24) Tryz.call21 Tryz.func21 rfl rfl rfl ?_
 refine Za (k:=Zr (k:=Vv (k:=Wq (Za (k:=Zr (k:=Vv (k:=Vv (k:=Vv (k:=Vv (k:=Vv (k:=?_)))))))))))
 refine wo_pv (pv_remt rfl rfl (by omega)) rfl ?_
 refine Vv (k:=Wq (Za (k:=Za (k:=Zr (k:=Vv (k:=Vv (k:=Wq (Zi (t:=fun h14 => ?_) (f:=fun h14 => ?_)))))))))
 ·
  refine Zr (k:=Vv (k:=Vv (k:=Vv (k:=Vv (k:=Vv (k:=Vv (k:=Vv (k:=Wq (Za (k:=Zr (k:=Vv (k:=?_))))))))))))
  refine Vv (k:=Vv (k:=Vv (k:=Wq (Zt (k:=?_)))))
  exact fin_ret () (vs := [_]) rfl (.tmp rfl .nil) (by rw [hw]; exact congrArg vI (by omega)) trivial ent_nil
 ·
  refine Zk (k:=Ya (Za (k:=Zr (k:=Vv (k:=Vv (k:=Vv (k:=Vv (k:=Wq (Zt (k:=?_))))))))))
  exact fin_ret () (vs := [_]) rfl (.tmp rfl .nil) (by rw [hw]; exact congrArg vI (by omega)) trivial ent_nil
end Go.Proofs.YtibccdcemcgkeaaGreat
end
section
namespace Go.Proofs.YtibccdcemcgkeaaGreat
def pickI (l : List Int) (i : Int) : Int := if l.length = 0 then 0 else l.getD (i % (l.length : Int)).toNat 0
def piecesL : List Bs := ["line one\n".toUTF8.data.toList, "the second line is longer\n".toUTF8.data.toList, "x".toUTF8.data.toList, "0;".toUTF8.data.toList, "abcabcabc".toUTF8.data.toList, "\n".toUTF8.data.toList, "3:xyz".toUTF8.data.toList, "tail of it all".toUTF8.data.toList]
def beginL : List Bs := ["".toUTF8.data.toList, "a common beginning of some texts, long enough for deltas between these; ".toUTF8.data.toList, "another beginning, of other texts, as long as the first one is, or a bit longer; ".toUTF8.data.toList]
def wordsL : List Bs := ["a".toUTF8.data.toList, "branch".toUTF8.data.toList, "c.txt".toUTF8.data.toList, "d/e".toUTF8.data.toList, "rel-1".toUTF8.data.toList, "zz".toUTF8.data.toList]
def pieceI (b x : Int) : Bs := piecesL.getD (withinI (IntKind.i64.wrap (x + bits .and .i64 b 1)) 0 7).toNat []
def textF (b : Int) : List Int → Bs → Bs
 | [], out => out
 | x :: r, out => if out.length < 170 then textF b r (out ++ pieceI b x) else out
def textB (b : Int) (l : List Int) : Bs := textF b l []
def longB (b : Int) (l : List Int) (n : Int) : Bs := beginL.getD (withinI n 0 2).toNat [] ++ (textB b l).take 160
def contB (n : Int) : Bs := longB 0 [withinI n 0 15, withinI n 0 15 / 2, withinI n 0 15 / 4] (withinI n 0 15 % 3)
def nameB (n : Int) : Bs := shaB (contB n)
theorem textF_take {b : Int} (l : List Int) : ∀ (out : Bs) (j : Nat), j < l.length → (∀ i, i ≤ j → (textF b (l.take i) out).length < 170) → textF b (l.take (j + 1)) out = textF b (l.take j) out ++ pieceI b (l.getD j 0) := by
 induction l with
 | nil => intro out j h; simp at h
 | cons x r ih =>
   intro out j h hs
   have h0 := hs 0 (Nat.zero_le _)
   simp only [List.take_zero, textF] at h0
   cases j with
   | zero => simp [textF, h0]
   | succ j =>
     simp only [List.take_succ_cons, textF, h0, if_true, List.getD_cons_succ]
     refine ih (out ++ pieceI b x) j (by simpa using h) (fun i hi => ?_)
     have := hs (i + 1) (by omega)
     simp only [List.take_succ_cons, textF, h0, if_true] at this
     exact this
theorem textF_stop {b : Int} (l : List Int) : ∀ (out : Bs) (j : Nat), j ≤ l.length → (∀ i, i < j → (textF b (l.take i) out).length < 170) → (j < l.length → 170 ≤ (textF b (l.take j) out).length) → textF b l out = textF b (l.take j) out := by
 induction l with
 | nil => intro out j h _ _; simp
 | cons x r ih =>
   intro out j h hs he
   cases j with
   | zero =>
     have := he (by simp)
     simp only [List.take_zero, textF] at this ⊢
     rw [if_neg (by omega)]
   | succ j =>
     have h0 := hs 0 (by omega)
     simp only [List.take_zero, textF] at h0
     simp only [List.take_succ_cons, textF, h0, if_true]
     refine ih (out ++ pieceI b x) j (by simpa using h) (fun i hi => ?_) (fun hj => ?_)
     · have := hs (i + 1) (by omega)
       simp only [List.take_succ_cons, textF, h0, if_true] at this
       exact this
     · have := he (by simp; omega)
       simp only [List.take_succ_cons, textF, h0, if_true] at this
       exact this
theorem pieceI_len (b x : Int) : (pieceI b x).length ≤ 26 := by
 unfold pieceI
 have : ∀ p ∈ piecesL, p.length ≤ 26 := by decide
 by_cases h : (withinI (IntKind.i64.wrap (x + bits .and .i64 b 1)) 0 7).toNat < piecesL.length
 · exact this _ (by simp [h])
 · simp [h]
theorem pieceI_noZ (b x : Int) : (90 : UInt8) ∉ pieceI b x := by
 unfold pieceI
 have : ∀ p ∈ piecesL, (90 : UInt8) ∉ p := by decide
 by_cases h : (withinI (IntKind.i64.wrap (x + bits .and .i64 b 1)) 0 7).toNat < piecesL.length
 · exact this _ (by simp [h])
 · simp [h]
theorem textF_ok (b : Int) (l : List Int) : ∀ out : Bs, out.length ≤ 195 → (90 : UInt8) ∉ out → (textF b l out).length ≤ 195 ∧ (90 : UInt8) ∉ textF b l out := by
 induction l with
 | nil => intro out h1 h2; exact ⟨h1, h2⟩
 | cons x r ih =>
   intro out h1 h2
   simp only [textF]
   split
   · refine ih _ ?_ ?_
     · rw [List.length_append]; have := pieceI_len b x; omega
     · rw [List.mem_append]; exact fun h => h.elim h2 (pieceI_noZ b x)
   · exact ⟨h1, h2⟩
theorem textB_len (b : Int) (l : List Int) : (textB b l).length ≤ 195 := (textF_ok b l [] (Nat.zero_le _) (by simp)).1
theorem longB_len (b : Int) (l : List Int) (n : Int) : (longB b l n).length ≤ 300 := by
 unfold longB
 have h1 : ∀ p ∈ beginL, p.length ≤ 90 := by decide
 have h2 : (beginL.getD (withinI n 0 2).toNat []).length ≤ 90 := by
  by_cases h : (withinI n 0 2).toNat < beginL.length
  · exact h1 _ (by simp [h])
  · simp [h]
 rw [List.length_append, List.length_take]; omega
theorem contB_len (n : Int) : (contB n).length ≤ 300 := longB_len _ _ _
end Go.Proofs.YtibccdcemcgkeaaGreat
end
section
set_option maxRecDepth 100000
namespace Go.Proofs.YtibccdcemcgkeaaGreat
theorem keep_words_sp : Sp Tryz.prog 73 [] [] (X := Nat) (fun b => .slice (some ⟨b, 0, none⟩) 6 6) (fun _ => True) (fun b => [Ce b 9 (wordsL.map vS)]) := by
 refine Sp.body (n := 2) Tryz.call73 Tryz.func73 rfl rfl rfl ?_
 refine Za (k:=Zr (k:=Vv (k:=Wq (Za (k:=Zr (k:=Zv [_, _, _, _, _, _] (cs := [_, _, _, _, _, _]) (k:=fun b1 => Vv (k:=Wq (Zt (k:=?_))))))))))
 exact fin_ret b1 (vs := [_]) (Cs := []) rfl (.tmp rfl .nil) rfl trivial (ent_step (ce_norm (by rfl) (by rfl)) ent_nil)
theorem keep_pick_sp {B : HP} {a : Option Addr} (c : Nat) (l : List Int) (i : Int) (hi : 0 ≤ i) (hl : l.length ≤ 9223372036854775807) (sh : SlA B a (l.map vI)) :
    Sp1 Tryz.prog 81 [.slice a l.length c, vI i] [B] (vI (pickI l i)) [B] := by
 haveI : RdSl a (l.map vI) [B] := ⟨⟨B, sh, .here⟩⟩
 refine Sp.body (n := 15) Tryz.call81 Tryz.func81 rfl rfl rfl ?_
 refine Za (k:=Zr (k:=Vv (k:=Wq (Za (k:=Za (k:=Zr (k:=Vv (k:=Vv (k:=Vv (k:=Wq (Zi (t:=fun h7 => ?_) (f:=fun h7 => ?_))))))))))))
 ·
  refine Za (k:=Zr (k:=Vv (k:=Wq (Zt (k:=Va ?_)))))
  rw [pickI, if_pos (by omega)]
  exact fin_ret () (vs := [_]) (Cs := []) rfl (.tmp rfl .nil) rfl trivial ent_pick
 ·
  refine Zk (k:=Ya (Za (k:=?_)))
  have hm1 := Int.emod_nonneg i (show (l.length : Int) ≠ 0 by omega)
  have hm2 := Int.emod_lt_of_pos i (show 0 < (l.length : Int) by omega)
  have hpk : pickI l i = l.getD (i % (l.length : Int)).toNat 0 := if_neg (by omega)
  rw [hpk]
  generalize hk : (i % (l.length : Int)).toNat = k
  have hik : i % (l.length : Int) = (k : Int) := by omega
  refine Zr (k:=Vv (k:=Vv (k:=Vv (k:=Vv (k:=Vv (k:=?_))))))
  rw [hik]
  refine Ye 1 (k:=?_)
  refine r_eload Tryz.underlying3 rfl rfl (get_mapD 0 (m := k) (by omega)) rfl ?_
  refine Vv (k:=Wq (Zt (k:=?_)))
  exact fin_ret () (vs := [_]) (Cs := []) rfl (.tmp rfl .nil) rfl trivial ent_pick
set_option maxHeartbeats 1000000 in
theorem keep_Text_sp {B : HP} {a : Option Addr} (c : Nat) (b : Int) (l : List Int) (hl : l.length ≤ 9223372036854775807) (sh : SlA B a (l.map vI)) :
    Sp1 Tryz.prog 28 [.agg #[vI b, .slice a l.length c]] [B] (vS (textB b l)) [B] := by
 haveI : RdSl a (l.map vI) [B] := ⟨⟨B, sh, .here⟩⟩
 refine Sp.body (n := 38) Tryz.call28 Tryz.func28 rfl rfl rfl ?_
 refine Za (k:=Zr (k:=Zx [_, _] (k:=fun b1 => Vv (k:=Wq (Za (k:=Zr (k:=Zv [_, _, _, _, _, _, _, _] (cs := [_, _, _, _, _, _, _, _]) (k:=fun b6 => Vv (k:=Wq (Za (k:=Zr (k:=?_))))))))))))
 refine Vv (k:=Wq (Za (k:=Za (k:=Zr (k:=Vv (k:=Wq (Zb (k:=?_))))))))
 refine p_loop (fun (i : { j : Nat // j ≤ l.length ∧ ∀ i, i < j → (textF b (l.take i) []).length < 170 }) => [(1, .pointer (some ⟨b1, 0, none⟩)), (3, .slice (some ⟨b6, 0, none⟩) 8 8), (4, vS (textF b (l.take i.1) [])), (5, vI i.1)]) (fun (i : { j : Nat // j ≤ l.length ∧ ∀ i, i < j → (textF b (l.take i) []).length < 170 }) => [Ce b6 9 (piecesL.map vS), Ce b1 39 [vI b, .slice a l.length c], B]) (fun (i : { j : Nat // j ≤ l.length ∧ ∀ i, i < j → (textF b (l.take i) []).length < 170 }) => l.length - i.1) rfl (⟨0, Nat.zero_le _, fun i h => by omega⟩) ?_ ?_ (fun i => ?_)
 · exact ⟨rfl, rfl, rfl, rfl, trivial⟩
 ·
  exact ent_step (ce_norm (by rfl) (by rfl)) ent_pick
 obtain ⟨j, hj, hs⟩ := i
 dsimp only
 have hz := (textF_ok b (l.take j) [] (Nat.zero_le _) (by simp)).1
 try dsimp only
 refine Za (k:=Za (k:=Zr (k:=Vv (k:=Vf 1 37 (k:=Zd (k:=Vv (k:=Vv (k:=Vv (k:=Gi 5 (t:=fun h12 => ?_) (f:=fun h12 => ?_))))))))))
 ·
  refine I1 (k:=Vv (k:=I1 (k:=Vv (k:=I1 (k:=Vv (k:=P1 (k:=Wq (Zi (t:=fun h16 => ?_) (f:=fun h16 => ?_)))))))))
  ·
   refine Zk (k:=Ya (Za (k:=Zb (k:=?_))))
   have hjl : j < l.length := by omega
   obtain ⟨out, hout⟩ : ∃ out, out = textF b (l.take j) [] := ⟨_, rfl⟩
   rw [← hout] at hz h16 ⊢
   have hst : textF b (l.take (j + 1)) [] = out ++ pieceI b (l.getD j 0) := by
    rw [hout]
    refine textF_take l [] j hjl (fun i hi => ?_)
    by_cases e : i = j
    · rw [e, ← hout]; omega
    · exact hs i (by omega)
   have hw := withinI_in (n := IntKind.i64.wrap (l.getD j 0 + bits .and .i64 b 1)) (show (0 : Int) ≤ 7 by omega)
   have hpl := pieceI_len b (l.getD j 0)
   have hpe : pieceI b (l.getD j 0) = piecesL.getD (withinI (IntKind.i64.wrap (l.getD j 0 + bits .and .i64 b 1)) 0 7).toNat [] := rfl
   generalize hk : (withinI (IntKind.i64.wrap (l.getD j 0 + bits .and .i64 b 1)) 0 7).toNat = k at hpe
   have hwk : withinI (IntKind.i64.wrap (l.getD j 0 + bits .and .i64 b 1)) 0 7 = (k : Int) := by omega
   have hpn : piecesL.length = 8 := rfl
   have hk8 : k < piecesL.length := by omega
   refine Dw [Ce b6 9 (piecesL.map vS), Ce b1 39 [vI b, .slice a l.length c], B] (k:=?_)
   refine Di 0 (t:=Uv) (k:=Di 1 (t:=Uv) (k:=Di 2 (t:=Uf 1 37) (k:=Di 3 (t:=Ul) (k:=Di 4 (t:=Uv) (k:=?_)))))
   refine d_first 5 rfl rfl rfl (by kernel_rfl) (by kernel_rfl) (tl_elemAddr (sz := 1) Tryz.underlying37 ti3 rfl rfl rfl rfl (by omega) (by first | (rw [List.length_map]; omega) | (rw [flat_len (sz := 1) (fun _ => rfl)]; omega) | (simp; omega)) (Nat.mul_one _)) ?_
   refine d_first 6 rfl rfl rfl (by kernel_rfl) (by kernel_rfl) (tl_eload Tryz.underlying3 rfl rfl (get_mapD 0 hjl)) ?_
   refine Di 7 (t:=Uf 0 3) (k:=Di 8 (t:=Ul) (k:=?_))
   refine d_first 9 rfl rfl rfl (by kernel_rfl) (by kernel_rfl) (tl_pv (pv_and rfl rfl)) ?_
   refine d_first 10 rfl rfl rfl (by kernel_rfl) (by kernel_rfl) (tl_pv (pv_addw rfl rfl)) ?_
   refine Di 11 (t:=Uv) (k:=Di 12 (t:=Uv) (k:=Di 13 (t:=Uv) (k:=Dn 14 (k:=?_))))
   refine an_callF (book_Within_sp _ 0 7 (by omega) (by omega) (by omega)) rfl rfl rfl ?_
   rw [hwk]
   refine d_first 15 rfl rfl rfl (by kernel_rfl) (by kernel_rfl) (tl_elemAddr (sz := 1) Tryz.underlying27 ti9 rfl rfl rfl rfl (by omega) (by first | (rw [List.length_map]; omega) | (rw [flat_len (sz := 1) (fun _ => rfl)]; omega) | (simp; omega)) (Nat.mul_one _)) ?_
   refine d_first 16 rfl rfl rfl (by kernel_rfl) (by kernel_rfl) (tl_eload Tryz.underlying9 rfl rfl (get_mapD [] hk8)) ?_
   refine d_first 17 rfl rfl rfl (by kernel_rfl) (by kernel_rfl) (tl_pv (pv_cat rfl rfl (by rw [← hpe]; omega))) ?_
   refine Di 18 (t:=Uv) (k:=Dd (k:=Yb (Ya (Zr (k:=Vv (k:=Vv (k:=Vv (k:=Wn ?_))))))))
   refine to_inv ⟨j + 1, by omega, fun i hi => ?_⟩ (by dsimp only; omega) ⟨rfl, rfl, vS_eq (by dsimp only; rw [hst, hpe]), rfl, trivial⟩ ent_pick
   by_cases e : i = j
   · rw [e, ← hout]; omega
   · exact hs i (by omega)
  ·
   refine Ze (k:=Xa (Xi (Xb (Ya (Za (k:=Zr (k:=Vv (k:=Vv (k:=Wq (Zt (k:=?_)))))))))))
   have he : textB b l = textF b (l.take j) [] := textF_stop l [] j hj hs (fun h => by omega)
   rw [he]
   exact fin_ret () (vs := [_]) (Cs := []) rfl (.tmp rfl .nil) rfl trivial ent_pick
 ·
  refine O0 (k:=O0 (k:=O0 (k:=P0 (k:=Wq (Z0 (k:=Ze (k:=Xa (Xi (Xb (Ya (Za (k:=?_))))))))))))
  refine Zr (k:=Vv (k:=Vv (k:=Wq (Zt (k:=?_)))))
  have he : textB b l = textF b (l.take j) [] := textF_stop l [] j hj hs (fun h => by omega)
  rw [he]
  exact fin_ret () (vs := [_]) (Cs := []) rfl (.tmp rfl .nil) rfl trivial ent_pick
theorem take_minl (t : Bs) (m : Nat) : t.take (min t.length m) = t.take m := by
 by_cases h : t.length ≤ m
 · rw [Nat.min_eq_left h, List.take_length, List.take_of_length_le h]
 · rw [Nat.min_eq_right (by omega)]
theorem keep_Long_sp {B : HP} {a : Option Addr} (c : Nat) (b : Int) (l : List Int) (n : Int) (hl : l.length ≤ 9223372036854775807) (sh : SlA B a (l.map vI)) :
    Sp1 Tryz.prog 43 [.agg #[vI b, .slice a l.length c], vI n] [B] (vS (longB b l n)) [B] := by
 have hT := keep_Text_sp c b l hl sh
 have hz := textB_len b l
 have hw := withinI_in (n := n) (show (0 : Int) ≤ 2 by omega)
 have hlb : longB b l n = beginL.getD (withinI n 0 2).toNat [] ++ (textB b l).take 160 := rfl
 have hbl : (beginL.getD (withinI n 0 2).toNat []).length ≤ 90 := by
  have h1 : ∀ p ∈ beginL, p.length ≤ 90 := by decide
  by_cases h : (withinI n 0 2).toNat < beginL.length
  · exact h1 _ (by simp [h])
  · simp [h]
 generalize hk : (withinI n 0 2).toNat = k at hlb hbl
 have hwk : withinI n 0 2 = (k : Int) := by omega
 have hbn : beginL.length = 3 := rfl
 have hk3 : k < beginL.length := by omega
 refine Sp.body (n := 21) Tryz.call43 Tryz.func43 rfl rfl rfl ?_
 refine Za (k:=Zr (k:=Zx [_, _] (k:=fun b2 => Vv (k:=Wq (Za (k:=Zr (k:=Zv [_, _, _] (cs := [_, _, _]) (k:=fun b7 => Vv (k:=Wq (Za (k:=Zr (k:=?_))))))))))))
 refine Zm [_, _] (k:=?_)
 refine r_call1 hT rfl rfl rfl ?_
 refine Vv (k:=Wq (Za (k:=?_)))
 refine wc_ent' (Gs := [Ce b7 9 (beginL.map vS), B]) (ent_step (ce_norm (by rfl) (by rfl)) ent_pick) ?_
 refine Dw [Ce b7 9 (beginL.map vS)] (k:=?_)
 refine Di 0 (t:=Uv) (k:=Di 1 (t:=Uv) (k:=Di 5 (t:=Uv) (k:=Di 6 (t:=Uv) (k:=Di 7 (t:=Uv) (k:=Di 8 (t:=Uv) (k:=?_))))))
 refine d_first 9 rfl rfl rfl (by kernel_rfl) (by kernel_rfl) (tl_pv (pv_slice_tom (m := min (textB b l).length 160) Tryz.underlying9 rfl rfl (by omega) (by omega))) ?_
 refine Dn 2 (k:=?_)
 refine an_callF (book_Within_sp n 0 2 (by omega) (by omega) (by omega)) rfl rfl rfl ?_
 rw [hwk]
 refine d_first 3 rfl rfl rfl (by kernel_rfl) (by kernel_rfl) (tl_elemAddr (sz := 1) Tryz.underlying27 ti9 rfl rfl rfl rfl (by omega) (by first | (rw [List.length_map]; omega) | (rw [flat_len (sz := 1) (fun _ => rfl)]; omega) | (simp; omega)) (Nat.mul_one _)) ?_
 refine d_first 4 rfl rfl rfl (by kernel_rfl) (by kernel_rfl) (tl_eload Tryz.underlying9 rfl rfl (get_mapD [] hk3)) ?_
 refine d_first 10 rfl rfl rfl (by kernel_rfl) (by kernel_rfl) (tl_pv (pv_cat rfl rfl (by rw [List.length_take]; omega))) ?_
 refine Di 11 (t:=Uv) (k:=Dd (k:=Ya (Zt (k:=?_))))
 rw [hlb, ← take_minl]
 exact fin_ret () (vs := [_]) (Cs := []) rfl (.tmp rfl .nil) rfl trivial ent_pick
theorem keep_Content_sp (n : Int) : SpF Tryz.prog 57 [vI n] (vS (contB n)) := by
 have hw := withinI_in (n := n) (show (0 : Int) ≤ 15 by omega)
 have hc : contB n = longB 0 [withinI n 0 15, withinI n 0 15 / 2, withinI n 0 15 / 4] (withinI n 0 15 % 3) := rfl
 rw [hc]
 refine Sp.body (n := 16) Tryz.call57 Tryz.func57 rfl rfl rfl ?_
 refine Za (k:=Zr (k:=Vv (k:=Wq (Za (k:=Zr (k:=Vv (k:=?_)))))))
 refine r_callF (book_Within_sp n 0 15 (by omega) (by omega) (by omega)) rfl rfl rfl ?_
 clear hc
 generalize withinI n 0 15 = k at hw ⊢
 refine Vv (k:=Wq (Za (k:=Zr (k:=Vv (k:=Vv (k:=Vv (k:=Vv (k:=Vv (k:=Zv [_, _, _] (cs := [_, _, _]) (k:=fun b11 => Vx (Ps [.int .i64 0, _]) (k:=Vv (k:=?_))))))))))))
 refine Vv (k:=?_)
 refine r_call1 (keep_Long_sp (B := Ce b11 3 [vI k, vI (k / 2), vI (k / 4)]) (a := some ⟨b11, 0, none⟩) 3 0 [k, k / 2, k / 4] (k % 3) (by simp) sla_ce) rfl rfl rfl ?_
 refine Vv (k:=Wq (Zt (k:=?_)))
 exact fin_ret () (vs := [_]) (Cs := []) rfl (.tmp rfl .nil) rfl trivial ent_nil
theorem keep_Name_sp (n : Int) : SpF Tryz.prog 31 [vI n] (vS (nameB n)) := by
 have hz := contB_len n
 refine Sp.body (n := 6) Tryz.call31 Tryz.func31 rfl rfl rfl ?_
 refine Za (k:=Zr (k:=Vv (k:=Wq (Za (k:=Zr (k:=Vv (k:=?_)))))))
 refine r_callF (keep_Content_sp n) rfl rfl rfl ?_
 refine r_callF (ref1_Sum_sp (contB n) (by omega)) rfl rfl rfl ?_
 refine Vv (k:=Wq (Zt (k:=?_)))
 exact fin_ret () (vs := [_]) (Cs := []) rfl (.tmp rfl .nil) rfl trivial ent_nil
end Go.Proofs.YtibccdcemcgkeaaGreat
end
section
namespace Go.Proofs.YtibccdcemcgkeaaGreat
def kindC : Bs := [43, 42, 45, 42]
def tvalL : List Bs := ["".toUTF8.data.toList, "trunk".toUTF8.data.toList, "b one".toUTF8.data.toList, "x".toUTF8.data.toList]
theorem isN_name (n : Int) : isN (nameB n) = true := decide_eq_true ⟨shaB_len _, shaB_mem _⟩
/-- Where a tag of the keeper's points to. -/
abbrev TgtOk (own : Bool) (t : Bs) : Prop := (own = true → t = [42]) ∧ (own = false → ∃ n, t = nameB n)
structure KTag (own : Bool) (t : Tg) : Prop where
 kind : t.kind.toNat = 43 ∨ t.kind.toNat = 42 ∨ (t.kind.toNat = 45 ∧ t.value = [])
 val : t.value.length ≤ 12
 tgt : TgtOk own t.target
structure KTags (own : Bool) (j : Nat) (l : List Tg) : Prop where
 len : l.length ≤ 3
 tag : ∀ t ∈ l, KTag own t
 name : ∀ t ∈ l, ∃ i, i < j ∧ t.name = wordsL.getD i []
 rise : l.Pairwise (fun x y => blt x.name y.name = true)
theorem words_rise : ∀ i j, i < j → j < 6 → blt (wordsL.getD i []) (wordsL.getD j []) = true := by
 have : ∀ i : Fin 6, ∀ j : Fin 6, i.1 < j.1 → blt (wordsL.getD i.1 []) (wordsL.getD j.1 []) = true := by decide
 exact fun i j h1 h2 => this ⟨i, by omega⟩ ⟨j, h2⟩ h1
theorem words_ok : ∀ i, i < 6 → wordP (wordsL.getD i []) ∧ (wordsL.getD i []).length ≤ 10 := by
 have : ∀ i : Fin 6, wordP (wordsL.getD i.1 []) ∧ (wordsL.getD i.1 []).length ≤ 10 := by decide
 exact fun i h => this ⟨i, h⟩
theorem KTags.snoc {own : Bool} {j : Nat} {l : List Tg} {t : Tg} (h : KTags own j l) (hj : j < 6) (hl : l.length ≤ 2) (hk : KTag own t) (hn : t.name = wordsL.getD j []) : KTags own (j + 1) (l ++ [t]) := by
 obtain ⟨h1, h2, h3, h4⟩ := h
 refine ⟨by simp; omega, ?_, ?_, ?_⟩
 · intro x hx
   rcases List.mem_append.1 hx with e | e
   · exact h2 x e
   · rw [List.mem_singleton.1 e]; exact hk
 · intro x hx
   rcases List.mem_append.1 hx with e | e
   · obtain ⟨i, hi, e2⟩ := h3 x e
     exact ⟨i, by omega, e2⟩
   · rw [List.mem_singleton.1 e]; exact ⟨j, by omega, hn⟩
 · rw [List.pairwise_append]
   refine ⟨h4, by simp, fun a ha b hb => ?_⟩
   rw [List.mem_singleton.1 hb, hn]
   obtain ⟨i, hi, e2⟩ := h3 a ha
   rw [e2]
   exact words_rise i j hi hj
theorem KTags.more {own : Bool} {j : Nat} {l : List Tg} (h : KTags own j l) : KTags own (j + 1) l := ⟨h.len, h.tag, fun t ht => by obtain ⟨i, hi, e⟩ := h.name t ht; exact ⟨i, by omega, e⟩, h.rise⟩
theorem blt_irr (a : Bs) : blt a a = false := by
 rw [blt_eq, decide_eq_false_iff_not]; exact List.lt_irrefl a
theorem KTags.right {own : Bool} {l : List Tg} (h : KTags own 6 l) : RightT own l := by
 refine ⟨fun i hi => ?_, by have := h.len; omega⟩
 have e : l.getD i tg0 = l[i] := by simp [hi]
 have hm : l[i] ∈ l := List.getElem_mem hi
 have hk := h.tag _ hm
 obtain ⟨w, hw, hn⟩ := h.name _ hm
 refine ⟨by rw [e]; exact hk.kind, by rw [e, hn]; exact (words_ok w hw).1, by rw [e]; exact hk.val, by rw [e]; exact ⟨hk.tgt.1, fun o => by obtain ⟨n, e⟩ := hk.tgt.2 o; rw [e]; exact isN_name n⟩, fun h0 => ?_⟩
 have e2 : l.getD (i - 1) tg0 = l[i - 1] := by simp [show i - 1 < l.length by omega]
 have hr := List.pairwise_iff_getElem.1 h.rise (i - 1) i (by omega) hi (by omega)
 rw [e, e2]
 exact ⟨.inl hr, fun e3 => by rw [e3, blt_irr] at hr; cases hr⟩
theorem KTags.z {own : Bool} {j : Nat} {l : List Tg} (h : KTags own j l) (hj : j ≤ 6) : TgZ l := ⟨by have := h.len; omega, fun t ht => by
 obtain ⟨w, hw, hn⟩ := h.name t ht
 have h1 := (words_ok w (by omega)).2
 have h2 := (h.tag t ht).val
 have h3 : t.target.length ≤ 40 := by
  cases own with
  | true => rw [(h.tag t ht).tgt.1 rfl]; simp
  | false => obtain ⟨n, e⟩ := (h.tag t ht).tgt.2 rfl; rw [e]; exact isN_40 (isN_name n)
 rw [hn]; omega⟩
theorem kindC_ok : ∀ m, m < 4 → (kindC.getD m 0).toNat = 43 ∨ (kindC.getD m 0).toNat = 42 ∨ (kindC.getD m 0).toNat = 45 := by
 have : ∀ m : Fin 4, (kindC.getD m.1 0).toNat = 43 ∨ (kindC.getD m.1 0).toNat = 42 ∨ (kindC.getD m.1 0).toNat = 45 := by decide
 exact fun m h => this ⟨m, h⟩
theorem tvalL_len : ∀ m, (tvalL.getD m []).length ≤ 12 := by
 have : ∀ p ∈ tvalL, p.length ≤ 12 := by decide
 intro m
 by_cases h : m < tvalL.length
 · exact this _ (by simp [h])
 · simp [h]
end Go.Proofs.YtibccdcemcgkeaaGreat
end
