/- Texts of this proof, put together: PKeep3, SKeep4, PKind, PCtl, KaV. -/
import Derived.Test.YtibccdcemcgkeaaGreatQ26
set_option linter.unusedVariables false
set_option linter.unusedSimpArgs false
namespace Go.Proofs.YtibccdcemcgkeaaGreat
section
section
variable {P : Program} {n : Nat} {L : Loc} {ty : TypeId}
theorem pv_quow {x y : Operand} {k : IntKind} {i j : Int} {t yt : TypeId} (hx : ev L x = some (.int k i)) (hy : ev L y = some (.int k j)) (h : 1 ≤ j) :
    PV P n L (.binOp .quo t x y yt) ty (.int k (k.wrap (i.tdiv j))) := pv_arith hx hy fun w => by
     have hj : ¬ (j = 0) := by omega
     simp [binOp, Op.intDiv, hj]
end
structure KFiles (whole : Bool) (j : Nat) (l : List (Bs × Bs)) : Prop where
 len : l.length ≤ 2
 hash : ∀ f ∈ l, (∃ n, f.2 = nameB n) ∨ (whole = false ∧ f.2 = [])
 name : ∀ f ∈ l, ∃ i, i < j ∧ f.1 = wordsL.getD i []
 rise : l.Pairwise (fun x y => blt x.1 y.1 = true)
theorem KFiles.snoc {whole : Bool} {j : Nat} {l : List (Bs × Bs)} {t : Bs × Bs} (h : KFiles whole j l) (hj : j < 6) (hl : l.length ≤ 1) (hk : (∃ n, t.2 = nameB n) ∨ (whole = false ∧ t.2 = [])) (hn : t.1 = wordsL.getD j []) : KFiles whole (j + 1) (l ++ [t]) := by
 obtain ⟨h1, h2, h3, h4⟩ := h
 refine ⟨by simp; omega, ?_, ?_, ?_⟩
 · intro x hx
   rcases List.mem_append.1 hx with e | e
   · exact h2 x e
   · rw [List.mem_singleton.1 e]; exact hk
 · intro x hx
   rcases List.mem_append.1 hx with e | e
   · obtain ⟨i, hi, e2⟩ := h3 x e
     exact ⟨i, by omega, e2⟩
   · rw [List.mem_singleton.1 e]; exact ⟨j, by omega, hn⟩
 · rw [List.pairwise_append]
   refine ⟨h4, by simp, fun a ha b hb => ?_⟩
   rw [List.mem_singleton.1 hb, hn]
   obtain ⟨i, hi, e2⟩ := h3 a ha
   rw [e2]
   exact words_rise i j hi hj
theorem KFiles.more {own : Bool} {j : Nat} {l : List (Bs × Bs)} (h : KFiles own j l) : KFiles own (j + 1) l := ⟨h.len, h.hash, fun t ht => by obtain ⟨i, hi, e⟩ := h.name t ht; exact ⟨i, by omega, e⟩, h.rise⟩
theorem KFiles.right {w : Bool} {l : List (Bs × Bs)} (h : KFiles w 6 l) : RightF w l := by
 refine ⟨fun i hi => ?_, by have := h.len; omega⟩
 have e : l.getD i ([], []) = l[i] := by simp [hi]
 have hm : l[i] ∈ l := List.getElem_mem hi
 obtain ⟨k, hk, hn⟩ := h.name _ hm
 refine ⟨by rw [e, hn]; exact (words_ok k hk).1, fun h0 => ?_, ?_⟩
 · have e2 : l.getD (i - 1) ([], []) = l[i - 1] := by simp [show i - 1 < l.length by omega]
   rw [e, e2]
   exact List.pairwise_iff_getElem.1 h.rise (i - 1) i (by omega) hi (by omega)
 · rw [e]
   rcases h.hash _ hm with ⟨n, e2⟩ | ⟨h1, h2⟩
   · left; rw [e2]; exact isN_name n
   · right; exact ⟨h1, h2⟩
structure KPars (j : Nat) (l : List Bs) : Prop where
 len : l.length ≤ j
 all : ∀ p ∈ l, ∃ n, p = nameB n
 two : l.Nodup
theorem KPars.snoc {j : Nat} {l : List Bs} {p : Bs} (h : KPars j l) (hl : l.length ≤ 1) (hp : ∃ n, p = nameB n) (hn : l = [] ∨ l.getD 0 [] ≠ p) : KPars (j + 1) (l ++ [p]) := by
 refine ⟨by have := h.len; simp; omega, ?_, ?_⟩
 · intro x hx
   rcases List.mem_append.1 hx with e | e
   · exact h.all x e
   · rw [List.mem_singleton.1 e]; exact hp
 · rw [List.nodup_append]
   refine ⟨h.two, by simp, fun a ha b hb => ?_⟩
   rw [List.mem_singleton.1 hb]
   cases l with
   | nil => cases ha
   | cons x r =>
     cases r with
     | nil =>
       rw [List.mem_singleton.1 ha]
       rcases hn with e | e
       · cases e
       · exact e
     | cons y r => simp at hl
theorem KPars.right {j : Nat} {l : List Bs} (h : KPars j l) (hj : j ≤ 2) : RightP l 3 := by
 refine ⟨fun i hi => ?_, by have := h.len; omega⟩
 have e : l.getD i [] = l[i] := by simp [hi]
 rw [e]
 obtain ⟨n, hn⟩ := h.all _ (List.getElem_mem hi)
 refine ⟨by rw [hn]; exact isN_name n, fun hm => ?_⟩
 obtain ⟨k, hk, ek⟩ := List.getElem_of_mem hm
 rw [List.getElem_take] at ek
 have hki : k < i := by rw [List.length_take] at hk; omega
 exact absurd ek ((List.pairwise_iff_getElem.1 h.two) k i (by omega) hi hki)
/-- A check-in of the keeper. -/
structure KCk (c : Ck) : Prop where
 right : RightK c
 base : c.base = [] ∨ ∃ n, c.base = nameB n
 files : ∀ f ∈ c.files, f.2 = [] ∨ ∃ n, f.2 = nameB n
 pars : ∀ p ∈ c.parents, ∃ n, p = nameB n
 z : CkZ c
theorem KCk.mk' {base com user : Bs} {date : Int} {fs : List (Bs × Bs)} {ps : List Bs} {ts : List Tg} (hb : base = [] ∨ ∃ n, base = nameB n) (hc : com.length ≤ 12) (hd : 0 ≤ date ∧ date ≤ 9) (hu : wordP user ∧ user.length ≤ 3)
    (hf : KFiles (decide (base = [])) 6 fs) (hp : KPars 2 ps) (ht : KTags true 6 ts) : KCk ⟨base, com, date, fs, ps, ts, user⟩ := by
 refine ⟨⟨?_, by dsimp only; omega, by dsimp only; omega, hf.right, hp.right (Nat.le_refl _), ht.right, hu.1⟩, hb, fun f h => ?_, hp.all, ?_⟩
 · rcases hb with h | ⟨n, h⟩
   · exact .inl h
   · right; dsimp only; rw [h]; exact isN_name n
 · rcases hf.hash f h with h | h
   · exact .inr h
   · exact .inl h.2
 · have h40 : ∀ n, (nameB n).length = 40 := fun n => shaB_len _
   refine ⟨?_, by dsimp only; omega, by dsimp only; omega, by have := hf.len; dsimp only; omega, fun f h => ?_, by have := hp.len; dsimp only; omega, fun p h => ?_, ht.z (Nat.le_refl _)⟩
   · rcases hb with h | ⟨n, h⟩
     · dsimp only; rw [h]; exact Nat.zero_le _
     · dsimp only; rw [h, h40]; omega
   · obtain ⟨k, hk, hn⟩ := hf.name f h
     have h1 := (words_ok k hk).2
     rw [← hn] at h1
     refine ⟨by omega, ?_⟩
     rcases hf.hash f h with ⟨n, h⟩ | h
     · rw [h, h40]; omega
     · rw [h.2]; exact Nat.zero_le _
   · obtain ⟨n, h⟩ := hp.all p h
     rw [h, h40]; omega
end
section
set_option maxRecDepth 100000
theorem zb26next0 {G : Prop} (h : G := by
    first
    | exact to_inv ⟨(((oa, oc), fs), j + 1), by dsimp only; omega, hK.more⟩ (by dsimp only; omega) ⟨rfl, rfl, rfl, rfl, rfl, rfl, trivial⟩ ent_pick
    | (have hsn := hK.snoc (t := (w, h)) hj6 (by omega) hh hw
       have hql2 : (fs ++ [((w, h) : Bs × Bs)]).length = fs.length + 1 := by simp
       refine to_inv ⟨(((a91, c91), fs ++ [(w, h)]), j + 1), by dsimp only; omega, hsn⟩ (by dsimp only; omega) ⟨rfl, rfl, rfl, rfl, rfl, rfl, trivial⟩ ?_
       dsimp only
       rw [hql2]
       exact ent_step (row_norm (by rfl) (by rw [fm_snoc]; rfl)) ent_pick)) : G := h
theorem zb26join13 {G : Prop} (h : G := by
    first
    | exact to_inv ⟨nameB (IntKind.i64.wrap ((files.getD j 0).tdiv 2)), .inl ⟨_, rfl⟩⟩ trivial ⟨rfl, rfl, rfl, rfl, rfl, rfl, rfl, trivial⟩ ent_pick
    | exact to_inv ⟨[], .inr ⟨decide_eq_false h77, rfl⟩⟩ trivial ⟨rfl, rfl, rfl, rfl, rfl, rfl, rfl, trivial⟩ ent_pick) : G := h
theorem zb26next1 {G : Prop} (h : G := by
    first
    | exact to_inv ⟨(((qa, qc), ps), m + 1), by dsimp only; omega, by dsimp only; omega, hpc, ⟨by have := hP.len; dsimp only; omega, hP.all, hP.two⟩⟩ (by dsimp only; omega) ⟨rfl, rfl, rfl, rfl, trivial⟩ ent_pick
    | (have hsn := hP.snoc (p := nameB (pars.getD m 0)) (by omega) ⟨_, rfl⟩ (by first | exact .inl (List.eq_nil_of_length_eq_zero (by omega)) | exact .inr (by assumption))
       have hql2 : (ps ++ [nameB (pars.getD m 0)]).length = ps.length + 1 := by simp
       refine to_inv ⟨(((a127, c127), ps ++ [nameB (pars.getD m 0)]), m + 1), by dsimp only; omega, by dsimp only; omega, by dsimp only; rw [hql2]; exact hcap127, hsn⟩ (by dsimp only; omega) ⟨rfl, rfl, rfl, rfl, trivial⟩ ?_
       dsimp only
       rw [hql2]
       exact ent_step (row_norm (by rfl) (by simp)) ent_pick)) : G := h
theorem zb26ret {G : Prop} (h : G := by exact fin_ret (⟨oa, oc, qa, qc, oa2, oc2⟩, ⟨bs, (textB tb text).take 12, withinI d 0 9, fs, ps, ts, usersL.getD ui []⟩) (vs := [_]) (Cs := [Ce b2 30 [vS bs, vS ((textB tb text).take 12), vI (withinI d 0 9), .slice oa fs.length oc, .slice qa ps.length qc, .slice oa2 ts.length oc2, vS (usersL.getD ui [])]]) rfl (.cell (l := [vS bs, vS ((textB tb text).take 12), vI (withinI d 0 9), .slice oa fs.length oc, .slice qa ps.length qc, .slice oa2 ts.length oc2, vS (usersL.getD ui [])]) (us := [vS bs, vS ((textB tb text).take 12), vI (withinI d 0 9), .slice oa fs.length oc, .slice qa ps.length qc, .slice oa2 ts.length oc2, vS (usersL.getD ui [])]) rfl (shows_ce (T := 30)) Tryz.underlying30 rfl ti30 (by exact Nat.le_of_ble_eq_true rfl) rfl .nil) rfl ⟨hKc, hpc⟩ ent_pick) : G := h
theorem zb26join6 {G : Prop} (h : G := by
    first
    | exact to_inv ⟨nameB (IntKind.i64.wrap (base.tdiv 4)), .inr ⟨_, rfl⟩⟩ trivial ⟨rfl, rfl, rfl, trivial⟩ ent_pick
    | exact to_inv ⟨[], .inl rfl⟩ trivial ⟨rfl, rfl, rfl, trivial⟩ ent_pick) : G := h
theorem zb26join2 {G : Prop} (h : G := by exact to_inv b3 trivial ⟨rfl, rfl, rfl, trivial⟩ ent_pick) : G := h
set_option maxHeartbeats 4000000 in
theorem keep_Checkin_sp {Bx Bf Bp Bt Bv : HP} {xa fa0 pa0 ta va : Option Addr} (base d u tb : Int) (xc fc0 pc0 tc vc : Nat) (text files pars tags vals : List Int) (hx : text.length ≤ 9223372036854775807) (hf : files.length ≤ 9223372036854775807) (hp : pars.length ≤ 9223372036854775807) (ht : tags.length ≤ 9223372036854775807) (hv : vals.length ≤ 9223372036854775807)
    (shx : SlA Bx xa (text.map vI)) (shf : SlA Bf fa0 (files.map vI)) (shp : SlA Bp pa0 (pars.map vI)) (sht : SlA Bt ta (tags.map vI)) (shv : SlA Bv va (vals.map vI)) :
    Sp Tryz.prog 26 [.agg #[vI base, vI d, vI u, vI tb, .slice xa text.length xc, .slice fa0 files.length fc0, .slice pa0 pars.length pc0, .slice ta tags.length tc, .slice va vals.length vc]] [Bx, Bf, Bp, Bt, Bv] (X := CkA × Ck) (fun x => .agg (ckVals x.1 x.2).toArray) (fun x => KCk x.2 ∧ x.2.parents.length ≤ x.1.pc) (fun x => ckH x ++ [Bx, Bf, Bp, Bt, Bv]) := by
 have hTO := keep_tagOps_sp tc vc tags vals true ht hv sht shv
 have hTx := keep_Text_sp xc tb text hx shx
 have htl := textB_len tb text
 haveI : ∀ r, RdSl fa0 (files.map vI) (Bf :: r) := fun r => ⟨⟨Bf, shf, .here⟩⟩
 haveI : ∀ r, RdSl pa0 (pars.map vI) (Bp :: r) := fun r => ⟨⟨Bp, shp, .here⟩⟩
 have hw1 := withinI_in (n := d) (show (0 : Int) ≤ 9 by omega)
 have hw2 := withinI_in (n := u) (show (0 : Int) ≤ 1 by omega)
 obtain ⟨ui, hui⟩ : ∃ k : Nat, withinI u 0 1 = (k : Int) := ⟨(withinI u 0 1).toNat, by omega⟩
 have hu2 : ui < 2 := by omega
 have hul : usersL.length = 2 := rfl
 have huo := users_ok ui hu2
 have hcom : ((textB tb text).take 12).length ≤ 12 := by rw [List.length_take]; omega
 refine Sp.body (n := 136) Tryz.call26 Tryz.func26 rfl rfl rfl ?_
 refine Qc (k:=Zx [_, _, _, _, _, _, _, _, _] (k:=fun b1 => Zc [vS [], vS [], .int .i64 0, .slice none 0 0, .slice none 0 0, .slice none 0 0, vS []] (k:=fun b2 => Wq ?_)))
 refine p_cut (fun (b3 : Nat) => [(1, .pointer (some ⟨b1, 0, none⟩)), (2, .pointer (some ⟨b2, 0, none⟩)), (3, .pointer (some ⟨b3, 0, none⟩))]) (fun (b3 : Nat) => [Ce b3 30 [vS [], vS [], vI (withinI d 0 9), .slice none 0 0, .slice none 0 0, .slice none 0 0, vS (usersL.getD ui [])], Ce b2 30 [vS [], vS [], vI 0, .slice none 0 0, .slice none 0 0, .slice none 0 0, vS []], Ce b1 41 [vI base, vI d, vI u, vI tb, .slice xa text.length xc, .slice fa0 files.length fc0, .slice pa0 pars.length pc0, .slice ta tags.length tc, .slice va vals.length vc], Bx, Bf, Bp, Bt, Bv]) rfl (fun b3 => ?_) ?_
 ·
  try dsimp only
  refine Qc (k:=Vf 3 39 (k:=Zm [_, _] (k:=?_)))
  refine r_call1 hTx rfl rfl rfl ?_
  refine Vv (k:=Wq (Qc (k:=Qv (k:=Qv (k:=?_)))))
  refine wo_pv (pv_slice_tom (m := min (textB tb text).length 12) Tryz.underlying9 rfl rfl (by omega) (by omega)) rfl ?_
  rw [take_minl]
  refine Vf 1 9 (k:=Zo (k:=Wq ?_))
  refine p_cut (fun (bs : { bs : Bs // bs = [] ∨ ∃ n, bs = nameB n }) => [(1, .pointer (some ⟨b1, 0, none⟩)), (2, .pointer (some ⟨b2, 0, none⟩)), (3, .pointer (some ⟨b3, 0, none⟩))]) (fun (bs : { bs : Bs // bs = [] ∨ ∃ n, bs = nameB n }) => [Ce b3 30 [vS bs.1, vS ((textB tb text).take 12), vI (withinI d 0 9), .slice none 0 0, .slice none 0 0, .slice none 0 0, vS (usersL.getD ui [])], Ce b2 30 [vS [], vS [], vI 0, .slice none 0 0, .slice none 0 0, .slice none 0 0, vS []], Ce b1 41 [vI base, vI d, vI u, vI tb, .slice xa text.length xc, .slice fa0 files.length fc0, .slice pa0 pars.length pc0, .slice ta tags.length tc, .slice va vals.length vc], Bx, Bf, Bp, Bt, Bv]) rfl (fun bs => ?_) ?_
  ·
   obtain ⟨bs, hbs⟩ := bs
   dsimp only
   try dsimp only
   refine Za (k:=Qc (k:=?_))
   refine r_callX keep_words_sp rfl rfl rfl (fun x38 _ => ?_)
   refine Qv (k:=Wq (Zb (k:=?_)))
   refine p_loop (fun (i : { x : ((Option Addr × Nat) × List (Bs × Bs)) × Nat // x.2 ≤ 6 ∧ KFiles (decide (bs = [])) x.2 x.1.2 }) => [(1, .pointer (some ⟨b1, 0, none⟩)), (2, .pointer (some ⟨b2, 0, none⟩)), (3, .pointer (some ⟨b3, 0, none⟩)), (38, .slice (some ⟨x38, 0, none⟩) 6 6), (39, vI 6), (40, vI i.1.2)]) (fun (i : { x : ((Option Addr × Nat) × List (Bs × Bs)) × Nat // x.2 ≤ 6 ∧ KFiles (decide (bs = [])) x.2 x.1.2 }) => [Row 25 2 (.slice i.1.1.1.1 (i.1.1.2).length i.1.1.1.2) (i.1.1.2).length ((i.1.1.2).flatMap flCells), Ce b3 30 [vS bs, vS ((textB tb text).take 12), vI (withinI d 0 9), .slice i.1.1.1.1 (i.1.1.2).length i.1.1.1.2, .slice none 0 0, .slice none 0 0, vS (usersL.getD ui [])], Ce x38 9 (wordsL.map vS), Ce b2 30 [vS [], vS [], vI 0, .slice none 0 0, .slice none 0 0, .slice none 0 0, vS []], Ce b1 41 [vI base, vI d, vI u, vI tb, .slice xa text.length xc, .slice fa0 files.length fc0, .slice pa0 pars.length pc0, .slice ta tags.length tc, .slice va vals.length vc], Bx, Bf, Bp, Bt, Bv]) (fun (i : { x : ((Option Addr × Nat) × List (Bs × Bs)) × Nat // x.2 ≤ 6 ∧ KFiles (decide (bs = [])) x.2 x.1.2 }) => 6 - i.1.2) rfl (⟨(((none, 0), []), 0), Nat.zero_le _, ⟨Nat.zero_le _, (fun _ h => by cases h), (fun _ h => by cases h), .nil⟩⟩) ?_ ?_ (fun i => ?_)
   · exact ⟨rfl, rfl, rfl, rfl, rfl, rfl, trivial⟩
   ·
    exact (row_nil (e := 25) (sz := 2)).trans (show Ent _ [Row 25 2 (.slice none 0 0) 0 [], Ce b3 30 [vS bs, vS ((textB tb text).take 12), vI (withinI d 0 9), .slice none 0 0, .slice none 0 0, .slice none 0 0, vS (usersL.getD ui [])], Ce x38 9 (wordsL.map vS), Ce b2 30 [vS [], vS [], vI 0, .slice none 0 0, .slice none 0 0, .slice none 0 0, vS []], Ce b1 41 [vI base, vI d, vI u, vI tb, .slice xa text.length xc, .slice fa0 files.length fc0, .slice pa0 pars.length pc0, .slice ta tags.length tc, .slice va vals.length vc], Bx, Bf, Bp, Bt, Bv] from ent_pick)
   obtain ⟨⟨⟨⟨oa, oc⟩, fs⟩, j⟩, hj, hK⟩ := i
   dsimp only at hj hK ⊢
   have hfl := hK.len
   try dsimp only
   refine Qc (k:=Vv (k:=Wq (Za (k:=Zi (t:=fun h41 => ?_) (f:=fun h41 => ?_)))))
   ·
    refine Zk (k:=Ya (Za (k:=Zb (k:=Za (k:=?_)))))
    have hj6 : j < 6 := by omega
    have hwl : wordsL.length = 6 := rfl
    obtain ⟨w, hw⟩ : ∃ w, w = wordsL.getD j [] := ⟨_, rfl⟩
    refine Zr (k:=Vv (k:=Ye 1 (k:=Yl (hv:=by exact get_mapD [] (m := j) (by omega)) (k:=?_))))
    rw [← hw]
    refine Qv (k:=Wq (Za (k:=Qc (k:=Vv (k:=Qx 5 37 (k:=Qv (k:=Vv (k:=?_))))))))
    refine Gi 5 (t:=fun h50 => ?_) (f:=fun h50 => ?_)
    ·
     refine O1 (k:=O1 (k:=O1 (k:=O1 (k:=O1 (k:=O1 (k:=O1 (k:=P1 (k:=Vv (k:=O1 (k:=O1 (k:=O1 (k:=?_))))))))))))
     refine O1 (k:=P1 (k:=Wq (Z1 (k:=Ze (k:=Xa (Xb (Ya (Zr (k:=Qv (k:=Wn ?_))))))))))
     exact zb26next0
    ·
     refine I0 (k:=Vf 5 37 (k:=I0 (k:=Zd (k:=J0 (k:=I0 (k:=Ye 1 (k:=I0 (k:=Yl (hv:=by exact get_mapD 0 (m := j) (by omega)) (k:=I0 (k:=?_))))))))))
     refine wo_pv (pv_and rfl rfl) rfl ?_
     refine J0 (k:=P0 (k:=Vv (k:=Gi 14 (t:=fun h59 => ?_) (f:=fun h59 => ?_))))
     ·
      refine O1 (k:=O1 (k:=O1 (k:=O1 (k:=P1 (k:=Wq (Z1 (k:=Ze (k:=Xa (Xb (Ya (Zr (k:=?_))))))))))))
      refine Qv (k:=Wn ?_)
      exact zb26next0
     ·
      refine I0 (k:=Vf 3 26 (k:=I0 (k:=Zd (k:=J0 (k:=J0 (k:=P0 (k:=Wq (Zi (t:=fun h64 => ?_) (f:=fun h64 => ?_)))))))))
      ·
       refine Ze (k:=Xa (Xb (Ya (Zr (k:=Qv (k:=Wn ?_))))))
       exact zb26next0
      ·
       refine Zk (k:=Ya (Qc (k:=Vv (k:=Qx 5 37 (k:=Vv (k:=Ye 1 (k:=Yl (hv:=by exact get_mapD 0 (m := j) (by omega)) (k:=?_))))))))
       refine wo_pv (pv_quow rfl rfl (by omega)) rfl ?_
       refine r_callF (keep_Name_sp _) rfl rfl rfl ?_
       refine Vx (Ps [_, _]) (k:=Zc [vS [], vS []] (k:=fun b7 => Zp (k:=Wq ?_)))
       refine p_cut (fun (h : { h : Bs // (∃ n, h = nameB n) ∨ (decide (bs = []) = false ∧ h = []) }) => [(1, .pointer (some ⟨b1, 0, none⟩)), (2, .pointer (some ⟨b2, 0, none⟩)), (3, .pointer (some ⟨b3, 0, none⟩)), (7, .pointer (some ⟨b7, 0, none⟩)), (38, .slice (some ⟨x38, 0, none⟩) 6 6), (39, vI 6), (40, vI j)]) (fun (h : { h : Bs // (∃ n, h = nameB n) ∨ (decide (bs = []) = false ∧ h = []) }) => [Ce b7 25 [vS w, vS h.1], Row 25 2 (.slice oa (fs).length oc) (fs).length ((fs).flatMap flCells), Ce b3 30 [vS bs, vS ((textB tb text).take 12), vI (withinI d 0 9), .slice oa (fs).length oc, .slice none 0 0, .slice none 0 0, vS (usersL.getD ui [])], Ce x38 9 (wordsL.map vS), Ce b2 30 [vS [], vS [], vI 0, .slice none 0 0, .slice none 0 0, .slice none 0 0, vS []], Ce b1 41 [vI base, vI d, vI u, vI tb, .slice xa text.length xc, .slice fa0 files.length fc0, .slice pa0 pars.length pc0, .slice ta tags.length tc, .slice va vals.length vc], Bx, Bf, Bp, Bt, Bv]) rfl (fun h => ?_) ?_
       ·
        obtain ⟨h, hh⟩ := h
        dsimp only
        try dsimp only
        refine Zr (k:=Qx 3 26 (k:=Zm [_, _] (k:=Zv [_] (cs := [_, _]) (k:=fun b90 => ?_))))
        refine r_append1 (sz := 2) (bytes := 32) Tryz.underlying26 ti25 rfl rfl rfl rfl rfl rfl rfl (by rfl) (by rfl) (by omega) (by simp only [maxLen]; omega) rfl (fun a91 c91 => ?_)
        refine Vf 3 26 (k:=Zo (k:=Wn (Yb (Ya (Zr (k:=Qv (k:=Wn ?_)))))))
        exact zb26next0
       ·
        refine Qc (k:=Qx 0 9 (k:=Qv (k:=Gi 3 (t:=fun h77 => ?_) (f:=fun h77 => ?_))))
        ·
         refine I1 (k:=Vf 5 37 (k:=I1 (k:=Zd (k:=J1 (k:=I1 (k:=Ye 1 (k:=I1 (k:=Yl (hv:=by exact get_mapD 0 (m := j) (by omega)) (k:=I1 (k:=?_))))))))))
         refine wo_pv (pv_remt rfl rfl (by omega)) rfl ?_
         refine J1 (k:=P1 (k:=Wq (Zi (t:=fun h85 => ?_) (f:=fun h85 => ?_))))
         ·
          refine Zr (k:=Vf 1 9 (k:=Zo (k:=Wn ?_)))
          exact zb26join13
         ·
          refine Zk (k:=?_)
          exact zb26join13
        ·
         refine O0 (k:=O0 (k:=O0 (k:=O0 (k:=O0 (k:=O0 (k:=O0 (k:=P0 (k:=Wq (Z0 (k:=Zk (k:=?_)))))))))))
         exact zb26join13
   ·
    refine Ze (k:=Xa (Xi (Xb (Ya (Za (k:=Za (k:=?_)))))))
    have hj6 : j = 6 := by omega
    subst hj6
    refine Zr (k:=Vv (k:=Wq (Zb (k:=?_))))
    refine p_loop (fun (i : { x : ((Option Addr × Nat) × List Bs) × Nat // x.2 ≤ 2 ∧ x.2 ≤ pars.length ∧ x.1.2.length ≤ x.1.1.2 ∧ KPars x.2 x.1.2 }) => [(1, .pointer (some ⟨b1, 0, none⟩)), (2, .pointer (some ⟨b2, 0, none⟩)), (3, .pointer (some ⟨b3, 0, none⟩)), (8, vI i.1.2)]) (fun (i : { x : ((Option Addr × Nat) × List Bs) × Nat // x.2 ≤ 2 ∧ x.2 ≤ pars.length ∧ x.1.2.length ≤ x.1.1.2 ∧ KPars x.2 x.1.2 }) => [Row 9 1 (.slice i.1.1.1.1 (i.1.1.2).length i.1.1.1.2) (i.1.1.2).length ((i.1.1.2).map vS), Row 25 2 (.slice oa (fs).length oc) (fs).length ((fs).flatMap flCells), Ce b3 30 [vS bs, vS ((textB tb text).take 12), vI (withinI d 0 9), .slice oa (fs).length oc, .slice i.1.1.1.1 (i.1.1.2).length i.1.1.1.2, .slice none 0 0, vS (usersL.getD ui [])], Ce b2 30 [vS [], vS [], vI 0, .slice none 0 0, .slice none 0 0, .slice none 0 0, vS []], Ce b1 41 [vI base, vI d, vI u, vI tb, .slice xa text.length xc, .slice fa0 files.length fc0, .slice pa0 pars.length pc0, .slice ta tags.length tc, .slice va vals.length vc], Bx, Bf, Bp, Bt, Bv]) (fun (i : { x : ((Option Addr × Nat) × List Bs) × Nat // x.2 ≤ 2 ∧ x.2 ≤ pars.length ∧ x.1.2.length ≤ x.1.1.2 ∧ KPars x.2 x.1.2 }) => 2 - i.1.2) rfl (⟨(((none, 0), []), 0), Nat.zero_le _, Nat.zero_le _, Nat.zero_le _, ⟨Nat.zero_le _, (fun _ h => by cases h), .nil⟩⟩) ?_ ?_ (fun i => ?_)
    · exact ⟨rfl, rfl, rfl, rfl, trivial⟩
    ·
     exact (row_nil (e := 9) (sz := 1)).trans (show Ent _ [Row 9 1 (.slice none 0 0) 0 [], Row 25 2 (.slice oa (fs).length oc) (fs).length ((fs).flatMap flCells), Ce b3 30 [vS bs, vS ((textB tb text).take 12), vI (withinI d 0 9), .slice oa (fs).length oc, .slice none 0 0, .slice none 0 0, vS (usersL.getD ui [])], Ce b2 30 [vS [], vS [], vI 0, .slice none 0 0, .slice none 0 0, .slice none 0 0, vS []], Ce b1 41 [vI base, vI d, vI u, vI tb, .slice xa text.length xc, .slice fa0 files.length fc0, .slice pa0 pars.length pc0, .slice ta tags.length tc, .slice va vals.length vc], Bx, Bf, Bp, Bt, Bv] from ent_pick)
    obtain ⟨⟨⟨⟨qa, qc⟩, ps⟩, m⟩, hm, hmp, hpc, hP⟩ := i
    dsimp only at hm hmp hpc hP ⊢
    have hpl := hP.len
    try dsimp only
    refine Za (k:=Qc (k:=Vv (k:=Qx 6 37 (k:=Qv (k:=Vv (k:=Gi 5 (t:=fun h99 => ?_) (f:=fun h99 => ?_)))))))
    ·
     refine J1 (k:=J1 (k:=P1 (k:=Wq (Zi (t:=fun h102 => ?_) (f:=fun h102 => ?_)))))
     ·
      refine Zk (k:=Ya (Za (k:=Zb (k:=Qc (k:=Qx 6 37 (k:=Vv (k:=Ye 1 (k:=Yl (hv:=by exact get_mapD 0 (m := m) (by omega)) (k:=?_)))))))))
      refine r_callF (keep_Name_sp _) rfl rfl rfl ?_
      refine Vv (k:=Wq (Qc (k:=Qx 4 27 (k:=Qv (k:=Vv (k:=Gi 4 (t:=fun h115 => ?_) (f:=fun h115 => ?_)))))))
      ·
       refine O1 (k:=O1 (k:=O1 (k:=O1 (k:=O1 (k:=O1 (k:=P1 (k:=Wq (Z1 (k:=Zr (k:=Qx 4 27 (k:=?_)))))))))))
       refine Vv (k:=Zv [_] (cs := [_]) (k:=fun b126 => ?_))
       refine r_append1 (sz := 1) (bytes := 16) Tryz.underlying27 ti9 rfl rfl rfl rfl rfl rfl rfl (by rfl) (by rfl) (by omega) (by simp only [maxLen]; omega) rfl (fun a127 c127 => ?_)
       refine wo_know (A := Row 9 1 (.slice a127 (ps.length + 1) c127) (ps.length + 1) (ps.map vS ++ [vS (nameB (pars.getD m 0))])) HasC.get row_know (fun hk127 => ?_)
       have hcap127 := hk127.1
       refine Vf 4 27 (k:=Zo (k:=Wn (Yb (Ya (Zr (k:=Qv (k:=Vv (k:=Wn ?_))))))))
       exact zb26next1
      ·
       refine I0 (k:=Vf 4 27 (k:=I0 (k:=Zd (k:=I0 (k:=Ye 1 (m := 0) (k:=I0 (k:=Yl (hv:=by exact get_mapD [] (m := 0) (by omega)) (k:=J0 (k:=J0 (k:=?_))))))))))
       refine P0 (k:=Wq (Zi (t:=fun h122 => ?_) (f:=fun h122 => ?_)))
       ·
        refine Zr (k:=Qx 4 27 (k:=Vv (k:=Zv [_] (cs := [_]) (k:=fun b126 => ?_))))
        refine r_append1 (sz := 1) (bytes := 16) Tryz.underlying27 ti9 rfl rfl rfl rfl rfl rfl rfl (by rfl) (by rfl) (by omega) (by simp only [maxLen]; omega) rfl (fun a127 c127 => ?_)
        refine wo_know (A := Row 9 1 (.slice a127 (ps.length + 1) c127) (ps.length + 1) (ps.map vS ++ [vS (nameB (pars.getD m 0))])) HasC.get row_know (fun hk127 => ?_)
        have hcap127 := hk127.1
        refine Vf 4 27 (k:=Zo (k:=Wn (Yb (Ya (Zr (k:=Qv (k:=Vv (k:=Wn ?_))))))))
        exact zb26next1
       ·
        refine Zk (k:=Yb (Ya (Zr (k:=Qv (k:=Vv (k:=Wn ?_))))))
        exact zb26next1
     ·
      refine Ze (k:=Xa (Xi (Xb (Ya (Za (k:=?_))))))
      refine wc_know (A := Row 9 1 (.slice qa (ps).length qc) (ps).length ((ps).map vS)) HasC.get row_know (fun hkp => ?_)
      refine wc_frzR qa ?_
      refine Zr (k:=Qx 7 37 (k:=Qx 8 37 (k:=?_)))
      refine r_callX hTO rfl rfl rfl (fun x133 hx133 => ?_)
      obtain ⟨⟨oa2, oc2⟩, ts⟩ := x133
      dsimp only [tagV, tagH] at hx133 ⊢
      have hKc : KCk ⟨bs, (textB tb text).take 12, withinI d 0 9, fs, ps, ts, usersL.getD ui []⟩ := KCk.mk' hbs hcom hw1 huo hK ⟨by omega, hP.all, hP.two⟩ hx133
      refine Vf 5 28 (k:=Zo (k:=Wq (Qc (k:=Zm [_, _, _, _, _, _, _] (k:=Zp (k:=Wq (Zt (k:=?_))))))))
      exact zb26ret
    ·
     refine O0 (k:=O0 (k:=P0 (k:=Wq (Z0 (k:=Ze (k:=Xa (Xi (Xb (Ya (Za (k:=?_)))))))))))
     refine wc_know (A := Row 9 1 (.slice qa (ps).length qc) (ps).length ((ps).map vS)) HasC.get row_know (fun hkp => ?_)
     refine wc_frzR qa ?_
     refine Zr (k:=Qx 7 37 (k:=Qx 8 37 (k:=?_)))
     refine r_callX hTO rfl rfl rfl (fun x133 hx133 => ?_)
     obtain ⟨⟨oa2, oc2⟩, ts⟩ := x133
     dsimp only [tagV, tagH] at hx133 ⊢
     have hKc : KCk ⟨bs, (textB tb text).take 12, withinI d 0 9, fs, ps, ts, usersL.getD ui []⟩ := KCk.mk' hbs hcom hw1 huo hK ⟨by omega, hP.all, hP.two⟩ hx133
     refine Vf 5 28 (k:=Zo (k:=Wq (Qc (k:=Zm [_, _, _, _, _, _, _] (k:=Zp (k:=Wq (Zt (k:=?_))))))))
     exact zb26ret
  ·
   refine Qc (k:=Qx 0 3 (k:=?_))
   refine wo_pv (pv_remt rfl rfl (by omega)) rfl ?_
   refine Vv (k:=Wq (Zi (t:=fun h32 => ?_) (f:=fun h32 => ?_)))
   ·
    refine Zr (k:=Qx 0 3 (k:=?_))
    refine wo_pv (pv_quow rfl rfl (by omega)) rfl ?_
    refine r_callF (keep_Name_sp _) rfl rfl rfl ?_
    refine Vf 0 9 (k:=Zo (k:=Wn ?_))
    exact zb26join6
   ·
    refine Zk (k:=?_)
    exact zb26join6
 ·
  refine Dw [Ce b1 41 [vI base, vI d, vI u, vI tb, .slice xa text.length xc, .slice fa0 files.length fc0, .slice pa0 pars.length pc0, .slice ta tags.length tc, .slice va vals.length vc]] (k:=?_)
  refine Di 0 (t:=Uf 1 3) (k:=Di 1 (t:=Ul) (k:=Di 4 (t:=Uf 2 3) (k:=Di 5 (t:=Ul) (k:=?_))))
  refine d_next3 2 3 10 (by kernel_rfl) rfl rfl rfl ?_ ?_ ?_
  ·
   refine an_callF (book_Within_sp d 0 9 (by omega) (by omega) (by omega)) rfl rfl rfl ?_
   refine d_next3 3 6 10 (by kernel_rfl) rfl rfl rfl ?_ ?_ ?_
   ·
    refine Nl [_, _] (cs := [_, _]) (k:=fun b13 => ?_)
    refine d_next2 6 10 (by kernel_rfl) rfl rfl ?_ ?_
    ·
     refine an_callF (book_Within_sp u 0 1 (by omega) (by omega) (by omega)) rfl rfl rfl ?_
     rw [hui]
     refine d_next2 7 10 (by kernel_rfl) rfl rfl ?_ ?_
     ·
      refine Ne 1 ui (k:=?_)
      refine d_next2 8 10 (by kernel_rfl) rfl rfl ?_ ?_
      ·
       refine Nm (hv:=by exact get_mapD (f := vS) [] (l := usersL) (m := ui) hu2) (k:=Di 9 (t:=Ux (Ps [vS [], vS [], _, .slice none 0 0, .slice none 0 0, .slice none 0 0, _])) (k:=Dn 10 (k:=Nc [vS [], vS [], .int .i64 0, .slice none 0 0, .slice none 0 0, .slice none 0 0, vS []] (k:=fun b3 => Dn 11 (k:=Na (k:=Dd (k:=?_)))))))
       exact zb26join2
      ·
       refine Nc [vS [], vS [], .int .i64 0, .slice none 0 0, .slice none 0 0, .slice none 0 0, vS []] (k:=fun b3 => Dn 8 (k:=Nm (hv:=by exact get_mapD (f := vS) [] (l := usersL) (m := ui) hu2) (k:=Di 9 (t:=Ux (Ps [vS [], vS [], _, .slice none 0 0, .slice none 0 0, .slice none 0 0, _])) (k:=Dn 11 (k:=Na (k:=Dd (k:=?_)))))))
       exact zb26join2
     ·
      refine Nc [vS [], vS [], .int .i64 0, .slice none 0 0, .slice none 0 0, .slice none 0 0, vS []] (k:=fun b3 => Dn 7 (k:=Ne 1 ui (k:=Dn 8 (k:=Nm (hv:=by exact get_mapD (f := vS) [] (l := usersL) (m := ui) hu2) (k:=Di 9 (t:=Ux (Ps [vS [], vS [], _, .slice none 0 0, .slice none 0 0, .slice none 0 0, _])) (k:=Dn 11 (k:=Na (k:=Dd (k:=?_)))))))))
      exact zb26join2
    ·
     refine Nc [vS [], vS [], .int .i64 0, .slice none 0 0, .slice none 0 0, .slice none 0 0, vS []] (k:=fun b3 => Dn 6 (k:=?_))
     refine an_callF (book_Within_sp u 0 1 (by omega) (by omega) (by omega)) rfl rfl rfl ?_
     rw [hui]
     refine Dn 7 (k:=Ne 1 ui (k:=Dn 8 (k:=Nm (hv:=by exact get_mapD (f := vS) [] (l := usersL) (m := ui) hu2) (k:=Di 9 (t:=Ux (Ps [vS [], vS [], _, .slice none 0 0, .slice none 0 0, .slice none 0 0, _])) (k:=Dn 11 (k:=Na (k:=Dd (k:=?_))))))))
     exact zb26join2
   ·
    refine an_callF (book_Within_sp u 0 1 (by omega) (by omega) (by omega)) rfl rfl rfl ?_
    rw [hui]
    refine d_next2 3 10 (by kernel_rfl) rfl rfl ?_ ?_
    ·
     refine Nl [_, _] (cs := [_, _]) (k:=fun b13 => ?_)
     refine d_next2 7 10 (by kernel_rfl) rfl rfl ?_ ?_
     ·
      refine Ne 1 ui (k:=?_)
      refine d_next2 8 10 (by kernel_rfl) rfl rfl ?_ ?_
      ·
       refine Nm (hv:=by exact get_mapD (f := vS) [] (l := usersL) (m := ui) hu2) (k:=Di 9 (t:=Ux (Ps [vS [], vS [], _, .slice none 0 0, .slice none 0 0, .slice none 0 0, _])) (k:=Dn 10 (k:=Nc [vS [], vS [], .int .i64 0, .slice none 0 0, .slice none 0 0, .slice none 0 0, vS []] (k:=fun b3 => Dn 11 (k:=Na (k:=Dd (k:=?_)))))))
       exact zb26join2
      ·
       refine Nc [vS [], vS [], .int .i64 0, .slice none 0 0, .slice none 0 0, .slice none 0 0, vS []] (k:=fun b3 => Dn 8 (k:=Nm (hv:=by exact get_mapD (f := vS) [] (l := usersL) (m := ui) hu2) (k:=Di 9 (t:=Ux (Ps [vS [], vS [], _, .slice none 0 0, .slice none 0 0, .slice none 0 0, _])) (k:=Dn 11 (k:=Na (k:=Dd (k:=?_)))))))
       exact zb26join2
     ·
      refine Nc [vS [], vS [], .int .i64 0, .slice none 0 0, .slice none 0 0, .slice none 0 0, vS []] (k:=fun b3 => Dn 7 (k:=Ne 1 ui (k:=Dn 8 (k:=Nm (hv:=by exact get_mapD (f := vS) [] (l := usersL) (m := ui) hu2) (k:=Di 9 (t:=Ux (Ps [vS [], vS [], _, .slice none 0 0, .slice none 0 0, .slice none 0 0, _])) (k:=Dn 11 (k:=Na (k:=Dd (k:=?_)))))))))
      exact zb26join2
    ·
     refine Nc [vS [], vS [], .int .i64 0, .slice none 0 0, .slice none 0 0, .slice none 0 0, vS []] (k:=fun b3 => Dn 3 (k:=Nl [_, _] (cs := [_, _]) (k:=fun b13 => Dn 7 (k:=Ne 1 ui (k:=Dn 8 (k:=Nm (hv:=by exact get_mapD (f := vS) [] (l := usersL) (m := ui) hu2) (k:=Di 9 (t:=Ux (Ps [vS [], vS [], _, .slice none 0 0, .slice none 0 0, .slice none 0 0, _])) (k:=Dn 11 (k:=Na (k:=Dd (k:=?_)))))))))))
     exact zb26join2
   ·
    refine Nc [vS [], vS [], .int .i64 0, .slice none 0 0, .slice none 0 0, .slice none 0 0, vS []] (k:=fun b3 => ?_)
    refine d_next2 3 6 (by kernel_rfl) rfl rfl ?_ ?_
    ·
     refine Nl [_, _] (cs := [_, _]) (k:=fun b13 => Dn 6 (k:=?_))
     refine an_callF (book_Within_sp u 0 1 (by omega) (by omega) (by omega)) rfl rfl rfl ?_
     rw [hui]
     refine Dn 7 (k:=Ne 1 ui (k:=Dn 8 (k:=Nm (hv:=by exact get_mapD (f := vS) [] (l := usersL) (m := ui) hu2) (k:=Di 9 (t:=Ux (Ps [vS [], vS [], _, .slice none 0 0, .slice none 0 0, .slice none 0 0, _])) (k:=Dn 11 (k:=Na (k:=Dd (k:=?_))))))))
     exact zb26join2
    ·
     refine an_callF (book_Within_sp u 0 1 (by omega) (by omega) (by omega)) rfl rfl rfl ?_
     rw [hui]
     refine Dn 3 (k:=Nl [_, _] (cs := [_, _]) (k:=fun b13 => Dn 7 (k:=Ne 1 ui (k:=Dn 8 (k:=Nm (hv:=by exact get_mapD (f := vS) [] (l := usersL) (m := ui) hu2) (k:=Di 9 (t:=Ux (Ps [vS [], vS [], _, .slice none 0 0, .slice none 0 0, .slice none 0 0, _])) (k:=Dn 11 (k:=Na (k:=Dd (k:=?_))))))))))
     exact zb26join2
  ·
   refine Nl [_, _] (cs := [_, _]) (k:=fun b13 => ?_)
   refine d_next2 2 10 (by kernel_rfl) rfl rfl ?_ ?_
   ·
    refine an_callF (book_Within_sp d 0 9 (by omega) (by omega) (by omega)) rfl rfl rfl ?_
    refine d_next2 6 10 (by kernel_rfl) rfl rfl ?_ ?_
    ·
     refine an_callF (book_Within_sp u 0 1 (by omega) (by omega) (by omega)) rfl rfl rfl ?_
     rw [hui]
     refine d_next2 7 10 (by kernel_rfl) rfl rfl ?_ ?_
     ·
      refine Ne 1 ui (k:=?_)
      refine d_next2 8 10 (by kernel_rfl) rfl rfl ?_ ?_
      ·
       refine Nm (hv:=by exact get_mapD (f := vS) [] (l := usersL) (m := ui) hu2) (k:=Di 9 (t:=Ux (Ps [vS [], vS [], _, .slice none 0 0, .slice none 0 0, .slice none 0 0, _])) (k:=Dn 10 (k:=Nc [vS [], vS [], .int .i64 0, .slice none 0 0, .slice none 0 0, .slice none 0 0, vS []] (k:=fun b3 => Dn 11 (k:=Na (k:=Dd (k:=?_)))))))
       exact zb26join2
      ·
       refine Nc [vS [], vS [], .int .i64 0, .slice none 0 0, .slice none 0 0, .slice none 0 0, vS []] (k:=fun b3 => Dn 8 (k:=Nm (hv:=by exact get_mapD (f := vS) [] (l := usersL) (m := ui) hu2) (k:=Di 9 (t:=Ux (Ps [vS [], vS [], _, .slice none 0 0, .slice none 0 0, .slice none 0 0, _])) (k:=Dn 11 (k:=Na (k:=Dd (k:=?_)))))))
       exact zb26join2
     ·
      refine Nc [vS [], vS [], .int .i64 0, .slice none 0 0, .slice none 0 0, .slice none 0 0, vS []] (k:=fun b3 => Dn 7 (k:=Ne 1 ui (k:=Dn 8 (k:=Nm (hv:=by exact get_mapD (f := vS) [] (l := usersL) (m := ui) hu2) (k:=Di 9 (t:=Ux (Ps [vS [], vS [], _, .slice none 0 0, .slice none 0 0, .slice none 0 0, _])) (k:=Dn 11 (k:=Na (k:=Dd (k:=?_)))))))))
      exact zb26join2
    ·
     refine Nc [vS [], vS [], .int .i64 0, .slice none 0 0, .slice none 0 0, .slice none 0 0, vS []] (k:=fun b3 => Dn 6 (k:=?_))
     refine an_callF (book_Within_sp u 0 1 (by omega) (by omega) (by omega)) rfl rfl rfl ?_
     rw [hui]
     refine Dn 7 (k:=Ne 1 ui (k:=Dn 8 (k:=Nm (hv:=by exact get_mapD (f := vS) [] (l := usersL) (m := ui) hu2) (k:=Di 9 (t:=Ux (Ps [vS [], vS [], _, .slice none 0 0, .slice none 0 0, .slice none 0 0, _])) (k:=Dn 11 (k:=Na (k:=Dd (k:=?_))))))))
     exact zb26join2
   ·
    refine Nc [vS [], vS [], .int .i64 0, .slice none 0 0, .slice none 0 0, .slice none 0 0, vS []] (k:=fun b3 => Dn 2 (k:=?_))
    refine an_callF (book_Within_sp d 0 9 (by omega) (by omega) (by omega)) rfl rfl rfl ?_
    refine Dn 6 (k:=?_)
    refine an_callF (book_Within_sp u 0 1 (by omega) (by omega) (by omega)) rfl rfl rfl ?_
    rw [hui]
    refine Dn 7 (k:=Ne 1 ui (k:=Dn 8 (k:=Nm (hv:=by exact get_mapD (f := vS) [] (l := usersL) (m := ui) hu2) (k:=Di 9 (t:=Ux (Ps [vS [], vS [], _, .slice none 0 0, .slice none 0 0, .slice none 0 0, _])) (k:=Dn 11 (k:=Na (k:=Dd (k:=?_))))))))
    exact zb26join2
  ·
   refine Nc [vS [], vS [], .int .i64 0, .slice none 0 0, .slice none 0 0, .slice none 0 0, vS []] (k:=fun b3 => ?_)
   refine d_next2 2 3 (by kernel_rfl) rfl rfl ?_ ?_
   ·
    refine an_callF (book_Within_sp d 0 9 (by omega) (by omega) (by omega)) rfl rfl rfl ?_
    refine d_next2 3 6 (by kernel_rfl) rfl rfl ?_ ?_
    ·
     refine Nl [_, _] (cs := [_, _]) (k:=fun b13 => Dn 6 (k:=?_))
     refine an_callF (book_Within_sp u 0 1 (by omega) (by omega) (by omega)) rfl rfl rfl ?_
     rw [hui]
     refine Dn 7 (k:=Ne 1 ui (k:=Dn 8 (k:=Nm (hv:=by exact get_mapD (f := vS) [] (l := usersL) (m := ui) hu2) (k:=Di 9 (t:=Ux (Ps [vS [], vS [], _, .slice none 0 0, .slice none 0 0, .slice none 0 0, _])) (k:=Dn 11 (k:=Na (k:=Dd (k:=?_))))))))
     exact zb26join2
    ·
     refine an_callF (book_Within_sp u 0 1 (by omega) (by omega) (by omega)) rfl rfl rfl ?_
     rw [hui]
     refine Dn 3 (k:=Nl [_, _] (cs := [_, _]) (k:=fun b13 => Dn 7 (k:=Ne 1 ui (k:=Dn 8 (k:=Nm (hv:=by exact get_mapD (f := vS) [] (l := usersL) (m := ui) hu2) (k:=Di 9 (t:=Ux (Ps [vS [], vS [], _, .slice none 0 0, .slice none 0 0, .slice none 0 0, _])) (k:=Dn 11 (k:=Na (k:=Dd (k:=?_))))))))))
     exact zb26join2
   ·
    refine Nl [_, _] (cs := [_, _]) (k:=fun b13 => Dn 2 (k:=?_))
    refine an_callF (book_Within_sp d 0 9 (by omega) (by omega) (by omega)) rfl rfl rfl ?_
    refine Dn 6 (k:=?_)
    refine an_callF (book_Within_sp u 0 1 (by omega) (by omega) (by omega)) rfl rfl rfl ?_
    rw [hui]
    refine Dn 7 (k:=Ne 1 ui (k:=Dn 8 (k:=Nm (hv:=by exact get_mapD (f := vS) [] (l := usersL) (m := ui) hu2) (k:=Di 9 (t:=Ux (Ps [vS [], vS [], _, .slice none 0 0, .slice none 0 0, .slice none 0 0, _])) (k:=Dn 11 (k:=Na (k:=Dd (k:=?_))))))))
    exact zb26join2
end
section
set_option maxRecDepth 1000000
theorem noZ_readC {s : Bs} (h : (90 : UInt8) ∉ s) : readC s = none := readC_none.2 fun l hl => h (by rw [← hl.2, printB, sealB]; simp)
theorem readC_nk {s : Bs} (h : readC s = none) : readK s = none ∧ readCt s = none ∧ readCl s = none := by
 refine ⟨the_none fun c hc => ?_, the_none fun c hc => ?_, the_none fun c hc => ?_⟩ <;> (rw [readC_iff.2 hc.reads] at h; cases h)
theorem kind_none {s : Bs} (h : readC s = none) : kindN s = 1 ∧ namesR s = [] := by
 obtain ⟨h1, h2, h3⟩ := readC_nk h
 refine ⟨by simp [kindN, h1, h2, h3], ?_⟩
 rw [← outC_names]
 simp [outC, outT, outK, h1, h2, h3]
theorem kindN_K {s : Bs} {c : Ck} (h : readK s = some c) : kindN s = 2 := by simp [kindN, h]
theorem text_one : kindN "text".toUTF8.data.toList = 1 := (kind_none (noZ_readC (by decide))).1
theorem names_isN {s x : Bs} (h : x ∈ namesR s) : isN x = true := by
 rw [← outC_names] at h
 unfold outC at h
 cases hl : readCl s with
 | some l => rw [hl] at h; exact right_names (readCl_iff.1 hl).1 x h
 | none =>
   rw [hl] at h
   dsimp only at h
   have hk : x ∈ outK s → isN x = true := fun h => by
    unfold outK at h
    cases hk : readK s with
    | none => rw [hk] at h; cases h
    | some c =>
      rw [hk] at h
      dsimp only at h
      have hR := (readK_iff.1 hk).1
      rcases (putA_mem _ _ x).1 h with e | e
      · cases e
      · simp only [nsK, List.mem_append, List.mem_filter, List.mem_map] at e
        rcases e with (e | ⟨⟨f, hf, rfl⟩, hne⟩) | e
        · by_cases e2 : c.base = []
          · rw [if_pos e2] at e; cases e
          · rw [if_neg e2, List.mem_singleton] at e
            rw [e]; exact hR.base.resolve_left e2
        · exact (right_files hR f hf).resolve_left (by simpa using hne)
        · exact right_parents hR x e
   unfold outT at h
   cases ht : readCt s with
   | none => rw [ht] at h; exact hk h
   | some c =>
     rw [ht] at h
     dsimp only at h
     rcases (putA_mem _ _ x).1 h with e | e
     · exact hk e
     · obtain ⟨t, h2, rfl⟩ := List.mem_map.1 e
       exact right_targets (readCt_iff.1 ht).1 t h2
abbrev shA : Bs := shaB [97]
abbrev shB : Bs := shaB [98]
theorem sha_ab : shA ≠ shB := by decide +kernel
/-- The check-in that every law looks at. -/
def ckR : Ck := ⟨[], [], 0, [([102], shA)], [shB], [], [109, 101]⟩
theorem ckR_right : RightK ckR := by
 refine ⟨.inl rfl, Nat.zero_le _, by decide, ⟨fun i hi => ?_, by decide⟩, ⟨fun i hi => ?_, by decide⟩, ⟨fun i hi => by simp [ckR] at hi, by decide⟩, by decide⟩
 · have h0 : i = 0 := by simp [ckR] at hi; omega
   subst h0
   exact ⟨by decide, fun h => by omega, .inl (isN_sha _)⟩
 · have h0 : i = 0 := by simp [ckR] at hi; omega
   subst h0
   exact ⟨isN_sha _, by simp⟩
theorem ckR_z : CkZ ckR := by
 have h1 : shA.length = 40 := shaB_len _
 have h2 : shB.length = 40 := shaB_len _
 refine ⟨Nat.zero_le _, Nat.zero_le _, by decide, by decide, fun f hf => ?_, by decide, fun p hp => ?_, ⟨by decide, fun t ht => by cases ht⟩⟩
 · rw [show f = ([102], shA) from List.mem_singleton.1 hf]; dsimp only [List.length_cons, List.length_nil]; omega
 · rw [show p = shB from List.mem_singleton.1 hp]; omega
theorem ckR_read : readK (ckB ckR) = some ckR := readK_iff.2 ⟨ckR_right, rfl⟩
theorem ckR_names (x : Bs) : x ∈ namesR (ckB ckR) ↔ x = shA ∨ x = shB := by
 have h1 : shA.length = 40 := shaB_len _
 have h2 : shB.length = 40 := shaB_len _
 rw [namesR_mem, namesP, ckR_read]
 simp only [ckR, List.map_cons, List.map_nil, List.mem_append, List.mem_cons, List.not_mem_nil, or_false]
 constructor
 · rintro ⟨(h | h) | h, hn⟩
   · exact absurd h hn
   · exact .inr h
   · exact .inl h
 · rintro (h | h)
   · exact ⟨.inr h, by rw [h]; intro e; rw [e] at h1; cases h1⟩
   · exact ⟨.inl (.inr h), by rw [h]; intro e; rw [e] at h2; cases h2⟩
theorem ckR_two : (namesR (ckB ckR)).length = 2 := by
 have hs := namesR_sorted (ckB ckR)
 have hn : (namesR (ckB ckR)).Nodup := hs.imp fun h e => by subst e; exact absurd h (List.lt_irrefl _)
 have h2 : ([shA, shB] : List Bs).Nodup := by simp [sha_ab]
 have := (List.perm_ext_iff_of_nodup hn h2).2 (fun x => by rw [ckR_names]; simp)
 exact this.length_eq
theorem ckR_self : ckB ckR ∉ namesR (ckB ckR) := fun h => by
 have := isN_len (names_isN h)
 rw [ckB, printB, sealB_len] at this; omega
end
/-- The names of some numbers, in order, each once. -/
def nmsOf (ns : List Int) (k : Nat) : List Bs := putA [] ((ns.take k).map nameB)
theorem nmsOf_succ (ns : List Int) {k : Nat} (h : k < ns.length) : nmsOf ns (k + 1) = putB (nameB ns[k]) (nmsOf ns k) := by
 rw [nmsOf, List.take_succ_eq_append_getElem h, List.map_append, List.map_cons, List.map_nil, putA_snoc]; rfl
theorem nmsOf_sorted (ns : List Int) (k : Nat) : (nmsOf ns k).Pairwise (· < ·) := putA_sorted _ _ .nil
theorem nmsOf_len (ns : List Int) (k : Nat) : (nmsOf ns k).length ≤ k := by
 have := putA_len ((ns.take k).map nameB) []
 rw [List.length_map, List.length_take] at this
 simp only [nmsOf, List.length_nil] at this ⊢; omega
theorem nmsOf_name (ns : List Int) (k : Nat) : ∀ x ∈ nmsOf ns k, ∃ n, x = nameB n := fun x hx => by
 rcases (putA_mem _ _ _).1 hx with h | h
 · cases h
 · obtain ⟨n, _, rfl⟩ := List.mem_map.1 h; exact ⟨n, rfl⟩
theorem nmsOf_zero (ns : List Int) : nmsOf ns 0 = [] := rfl
theorem sorted_right {l : List Bs} (hs : l.Pairwise (· < ·)) (hn : ∀ x ∈ l, isN x = true) (h1 : 1 ≤ l.length) (h2 : l.length ≤ 12) : RightCl l := by
 refine ⟨fun i hi => ?_, h1, h2⟩
 have e : l.getD i [] = l[i] := by simp [hi]
 refine ⟨by rw [e]; exact hn _ (List.getElem_mem hi), fun h0 => ?_⟩
 have e2 : l.getD (i - 1) [] = l[i - 1] := by simp [show i - 1 < l.length by omega]
 rw [e, e2]
 exact (blt_iff _ _).2 (List.pairwise_iff_getElem.1 hs (i - 1) i (by omega) hi (by omega))
structure KaV where
 kind : Int
 n : Int
 base : Int
 d : Int
 u : Int
 tb : Int
 x : IntsV
 f : IntsV
 p : IntsV
 t : IntsV
 v : IntsV
 d2 : Int
 u2 : Int
 t2 : IntsV
 v2 : IntsV
 nm : IntsV
abbrev IntsV.len (q : IntsV) : Nat := q.l.length
def KaV.cells (q : KaV) : List Value := [vI q.kind, vI q.n, vI q.base, vI q.d, vI q.u, vI q.tb, .slice q.x.a q.x.l.length q.x.c, .slice q.f.a q.f.l.length q.f.c, .slice q.p.a q.p.l.length q.p.c, .slice q.t.a q.t.l.length q.t.c, .slice q.v.a q.v.l.length q.v.c, vI q.d2, vI q.u2, .slice q.t2.a q.t2.l.length q.t2.c, .slice q.v2.a q.v2.l.length q.v2.c, .slice q.nm.a q.nm.l.length q.nm.c]
abbrev IntsV.hp (q : IntsV) : HP := SlI q.a (q.l.map vI)
structure KaV.Z (q : KaV) : Prop where
 x : q.x.l.length ≤ 9223372036854775807
 f : q.f.l.length ≤ 9223372036854775807
 p : q.p.l.length ≤ 9223372036854775807
 t : q.t.l.length ≤ 9223372036854775807
 v : q.v.l.length ≤ 9223372036854775807
 t2 : q.t2.l.length ≤ 9223372036854775807
 v2 : q.v2.l.length ≤ 9223372036854775807
 nm : q.nm.l.length ≤ 9223372036854775807
/-- Its slices. -/
abbrev KaV.hs (q : KaV) : List HP := [SlI q.x.a (q.x.l.map vI), SlI q.f.a (q.f.l.map vI), SlI q.p.a (q.p.l.map vI), SlI q.t.a (q.t.l.map vI), SlI q.v.a (q.v.l.map vI), SlI q.t2.a (q.t2.l.map vI), SlI q.v2.a (q.v2.l.map vI), SlI q.nm.a (q.nm.l.map vI)]
/-- What is an artifact of the keeper. -/
inductive ArtK : Bs → Prop
 | text (n : Int) : ArtK (contB n)
 | ck (c : Ck) : KCk c → ArtK (ckB c)
 | ct (c : Ct) : KCt c → ArtK (ctB c)
 | cl (l : List Bs) : l.Pairwise (· < ·) → (∀ x ∈ l, ∃ n, x = nameB n) → 1 ≤ l.length → l.length ≤ 4 → ArtK (clB l)
theorem ArtK.small {s : Bs} (h : ArtK s) : s.length ≤ 20000 := by
 cases h with
 | text n => have := contB_len n; omega
 | ck c k => have := ck_small k.right; rw [ckB, printB, sealB_len]; omega
 | ct c k => have := ct_small k.right; rw [ctB, printB, sealB_len]; omega
 | cl l h1 h2 h3 h4 =>
   have := cl_small (sorted_right h1 (fun x hx => by obtain ⟨n, rfl⟩ := h2 x hx; exact isN_name n) h3 (by omega))
   rw [clB, printB, sealB_len]; omega
theorem keepArt_of {H : Type} {enc : TypeId × Value → H} {w : World} {spare : Nat → Bool} {held : Bool} {fuel : Nat} {cs : List Value} {x : DataW H × List MemPlace}
    (h : DataW.trod enc Tryz.prog w 0 spare held fuel 45 cs = some x) : ∃ q : KaV, cs = q.cells ∧ q.Z ∧ At w (SlI q.x.a (q.x.l.map vI)) ∧ At w (SlI q.f.a (q.f.l.map vI)) ∧ At w (SlI q.p.a (q.p.l.map vI)) ∧ At w (SlI q.t.a (q.t.l.map vI)) ∧ At w (SlI q.v.a (q.v.l.map vI)) ∧ At w (SlI q.t2.a (q.t2.l.map vI)) ∧ At w (SlI q.v2.a (q.v2.l.map vI)) ∧ At w (SlI q.nm.a (q.nm.l.map vI)) := by
 have hl := od_len Tryz.underlying45 h
 have e16 : Tryz.prog.cellsOf 45 = 16 := by kernel_rfl
 have e9 : Tryz.prog.cellsOf 41 = 9 := by kernel_rfl
 have e4 : Tryz.prog.cellsOf 43 = 4 := by kernel_rfl
 have ei : Tryz.prog.cellsOf 3 = 1 := by kernel_rfl
 have es : Tryz.prog.cellsOf 37 = 1 := by kernel_rfl
 rw [e16] at hl
 obtain ⟨m0, y0, f0⟩ := od_field Tryz.underlying45 h 0 3 0 1 rfl ei
 obtain ⟨m1, y1, f1⟩ := od_field Tryz.underlying45 h 1 3 1 1 rfl ei
 obtain ⟨m2, y2, f2⟩ := od_field Tryz.underlying45 h 2 41 2 9 rfl e9
 obtain ⟨m3, y3, f3⟩ := od_field Tryz.underlying45 h 3 43 11 4 rfl e4
 obtain ⟨m4, y4, f4⟩ := od_field Tryz.underlying45 h 4 37 15 1 rfl es
 match cs, hl with
 | [c0, c1, c2, c3, c4, c5, c6, c7, c8, c9, c10, c11, c12, c13, c14, c15], _ =>
   simp only [List.drop_zero, List.drop_succ_cons, List.take_succ_cons, List.take_zero] at f0 f1 f2 f3 f4
   obtain ⟨n0, g0, _, _⟩ := DataW.trod_int Tryz.underlying3 f0
   obtain ⟨n1, g1, _, _⟩ := DataW.trod_int Tryz.underlying3 f1
   obtain ⟨base, d, u, tb, q1, q2, q3, q4, q5, g2, ⟨l1, a1⟩, ⟨l2, a2⟩, ⟨l3, a3⟩, ⟨l4, a4⟩, ⟨l5, a5⟩⟩ := keepCheckin_of f2
   obtain ⟨d2, u2, q6, q7, g3, ⟨l6, a6⟩, ⟨l7, a7⟩⟩ := keepControl_of f3
   obtain ⟨q8, g4, ⟨l8, a8⟩⟩ := ints_of f4
   cases g0; cases g1; cases g2; cases g3; cases g4
   exact ⟨⟨n0, n1, base, d, u, tb, q1, q2, q3, q4, q5, d2, u2, q6, q7, q8⟩, rfl, ⟨l1, l2, l3, l4, l5, l6, l7, l8⟩, a1, a2, a3, a4, a5, a6, a7, a8⟩
end Go.Proofs.YtibccdcemcgkeaaGreat
