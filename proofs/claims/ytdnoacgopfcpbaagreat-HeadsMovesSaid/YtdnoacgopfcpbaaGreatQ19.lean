/- Texts of this proof, put together: SLinks, PTags, MapX, MapX2. -/
import Derived.ChangeKeysEq
import Derived.Test.YtdnoacgopfcpbaaGreatQ18
set_option linter.unusedVariables false
set_option linter.unusedSimpArgs false
namespace Go.Proofs.YtdnoacgopfcpbaaGreat
section
set_option maxRecDepth 100000
/-- A check-in that is held, as it lies in memory. -/
abbrev CkN := Bs × CkA × Ck
def ckKey (x : CkN) : Bs × Ck := (x.1, x.2.2)
def ckV (x : CkN) : Value := .agg (ckVals x.2.1 x.2.2).toArray
abbrev CkM (x : CkN) : HP := Al [SlI x.2.1.fa (x.2.2.files.flatMap flCells), SlI x.2.1.pa (x.2.2.parents.map vS), SlI x.2.1.ta (x.2.2.tags.flatMap tgCells)]
theorem CkM.pers (x : CkN) : Pers (CkM x) := Al.pers (by
 intro A hA
 simp only [List.mem_cons, List.not_mem_nil, or_false] at hA
 rcases hA with rfl | rfl | rfl <;> exact PersC.get)
/-- What some check-ins point at: it never turns. -/
def CkMs (l : List CkN) : HP := ⟨fun M _ => ∀ x ∈ l, (CkM x).at_ M Res.emp, fun le h x hx => (CkM x).mono le (h x hx)⟩
instance {l : List CkN} : PersC (CkMs l) := ⟨fun e => e⟩
theorem ent_ckms_nil {Hs : List HP} : Ent Hs (CkMs [] :: Hs) := ⟨fun {M g} s => ⟨Res.emp, g, Res.emp_dj _, rfl, (fun x h => by cases h), s⟩⟩
theorem ent_ckms_snoc {l : List CkN} {x : CkN} {Hs : List HP} (h1 : Has (CkMs l) Hs) (h2 : Has (CkM x) Hs) : Ent Hs (CkMs (l ++ [x]) :: Hs) := ⟨fun {M g} s => by
 obtain ⟨_, _, a⟩ := h1.sat s
 obtain ⟨_, _, b⟩ := h2.sat s
 refine ⟨Res.emp, g, Res.emp_dj _, rfl, fun y hy => ?_, s⟩
 rcases List.mem_append.1 hy with hy | hy
 · exact a y hy
 · rw [List.mem_singleton.1 hy]; exact CkM.pers x b⟩
theorem ent_ckm {l : List CkN} {x : CkN} {Hs : List HP} (h : x ∈ l) (hp : Has (CkMs l) Hs) : Ent Hs (SlI x.2.1.fa (x.2.2.files.flatMap flCells) :: SlI x.2.1.pa (x.2.2.parents.map vS) :: SlI x.2.1.ta (x.2.2.tags.flatMap tgCells) :: Hs) := ⟨fun {M g} s => by
 obtain ⟨_, _, a⟩ := hp.sat s
 obtain ⟨h1, h2, d, e, x1, h3, h4, d', e', x2, h5, h6, d2, e2, x3, _⟩ := a x h
 have p1 := (PersC.get : Pers (SlI x.2.1.fa (x.2.2.files.flatMap flCells))) x1
 have p2 := (PersC.get : Pers (SlI x.2.1.pa (x.2.2.parents.map vS))) x2
 have p3 := (PersC.get : Pers (SlI x.2.1.ta (x.2.2.tags.flatMap tgCells))) x3
 exact ⟨Res.emp, g, Res.emp_dj _, rfl, p1, Res.emp, g, Res.emp_dj _, rfl, p2, Res.emp, g, Res.emp_dj _, rfl, p3, s⟩⟩
theorem get_headD {l : List Bs} (h : 0 < l.length) : l[0] = l.headD [] := by cases l; simp at h; rfl
theorem links_First_sp {B : HP} (xa : CkA) (c : Ck) (hz : c.parents.length ≤ 9223372036854775807) (sh : SlA B xa.pa (c.parents.map vS)) :
    Sp1 Tryz.prog 54 [.agg (ckVals xa c).toArray] [B] (vS (firstB c)) [B] := by
 haveI : RdSl xa.pa (c.parents.map vS) [B] := ⟨⟨B, sh, .here⟩⟩
 refine Sp.body (n := 11) Tryz.call54 Tryz.func54 rfl rfl rfl ?_
 refine Qc (k:=Zx [_, _, _, _, _, _, _] (k:=fun b1 => Vv (k:=Wq (Za (k:=Qc (k:=Qx 4 27 (k:=Qv (k:=?_))))))))
 refine Wq (Zi (t:=fun h6 => ?_) (f:=fun h6 => ?_))
 ·
  refine Qc (k:=Vv (k:=Wq (Zt (k:=Va ?_))))
  have : c.parents = [] := List.eq_nil_of_length_eq_zero (by omega)
  rw [firstB, this]
  exact fin_ret () (vs := [_]) (Cs := []) rfl (.tmp rfl .nil) rfl trivial ent_pick
 ·
  have hp0 : 0 < c.parents.length := by omega
  have hfb : c.parents[0] = firstB c := get_headD hp0
  haveI : RdSl xa.pa (c.parents.map vS) [Ce b1 30 (ckVals xa c), B] := ⟨⟨B, sh, .there .here⟩⟩
  refine Zk (k:=Ya (Qc (k:=Qx 4 27 (k:=?_))))
  refine r_elemAddr (m := 0) (sz := 1) Tryz.underlying27 ti9 rfl rfl rfl rfl (by omega) (by rw [List.length_map]; omega) (Nat.mul_one _) rfl ?_
  refine r_eload Tryz.underlying9 rfl rfl ((get_map (m := 0) (by omega)).trans (by rw [hfb])) rfl ?_
  refine Vv (k:=Wq (Zt (k:=?_)))
  exact fin_ret () (vs := [_]) (Cs := []) rfl (.tmp rfl .nil) rfl trivial ent_pick
theorem links_Checkins_sp (m : Option Nat) : Sp Tryz.prog 23 [.map m] [] (X := Nat) (fun b => .func (.func 64) #[] #[.pointer (some ⟨b, 0, none⟩)]) (fun _ => True) (fun b => [Ce b 31 [.map m]]) := by
 refine Sp.body (n := 4) Tryz.call23 Tryz.func23 rfl rfl rfl ?_
 refine Qc (k:=Zx [_] (k:=fun b1 => Vv (k:=Wq (Qc (k:=Qv (k:=Wq (Zt (k:=?_))))))))
 exact fin_ret b1 (vs := [_]) (Cs := []) rfl (.tmp rfl .nil) rfl trivial ent_pick
/-! The walk over the check-ins. -/
theorem cksF_snoc (H : Ks) (l : List Bs) (n : Bs) : cksF H (l ++ [n]) = cksF H l ++ ckOf H n := by simp [cksF]
def okC (H : Ks) (pre : List CkN) (x : CkN) : Prop := (∃ r, cksL H = pre.map ckKey ++ ckKey x :: r) ∧ x.2.2.parents.length ≤ x.2.1.pc ∧ readK (getB H x.1) = some x.2.2
def stopC (H : Ks) (pre : List CkN) : Prop := pre ≠ [] ∧ ∃ r, cksL H = pre.map ckKey ++ r
def finC (H : Ks) (all : List CkN) : Prop := all.map ckKey = cksL H
theorem zb64next0 {G : Prop} (h : G := by
    first
    | (refine to_inv ⟨(j + 1, pre ++ [(nm, xa, ck)]), by dsimp only; omega, by dsimp only; rw [List.map_append, hpre, hfs]; rfl⟩ (by dsimp only; omega) ⟨rfl, rfl, rfl, rfl, rfl, trivial⟩ ?_
       dsimp only
       exact ent_pick)
    | (refine to_inv ⟨(j + 1, pre), by dsimp only; omega, by dsimp only; rw [hpre, hfs]⟩ (by dsimp only; omega) ⟨rfl, rfl, rfl, rfl, rfl, trivial⟩ ?_
       dsimp only
       refine ent_fold2 (hj2 pre) ?_
       exact ent_pick)) : G := h
set_option maxHeartbeats 2000000 in
theorem links_Checkins_it (c b : Nat) (H : Ks) (hH : TxtK H) (hn : H.length ≤ 4398046511104) :
    IterX Tryz.prog 64 [.pointer (some ⟨c, 0, none⟩)] (fun x : CkN => [vS x.1, ckV x]) (okC H) (stopC H) CkM (MapS b H) [Ce c 31 [.map (some b)]] [Ce c 31 [.map (some b)]] (finC H) (fun _ => .tuple #[]) := by
 intro y Jy J0 Jx ys hj1 hj2
 have hkl := keysS_len H
 refine Sp.body (n := 31) Tryz.call64 Tryz.func64 rfl rfl rfl ?_
 refine wc_ent' (ent_open2 (hj1 []) (Ent.refl _)) ?_
 refine Qc (k:=Zd (k:=?_))
 refine r_callX (maps_Keys_sp (some b)) rfl rfl rfl (fun cb _ => ?_)
 refine r_callX (slices_Sorted_sp (maps_Keys_it cb b H) H.length hn (fun pre x h => h.2.2) (fun l h => by have := h.length_eq; simp at this; omega)) rfl rfl rfl (fun xs hxs => ?_)
 obtain ⟨⟨sa, sc⟩, al⟩ := xs
 have hse : sortB al = keysS H := sortB_eq hxs
 have hal : al.length = H.length := by have := hxs.length_eq; simpa using this
 dsimp only
 rw [hse, hal]
 refine Qv (k:=Wq (Zb (k:=?_)))
 refine p_loop (fun (i : { x : Nat × List CkN // x.1 ≤ H.length ∧ x.2.map ckKey = cksF H ((keysS H).take x.1) }) => [(0, y), (1, .pointer (some ⟨c, 0, none⟩)), (9, .slice sa H.length sc), (10, vI H.length), (11, vI i.1.1)]) (fun (i : { x : Nat × List CkN // x.1 ≤ H.length ∧ x.2.map ckKey = cksF H ((keysS H).take x.1) }) => [Jy i.1.2, Row 9 1 (.slice sa H.length sc) H.length ((keysS H).map vS), Ce c 31 [.map (some b)]]) (fun (i : { x : Nat × List CkN // x.1 ≤ H.length ∧ x.2.map ckKey = cksF H ((keysS H).take x.1) }) => H.length - i.1.1) rfl (⟨(0, []), Nat.zero_le _, rfl⟩) ?_ ?_ (fun i => ?_)
 · exact ⟨rfl, rfl, rfl, rfl, rfl, trivial⟩
 ·
  dsimp only
  refine ent_fold2 (hj2 []) ?_
  exact ent_pick
 obtain ⟨⟨j, pre⟩, hj, hpre⟩ := i
 dsimp only at hj hpre ⊢
 try dsimp only
 refine Qc (k:=Vv (k:=Wq (Za (k:=Zi (t:=fun h12 => ?_) (f:=fun h12 => ?_)))))
 ·
  refine Zk (k:=Ya (Za (k:=Zb (k:=Za (k:=?_)))))
  have hjl : j < (keysS H).length := by omega
  refine wc_ent' (ent_open2 (hj1 pre) (Ent.refl _)) ?_
  have hst : (keysS H).take (j + 1) = (keysS H).take j ++ [(keysS H)[j]] := List.take_succ_eq_append_getElem hjl
  obtain ⟨nm, hnm⟩ : ∃ nm, nm = (keysS H)[j] := ⟨_, rfl⟩
  have hfs : cksF H ((keysS H).take (j + 1)) = cksF H ((keysS H).take j) ++ ckOf H nm := by rw [hst, cksF_snoc, hnm]
  have hff : cksL H = cksF H ((keysS H).take j) ++ ckOf H nm ++ cksF H ((keysS H).drop (j + 1)) := by
   rw [← hfs]
   unfold cksL cksF
   rw [← List.flatMap_append, List.take_append_drop]
  obtain ⟨htx, htl⟩ := hH.get nm
  have hRd := checkin_Read_sp (getB H nm) htl
  refine Zr (k:=Ye 1 (k:=?_))
  refine r_eload Tryz.underlying9 rfl rfl ((get_map (m := j) (by omega)).trans (by rw [← hnm])) rfl ?_
  refine Vv (k:=Wq (Qc (k:=Zd (k:=Vv (k:=?_)))))
  refine r_lookup (v := vS (getB H nm)) Tryz.underlying31 Tryz.underlying9 ti9 rfl rfl rfl htx rfl ?_
  refine r_callX hRd rfl rfl rfl (fun x19 hx19 => ?_)
  obtain ⟨xa, ck⟩ := x19
  obtain ⟨hck, hpc⟩ := hx19
  dsimp only at hck hpc ⊢
  refine Vv (k:=?_)
  refine wo_pv (pv_extract (v := .agg #[vS ck.base, vS ck.comment, vI ck.date, .slice xa.fa ck.files.length xa.fc, .slice xa.pa ck.parents.length xa.pc, .slice xa.ta ck.tags.length xa.tc, vS ck.user]) rfl rfl) rfl ?_
  refine wo_pv (pv_extract (v := vB (readK (getB H nm)).isSome) rfl rfl) rfl ?_
  refine Zc [vS [], vS [], .int .i64 0, .slice none 0 0, .slice none 0 0, .slice none 0 0, vS []] (k:=fun b5 => Zp (k:=Vv (k:=Wq (Qc (k:=Qv (k:=Gi 1 (t:=fun h23 => ?_) (f:=fun h23 => ?_)))))))
  ·
   obtain ⟨k, hk⟩ : ∃ k, readK (getB H nm) = some k := Option.isSome_iff_exists.1 h23
   have hkk : ck = k := by rw [hck, hk]; rfl
   subst hkk
   have hof : ckOf H nm = [(nm, ck)] := by rw [ckOf, hk]
   rw [hof] at hfs hff
   refine wo_frzR xa.fa ?_
   refine wo_frzR xa.ta ?_
   refine wo_ent' (Gs := CkM (nm, xa, ck) :: Jy pre :: [Ce b5 30 [vS ck.base, vS ck.comment, vI ck.date, .slice xa.fa ck.files.length xa.fc, .slice xa.pa ck.parents.length xa.pc, .slice xa.ta ck.tags.length xa.tc, vS ck.user], Row 9 1 (.slice sa H.length sc) H.length ((keysS H).map vS), Ce c 31 [.map (some b)]]) (ent_al (ent_cons (ent_cons (ent_cons (ent_fold2 (hj2 pre) ent_pick))))) ?_
   refine J1 (k:=J1 (k:=I1 (k:=Zm [_, _, _, _, _, _, _] (k:=I1 (k:=?_)))))
   refine r_yieldE ys pre (nm, xa, ck) ⟨⟨_, by rw [hff, hpre, List.append_assoc]; rfl⟩, hpc, hk⟩ (CkM.pers _) rfl rfl rfl ?_ ?_
   ·
    refine J1 (k:=P1 (k:=Wq (Z0 (k:=Zk (k:=Yb (Ya (Zr (k:=Qv (k:=Wn ?_)))))))))
    exact zb64next0
   ·
    refine J1 (k:=P1 (k:=Wq (Z1 (k:=Zt (k:=Vb (Va (Vi (Vb ?_))))))))
    refine fin_ret (some (pre ++ [(nm, xa, ck)]), []) (vs := []) (Cs := []) rfl .nil rfl ⟨fun q e => by cases e; exact ⟨by simp, _, by rw [hff, List.map_append, hpre]; rfl⟩, fun e => by cases e⟩ ?_
    simp only [endsAt]
    exact ent_pick
  ·
   have hk : readK (getB H nm) = none := by cases e : readK (getB H nm) with | none => rfl | some k => rw [e] at h23; cases h23
   have hof : ckOf H nm = [] := by rw [ckOf, hk]
   rw [hof, List.append_nil] at hfs
   refine O0 (k:=O0 (k:=O0 (k:=O0 (k:=O0 (k:=P0 (k:=Wq (Z0 (k:=Zk (k:=Yb (Ya (Zr (k:=?_))))))))))))
   refine Qv (k:=Wn ?_)
   exact zb64next0
 ·
  refine Ze (k:=Xa (Xi (Xb ?_)))
  have hj2 : j = (keysS H).length := by omega
  subst hj2
  rw [List.take_length] at hpre
  refine fin_end (none, pre) (vs := []) (Cs := []) rfl .nil rfl ⟨(fun q e => by cases e), fun _ => hpre⟩ ?_
  simp only [endsAt]
  exact ent_pick
/-! maps.Collect. -/
def ckK (l : List CkN) : Ks := l.foldl (fun m x => mput m x.1 (ckV x)) []
theorem ckK_snoc (l : List CkN) (x : CkN) : ckK (l ++ [x]) = mput (ckK l) x.1 (ckV x) := by simp [ckK]
section
variable {g : Nat} {lb : List Value} {ok : List CkN → CkN → Prop} {stopped : List CkN → Prop} {R : HP} {As Bs' : List HP} {fin : List CkN → Prop} {val : Option (List CkN) → Value}
theorem maps_InsertC_sp (it : IterX Tryz.prog g lb (fun x : CkN => [vS x.1, ckV x]) ok stopped CkM R As Bs' fin val) (b : Nat) [hp : PicksC As As []] :
    Sp Tryz.prog 168 [.map (some b), .func (.func g) #[] lb.toArray] (R :: MapS b [] :: As) (X := List CkN) (fun _ => .tuple #[]) fin (fun l => CkMs l :: MapS b (ckK l) :: R :: Bs') := by
 refine Sp.body (n := 12) Tryz.call168 Tryz.func168 rfl rfl rfl ?_
 refine Qc (k:=Zx [_] (k:=fun b2 => Wq (Qc (k:=Vv (k:=Wq (Zb (k:=?_)))))))
 refine p_rangeFuncX (fun pre => [CkMs pre, MapS b (ckK pre), Ce b2 138 [.map (some b)], R]) (fun j pre => [Pu False]) (fun pre => [CkMs pre, MapS b (ckK pre), Ce b2 138 [.map (some b)]]) rfl it rfl (fun _ => by rfl) rfl (fun pre => ?_) (fun pre => ?_) ?_ (fun l pre x hok => ?_) (fun all hfin => ?_) (fun j pre hs => ?_)
 · exact ent_pick
 · exact ent_pick
 · (refine ent_app (ent_ckms_nil.trans ?_); rw [show ckK [] = [] from rfl]; exact ent_pick)
 ·
  obtain ⟨nm, xa, ck⟩ := x
  have hks : ckK (pre ++ [(nm, xa, ck)]) = mput (ckK pre) nm (.agg #[vS ck.base, vS ck.comment, vI ck.date, .slice xa.fa ck.files.length xa.fc, .slice xa.pa ck.parents.length xa.pc, .slice xa.ta ck.tags.length xa.tc, vS ck.user]) := ckK_snoc pre (nm, xa, ck)
  dsimp only [ckV, ckVals]
  refine Qc (k:=Vv (k:=Wq (Zr (k:=Zc [vS [], vS [], .int .i64 0, .slice none 0 0, .slice none 0 0, .slice none 0 0, vS []] (k:=fun b5 => Zp (k:=Wg (Zb (k:=Zr (k:=Zd (k:=Vv (k:=?_)))))))))))
  refine Zm [_, _, _, _, _, _, _] (k:=?_)
  refine r_mapUpdate Tryz.underlying138 Tryz.underlying9 rfl rfl rfl ?_
  refine Wn (Yb ?_)
  refine to_round ?_
  refine (ent_ckms_snoc (l := pre) (x := (nm, xa, ck)) HasC.get HasC.get).trans ?_
  rw [hks]
  exact ent_pick
 ·
  skip
  refine Yb ?_
  refine fin_end all (vs := []) (Cs := []) rfl .nil rfl hfin ?_
  simp only [List.append_nil, List.cons_append, List.nil_append]
  exact ent_cons (ent_cons (ent_cons (ent_tail.trans ent_tail)))
 ·
  exact wc_no (fun s => by obtain ⟨_, _, _, _, a, _⟩ := s; exact a)
theorem maps_CollectC_sp (it : IterX Tryz.prog g lb (fun x : CkN => [vS x.1, ckV x]) ok stopped CkM R As Bs' fin val) [hp : PicksC As As []] :
    Sp Tryz.prog 126 [.func (.func g) #[] lb.toArray] (R :: As) (X := Nat × List CkN) (fun x => .map (some x.1)) (fun x => fin x.2) (fun x => CkMs x.2 :: MapS x.1 (ckK x.2) :: R :: Bs') := by
 refine Sp.body (n := 9) Tryz.call126 Tryz.func126 rfl rfl rfl ?_
 refine Qc (k:=Vv (k:=Wq (Qc (k:=?_))))
 refine r_mkmap rfl (fun b4 => ?_)
 refine Vv (k:=Wq (Qc (k:=Qv (k:=?_))))
 refine wo_front (MapS b4 []) ?_
 refine wo_front R ?_
 refine wo_call (cap := []) (As := R :: MapS b4 [] :: As) (Rs := []) (by rw [List.append_nil]; exact maps_InsertC_sp it b4) rfl rfl rfl ?_ (fun l hl => ?_)
 · exact .cons .here (.cons .here hp.get)
 refine Wq (Qc (k:=Qv (k:=Wq (Zt (k:=?_)))))
 refine fin_ret (b4, l) (vs := [_]) (Cs := []) rfl (.tmp rfl .nil) rfl hl ?_
 simp only [List.append_nil]
 exact Ent.refl _
end
end
def sdKey (s : Sd) : Bs × Bs := (s.op.name, s.op.target)
theorem llook_lput (l : Ls) (k k' : Bs × Bs) (v : Sd) : llook (lput l k v) k' = if k = k' then some v else llook l k' := by
 induction l with
 | nil => simp [lput, llook]
 | cons p r ih =>
   simp only [lput]
   by_cases h : p.1 = k
   · rw [if_pos h]
     simp only [llook]
     by_cases h2 : k = k'
     · rw [if_pos h2, if_pos h2]
     · rw [if_neg h2, if_neg h2, if_neg (by rw [h]; exact h2)]
   · rw [if_neg h]
     simp only [llook, ih]
     by_cases h2 : p.1 = k'
     · rw [if_pos h2, if_pos h2, if_neg (fun e => h (by rw [h2, e]))]
     · rw [if_neg h2, if_neg h2]
theorem lput_keys (l : Ls) (k : Bs × Bs) (v : Sd) : (lput l k v).map (·.1) = if k ∈ l.map (·.1) then l.map (·.1) else l.map (·.1) ++ [k] := by
 induction l with
 | nil => simp [lput]
 | cons p r ih =>
   simp only [lput]
   by_cases h : p.1 = k
   · rw [if_pos h]; simp [h]
   · rw [if_neg h, List.map_cons, ih]
     by_cases h2 : k ∈ r.map (·.1)
     · rw [if_pos h2, if_pos (by simp [h2])]; rfl
     · rw [if_neg h2, if_neg (by simp only [List.map_cons, List.mem_cons, not_or]; exact ⟨fun e => h e.symm, h2⟩)]; rfl
theorem lput_nodup {l : Ls} (h : (l.map (·.1)).Nodup) (k : Bs × Bs) (v : Sd) : ((lput l k v).map (·.1)).Nodup := by
 rw [lput_keys]
 split
 · exact h
 · rename_i hk
   rw [List.nodup_append]
   exact ⟨h, by simp, fun a ha b hb e => hk (by simp at hb; rw [← hb, ← e]; exact ha)⟩
theorem lstep_look (l : Ls) (s : Sd) (k : Bs × Bs) : llook (lstep l s) k = if sdKey s = k then (match llook l k with | none => some s | some o => if o.date ≤ s.date then some s else some o) else llook l k := by
 unfold lstep
 by_cases h : sdKey s = k
 · rw [if_pos h]
   subst h
   show llook (match llook l (sdKey s) with | none => lput l (sdKey s) s | some old => if old.date ≤ s.date then lput l (sdKey s) s else l) (sdKey s) = _
   cases e : llook l (sdKey s) with
   | none => dsimp only; rw [llook_lput, if_pos rfl]
   | some o =>
     dsimp only
     split
     · rw [llook_lput, if_pos rfl]
     · exact e
 · rw [if_neg h]
   have h' : (s.op.name, s.op.target) ≠ k := h
   split
   · rw [llook_lput, if_neg h']
   · split
     · rw [llook_lput, if_neg h']
     · rfl
theorem lastF_snoc (l : List Sd) (s : Sd) : lastF (l ++ [s]) = lstep (lastF l) s := by simp [lastF]
theorem lstep_nodup {l : Ls} (h : (l.map (·.1)).Nodup) (s : Sd) : ((lstep l s).map (·.1)).Nodup := by
 unfold lstep
 split
 · exact lput_nodup h _ _
 · split
   · exact lput_nodup h _ _
   · exact h
/-- The last one of the latest date. -/
structure LastP (l : List Sd) (k : Bs × Bs) (s : Sd) : Prop where
 key : sdKey s = k
 at_ : ∃ l1 l2, l = l1 ++ s :: l2 ∧ (∀ o ∈ l1, sdKey o = k → o.date ≤ s.date) ∧ (∀ o ∈ l2, sdKey o = k → o.date < s.date)
theorem snoc_ind {α : Type} {P : List α → Prop} (h0 : P []) (h1 : ∀ l a, P l → P (l ++ [a])) : ∀ l, P l := by
 have : ∀ l : List α, P l.reverse := by
  intro l
  induction l with
  | nil => exact h0
  | cons a l ih => rw [List.reverse_cons]; exact h1 _ _ ih
 intro l
 have := this l.reverse
 rwa [List.reverse_reverse] at this
theorem lastF_ok (l : List Sd) : ((lastF l).map (·.1)).Nodup ∧ (∀ k, llook (lastF l) k = none → ∀ s ∈ l, sdKey s ≠ k) ∧ ∀ k s, llook (lastF l) k = some s → LastP l k s := by
 refine snoc_ind (P := fun l => ((lastF l).map (·.1)).Nodup ∧ (∀ k, llook (lastF l) k = none → ∀ s ∈ l, sdKey s ≠ k) ∧ ∀ k s, llook (lastF l) k = some s → LastP l k s) ?_ ?_ l
 · exact ⟨List.nodup_nil, (fun k _ s h => by cases h), (fun k s h => by cases h)⟩
 · rintro l a ⟨hn, h1, h2⟩
   rw [lastF_snoc]
   refine ⟨lstep_nodup hn a, fun k h s hs => ?_, fun k s h => ?_⟩
   · rw [lstep_look] at h
     by_cases e : sdKey a = k
     · rw [if_pos e] at h
       split at h
       · cases h
       · split at h <;> cases h
     · rw [if_neg e] at h
       rcases List.mem_append.1 hs with hs | hs
       · exact h1 k h s hs
       · rw [List.mem_singleton.1 hs]; exact e
   · rw [lstep_look] at h
     by_cases e : sdKey a = k
     · rw [if_pos e] at h
       cases hl : llook (lastF l) k with
       | none =>
         rw [hl] at h
         cases h
         exact ⟨e, l, [], by simp, fun o ho he => absurd he (h1 k hl o ho), by simp⟩
       | some o =>
         rw [hl] at h
         dsimp only at h
         obtain ⟨ok, l1, l2, e1, p1, p2⟩ := h2 k o hl
         split at h
         · rename_i hd
           cases h
           refine ⟨e, l, [], by simp, fun q hq hk => ?_, by simp⟩
           rw [e1] at hq
           rcases List.mem_append.1 hq with hq | hq
           · exact Int.le_trans (p1 q hq hk) hd
           · rcases List.mem_cons.1 hq with rfl | hq
             · exact hd
             · exact Int.le_trans (Int.le_of_lt (p2 q hq hk)) hd
         · rename_i hd
           cases h
           refine ⟨ok, l1, l2 ++ [a], by rw [e1]; simp, p1, fun q hq hk => ?_⟩
           rcases List.mem_append.1 hq with hq | hq
           · exact p2 q hq hk
           · rw [List.mem_singleton.1 hq]; omega
     · rw [if_neg e] at h
       obtain ⟨ok, l1, l2, e1, p1, p2⟩ := h2 k s h
       refine ⟨ok, l1, l2 ++ [a], by rw [e1]; simp, p1, fun q hq hk => ?_⟩
       rcases List.mem_append.1 hq with hq | hq
       · exact p2 q hq hk
       · rw [List.mem_singleton.1 hq] at hk; exact absurd hk e
theorem lastF_none {l : List Sd} {k : Bs × Bs} (h : ∀ s ∈ l, sdKey s ≠ k) : llook (lastF l) k = none := by
 cases e : llook (lastF l) k with
 | none => rfl
 | some s =>
   obtain ⟨hk, l1, l2, e1, _⟩ := (lastF_ok l).2.2 k s e
   exact absurd hk (h s (by rw [e1]; simp))
/-- Of one alone. -/
theorem lastF_one {l : List Sd} {k : Bs × Bs} {s : Sd} (hs : s ∈ l) (hk : sdKey s = k) (h : ∀ o ∈ l, sdKey o = k → o = s) : llook (lastF l) k = some s := by
 cases e : llook (lastF l) k with
 | none => exact absurd hk ((lastF_ok l).2.1 k e s hs)
 | some o =>
   obtain ⟨ho, l1, l2, e1, _⟩ := (lastF_ok l).2.2 k o e
   rw [h o (by rw [e1]; simp) ho]
end Go.Proofs.YtdnoacgopfcpbaaGreat
/- Maps with keys of any kind. -/
namespace Go.Proofs.YtdnoacgopfcpbaaGreat.MX
/-- How keys lie in memory. -/
structure KeyE (α : Type) where
 enc : α → Value
 inj : ∀ {a b : α}, enc a = enc b → a = b
variable {α : Type}
abbrev Ks (α : Type) := List (α × Value)
def mlook [DecidableEq α] : Ks α → α → Option Value
 | [], _ => none
 | p :: r, k => if p.1 = k then some p.2 else mlook r k
def mput [DecidableEq α] : Ks α → α → Value → Ks α
 | [], k, v => [(k, v)]
 | p :: r, k, v => if p.1 = k then (k, v) :: r else p :: mput r k v
def mdel [DecidableEq α] : Ks α → α → Ks α
 | [], _ => []
 | p :: r, k => if p.1 = k then r else p :: mdel r k
def mfind [DecidableEq α] : Ks α → α → Nat → Option (Nat × Value)
 | [], _, _ => none
 | p :: r, k, i => if p.1 = k then some (i, p.2) else mfind r k (i + 1)
theorem mfind_none [DecidableEq α] {ks : Ks α} {k : α} : ∀ {i : Nat}, mfind ks k i = none → mlook ks k = none ∧ (∀ v, mput ks k v = ks ++ [(k, v)]) ∧ mdel ks k = ks ∧ k ∉ ks.map (·.1) := by
 induction ks with
 | nil => intro i h; exact ⟨rfl, fun v => rfl, rfl, by simp⟩
 | cons p r ih =>
   intro i h
   simp only [mfind] at h
   split at h
   · cases h
   · rename_i hp
     obtain ⟨h1, h2, h3, h4⟩ := ih h
     simp only [mlook, mput, mdel, hp, if_false, h1, h2, h3, true_and]
     refine ⟨fun v => by simp, ?_⟩
     simp only [List.map_cons, List.mem_cons, not_or]
     exact ⟨fun e => hp e.symm, h4⟩
theorem mfind_some [DecidableEq α] {ks : Ks α} {k : α} {v : Value} : ∀ {i j : Nat}, mfind ks k i = some (j, v) → ∃ m, j = i + m ∧ m < ks.length ∧ mlook ks k = some v ∧ ks[m]? = some (k, v) ∧ (∀ u, mput ks k u = ks.set m (k, u)) ∧ mdel ks k = ks.eraseIdx m := by
 induction ks with
 | nil => intro i j h; simp [mfind] at h
 | cons p r ih =>
   intro i j h
   simp only [mfind] at h
   split at h
   · rename_i hp
     simp only [Option.some.injEq, Prod.mk.injEq] at h
     obtain ⟨rfl, rfl⟩ := h
     refine ⟨0, rfl, by simp, by simp [mlook, hp], by simp [← hp], fun u => by simp [mput, hp], by simp [mdel, hp]⟩
   · rename_i hp
     obtain ⟨m, rfl, h2, h3, h4, h5, h6⟩ := ih h
     refine ⟨m + 1, by omega, by simp; omega, by simp [mlook, hp, h3], by simpa using h4, fun u => by simp [mput, hp, h5], by simp [mdel, hp, h6]⟩
/-- A map's entries, and what they are taken for. -/
structure MapG (E : KeyE α) (es : Array MapEntry) (clock : Nat) (ks : Ks α) : Prop where
 eq : es.toList.map (fun e => (e.key, e.val)) = ks.map (fun p => (E.enc p.1, p.2))
 old : ∀ e ∈ es.toList, e.born < clock
 born : (es.toList.map (·.born)).Nodup
 keys : (ks.map (·.1)).Nodup
theorem MapG.nil {E : KeyE α} : MapG E #[] 0 [] := ⟨rfl, by simp, by simp, by simp⟩
theorem MapG.size {E : KeyE α} {es : Array MapEntry} {clock : Nat} {ks : Ks α} (g : MapG E es clock ks) : es.size = ks.length := by
 have := congrArg List.length g.eq
 simpa using this
def MapS (E : KeyE α) (b : Nat) (ks : Ks α) : HP := ⟨fun _ h => ∃ es clock, h = Res.one b (.map es clock) ∧ MapG E es clock ks, fun _ e => e⟩
/-- A map may have such keys. -/
structure KeyP [DecidableEq α] (P : Program) (kt : TypeId) (E : KeyE α) : Prop where
 chk : ∀ (b : Bool) (k : α) (w : World), (Instr.checkKey b 10000 kt (E.enc k)).run P w = .ok () w
 fnd : ∀ {es : Array MapEntry} {clock : Nat} {ks : Ks α}, MapG E es clock ks → ∀ (k : α) (w : World), (Instr.findKey kt (E.enc k) es.toList).run P w = .ok (mfind ks k 0) w
 stay : ∀ (k : α) (w : World), (Instr.keyThatStays (E.enc k) (E.enc k)).run P w = .ok (E.enc k) w
theorem MapG.put [DecidableEq α] {E : KeyE α} {es : Array MapEntry} {clock : Nat} {ks : Ks α} (g : MapG E es clock ks) (k : α) (v : Value) (h : mfind ks k 0 = none) : MapG E (es.push { key := E.enc k, val := v, born := clock }) (clock + 1) (mput ks k v) := by
 obtain ⟨_, h2, _, h4⟩ := mfind_none h
 rw [h2]
 refine ⟨by simp [g.eq], ?_, ?_, ?_⟩
 · intro e he
   simp only [Array.toList_push, List.mem_append, List.mem_singleton] at he
   rcases he with he | rfl
   · have := g.old e he; omega
   · simp
 · simp only [Array.toList_push, List.map_append, List.map_cons, List.map_nil]
   rw [List.nodup_append]
   refine ⟨g.born, by simp, ?_⟩
   intro a ha c hc
   simp only [List.mem_singleton] at hc
   obtain ⟨e, he, rfl⟩ := List.mem_map.1 ha
   have := g.old e he
   omega
 · rw [List.map_append, List.nodup_append]
   refine ⟨g.keys, by simp, ?_⟩
   intro a ha c hc e
   simp at hc
   subst hc; subst e
   exact h4 ha
theorem MapG.set [DecidableEq α] {E : KeyE α} {es : Array MapEntry} {clock : Nat} {ks : Ks α} (g : MapG E es clock ks) {k : α} {u : Value} {j : Nat} (v : Value) (h : mfind ks k 0 = some (j, u)) : MapG E (es.modify j fun e => { e with key := E.enc k, val := v }) clock (mput ks k v) := by
 obtain ⟨m, hj, hm, _, h4, h5, _⟩ := mfind_some h
 simp only [Nat.zero_add] at hj
 subst hj
 rw [h5]
 have hsz := g.size
 have hlt : j < es.toList.length := by rw [Array.length_toList, hsz]; exact hm
 have e1 : (es.modify j fun e => { e with key := E.enc k, val := v }).toList = es.toList.set j ⟨E.enc k, v, es.toList[j].born⟩ := by
  rw [Array.toList_modify]
  apply List.ext_getElem?
  intro i
  rw [List.getElem?_modify, List.getElem?_set]
  by_cases hi : j = i
  · subst hi
    have h6 : es.toList[j]? = some es.toList[j] := List.getElem?_eq_getElem hlt
    simp [h6, hlt]
    simpa using hlt
  · simp [hi]
 refine ⟨?_, ?_, ?_, ?_⟩
 · rw [e1, List.map_set, g.eq, List.map_set]
 · intro e he
   rw [e1] at he
   rcases List.mem_or_eq_of_mem_set he with he | rfl
   · exact g.old e he
   · show es.toList[j].born < clock
     exact g.old _ (List.getElem_mem hlt)
 · rw [e1, List.map_set]
   have : (es.toList.map (·.born)).set j es.toList[j].born = es.toList.map (·.born) := by
    apply List.ext_getElem?
    intro i
    rw [List.getElem?_set]
    by_cases hi : j = i
    · subst hi
      have h6 : es.toList[j]? = some es.toList[j] := List.getElem?_eq_getElem hlt
      rw [List.getElem?_map, h6]; simp
      simpa using hlt
    · simp [hi]
   rw [this]; exact g.born
 · rw [List.map_set]
   have : (ks.map (·.1)).set j k = ks.map (·.1) := by
    apply List.ext_getElem?
    intro i
    rw [List.getElem?_set]
    by_cases hi : j = i
    · subst hi; rw [List.getElem?_map, h4]; simp [hm]
    · simp [hi]
   rw [this]; exact g.keys
/-- The entries that a walk over a map has met. -/
structure SeenG (E : KeyE α) (es : Array MapEntry) (ds : List MapEntry) (done : List α) : Prop where
 mem : ∀ d ∈ ds, d ∈ es.toList
 keys : ds.map (·.key) = done.map E.enc
 nodup : done.Nodup
/-- A map at b that is being walked over by the iterator at r; the keys that were met. -/
def MapIt (E : KeyE α) (b r : Nat) (ks : Ks α) (done : List α) : HP :=
 ⟨fun _ h => ∃ (es : Array MapEntry) (clock : Nat) (ds : List MapEntry), b ≠ r ∧ h = (Res.one b (.map es clock)).add (Res.one r (.mapIter (some b) clock (ds.map MapEntry.born).toArray clock)) ∧ MapG E es clock ks ∧ SeenG E es ds done, fun _ e => e⟩
theorem mapg_key {E : KeyE α} {es : Array MapEntry} {clock : Nat} {ks : Ks α} (g : MapG E es clock ks) {e : MapEntry} (h : e ∈ es.toList) : ∃ k v, e.key = E.enc k ∧ e.val = v ∧ (k, v) ∈ ks := by
 have h1 : (e.key, e.val) ∈ es.toList.map (fun e => (e.key, e.val)) := List.mem_map_of_mem (f := fun e => (e.key, e.val)) h
 rw [g.eq] at h1
 obtain ⟨p, hp, hq⟩ := List.mem_map.1 h1
 simp only [Prod.mk.injEq] at hq
 exact ⟨p.1, p.2, hq.1.symm, hq.2.symm, hp⟩
theorem mapg_inj {E : KeyE α} {es : Array MapEntry} {clock : Nat} {ks : Ks α} (g : MapG E es clock ks) {e f : MapEntry} (he : e ∈ es.toList) (hf : f ∈ es.toList) (h : e.key = f.key) : e = f := by
 have hn : (es.toList.map (·.key)).Nodup := by
  have h1 : es.toList.map (·.key) = (ks.map (·.1)).map E.enc := by
   have := congrArg (List.map Prod.fst) g.eq
   simpa [List.map_map, Function.comp_def] using this
  rw [h1]
  refine List.Pairwise.map E.enc (fun a b hab e => hab (E.inj e)) g.keys
 obtain ⟨i, hi, rfl⟩ := List.getElem_of_mem he
 obtain ⟨j, hj, rfl⟩ := List.getElem_of_mem hf
 have := nodup_inj hn (i := i) (j := j) (by simpa using hi) (by simpa using hj) (by simpa using h)
 subst this; rfl
def nxV (E : KeyE α) : Option (α × Value) → Value
 | none => .tuple #[.bool false]
 | some (k, v) => .tuple #[.bool true, E.enc k, v]
def nxD (done : List α) : Option (α × Value) → List α
 | none => done
 | some (k, _) => done ++ [k]
def nxP (ks : Ks α) (done : List α) : Option (α × Value) → Prop
 | none => ∀ p ∈ ks, p.1 ∈ done
 | some (k, v) => (k, v) ∈ ks ∧ k ∉ done
class MapPC (E : outParam (KeyE α)) (b : Nat) (ks : outParam (Ks α)) (Hs : List HP) (Rs : outParam (List HP)) : Prop where
 get : Pick (MapS E b ks) Hs Rs
instance (priority := 1000) {E : KeyE α} {b : Nat} {ks : Ks α} {r : List HP} : MapPC E b ks (MapS E b ks :: r) r := ⟨.here⟩
instance (priority := 100) {E : KeyE α} {b : Nat} {ks : Ks α} {B : HP} {r s : List HP} [h : MapPC E b ks r s] : MapPC E b ks (B :: r) (B :: s) := ⟨.there h.get⟩
instance (priority := 900) {E : KeyE α} {b : Nat} {ks : Ks α} {B B' C : List HP} [h : MapPC E b ks B B'] : MapPC E b ks (B ++ C) (B' ++ C) := ⟨pick_left h.get⟩
instance (priority := 800) {E : KeyE α} {b : Nat} {ks : Ks α} {B C C' : List HP} [h : MapPC E b ks C C'] : MapPC E b ks (B ++ C) (B ++ C') := ⟨pick_right h.get⟩
class RdMap (E : outParam (KeyE α)) (b : Nat) (ks : outParam (Ks α)) (Hs : List HP) : Prop where
 get : Has (MapS E b ks) Hs
instance (priority := 1000) {E : KeyE α} {b : Nat} {ks : Ks α} {r : List HP} : RdMap E b ks (MapS E b ks :: r) := ⟨.here⟩
instance (priority := 100) {E : KeyE α} {b : Nat} {ks : Ks α} {B : HP} {r : List HP} [h : RdMap E b ks r] : RdMap E b ks (B :: r) := ⟨.there h.get⟩
instance (priority := 900) {E : KeyE α} {b : Nat} {ks : Ks α} {B C : List HP} [h : RdMap E b ks B] : RdMap E b ks (B ++ C) := ⟨has_left h.get⟩
instance (priority := 800) {E : KeyE α} {b : Nat} {ks : Ks α} {B C : List HP} [h : RdMap E b ks C] : RdMap E b ks (B ++ C) := ⟨has_right h.get⟩
theorem maps_at {E : KeyE α} {b : Nat} {ks : Ks α} {w : World} {M : Kn} {h hf h1 : Res} (t : Sat w M (h.add hf)) (le : h1.le h) (x : (MapS E b ks).at_ M h1) : ∃ es clock, w.heap[b]? = some (.map es clock) ∧ MapG E es clock ks := by
 obtain ⟨es, clock, e, g⟩ := x
 exact ⟨es, clock, t.ow _ _ (Res.le_add_left _ _ _ _ (le _ _ (by rw [e]; exact Res.one_same _ _))), g⟩
section
variable {r : Option Nat} {P : Program} {n : Nat} {ops : Array Oper} {os : List Oper} {A : List HP} {L : Loc} {Hs : List HP} {Q : Out} {ty : TypeId} {d : Nat} {pos : String} {after : Array Edge} {c : Code}
theorem run_mlook [DecidableEq α] {E : KeyE α} {t kt e : TypeId} {i : TypeInfo} {z : Value} (ht : P.underlying t = some (.map kt e)) (hk : KeyP P kt E) (hi : P.info? e = some i) (hz : i.zero = some z) {w : World} {b : Nat} {es : Array MapEntry} {clock : Nat} {ks : Ks α} (hb : w.heap[b]? = some (.map es clock)) (g : MapG E es clock ks) (k : α) (ok : Bool) :
    (Instr.lookup t (.map (some b)) (E.enc k) ok).run P w = .ok (if ok then .tuple #[(mlook ks k).getD z, .bool (mlook ks k).isSome] else (mlook ks k).getD z) w := by
 have hc := hk.chk es.isEmpty k w
 have hf := hk.fnd g k w
 have hzv : (zeroValue e).run P w = .ok z w := by simp [zeroValue, typeInfo, program, Sem.run, hi, hz]
 cases hm : mfind ks k 0 with
 | none =>
   obtain ⟨h1, _⟩ := mfind_none hm
   rw [hm] at hf
   simp only [Instr.lookup, run_underlying ht, Sem.run_bind, Result.andThen_ok, MapKept.run_getObj_map hb, hc, hf, h1, hzv, Sem.run_pure]
   cases ok <;> rfl
 | some p =>
   obtain ⟨j, u⟩ := p
   obtain ⟨m, _, _, h3, _⟩ := mfind_some hm
   rw [hm] at hf
   simp only [Instr.lookup, run_underlying ht, Sem.run_bind, Result.andThen_ok, MapKept.run_getObj_map hb, hc, hf, h3, Sem.run_pure]
   cases ok <;> rfl
theorem r_lookup [DecidableEq α] {E : KeyE α} {t kt e : TypeId} {i : TypeInfo} {z : Value} {x y : Operand} {b : Nat} {ks : Ks α} {k : α} {ok : Bool} {v : Value} (ht : P.underlying t = some (.map kt e)) (hk : KeyP P kt E) (hi : P.info? e = some i) (hz : i.zero = some z)
    (hx : ev L x = some (.map (some b))) (hy : ev L y = some (E.enc k)) [hr : RdMap E b ks Hs] (hv : (if ok then Value.tuple #[(mlook ks k).getD z, .bool (mlook ks k).isSome] else (mlook ks k).getD z) = v) (hd : Nat.blt d n = true)
    (K : wo r P n ops os ((d, v) :: L) Hs Q) : wo r P n ops (⟨some d, .lookup t x y ok, ty, pos, after, none⟩ :: os) L Hs Q := by
 subst hv
 refine wo_read (by intro c; simp) hr.get hd (fun a f w M h h1 hf t' le yy _ _ _ _ => ?_) K
 obtain ⟨es, clock, hb, g⟩ := maps_at t' le yy
 simp [execOp, f.ev hx, f.ev hy, run_mlook ht hk hi hz hb g k ok]
theorem r_mlen {E : KeyE α} {t kt e : TypeId} {x : Operand} {b : Nat} {ks : Ks α} (ht : P.underlying t = some (.map kt e)) (hx : ev L x = some (.map (some b))) [hr : RdMap E b ks Hs] (hd : Nat.blt d n = true)
    (K : wo r P n ops os ((d, vI ks.length) :: L) Hs Q) : wo r P n ops (⟨some d, .call ⟨.builtin .len, #[x], #[t]⟩, ty, pos, after, none⟩ :: os) L Hs Q := by
 refine wo_read (by intro c; simp) hr.get hd (fun a f w M h h1 hf t' le yy _ _ _ _ => ?_) K
 obtain ⟨es, clock, hb, g⟩ := maps_at t' le yy
 have := g.size
 simp [execOp, resolve, f.ev hx, invoke, builtin, Builtin.len_, run_underlying ht, MapKept.run_getObj_map hb, goInt, this]
theorem opt_mapUpdate [DecidableEq α] {E : KeyE α} {t kt e : TypeId} {x y z : Operand} {b : Nat} {ks : Ks α} {k : α} {v : Value} (ht : P.underlying t = some (.map kt e)) (hk : KeyP P kt E)
    (hx : ev L x = some (.map (some b))) (hy : ev L y = some (E.enc k)) (hz : ev L z = some v) :
    OpT r P n ⟨none, .mapUpdate t x y z, ty, pos, after, none⟩ A L [MapS E b ks] (fun _ : Unit => undef) (fun _ => True) (fun _ => [MapS E b (mput ks k v)]) := by
 refine opt_turn (fun a f w M h1 hf dj tt hm => ?_)
 obtain ⟨es, clock, e1, g⟩ := hm
 subst e1
 have hb : w.heap[b]? = some (.map es clock) := tt.ow _ _ (by simp [Res.add, Res.one])
 have hc := hk.chk false k w
 have hfk := hk.fnd g k w
 cases hm : mfind ks k 0 with
 | none =>
   rw [hm] at hfk
   refine ⟨_, Res.one b (.map (es.push { key := E.enc k, val := v, born := clock }) (clock + 1)), dj_one_any dj, sat_setBlock _ dj tt, ⟨_, _, rfl, g.put k v hm⟩, .inr ⟨?_, rfl⟩⟩
   simp [execOp, f.ev hx, f.ev hy, f.ev hz, Instr.mapUpdate, run_underlying ht, MapKept.run_getObj_map hb, hc, hfk, MapKept.run_setObj_map _ hb]
 | some p =>
   obtain ⟨j, u⟩ := p
   rw [hm] at hfk
   obtain ⟨m, hj, hlt, _, h4, _⟩ := mfind_some hm
   simp only [Nat.zero_add] at hj
   subst hj
   have hkey : ((es[j]?).map (·.key)).getD (E.enc k) = E.enc k := by
    have h5 : (es.toList.map (fun e => (e.key, e.val)))[j]? = (ks.map (fun p => (E.enc p.1, p.2)))[j]? := by rw [g.eq]
    simp only [List.getElem?_map, h4, Option.map_some, Array.getElem?_toList] at h5
    cases h6 : es[j]? with
    | none => rw [h6] at h5; simp at h5
    | some e0 => rw [h6] at h5; simp at h5; simp [h5]
   have hst := hk.stay k w
   refine ⟨_, Res.one b (.map (es.modify j fun e => { e with key := E.enc k, val := v }) clock), dj_one_any dj, sat_setBlock _ dj tt, ⟨_, _, rfl, g.set v hm⟩, .inr ⟨?_, rfl⟩⟩
   simp [execOp, f.ev hx, f.ev hy, f.ev hz, Instr.mapUpdate, run_underlying ht, MapKept.run_getObj_map hb, hc, hfk, hkey, hst, MapKept.run_setObj_map _ hb]
theorem r_mkmap {E : KeyE α} {t : TypeId} (hd : Nat.blt d n = true) (K : ∀ b, wo r P n ops os ((d, .map (some b)) :: L) (MapS E b [] :: Hs) Q) : wo r P n ops (⟨some d, .makeMap t none, ty, pos, after, none⟩ :: os) L Hs Q := by
 refine wo_makeMap0 hd (fun b => wo_ent' ⟨fun s => ?_⟩ (K b))
 obtain ⟨h1, h2, d1, e, hb, s2⟩ := s
 exact ⟨h1, h2, d1, e, ⟨_, _, hb, MapG.nil⟩, s2⟩
/-! Maps that are turned. -/
theorem r_mapUpdate [DecidableEq α] {E : KeyE α} {t kt e : TypeId} {x y z : Operand} {b : Nat} {ks : Ks α} {k : α} {v : Value} {Rs : List HP} (ht : P.underlying t = some (.map kt e)) (hk : KeyP P kt E)
    (hx : ev L x = some (.map (some b))) (hy : ev L y = some (E.enc k)) (hz : ev L z = some v) [h : MapPC E b ks Hs Rs] (K : wo r P n ops os L (MapS E b (mput ks k v) :: Rs) Q) : wo r P n ops (⟨none, .mapUpdate t x y z, ty, pos, after, none⟩ :: os) L Hs Q := by
 haveI : PicksC [MapS E b ks] Hs Rs := ⟨.cons h.get .nil⟩
 exact wo_opT (by intro c; simp) (opt_mapUpdate ht hk hx hy hz (ks := ks)) rfl (fun _ _ => K)
theorem opt_range {E : KeyE α} {dst : Option Tmp} {t kt e : TypeId} {x : Operand} {b : Nat} {ks : Ks α} (ht : P.underlying t = some (.map kt e)) (hx : ev L x = some (.map (some b))) :
    OpT r P n ⟨dst, .range t x, ty, pos, after, none⟩ A L [MapS E b ks] (fun i : Nat => .pointer (some ⟨i, 0, none⟩)) (fun _ => True) (fun i => [MapIt E b i ks []]) := by
 refine opt_turnX (fun a f w M h1 hf dj tt hm => ?_)
 obtain ⟨es, clock, e1, g⟩ := hm
 subst e1
 have hb : w.heap[b]? = some (.map es clock) := tt.ow _ _ (by simp [Res.add, Res.one])
 have hlt : b < w.heap.size := (Array.getElem?_eq_some_iff.1 hb).1
 obtain ⟨f1, f2⟩ := fresh_none tt
 have t2 := tt.alloc (.mapIter (some b) clock #[] clock)
 have hd2 : (Res.one w.heap.size (.mapIter (some b) clock #[] clock)).dj ((Res.one b (.map es clock)).add hf) := one_dj f2
 obtain ⟨d1, d2⟩ := Res.dj_add_right.1 hd2
 refine ⟨w.heap.size, w.alloc (.mapIter (some b) clock #[] clock), (Res.one b (.map es clock)).add (Res.one w.heap.size (.mapIter (some b) clock #[] clock)), trivial, Res.dj_add_left.2 ⟨dj, d2⟩, ?_, ⟨es, clock, [], by omega, rfl, g, ⟨by simp, rfl, by simp⟩⟩, ?_⟩
 · rw [Res.add_comm (Res.dj_comm d1), Res.add_assoc]; exact t2
 · simp [execOp, f.ev hx, Instr.range, run_underlying ht, MapKept.run_getObj_map hb, newObj, Sem.run]
theorem opt_next {E : KeyE α} {dst : Option Tmp} {x : Operand} {b i : Nat} {ks : Ks α} {done : List α} (hx : ev L x = some (.pointer (some ⟨i, 0, none⟩))) :
    OpT r P n ⟨dst, .next x false, ty, pos, after, none⟩ A L [MapIt E b i ks done] (nxV E) (nxP ks done) (fun o => [MapIt E b i ks (nxD done o)]) := by
 refine opt_turnX (fun a f w M h1 hf dj tt hm => ?_)
 obtain ⟨es, clock, ds, hne, e1, g, sg⟩ := hm
 subst e1
 have hb : w.heap[b]? = some (.map es clock) := tt.ow _ _ (by simp [Res.add, Res.one])
 have hi : w.heap[i]? = some (.mapIter (some b) clock (ds.map MapEntry.born).toArray clock) := tt.ow _ _ (by simp [Res.add, Res.one, Ne.symm hne])
 have hrun : ∀ (v : Value) (w' : World), (Instr.next (.pointer (some ⟨i, 0, none⟩)) false ty).run P w = .ok v w' → (execOp a.eval ⟨dst, .next x false, ty, pos, after, none⟩).run P w = .ok (.value v) w' := by
  intro v w' h
  simp only [execOp, f.ev hx, Sem.run_bind, h, Result.andThen_ok, Sem.run_pure]
 rcases run_next_at (P := P) w ty i b clock clock (ds.map MapEntry.born).toArray es clock hi hb (fun x hx => g.old x hx) (Nat.le_refl _) with ⟨h0, hr⟩ | ⟨e, he, w1, hw1, hr⟩
 · refine ⟨none, w, _, ?_, dj, tt, ⟨es, clock, ds, hne, rfl, g, sg⟩, hrun _ _ hr⟩
   intro p hp
   obtain ⟨j, hj, rfl⟩ := List.getElem_of_mem hp
   have hje : j < es.toList.length := by have := g.size; simp; omega
   have h1 : es.toList[j] ∈ es.toList := List.getElem_mem _
   have h2 : (ds.map MapEntry.born).contains es.toList[j].born = true := by
    apply Classical.byContradiction
    intro hc
    have h3 : es.toList[j] ∈ (leftOf es (ds.map MapEntry.born).toArray).toList := by
     unfold leftOf
     simp only [Array.toList_filter, List.mem_filter]
     refine ⟨h1, ?_⟩
     simpa using hc
    have h4 : (leftOf es (ds.map MapEntry.born).toArray).toList.length = 0 := by simpa using h0
    rw [List.eq_nil_of_length_eq_zero h4] at h3
    simp at h3
   simp only [List.contains_eq_mem, decide_eq_true_eq, List.mem_map] at h2
   obtain ⟨d0, hd0, hdb⟩ := h2
   have hde : d0 = es.toList[j] := by
    obtain ⟨q, hq, hq2⟩ := List.getElem_of_mem (sg.mem d0 hd0)
    have := nodup_inj g.born (i := q) (j := j) (by simpa using hq) (by simpa using hje) (by rw [List.getElem_map, List.getElem_map, hq2, hdb])
    subst this; exact hq2.symm
   have hk : d0.key ∈ ds.map (·.key) := List.mem_map_of_mem (f := fun e : MapEntry => e.key) hd0
   rw [sg.keys] at hk
   obtain ⟨k, hk1, hk2⟩ := List.mem_map.1 hk
   have h5 : (es.toList.map (fun e => (e.key, e.val)))[j]? = (ks.map (fun p => (E.enc p.1, p.2)))[j]? := by rw [g.eq]
   rw [List.getElem?_map, List.getElem?_map, List.getElem?_eq_getElem hje, List.getElem?_eq_getElem hj] at h5
   simp only [Option.map_some, Option.some.injEq, Prod.mk.injEq] at h5
   have : k = ks[j].1 := E.inj (by rw [hk2, hde, h5.1])
   rw [← this]; exact hk1
 · have he2 : e ∈ es.toList ∧ ¬ e.born ∈ ds.map MapEntry.born := by
     unfold leftOf at he
     simp only [Array.toList_filter, List.mem_filter] at he
     refine ⟨he.1, ?_⟩
     intro hc
     have := he.2
     simp [hc] at this
   obtain ⟨k, v, hk, hv, hm⟩ := mapg_key g he2.1
   have hkd : k ∉ done := by
    intro hc
    have : E.enc k ∈ ds.map (·.key) := by rw [sg.keys]; exact List.mem_map_of_mem (f := E.enc) hc
    obtain ⟨d0, hd0, hd1⟩ := List.mem_map.1 this
    have := mapg_inj g (sg.mem d0 hd0) he2.1 (by rw [hd1, hk])
    subst this
    exact he2.2 (List.mem_map_of_mem (f := fun e : MapEntry => e.born) hd0)
   have tt1 : Sat w1 M (((Res.one b (.map es clock)).add (Res.one i (.mapIter (some b) clock (ds.map MapEntry.born).toArray clock))).add hf) := by
    rcases hw1 with rfl | rfl
    · exact tt
    · exact tt.drew
   obtain ⟨dj1, dj2⟩ := Res.dj_add_left.1 dj
   have dbi : (Res.one b (.map es clock)).dj (Res.one i (.mapIter (some b) clock (ds.map MapEntry.born).toArray clock)) := fun q => by
    by_cases hq : q = b
    · right; subst hq; simp [Res.one, hne]
    · left; simp [Res.one, hq]
   have eq : ∀ o : Obj, ((Res.one b (.map es clock)).add (Res.one i o)).add hf = (Res.one i o).add ((Res.one b (.map es clock)).add hf) := fun o => by
    have d : (Res.one b (.map es clock)).dj (Res.one i o) := fun q => by
     by_cases hq : q = b
     · right; subst hq; simp [Res.one, hne]
     · left; simp [Res.one, hq]
    rw [Res.add_comm d, Res.add_assoc]
   rw [eq] at tt1
   have t3 := sat_setBlock (.mapIter (some b) clock ((ds.map MapEntry.born).toArray.push e.born) clock) (Res.dj_add_right.2 ⟨Res.dj_comm dbi, dj2⟩) tt1
   rw [← eq] at t3
   refine ⟨some (k, v), _, _, ⟨hm, hkd⟩, Res.dj_add_left.2 ⟨dj1, dj_one_any dj2⟩, t3, ⟨es, clock, ds ++ [e], hne, by simp, g, ⟨?_, ?_, ?_⟩⟩, hrun _ _ (by rw [hr, hk, hv]; rfl)⟩
   · intro d0 hd0
     rcases List.mem_append.1 hd0 with h | h
     · exact sg.mem d0 h
     · simp only [List.mem_singleton] at h; subst h; exact he2.1
   · simp [sg.keys, hk, nxD]
   · show (done ++ [k]).Nodup
     rw [List.nodup_append]
     refine ⟨sg.nodup, by simp, ?_⟩
     intro a1 h1 b1 h2 h3
     simp only [List.mem_singleton] at h2
     subst h2; subst h3
     exact hkd h1
/-- A map that is walked over, found by its iterator. -/
class MapItC (E : outParam (KeyE α)) (b : outParam Nat) (i : Nat) (ks : outParam (Ks α)) (done : outParam (List α)) (Hs : List HP) (Rs : outParam (List HP)) : Prop where
 get : Pick (MapIt E b i ks done) Hs Rs
instance (priority := 1000) {E : KeyE α} {b i : Nat} {ks : Ks α} {done : List α} {r : List HP} : MapItC E b i ks done (MapIt E b i ks done :: r) r := ⟨.here⟩
instance (priority := 100) {E : KeyE α} {b i : Nat} {ks : Ks α} {done : List α} {B : HP} {r s : List HP} [h : MapItC E b i ks done r s] : MapItC E b i ks done (B :: r) (B :: s) := ⟨.there h.get⟩
instance (priority := 900) {E : KeyE α} {b i : Nat} {ks : Ks α} {done : List α} {B B' C : List HP} [h : MapItC E b i ks done B B'] : MapItC E b i ks done (B ++ C) (B' ++ C) := ⟨pick_left h.get⟩
instance (priority := 800) {E : KeyE α} {b i : Nat} {ks : Ks α} {done : List α} {B C C' : List HP} [h : MapItC E b i ks done C C'] : MapItC E b i ks done (B ++ C) (B ++ C') := ⟨pick_right h.get⟩
theorem r_range {E : KeyE α} {t kt e : TypeId} {x : Operand} {b : Nat} {ks : Ks α} {Rs : List HP} (ht : P.underlying t = some (.map kt e)) (hx : ev L x = some (.map (some b))) [h : MapPC E b ks Hs Rs] (hd : Nat.blt d n = true)
    (K : ∀ i, wo r P n ops os ((d, .pointer (some ⟨i, 0, none⟩)) :: L) (MapIt E b i ks [] :: Rs) Q) : wo r P n ops (⟨some d, .range t x, ty, pos, after, none⟩ :: os) L Hs Q := by
 haveI : PicksC [MapS E b ks] Hs Rs := ⟨.cons h.get .nil⟩
 exact wo_opT (by intro c; simp) (opt_range ht hx) (by simpa [dstOk] using hd) (fun i _ => K i)
theorem r_next {E : KeyE α} {x : Operand} {b i : Nat} {ks : Ks α} {done : List α} {Rs : List HP} (hx : ev L x = some (.pointer (some ⟨i, 0, none⟩))) [h : MapItC E b i ks done Hs Rs] (hd : Nat.blt d n = true)
    (K : ∀ o, nxP ks done o → wo r P n ops os ((d, nxV E o) :: L) (MapIt E b i ks (nxD done o) :: Rs) Q) : wo r P n ops (⟨some d, .next x false, ty, pos, after, none⟩ :: os) L Hs Q := by
 haveI : PicksC [MapIt E b i ks done] Hs Rs := ⟨.cons h.get .nil⟩
 exact wo_opT (by intro c; simp) (opt_next hx) (by simpa [dstOk] using hd) (fun o ho => K o ho)
theorem pv_nx0 {E : KeyE α} {x : Operand} {o : Option (α × Value)} (hx : ev L x = some (nxV E o)) : PV P n L (.extract x 0) ty (.bool o.isSome) := by
 cases o with
 | none => exact pv_extract hx rfl
 | some p => exact pv_extract (vs := #[.bool true, E.enc p.1, p.2]) hx rfl
theorem r_entry {E : KeyE α} {x : Operand} {b i : Nat} {ks : Ks α} {done : List α} {k : α} {v : Value} {Rs : List HP} (hm : (k, v) ∈ ks) (hx : ev L x = some (.pointer (some ⟨i, 0, none⟩))) [h : MapItC E b i ks (done ++ [k]) Hs Rs] (hd : Nat.blt d n = true)
    (K : wo r P n ops os ((d, .tuple #[E.enc k, v]) :: L) Hs Q) : wo r P n ops (⟨some d, .entry x, ty, pos, after, none⟩ :: os) L Hs Q := by
 refine wo_read (by intro c; simp) (pick_has h.get) hd (fun a f w M h1 h2 hf t le hm' dst pos after guard => ?_) K
 obtain ⟨es, clock, ds, hne, e1, g, sg⟩ := hm'
 subst e1
 have hb : w.heap[b]? = some (.map es clock) := t.ow _ _ (by have := le b (.map es clock) (by simp [Res.add, Res.one]); simp [Res.add, this])
 have hi : w.heap[i]? = some (.mapIter (some b) clock (ds.map MapEntry.born).toArray clock) := t.ow _ _ (by have := le i (.mapIter (some b) clock (ds.map MapEntry.born).toArray clock) (by simp [Res.add, Res.one, Ne.symm hne]); simp [Res.add, this])
 have hl : ds.length = done.length + 1 := by have := congrArg List.length sg.keys; simpa using this
 obtain ⟨ds', e, rfl⟩ : ∃ ds' e, ds = ds' ++ [e] := by
  rcases List.eq_nil_or_concat ds with h | ⟨l, e, h⟩
  · rw [h] at hl; simp at hl
  · exact ⟨l, e, by simpa using h⟩
 have hk : e.key = E.enc k := by
  have := sg.keys
  simp only [List.map_append, List.map_cons, List.map_nil] at this
  exact (List.append_inj' this rfl).2 |> fun h => by simpa using h
 have he : e ∈ es.toList := sg.mem e (by simp)
 obtain ⟨k2, v2, hk2, hv2, hm2⟩ := mapg_key g he
 have hkk : k2 = k := E.inj (by rw [← hk2, hk])
 subst hkk
 have hvv : v2 = v := by
  obtain ⟨p, hp, hp2⟩ := List.getElem_of_mem hm
  obtain ⟨q, hq, hq2⟩ := List.getElem_of_mem hm2
  have := nodup_inj g.keys (i := p) (j := q) (by simpa using hp) (by simpa using hq) (by rw [List.getElem_map, List.getElem_map, hp2, hq2])
  subst this
  rw [hp2] at hq2
  exact (Prod.mk.inj hq2).2.symm
 subst hvv
 have hi2 : w.heap[i]? = some (.mapIter (some b) clock ((ds'.map MapEntry.born).toArray.push e.born) clock) := by rw [hi]; simp
 have := run_entry_at (P := P) w i b clock _ es clock e hi2 hb he g.born
 simp only [execOp, f.ev hx, Sem.run_bind, this, Result.andThen_ok, Sem.run_pure, hk, hv2]
theorem mapit_done {E : KeyE α} {b i : Nat} {ks : Ks α} {done : List α} {Rs : List HP} [h : MapItC E b i ks done Hs Rs] : Ent Hs (MapS E b ks :: Rs) := (Picks.ent (.cons h.get .nil)).trans ⟨fun {M x} s => by
 obtain ⟨h1, h2, d, e, ⟨es, clock, ds, hne, e1, g, sg⟩, s⟩ := s
 subst e1; subst e
 obtain ⟨d1, d2⟩ := Res.dj_add_left.1 d
 have dbi : (Res.one b (.map es clock)).dj (Res.one i (.mapIter (some b) clock (ds.map MapEntry.born).toArray clock)) := fun q => by
  by_cases hq : q = b
  · right; subst hq; simp [Res.one, hne]
  · left; simp [Res.one, hq]
 rw [Res.add_assoc]
 exact ⟨_, _, Res.dj_add_right.2 ⟨dbi, d1⟩, rfl, ⟨es, clock, rfl, g⟩, SL.more d2 s⟩⟩
/-- The keys that were met, once nothing is left. -/
theorem mapit_perm {E : KeyE α} {b i : Nat} {ks : Ks α} {done : List α} {M : Kn} {h : Res} (x : (MapIt E b i ks done).at_ M h) (hn : nxP ks done none) : done.Perm (ks.map (·.1)) := by
 obtain ⟨es, clock, ds, hne, e1, g, sg⟩ := x
 refine (List.perm_ext_iff_of_nodup sg.nodup g.keys).2 fun k => ⟨fun hk => ?_, fun hk => ?_⟩
 · have : E.enc k ∈ ds.map (·.key) := by rw [sg.keys]; exact List.mem_map_of_mem (f := E.enc) hk
   obtain ⟨d0, hd0, hd1⟩ := List.mem_map.1 this
   obtain ⟨k2, v2, hk2, _, hm2⟩ := mapg_key g (sg.mem d0 hd0)
   have : k2 = k := E.inj (by rw [← hk2, hd1])
   subst this
   exact List.mem_map_of_mem (f := fun p : α × Value => p.1) hm2
 · obtain ⟨p, hp, rfl⟩ := List.mem_map.1 hk
   exact hn p hp
theorem mapit_len [DecidableEq α] {E : KeyE α} {b i : Nat} {ks : Ks α} {done : List α} {M : Kn} {h : Res} (x : (MapIt E b i ks done).at_ M h) : done.length ≤ ks.length ∧ done.Nodup ∧ ∀ k ∈ done, k ∈ ks.map (·.1) := by
 obtain ⟨es, clock, ds, hne, e1, g, sg⟩ := x
 have hsub : ∀ k ∈ done, k ∈ ks.map (·.1) := fun k hk => by
  have : E.enc k ∈ ds.map (·.key) := by rw [sg.keys]; exact List.mem_map_of_mem (f := E.enc) hk
  obtain ⟨d0, hd0, hd1⟩ := List.mem_map.1 this
  obtain ⟨k2, v2, hk2, _, hm2⟩ := mapg_key g (sg.mem d0 hd0)
  have : k2 = k := E.inj (by rw [← hk2, hd1])
  subst this
  exact List.mem_map_of_mem (f := fun p : α × Value => p.1) hm2
 refine ⟨?_, sg.nodup, hsub⟩
 have := nodup_len sg.nodup hsub
 simpa using this
end
end Go.Proofs.YtdnoacgopfcpbaaGreat.MX
namespace Go.Proofs.YtdnoacgopfcpbaaGreat
end Go.Proofs.YtdnoacgopfcpbaaGreat
/- Maps whose keys are two texts, or yes and no. -/
namespace Go.Proofs.YtdnoacgopfcpbaaGreat.MX
abbrev Bt := List UInt8
def pairE : KeyE (Bt × Bt) := ⟨fun p => .agg #[vS p.1, vS p.2], fun {a b} h => by
 have h1 : ([vS a.1, vS a.2] : List Value) = [vS b.1, vS b.2] := congrArg (fun v => match v with | .agg xs => xs.toList | _ => []) h
 simp only [List.cons.injEq, and_true] at h1
 exact Prod.ext (vS_inj h1.1) (vS_inj h1.2)⟩
section
variable {P : Program} {t e : TypeId} {i : TypeInfo} (hu : P.underlying t = some (.array 2 e)) (he : P.underlying e = some .string) (hi : P.info? e = some i) (hs : i.size = 1)
include he in
theorem run_partS {xs : Array Value} {off : Nat} {v : Value} (hx : xs[off]? = some v) (w : World) : (part e xs off).run P w = .ok v w := by
 simp [part, isAgg, run_underlying he, hx]
include hu he hi hs in
theorem pair_eq (p q : Bt × Bt) (w : World) (d : Nat) : (Op.equalIn (d + 2) t (pairE.enc p) (pairE.enc q)).run P w = .ok (decide (p = q)) w := by
 have hc : P.cellsOf e = 1 := by simp [Program.cellsOf, hi, hs]
 have h0 := fun (r : Bt × Bt) => run_partS (P := P) he (xs := #[vS r.1, vS r.2]) (off := 0) (v := vS r.1) rfl
 have h1 := fun (r : Bt × Bt) => run_partS (P := P) he (xs := #[vS r.1, vS r.2]) (off := 1) (v := vS r.2) rfl
 have e1 : ∀ (a b : Bt), (Op.equalIn (d + 1) e (vS a) (vS b)).run P w = .ok (decide (a = b)) w := fun a b => by
  rw [show vS a = .string ⟨a.toArray⟩ from rfl, show vS b = .string ⟨b.toArray⟩ from rfl, run_equalIn_string w d _ _ _ he]
  congr 1
  rw [Bool.eq_iff_iff]
  simp
 show (Op.equalIn (d + 1 + 1) t (.agg #[vS p.1, vS p.2]) (.agg #[vS q.1, vS q.2])).run P w = _
 rw [run_equalIn_array w (d + 1) _ _ hu hi, hc, show List.range 2 = [0, 1] from rfl]
 simp only [Op.eqItems, Nat.zero_mul, Nat.one_mul, Sem.run_bind, h0, h1, e1, Result.andThen_ok]
 by_cases c1 : p.1 = q.1
 · by_cases c2 : p.2 = q.2
   · have : p = q := Prod.ext c1 c2
     simp only [this, decide_true, Bool.not_true, Bool.false_eq_true, if_false, Sem.run_bind, h1, e1, Result.andThen_ok, Sem.run_pure]
   · have : p ≠ q := fun h => c2 (by rw [h])
     have h2 := h1 (q.1, p.2)
     dsimp only at h2
     simp [c1, c2, this, h1, h2, e1]
 · have : p ≠ q := fun h => c1 (by rw [h])
   simp [c1, this]
include hu he hi hs in
theorem pair_asking (k : Bt × Bt) (w : World) : ∀ (es : List MapEntry) (ks : Ks (Bt × Bt)) (j : Nat), es.map (fun e => (e.key, e.val)) = ks.map (fun p => (pairE.enc p.1, p.2)) → (Instr.findAsking t (pairE.enc k) es j).run P w = .ok (mfind ks k j) w := by
 intro es
 induction es with
 | nil => intro ks j h; cases ks with
   | nil => simp [Instr.findAsking, mfind]
   | cons _ _ => simp at h
 | cons x es ih =>
   intro ks j h
   cases ks with
   | nil => simp at h
   | cons p r =>
     simp only [List.map_cons, List.cons.injEq, Prod.mk.injEq] at h
     obtain ⟨⟨h1, h2⟩, h3⟩ := h
     have := pair_eq hu he hi hs k p.1 w 9998
     simp only [Instr.findAsking, Sem.run_bind, h1, Op.equal, Op.maxDepth, this, Result.andThen_ok, mfind]
     by_cases hk : k = p.1
     · simp [hk, h2]
     · simp only [hk, decide_false, Bool.false_eq_true, if_false, Ne.symm hk]
       exact ih r (j + 1) h3
include hu he hi hs in
theorem pairP : KeyP P t pairE := by
 refine ⟨fun b k w => ?_, fun {es clock ks} g k w => ?_, fun k w => ?_⟩
 · have hsz : (sizeOf e).run P w = .ok 1 w := by simp [sizeOf, typeInfo, program, Sem.run, hi, hs]
   have hk : ∀ (d : Nat) (s : Bt), (Instr.checkKey b (d + 1) e (vS s)).run P w = .ok () w := fun d s => by simp [Instr.checkKey, run_underlying he]
   have h0 := run_partS (P := P) he (xs := #[vS k.1, vS k.2]) (off := 0) (v := vS k.1) rfl
   have h1 := run_partS (P := P) he (xs := #[vS k.1, vS k.2]) (off := 1) (v := vS k.2) rfl
   have all : ∀ d : Nat, (Instr.checkKey b (d + 2) t (.agg #[vS k.1, vS k.2])).run P w = .ok () w := fun d => by
    rw [Instr.checkKey]
    simp only [Sem.run_bind, run_underlying hu, Result.andThen_ok]
    simp only [Std.Legacy.Range.forIn_eq_forIn_range', Std.Legacy.Range.size, Nat.sub_zero, Nat.add_one_sub_one, Nat.div_one, show List.range' 0 2 = [0, 1] from rfl, List.forIn_cons, List.forIn_nil, Sem.run_bind, hsz, Result.andThen_ok, Nat.zero_mul, Nat.one_mul, h0, h1, hk, Sem.run_pure]
   exact all 9998
 · have hn : ∀ (es : List MapEntry) (ks : Ks (Bt × Bt)), es.map (fun e => (e.key, e.val)) = ks.map (fun p => (pairE.enc p.1, p.2)) → Instr.findNow (.array 2 e) (pairE.enc k) es 0 = none ∨ (es = [] ∧ ks = []) := by
     intro es ks h
     cases es with
     | nil => cases ks with
       | nil => exact .inr ⟨rfl, rfl⟩
       | cons _ _ => simp at h
     | cons x es => exact .inl (by simp [Instr.findNow, Instr.sameNow])
   rcases hn es.toList ks g.eq with h | ⟨h1, h2⟩
   · simp only [Instr.findKey, Sem.run_bind, run_underlying hu, Result.andThen_ok, h]
     exact pair_asking hu he hi hs k w es.toList ks 0 g.eq
   · rw [h1, h2]
     simp [Instr.findKey, run_underlying hu, Instr.findNow, mfind]
 · have hb : ∀ s : Bt, ((⟨⟨s⟩⟩ : ByteArray) == ⟨⟨s⟩⟩) = true := fun s => by rw [mk_eq]; exact decide_eq_true rfl
   have h : ∀ d, Instr.sameBits (d + 1) (.agg #[vS k.1, vS k.2]) (.agg #[vS k.1, vS k.2]) = true := fun d => by cases d <;> simp [Instr.sameBits, hb]
   show (Instr.keyThatStays (.agg #[vS k.1, vS k.2]) (.agg #[vS k.1, vS k.2])).run P w = .ok (.agg #[vS k.1, vS k.2]) w
   rw [Instr.keyThatStays, if_pos (h 9999)]; rfl
end
end Go.Proofs.YtdnoacgopfcpbaaGreat.MX
namespace Go.Proofs.YtdnoacgopfcpbaaGreat
end Go.Proofs.YtdnoacgopfcpbaaGreat
