/- Texts of this proof, put together: STags, STags2, STags3, STags4. -/
import Derived.Test.YtomgdbanbpjedaaGreatQ20
set_option linter.unusedVariables false
set_option linter.unusedSimpArgs false
namespace Go.Proofs.YtomgdbanbpjedaaGreat
section
set_option maxRecDepth 100000
def retg (n : Bs) (l : List Tg) (j : Nat) : List Tg := (l.take j).map (fun t => { t with target := n }) ++ l.drop j
theorem retg_len (n : Bs) (l : List Tg) (j : Nat) (h : j ≤ l.length) : (retg n l j).length = l.length := by simp [retg]; omega
theorem retg_all (n : Bs) (l : List Tg) : retg n l l.length = l.map (fun t => { t with target := n }) := by simp [retg]
theorem retg_set (n : Bs) (l : List Tg) {j : Nat} (h : j < l.length) : ((retg n l j).flatMap tgCells).set (j * 4 + 2) (vS n) = (retg n l (j + 1)).flatMap tgCells := by
 have hd : l.drop j = l[j] :: l.drop (j + 1) := List.drop_eq_getElem_cons h
 have ht : l.take (j + 1) = l.take j ++ [l[j]] := List.take_succ_eq_append_getElem h
 have hl : (((l.take j).map (fun t : Tg => { t with target := n })).flatMap tgCells).length = j * 4 := by
  rw [flat_len (f := tgCells) (sz := 4) (fun _ => rfl), List.length_map, List.length_take]; omega
 unfold retg
 rw [hd, ht]
 simp only [List.map_append, List.map_cons, List.map_nil, List.flatMap_append, List.flatMap_cons, List.flatMap_nil, List.append_nil]
 rw [List.set_append_right _ _ (by omega), hl]
 simp [tgCells, Nat.add_sub_cancel_left]
set_option maxHeartbeats 2000000 in
theorem tags_ops_sp (n s : Bs) (hs : s.length ≤ 1073741824) : Sp Tryz.prog 103 [vS n, vS s] [] (X := Option Addr × Nat) (fun x => .tuple #[.slice x.1 (opsB n s).1.length x.2, vI (opsB n s).2]) (fun _ => True) (fun x => [Row 27 4 (.slice x.1 (opsB n s).1.length x.2) (opsB n s).1.length ((opsB n s).1.flatMap tgCells)]) := by
 refine Sp.body (n := 43) Tryz.call103 Tryz.func103 rfl rfl rfl ?_
 refine Qc (k:=Qv (k:=Wq (Za (k:=Qc (k:=Vv (k:=?_))))))
 refine r_callX (checkin_Read_sp s hs) rfl rfl rfl (fun x13 hx13 => ?_)
 obtain ⟨xa, ck⟩ := x13
 obtain ⟨hck, hpc⟩ := hx13
 dsimp only at hck hpc ⊢
 refine Vv (k:=?_)
 refine wo_pv (pv_extract (v := .agg #[vS ck.base, vS ck.comment, vI ck.date, .slice xa.fa ck.files.length xa.fc, .slice xa.pa ck.parents.length xa.pc, .slice xa.ta ck.tags.length xa.tc, vS ck.user]) rfl rfl) rfl ?_
 refine wo_pv (pv_extract (v := vB (readK s).isSome) rfl rfl) rfl ?_
 refine Zc [vS [], vS [], .int .i64 0, .slice none 0 0, .slice none 0 0, .slice none 0 0, vS []] (k:=fun b6 => Zp (k:=Vv (k:=Wq (Qc (k:=Vv (k:=Wq (Zi (t:=fun h16 => ?_) (f:=fun h16 => ?_))))))))
 ·
  obtain ⟨k, hk⟩ : ∃ k, readK s = some k := Option.isSome_iff_exists.1 h16
  have hkk : ck = k := by rw [hck, hk]; rfl
  subst hkk
  have htl : ck.tags.length ≤ 12 := (readK_right hk).tags.len
  have hop : opsB n s = (ck.tags.map (fun t => { t with target := n }), ck.date) := by rw [opsB, hk]
  refine Za (k:=Qc (k:=Qx 5 29 (k:=Qv (k:=Wq (Zb (k:=?_))))))
  refine p_loop (fun (i : { j : Nat // j ≤ ck.tags.length }) => [(0, vS n), (6, .pointer (some ⟨b6, 0, none⟩)), (19, vI ck.tags.length), (20, vI i.1)]) (fun (i : { j : Nat // j ≤ ck.tags.length }) => [Row 27 4 (.slice xa.ta ck.tags.length xa.tc) ck.tags.length ((retg n ck.tags i.1).flatMap tgCells), Ce b6 52 [vS ck.base, vS ck.comment, vI ck.date, .slice xa.fa ck.files.length xa.fc, .slice xa.pa ck.parents.length xa.pc, .slice xa.ta ck.tags.length xa.tc, vS ck.user]]) (fun (i : { j : Nat // j ≤ ck.tags.length }) => ck.tags.length - i.1) rfl (⟨0, Nat.zero_le _⟩) ?_ ?_ (fun i => ?_)
  · exact ⟨rfl, rfl, rfl, rfl, trivial⟩
  ·
   dsimp only
   rw [show retg n ck.tags 0 = ck.tags by simp [retg]]
   exact ent_pick
  obtain ⟨j, hj⟩ := i
  dsimp only
  try dsimp only
  refine Qc (k:=Vv (k:=Wq (Za (k:=Zi (t:=fun h21 => ?_) (f:=fun h21 => ?_)))))
  ·
   refine Zk (k:=Ya (Za (k:=Zb (k:=Qc (k:=Qv (k:=Wq ?_))))))
   have hjl : j < ck.tags.length := by omega
   have hrl := retg_len n ck.tags j hj
   have hst := retg_set n ck.tags hjl
   have hfl6 : ((retg n ck.tags j).flatMap tgCells).length = 4 * ck.tags.length := by rw [flat_len (f := tgCells) (sz := 4) (fun _ => rfl), hrl]; omega
   refine Zr (k:=Qx 5 29 (k:=Qv (k:=Ye 4 (k:=Yf 2 9 (k:=?_)))))
   refine r_estore ti9 rfl rfl rfl rfl (by rw [hfl6]; omega) ?_
   refine Wn (Yb (Ya (Zr (k:=Qv (k:=Wn ?_)))))
   refine to_inv ⟨j + 1, by omega⟩ (by dsimp only; omega) ⟨rfl, rfl, rfl, rfl, trivial⟩ ?_
   dsimp only
   exact ent_step (row_norm (by rfl) hst) ent_pick
  ·
   refine Ze (k:=Xa (Xi (Xb (Ya (Za (k:=Dw [Ce b6 52 [vS ck.base, vS ck.comment, vI ck.date, .slice xa.fa ck.files.length xa.fc, .slice xa.pa ck.parents.length xa.pc, .slice xa.ta ck.tags.length xa.tc, vS ck.user]] (k:=?_)))))))
   refine Di 0 (t:=Uf 5 29) (k:=Di 1 (t:=Ul) (k:=Di 2 (t:=Uf 2 3) (k:=Di 3 (t:=Ul) (k:=Dv 4 (k:=Dv 5 (k:=Dd (k:=Ya (Zt (k:=Va ?_)))))))))
   rw [hop]
   have hjn : j = ck.tags.length := by omega
   subst hjn
   rw [retg_all]
   refine fin_ret (xa.ta, xa.tc) (vs := [_, _]) (Cs := []) rfl (.tmp rfl (.tmp rfl .nil)) (by simp [pack]) trivial ?_
   simp only [List.length_map]
   exact ent_pick
 ·
  have hk : readK s = none := by cases e : readK s with | none => rfl | some k => rw [e] at h16; cases h16
  have hop : opsB n s = (((readCt s).getD ct0).tags, ((readCt s).getD ct0).date) := by rw [opsB, hk]
  refine Zk (k:=Ya (Qc (k:=Vv (k:=?_))))
  refine r_callX (control_Read_sp s hs) rfl rfl rfl (fun x36 hx36 => ?_)
  obtain ⟨⟨ta, tc⟩, ct⟩ := x36
  dsimp only at hx36 ⊢
  subst hx36
  generalize (readCt s).getD ct0 = ct at *
  refine Vv (k:=?_)
  refine wo_pv (pv_extract (v := .agg #[vI ct.date, .slice ta ct.tags.length tc, vS ct.user]) rfl rfl) rfl ?_
  refine wo_pv (pv_extract (v := vB (readCt s).isSome) rfl rfl) rfl ?_
  refine Zc [.int .i64 0, .slice none 0 0, vS []] (k:=fun b9 => Zp (k:=Vv (k:=Wq (Za (k:=Dw [Ce b9 31 [vI ct.date, .slice ta ct.tags.length tc, vS ct.user]] (k:=?_))))))
  refine Di 0 (t:=Uf 1 29) (k:=Di 1 (t:=Ul) (k:=Di 2 (t:=Uf 0 3) (k:=Di 3 (t:=Ul) (k:=Dv 4 (k:=Dv 5 (k:=Dd (k:=Ya (Zt (k:=?_)))))))))
  rw [hop]
  exact fin_ret (ta, tc) (vs := [_, _]) (Cs := []) rfl (.tmp rfl (.tmp rfl .nil)) rfl trivial ent_pick
theorem opsB_len (n s : Bs) : (opsB n s).1.length ≤ 12 := by
 unfold opsB
 cases e : readK s with
 | some c => simp only [List.length_map]; exact (readK_right e).tags.len
 | none =>
   dsimp only
   cases e2 : readCt s with
   | none => simp [ct0]
   | some c => exact (readCt_iff.1 e2).1.tags.len
theorem tags_All_sp (m : Option Nat) : Sp Tryz.prog 69 [.map m] [] (X := Nat) (fun b => .func (.func 102) #[] #[.pointer (some ⟨b, 0, none⟩)]) (fun _ => True) (fun b => [Ce b 22 [.map m]]) := by
 refine Sp.body (n := 4) Tryz.call69 Tryz.func69 rfl rfl rfl ?_
 refine Qc (k:=Zx [_] (k:=fun b1 => Vv (k:=Wq (Qc (k:=Qv (k:=Wq (Zt (k:=?_))))))))
 exact fin_ret b1 (vs := [_]) (Cs := []) rfl (.tmp rfl .nil) rfl trivial ent_pick
def sdV (s : Sd) : Value := .agg (sdVals s).toArray
theorem sdF_snoc (H : Ks) (l : List Bs) (n : Bs) : sdF H (l ++ [n]) = sdF H l ++ sdOf H n := by simp [sdF]
set_option maxHeartbeats 2000000 in
theorem tags_All_itB (c b : Nat) (H : Ks) (hH : TxtK H) (hn : H.length ≤ 4398046511104) :
    IterB Tryz.prog 102 [.pointer (some ⟨c, 0, none⟩)] (fun s : Sd => [sdV s]) (okL (sdL H)) (stopL (sdL H)) (MapS b H) [Ce c 22 [.map (some b)]] [Ce c 22 [.map (some b)]] (sdL H) (fun _ => .tuple #[]) := by
 intro y Jy J0 Jx ys hj1 hj2
 have hkl := keysS_len H
 refine Sp.body (n := 40) Tryz.call102 Tryz.func102 rfl rfl rfl ?_
 refine wc_ent' (ent_open2 (hj1 []) (Ent.refl _)) ?_
 refine Qc (k:=Zd (k:=?_))
 refine r_callX (maps_Keys_sp (some b)) rfl rfl rfl (fun cb _ => ?_)
 refine r_callX (slices_Sorted_sp (maps_Keys_it cb b H) H.length hn (fun pre x h => h.2.2) (fun l h => by have := h.length_eq; simp at this; omega)) rfl rfl rfl (fun xs hxs => ?_)
 obtain ⟨⟨sa, sc⟩, al⟩ := xs
 have hse : sortB al = keysS H := sortB_eq hxs
 have hal : al.length = H.length := by have := hxs.length_eq; simpa using this
 dsimp only
 rw [hse, hal]
 refine Qv (k:=Wq (Zb (k:=?_)))
 refine p_loop (fun (i : { j : Nat // j ≤ H.length }) => [(0, y), (1, .pointer (some ⟨c, 0, none⟩)), (11, .slice sa H.length sc), (12, vI H.length), (13, vI i.1)]) (fun (i : { j : Nat // j ≤ H.length }) => [Jy (sdF H ((keysS H).take i.1)), Row 9 1 (.slice sa H.length sc) H.length ((keysS H).map vS), Ce c 22 [.map (some b)]]) (fun (i : { j : Nat // j ≤ H.length }) => H.length - i.1) rfl (⟨0, Nat.zero_le _⟩) ?_ ?_ (fun i => ?_)
 · exact ⟨rfl, rfl, rfl, rfl, rfl, trivial⟩
 ·
  dsimp only
  rw [show sdF H ((keysS H).take 0) = [] from rfl]
  refine ent_fold2 (hj2 []) ?_
  exact ent_pick
 obtain ⟨j, hj⟩ := i
 dsimp only
 try dsimp only
 refine Qc (k:=Vv (k:=Wq (Za (k:=Zi (t:=fun h14 => ?_) (f:=fun h14 => ?_)))))
 ·
  refine Zk (k:=Ya (Za (k:=Zb (k:=Za (k:=?_)))))
  have hjl : j < (keysS H).length := by omega
  refine wc_ent' (ent_open2 (hj1 (sdF H ((keysS H).take j))) (Ent.refl _)) ?_
  have hst : (keysS H).take (j + 1) = (keysS H).take j ++ [(keysS H)[j]] := List.take_succ_eq_append_getElem hjl
  obtain ⟨nm, hnm⟩ : ∃ nm, nm = (keysS H)[j] := ⟨_, rfl⟩
  have hfs : sdF H ((keysS H).take (j + 1)) = sdF H ((keysS H).take j) ++ sdOf H nm := by rw [hst, sdF_snoc, hnm]
  have hff : sdL H = sdF H ((keysS H).take j) ++ sdOf H nm ++ sdF H ((keysS H).drop (j + 1)) := by
   rw [← hfs]
   unfold sdL sdF
   rw [← List.flatMap_append, List.take_append_drop]
  obtain ⟨htx, htl⟩ := hH.get nm
  have hOp := tags_ops_sp nm (getB H nm) htl
  have hol := opsB_len nm (getB H nm)
  have hsd : sdOf H nm = (opsB nm (getB H nm)).1.map (fun t => (⟨t, (opsB nm (getB H nm)).2, nm⟩ : Sd)) := rfl
  generalize opsB nm (getB H nm) = op at hOp hol hsd
  obtain ⟨tgs, date⟩ := op
  dsimp only at hOp hol hsd
  refine Zr (k:=Ye 1 (k:=?_))
  refine r_eload Tryz.underlying9 rfl rfl ((get_map (m := j) (by omega)).trans (by rw [← hnm])) rfl ?_
  refine Vv (k:=Wq (Qc (k:=Vv (k:=Zd (k:=Vv (k:=?_))))))
  refine r_lookup (v := vS (getB H nm)) Tryz.underlying22 Tryz.underlying9 ti9 rfl rfl rfl htx rfl ?_
  refine r_callX hOp rfl rfl rfl (fun x22 _ => ?_)
  obtain ⟨oa, oc⟩ := x22
  dsimp only
  refine Vv (k:=?_)
  refine wo_pv (pv_extract (v := .slice oa tgs.length oc) rfl rfl) rfl ?_
  refine wo_pv (pv_extract (v := vI date) rfl rfl) rfl ?_
  refine Qv (k:=Wq (Qc (k:=Qv (k:=Vv (k:=Wq (Zb (k:=?_)))))))
  refine p_loop (fun (i : { i : Nat // i ≤ tgs.length }) => [(0, y), (1, .pointer (some ⟨c, 0, none⟩)), (4, vS nm), (6, vI date), (11, .slice sa H.length sc), (12, vI H.length), (13, vI j), (25, .slice oa tgs.length oc), (26, vI tgs.length), (27, vI i.1)]) (fun (i : { i : Nat // i ≤ tgs.length }) => [Jy (sdF H ((keysS H).take j) ++ (sdOf H nm).take i.1), Row 27 4 (.slice oa tgs.length oc) tgs.length (tgs.flatMap tgCells), Row 9 1 (.slice sa H.length sc) H.length ((keysS H).map vS), Ce c 22 [.map (some b)]]) (fun (i : { i : Nat // i ≤ tgs.length }) => tgs.length - i.1) rfl (⟨0, Nat.zero_le _⟩) ?_ ?_ (fun i => ?_)
  · exact ⟨rfl, rfl, rfl, rfl, rfl, rfl, rfl, rfl, rfl, rfl, trivial⟩
  ·
   dsimp only
   rw [List.take_zero, List.append_nil]
   refine ent_fold2 (hj2 _) ?_
   exact ent_pick
  obtain ⟨i, hi⟩ := i
  dsimp only
  try dsimp only
  refine Qc (k:=Vv (k:=Wq (Za (k:=Zi (t:=fun h28 => ?_) (f:=fun h28 => ?_)))))
  ·
   refine Zk (k:=Ya (Za (k:=Zb (k:=Za (k:=?_)))))
   have hil : i < tgs.length := by omega
   have hget := get_flat (f := tgCells) (sz := 4) (fun _ => rfl) hil
   have hsl : (sdOf H nm).length = tgs.length := by rw [hsd, List.length_map]
   have hsi : (sdOf H nm)[i]'(by omega) = ⟨tgs[i], date, nm⟩ := by simp [hsd]
   have hsn : (sdOf H nm).take (i + 1) = (sdOf H nm).take i ++ [⟨tgs[i], date, nm⟩] := by rw [← hsi]; exact List.take_succ_eq_append_getElem (by omega)
   obtain ⟨tg, htg⟩ : ∃ tg, tg = tgs[i] := ⟨_, rfl⟩
   rw [← htg] at hget hsn
   have hc4 : (tgCells tg).length = 4 := rfl
   have hall : sdL H = sdF H ((keysS H).take j) ++ (sdOf H nm).take i ++ (⟨tg, date, nm⟩ : Sd) :: ((sdOf H nm).drop (i + 1) ++ sdF H ((keysS H).drop (j + 1))) := by
    rw [hff]
    conv => lhs; rw [← List.take_append_drop (i + 1) (sdOf H nm), hsn]
    simp only [List.append_assoc, List.singleton_append, List.cons_append, List.nil_append]
   have hok6 : okL (sdL H) (sdF H ((keysS H).take j) ++ (sdOf H nm).take i) (⟨tg, date, nm⟩ : Sd) := ⟨_, hall⟩
   have hst6 : stopL (sdL H) (sdF H ((keysS H).take j) ++ (sdOf H nm).take i ++ [⟨tg, date, nm⟩]) := ⟨by simp, (sdOf H nm).drop (i + 1) ++ sdF H ((keysS H).drop (j + 1)), by rw [hall]; simp only [List.append_assoc, List.singleton_append, List.cons_append, List.nil_append]⟩
   refine Zr (k:=Ye 4 (k:=?_))
   refine r_eloada (sz := 4) Tryz.underlying27 rfl ti27 rfl rfl (by rw [flat_len (f := tgCells) (sz := 4) (fun _ => rfl)]; omega) rfl hget rfl ?_
   refine Zc [.int .u8 0, vS [], vS [], vS []] (k:=fun b8 => Zp (k:=Wq (Qc (k:=Vv (k:=Zm [_, _, _, _] (k:=Qv (k:=Vx (Ps [_, _, _, _, _, _]) (k:=?_))))))))
   refine r_yield ys (sdF H ((keysS H).take j) ++ (sdOf H nm).take i) (⟨tg, date, nm⟩ : Sd) hok6 rfl rfl rfl ?_ ?_
   ·
    refine Vv (k:=Wq (Z0 (k:=Zk (k:=Yb (Ya (Zr (k:=Qv (k:=Wn ?_))))))))
    refine to_inv ⟨i + 1, by omega⟩ (by dsimp only; omega) ⟨rfl, rfl, rfl, rfl, rfl, rfl, rfl, rfl, rfl, rfl, trivial⟩ ?_
    dsimp only
    rw [hsn, ← List.append_assoc]
    exact ent_pick
   ·
    refine Vv (k:=Wq (Z1 (k:=Zt (k:=Vb (Va (Vi (Vb (Vb (Va (Vi (Vb ?_)))))))))))
    refine fin_ret (some (sdF H ((keysS H).take j) ++ (sdOf H nm).take i ++ [⟨tg, date, nm⟩])) (vs := []) (Cs := []) rfl .nil rfl (fun pre e => by cases e; exact hst6) ?_
    simp only [endsAt]
    exact ent_pick
  ·
   refine Ze (k:=Xa (Xi (Xb (Yb (Ya (Zr (k:=Qv (k:=Wn ?_))))))))
   refine to_inv ⟨j + 1, by omega⟩ (by dsimp only; omega) ⟨rfl, rfl, rfl, rfl, rfl, trivial⟩ ?_
   dsimp only
   rw [hfs]
   have hi2 : i = (sdOf H nm).length := by rw [hsd, List.length_map]; omega
   subst hi2
   rw [List.take_length]
   exact ent_pick
 ·
  refine Ze (k:=Xa (Xi (Xb ?_)))
  have hj2 : j = (keysS H).length := by omega
  subst hj2
  refine fin_end none (vs := []) (Cs := []) rfl .nil rfl (fun pre e => by cases e) ?_
  simp only [endsAt]
  rw [List.take_length, show sdF H (keysS H) = sdL H from rfl]
  exact ent_pick
end
section
set_option maxRecDepth 100000
/-- What is said last, as a map's entries. -/
def lsK (l : Ls) : MX.Ks (Bs × Bs) := l.map fun p => (p.1, sdV p.2)
def sd0 : Sd := ⟨⟨0, [], [], []⟩, 0, []⟩
theorem lsK_look (l : Ls) (k : Bs × Bs) : MX.mlook (lsK l) k = (llook l k).map sdV := by
 induction l with
 | nil => rfl
 | cons p r ih =>
   simp only [lsK, List.map_cons, MX.mlook, llook] at ih ⊢
   by_cases h : p.1 = k
   · rw [if_pos h, if_pos h]; rfl
   · rw [if_neg h, if_neg h]; exact ih
theorem lsK_put (l : Ls) (k : Bs × Bs) (s : Sd) : MX.mput (lsK l) k (sdV s) = lsK (lput l k s) := by
 induction l with
 | nil => rfl
 | cons p r ih =>
   simp only [lsK, List.map_cons, MX.mput, lput] at ih ⊢
   by_cases h : p.1 = k
   · rw [if_pos h, if_pos h]; rfl
   · rw [if_neg h, if_neg h, ih]; rfl
theorem lsK_val (l : Ls) (k : Bs × Bs) : (MX.mlook (lsK l) k).getD (sdV sd0) = sdV ((llook l k).getD sd0) ∧ (MX.mlook (lsK l) k).isSome = (llook l k).isSome := by
 rw [lsK_look]
 cases llook l k <;> exact ⟨rfl, rfl⟩
theorem lsK_len (l : Ls) : (lsK l).length = l.length := by simp [lsK]
theorem lstep_put {l : Ls} {s : Sd} (h : (llook l (sdKey s)).isSome = false ∨ ((llook l (sdKey s)).getD sd0).date ≤ s.date) : lstep l s = lput l (sdKey s) s := by
 unfold lstep
 show (match llook l (sdKey s) with | none => lput l (sdKey s) s | some old => if old.date ≤ s.date then lput l (sdKey s) s else l) = _
 cases e : llook l (sdKey s) with
 | none => rfl
 | some o =>
   rw [e] at h
   have h2 : o.date ≤ s.date := by
    rcases h with h | h
    · cases h
    · exact h
   exact if_pos h2
theorem lstep_same {l : Ls} {s : Sd} (h1 : (llook l (sdKey s)).isSome = true) (h2 : ¬ ((llook l (sdKey s)).getD sd0).date ≤ s.date) : lstep l s = l := by
 unfold lstep
 show (match llook l (sdKey s) with | none => lput l (sdKey s) s | some old => if old.date ≤ s.date then lput l (sdKey s) s else l) = _
 cases e : llook l (sdKey s) with
 | none => rw [e] at h1; cases h1
 | some o => rw [e] at h2; exact if_neg h2
abbrev keyP := MX.pairP (P := Tryz.prog) Tryz.underlying108 Tryz.underlying9 ti9 rfl
set_option maxHeartbeats 4000000 in
theorem tags_Read_sp (b : Nat) (H : Ks) (hH : TxtK H) (hn : H.length ≤ 4398046511104) :
    Sp Tryz.prog 38 [.map (some b)] [MapS b H] (X := Nat × Nat × List CkN) (fun x => .agg #[.map (some x.1), .map (some x.2.1)]) (fun x => finC H x.2.2) (fun x => [MX.MapS MX.pairE x.1 (lsK (lastL H)), MapS x.2.1 (ckK x.2.2), CkMs x.2.2, MapS b H]) := by
 refine Sp.body (n := 44) Tryz.call38 Tryz.func38 rfl rfl rfl ?_
 refine Qc (k:=Zc [.map none, .map none] (k:=fun b2 => Wq (Qc (k:=?_))))
 refine MX.r_mkmap (E := MX.pairE) rfl (fun b8 => ?_)
 refine Vv (k:=?_)
 refine r_callX (links_Checkins_sp (some b)) rfl rfl rfl (fun cb _ => ?_)
 refine r_callX (maps_CollectC_sp (links_Checkins_it cb b H hH hn)) rfl rfl rfl (fun x11 hx11 => ?_)
 obtain ⟨m2, all⟩ := x11
 dsimp only at hx11 ⊢
 refine Vx (Ps [_, _]) (k:=Zc [.map none, .map none] (k:=fun b3 => Zp (k:=Wq (Za (k:=Qc (k:=Vv (k:=?_)))))))
 refine r_callX (tags_All_sp (some b)) rfl rfl rfl (fun ca _ => ?_)
 refine Wq (Zb (k:=?_))
 refine p_rangeFuncB (fun pre => [MX.MapS MX.pairE b8 (lsK (lastF pre)), MapS m2 (ckK all), CkMs all, Ce b3 95 [.map (some b8), .map (some m2)], Ce b2 95 [.map none, .map none], MapS b H]) (fun j pre => [Pu False]) (fun pre => [MX.MapS MX.pairE b8 (lsK (lastF pre)), MapS m2 (ckK all), CkMs all, Ce b3 95 [.map (some b8), .map (some m2)], Ce b2 95 [.map none, .map none]]) rfl (tags_All_itB ca b H hH hn) rfl (fun _ => by rfl) rfl (fun pre => ?_) (fun pre => ?_) ?_ (fun l pre sd hok => ?_) ?_ (fun j pre hs => ?_)
 · exact ent_pick
 · exact ent_pick
 · (refine ent_app ?_; rw [show lsK (lastF []) = [] from rfl]; exact ent_pick)
 ·
  have hlf : lastF (pre ++ [sd]) = lstep (lastF pre) sd := lastF_snoc pre sd
  obtain ⟨hv1, hv2⟩ := lsK_val (lastF pre) (sdKey sd)
  have hput := lsK_put (lastF pre) (sdKey sd) sd
  have hs1 := lstep_put (l := lastF pre) (s := sd)
  have hs2 := lstep_same (l := lastF pre) (s := sd)
  obtain ⟨⟨tk, tn, tt, tv⟩, date, src⟩ := sd
  dsimp only [sdKey] at hv1 hv2 hput hs1 hs2
  generalize hold : (llook (lastF pre) (tn, tt)).getD sd0 = old at hv1 hs1 hs2
  generalize hmet : (llook (lastF pre) (tn, tt)).isSome = met at hv2 hs1 hs2
  obtain ⟨⟨ok, on, ot, ov⟩, od, os⟩ := old
  dsimp only at hs1 hs2
  have hv27 : Value.tuple #[(MX.mlook (lsK (lastF pre)) (tn, tt)).getD (sdV sd0), .bool (MX.mlook (lsK (lastF pre)) (tn, tt)).isSome] = .tuple #[.agg #[vU ok.toNat, vS on, vS ot, vS ov, vI od, vS os], .bool met] := by rw [hv1, hv2]; rfl
  dsimp only [sdV, sdVals]
  refine Zr (k:=Zc [.int .u8 0, vS [], vS [], vS [], .int .i64 0, vS []] (k:=fun b4 => Zp (k:=Wg (Zb (k:=Qc (k:=Vf 0 27 (k:=Qx 1 9 (k:=Vf 0 27 (k:=Vf 2 9 (k:=?_))))))))))
  refine Zd (k:=?_)
  refine wo_pv (pv_buildA (vs := [_, _]) Tryz.underlying108 ti9 rfl rfl rfl ti108 rfl rfl) rfl ?_
  refine Zc [vS [], vS []] (k:=fun b5 => Zp (k:=Wq (Qc (k:=Qx 0 92 (k:=Zm [_, _] (k:=?_))))))
  refine MX.r_lookup (k := (tn, tt)) (v := .tuple #[.agg #[vU ok.toNat, vS on, vS ot, vS ov, vI od, vS os], .bool met]) Tryz.underlying92 keyP ti56 rfl rfl rfl hv27 rfl ?_
  refine Vv (k:=?_)
  refine wo_pv (pv_extract (v := .agg #[vU ok.toNat, vS on, vS ot, vS ov, vI od, vS os]) rfl rfl) rfl ?_
  refine wo_pv (pv_extract (v := .bool met) rfl rfl) rfl ?_
  refine Zc [.int .u8 0, vS [], vS [], vS [], .int .i64 0, vS []] (k:=fun b6 => Zp (k:=Vv (k:=Wq (Qc (k:=Qv (k:=Vv (k:=Gi 2 (t:=fun h32 => ?_) (f:=fun h32 => ?_))))))))
  ·
   refine O1 (k:=O1 (k:=O1 (k:=O1 (k:=O1 (k:=P1 (k:=Wq (Z1 (k:=Zr (k:=Qx 0 92 (k:=Zm [_, _] (k:=?_)))))))))))
   refine Zm [_, _, _, _, _, _] (k:=?_)
   refine MX.r_mapUpdate (k := (tn, tt)) (v := sdV ⟨⟨tk, tn, tt, tv⟩, date, src⟩) Tryz.underlying92 keyP rfl rfl rfl ?_
   rw [hput, ← hs1 (by first | (left; simpa using h32) | (right; assumption) | (right; omega))]
   refine Wn (Yb ?_)
   refine to_round ?_
   rw [hlf]
   first
   | exact ent_pick
   | (rw [hs2 (by first | assumption | simp_all) (by first | assumption | omega)]
      exact ent_pick)
  ·
   refine I0 (k:=Vf 4 3 (k:=I0 (k:=Zd (k:=I0 (k:=Vf 4 3 (k:=I0 (k:=Zd (k:=J0 (k:=P0 (k:=Wq ?_))))))))))
   refine Zi (t:=fun h38 => ?_) (f:=fun h38 => ?_)
   ·
    refine Zr (k:=Qx 0 92 (k:=Zm [_, _] (k:=Zm [_, _, _, _, _, _] (k:=?_))))
    refine MX.r_mapUpdate (k := (tn, tt)) (v := sdV ⟨⟨tk, tn, tt, tv⟩, date, src⟩) Tryz.underlying92 keyP rfl rfl rfl ?_
    rw [hput, ← hs1 (by first | (left; simpa using h32) | (right; assumption) | (right; omega))]
    refine Wn (Yb ?_)
    refine to_round ?_
    rw [hlf]
    first
    | exact ent_pick
    | (rw [hs2 (by first | assumption | simp_all) (by first | assumption | omega)]
       exact ent_pick)
   ·
    refine Zk (k:=Yb ?_)
    refine to_round ?_
    rw [hlf]
    first
    | exact ent_pick
    | (rw [hs2 (by first | assumption | simp_all) (by first | assumption | omega)]
       exact ent_pick)
 ·
  skip
  refine Yb (Ya (Qc (k:=Zm [_, _] (k:=Zp (k:=Wq (Zt (k:=?_)))))))
  refine fin_ret (b8, m2, all) (vs := [_]) (Cs := [Ce b2 95 [.map (some b8), .map (some m2)]]) rfl (.cell (l := [.map (some b8), .map (some m2)]) rfl (shows_ce (T := 95)) Tryz.underlying95 rfl ti95 (Nat.le_of_ble_eq_true rfl) rfl .nil) rfl hx11 ?_
  rw [show lastF (sdL H) = lastL H from rfl]
  exact ent_pick
 ·
  exact wc_no (fun s => by obtain ⟨_, _, _, _, a, _⟩ := s; exact a)
end
section
set_option maxRecDepth 100000
theorem maps_KeysC_sp (m : Option Nat) : Sp Tryz.prog 42 [.map m] [] (X := Nat) (fun b => .func (.func 73) #[] #[.pointer (some ⟨b, 0, none⟩)]) (fun _ => True) (fun b => [Ce b 93 [.map m]]) := by
 refine Sp.body (n := 4) Tryz.call42 Tryz.func42 rfl rfl rfl ?_
 refine Qc (k:=Zx [_] (k:=fun b1 => Vv (k:=Wq (Qc (k:=Qv (k:=Wq (Zt (k:=?_))))))))
 refine fin_ret b1 (vs := [_]) (Cs := []) rfl (.tmp rfl .nil) rfl trivial ?_
 exact ent_pick
theorem maps_KeysC_it (c b : Nat) (ks : Ks) : IterU Tryz.prog 73 [.pointer (some ⟨c, 0, none⟩)] (fun k : Bs => [vS k]) (okK ks) (fun _ => True)
    [Ce c 93 [.map (some b)], MapS b ks] [Ce c 93 [.map (some b)], MapS b ks] (fun l => l.Perm (ks.map (·.1))) (fun _ => .tuple #[]) := by
 intro y J Jx ys
 refine Sp.body (n := 14) Tryz.call73 Tryz.func73 rfl rfl rfl ?_
 refine Qc (k:=Zd (k:=?_))
 refine r_range Tryz.underlying93 rfl rfl (fun b5 => ?_)
 refine Wq (Zb (k:=?_))
 refine p_loop (fun (i : List Bs) => [(0, y), (5, .pointer (some ⟨b5, 0, none⟩))]) (fun (i : List Bs) => [J i, Ce c 93 [.map (some b)], MapIt b b5 ks i]) (fun (i : List Bs) => ks.length - i.length) rfl ([]) ?_ ?_ (fun i => ?_)
 · exact ⟨rfl, rfl, trivial⟩
 ·
  exact ent_pick
 refine wc_know (A := MapIt b b5 ks i) (.there (.there .here)) mapit_len (fun hlen => ?_)
 try dsimp only
 refine Qc (k:=?_)
 refine r_next rfl rfl (fun o6 ho6 => ?_)
 refine wo_pv (pv_nx0 rfl) rfl ?_
 refine Wq (Za (k:=Zi (t:=fun h7 => ?_) (f:=fun h7 => ?_)))
 ·
  obtain ⟨⟨k, v⟩, rfl⟩ := Option.isSome_iff_exists.1 h7
  obtain ⟨hm, hk⟩ := ho6
  have hk1 : k ∈ ks.map (·.1) := List.mem_map_of_mem (f := fun p : Bs × Value => p.1) hm
  have hl2 : i.length < ks.length := by
   have := nodup_len (l := i ++ [k]) (m := ks.map (·.1)) (by rw [List.nodup_append]; exact ⟨hlen.2.1, by simp, fun a ha c hc e => by simp only [List.mem_singleton] at hc; subst hc; subst e; exact hk ha⟩) (fun x hx => by rcases List.mem_append.1 hx with h | h; exact hlen.2.2 x h; simp only [List.mem_singleton] at h; subst h; exact hk1)
   rw [List.length_append, List.length_singleton, List.length_map] at this
   omega
  dsimp only [nxD]
  refine Zk (k:=Ya (Zb (k:=Qc (k:=?_))))
  refine r_entry (b := b) (ks := ks) (done := i) (k := k) (v := v) hm rfl rfl ?_
  refine Qv (k:=Wq (Qc (k:=Qv (k:=?_))))
  refine r_yield ys i k ⟨hk1, hk, hl2⟩ rfl rfl rfl ?_ ?_
  ·
   refine Vv (k:=Wq (Z0 (k:=Zk (k:=Yb ?_))))
   refine to_inv (i ++ [k]) ?_ ⟨rfl, rfl, trivial⟩ ?_
   · rw [List.length_append, List.length_singleton]; omega
   · exact ent_pick
  ·
   refine Vv (k:=Wq (Z1 (k:=Zt (k:=Vb (Vi (Vb ?_))))))
   refine fin_ret (some (i ++ [k]), []) (vs := []) (Cs := []) rfl .nil rfl ⟨fun pre e => trivial, fun e => by cases e⟩ ?_
   simp only [endsAt]
   refine ent_cons (ent_cons ?_)
   refine (mapit_done (i := b5)).trans ?_
   exact ent_pick
 ·
  have hnone : o6 = none := by cases o6 with
   | none => rfl
   | some p => simp at h7
  subst hnone
  dsimp only [nxD]
  refine Ze (k:=Xa (Xi (Xb ?_)))
  refine tw_know (A := MapIt b b5 ks i) .here (fun x => mapit_perm x ho6) (fun hperm => ?_)
  refine fin_end (none, i) (vs := []) (Cs := []) rfl .nil rfl ⟨(fun pre e => by cases e), fun _ => hperm⟩ ?_
  simp only [endsAt]
  refine ent_cons (ent_cons ?_)
  refine (mapit_done (i := b5)).trans ?_
  exact ent_pick
set_option maxHeartbeats 2000000 in
theorem tags_INames_sp (m1 : Nat) (m2 : Option Nat) (l : Ls) (hl : l.length ≤ 1073741824) : Sp Tryz.prog 40 [.agg #[.map (some m1), .map m2]] [MX.MapS MX.pairE m1 (lsK l)] (X := Option Addr × Nat) (fun x => .slice x.1 (namesL l).length x.2) (fun _ => True) (fun x => [Row 9 1 (.slice x.1 (namesL l).length x.2) (namesL l).length ((namesL l).map vS), MX.MapS MX.pairE m1 (lsK l)]) := by
 have hlk := lsK_len l
 refine Sp.body (n := 21) Tryz.call40 Tryz.func40 rfl rfl rfl ?_
 refine Qc (k:=Zx [_, _] (k:=fun b1 => Vv (k:=Wq (Qc (k:=Vv (k:=Wq (Za (k:=Qc (k:=?_)))))))))
 refine Qx 0 92 (k:=?_)
 refine MX.r_range (E := MX.pairE) Tryz.underlying92 rfl rfl (fun b7 => ?_)
 refine Wq (Zb (k:=?_))
 refine p_loop (fun (i : { x : List (Bs × Bs) × Option Addr × Nat // True }) => [(3, .slice i.1.2.1 i.1.1.length i.1.2.2), (7, .pointer (some ⟨b7, 0, none⟩))]) (fun (i : { x : List (Bs × Bs) × Option Addr × Nat // True }) => [Row 9 1 (.slice i.1.2.1 i.1.1.length i.1.2.2) i.1.1.length ((i.1.1.map (·.1)).map vS), Ce b1 95 [.map (some m1), .map m2], MX.MapIt MX.pairE m1 b7 (lsK l) i.1.1]) (fun (i : { x : List (Bs × Bs) × Option Addr × Nat // True }) => l.length - i.1.1.length) rfl (⟨([], none, 0), trivial⟩) ?_ ?_ (fun i => ?_)
 · exact ⟨rfl, rfl, trivial⟩
 ·
  dsimp only
  simp only [List.length_nil, List.map_nil]
  exact (row_nil (e := 9) (sz := 1)).trans ent_pick
 obtain ⟨⟨dn, na, nc⟩, _⟩ := i
 dsimp only
 refine wc_know (A := MX.MapIt MX.pairE m1 b7 (lsK l) dn) HasC.get MX.mapit_len (fun hlen => ?_)
 have hdl : dn.length ≤ l.length := by rw [← hlk]; exact hlen.1
 try dsimp only
 refine Qc (k:=?_)
 refine MX.r_next (E := MX.pairE) rfl rfl (fun o8 ho8 => ?_)
 refine wo_pv (MX.pv_nx0 rfl) rfl ?_
 refine Wq (Za (k:=Zi (t:=fun h9 => ?_) (f:=fun h9 => ?_)))
 ·
  obtain ⟨⟨⟨k1, k2⟩, v⟩, rfl⟩ := Option.isSome_iff_exists.1 h9
  obtain ⟨hm, hk⟩ := ho8
  have hk1 : (k1, k2) ∈ (lsK l).map (·.1) := List.mem_map_of_mem (f := fun p : (Bs × Bs) × Value => p.1) hm
  have hl2 : dn.length < l.length := by
   have := nodup_len (l := dn ++ [(k1, k2)]) (m := (lsK l).map (·.1)) (by rw [List.nodup_append]; exact ⟨hlen.2.1, by simp, fun a ha c hc e => by simp only [List.mem_singleton] at hc; subst hc; subst e; exact hk ha⟩) (fun x hx => by rcases List.mem_append.1 hx with h | h; exact hlen.2.2 x h; simp only [List.mem_singleton] at h; subst h; exact hk1)
   rw [List.length_append, List.length_singleton, List.length_map, hlk] at this
   omega
  dsimp only [MX.nxD]
  refine Zk (k:=Ya (Zb (k:=Qc (k:=?_))))
  refine MX.r_entry (b := m1) (ks := lsK l) (done := dn) (k := (k1, k2)) (v := v) hm rfl rfl ?_
  refine wo_pv (pv_extract (v := .agg [vS k1, vS k2].toArray) rfl rfl) rfl ?_
  refine Zc [vS [], vS []] (k:=fun b4 => Zp (k:=Wq (Zr (k:=Vv (k:=?_)))))
  refine wo_pv (pv_aindex1 (m := 0) Tryz.underlying108 ti9 rfl rfl rfl (by first | rfl | omega) (by omega)) rfl ?_
  refine Zd (k:=Zv [_] (cs := [_]) (k:=fun b15 => ?_))
  refine r_append1 (sz := 1) (bytes := 16) Tryz.underlying23 ti9 rfl rfl rfl rfl rfl rfl rfl (by rfl) (by rfl) (by omega) (by simp only [maxLen]; omega) rfl (fun a16 c16 => ?_)
  refine Vv (k:=Wn (Yb ?_))
  refine to_inv ⟨(dn ++ [(k1, k2)], a16, c16), trivial⟩ (by simp only [List.length_append, List.length_singleton]; omega) ⟨sl_eq (by simp), rfl, trivial⟩ ?_
  dsimp only
  simp only [List.length_append, List.length_cons, List.length_nil, Nat.zero_add, List.map_append, List.map_cons, List.map_nil]
  exact ent_pick
 ·
  have hnone : o8 = none := by cases o8 with
   | none => rfl
   | some p => simp at h9
  subst hnone
  dsimp only [MX.nxD]
  refine Ze (k:=Xa (Xi (Xb (Ya (Za (k:=?_))))))
  refine wc_know (A := MX.MapIt MX.pairE m1 b7 (lsK l) dn) HasC.get (fun x => MX.mapit_perm x ho8) (fun hperm => ?_)
  refine wc_ent' (MX.mapit_done (E := MX.pairE) (i := b7)) ?_
  have hpl := hperm.length_eq
  rw [List.length_map, hlk] at hpl
  have hsn : sortB (dn.map (·.1)) = sortB (l.map fun p => p.1.1) := sortB_eq (by
   have h2 := hperm.map (fun p : Bs × Bs => p.1)
   simpa [lsK, List.map_map, Function.comp_def] using h2)
  have hnl : namesL l = dedS (sortB (dn.map (·.1))) := by rw [hsn]; rfl
  refine Zr (k:=Vv (k:=?_))
  refine r_call1 (slices_Sort_sp na dn.length nc (dn.map (·.1)) (by rw [List.length_map]) (by omega)) rfl rfl rfl ?_
  refine Wq (Qc (k:=Vv (k:=?_)))
  refine r_callX (slices_Compact_sp na dn.length nc (sortB (dn.map (·.1))) (by rw [sortB_len, List.length_map]) (by omega)) rfl rfl rfl (fun k20 hk20 => ?_)
  subst hk20
  rw [← hnl]
  refine Vv (k:=Wq (Zt (k:=?_)))
  exact fin_ret (na, nc) (vs := [_]) (Cs := []) rfl (.tmp rfl .nil) rfl trivial ent_pick
/-! Of. -/
def cfind (all : List CkN) (n : Bs) : Option CkN := all.find? fun x => decide (x.1 = n)
theorem cfind_clook (all : List CkN) (n : Bs) : clook (all.map ckKey) n = (cfind all n).map (fun x => x.2.2) := by
 induction all with
 | nil => rfl
 | cons a r ih =>
   simp only [List.map_cons, clook, cfind, List.find?_cons] at ih ⊢
   by_cases h : a.1 = n
   · have h' : (ckKey a).1 = n := h
     rw [if_pos h']; simp [h, ckKey]
   · have h' : ¬ (ckKey a).1 = n := h
     rw [if_neg h']; simp only [h, decide_false]; exact ih
theorem ckK_map {all : List CkN} (h : (all.map (·.1)).Nodup) : ckK all = all.map fun x => (x.1, ckV x) := by
 revert h
 refine snoc_ind (P := fun l : List CkN => (l.map (·.1)).Nodup → ckK l = l.map fun x => (x.1, ckV x)) (fun _ => rfl) (fun l a ih h => ?_) all
 rw [List.map_append, List.nodup_append] at h
 rw [ckK_snoc, ih h.1]
 have : a.1 ∉ (l.map fun x => (x.1, ckV x)).map (·.1) := fun hm => by
  rw [List.map_map] at hm
  obtain ⟨y, hy, e⟩ := List.mem_map.1 hm
  exact h.2.2 y.1 (List.mem_map_of_mem (f := fun x : CkN => x.1) hy) a.1 (by simp) e
 have hp : ∀ (ks : Ks), a.1 ∉ ks.map (·.1) → mput ks a.1 (ckV a) = ks ++ [(a.1, ckV a)] := by
  intro ks
  induction ks with
  | nil => intro _; rfl
  | cons p r ih2 =>
    intro hn
    simp only [List.map_cons, List.mem_cons, not_or] at hn
    rw [mput, if_neg (fun e => hn.1 e.symm), ih2 hn.2]; rfl
 rw [hp _ this]; simp
theorem cfind_mlook {all : List CkN} (h : (all.map (·.1)).Nodup) (n : Bs) : mlook (ckK all) n = (cfind all n).map ckV := by
 rw [ckK_map h]
 clear h
 induction all with
 | nil => rfl
 | cons a r ih =>
   simp only [List.map_cons, mlook, cfind, List.find?_cons] at ih ⊢
   by_cases h : a.1 = n
   · rw [if_pos h]; simp [h]
   · rw [if_neg h]; simp only [h, decide_false]; exact ih
def ckn0 : CkN := ([], ka0, ck0)
theorem byteEq (c : UInt8) (k : Nat) (hk : k < 256) : ((c.toNat : Int) = (k : Int)) ↔ c = UInt8.ofNat k := by
 constructor
 · intro h
   apply UInt8.toNat_inj.1
   simp
   omega
 · intro h
   rw [h]; simp
   omega
theorem zb39ret13 {G : Prop} (h : G := by
    have hyn : y = none := by
     first
     | assumption
     | (rw [hw, show all.length - j = 0 by omega]; rfl)
     | (rw [if_pos (.inl ((e45 ok).1 (by assumption)))] at hw; exact hw)
     | (rw [if_pos (.inr ⟨(e43 ok).1 (by assumption), by assumption⟩)] at hw; exact hw)
    rw [hyn]
    exact fin_ret () (vs := [_, _]) (Cs := [Ce b6 33 [vS [], vS [], vS [], vS [], .bool false, .bool false]]) rfl (.cell (l := [vS [], vS [], vS [], vS [], .bool false, .bool false]) rfl (shows_ce (T := 33)) Tryz.underlying33 rfl ti33 (Nat.le_of_ble_eq_true rfl) rfl (.tmp rfl .nil)) rfl trivial ent_pick) : G := h
theorem zb39ret11 {G : Prop} (h : G := by
    rw [if_neg (by
     rintro (h | ⟨h, h2⟩)
     · first
       | contradiction
       | exact absurd ((e45 ok).2 h) (by assumption)
     · first
       | contradiction
       | exact absurd ((e43 ok).2 h) (by assumption)
       | exact absurd h2 (by assumption))] at hw
    rw [hw, show (decide (ok = 42)) = decide ((ok.toNat : Int) = 42) from decide_eq_decide.2 (e42 ok).symm]
    refine fin_ret () (vs := [_, _]) (Cs := [Ce b6 33 [vS tag, vS name, vS ov, vS os, .bool (decide ((ok.toNat : Int) = 42)), .bool (decide (n = name))]]) rfl (.cell (l := [vS tag, vS name, vS ov, vS os, .bool (decide ((ok.toNat : Int) = 42)), .bool (decide (n = name))]) rfl (shows_ce (T := 33)) Tryz.underlying33 rfl ti33 (Nat.le_of_ble_eq_true rfl) rfl (.tmp rfl .nil)) rfl trivial ent_pick) : G := h
set_option maxHeartbeats 4000000 in
theorem tags_IOf_sp (m1 m2 : Nat) (all : List CkN) (l : Ls) (tag name : Bs) (hnd : (all.map (·.1)).Nodup) (hz : ∀ x ∈ all, x.2.2.parents.length ≤ 9223372036854775807) (hal : all.length ≤ 4398046511104) (y : Option Tgd) (hy : y = ofT (all.map ckKey) l tag name) :
    Sp1 Tryz.prog 39 [.agg #[.map (some m1), .map (some m2)], vS tag, vS name] [MX.MapS MX.pairE m1 (lsK l), MapS m2 (ckK all), CkMs all] (.tuple #[.agg (tgdVals (y.getD tgd0)).toArray, vB y.isSome]) [MX.MapS MX.pairE m1 (lsK l), MapS m2 (ckK all), CkMs all] := by
 have hcl : (ckK all).length = all.length := by rw [ckK_map hnd, List.length_map]
 have hCl : (all.map ckKey).length = all.length := List.length_map ..
 have e45 := fun c : UInt8 => byteEq c 45 (by decide)
 have e43 := fun c : UInt8 => byteEq c 43 (by decide)
 have e42 := fun c : UInt8 => byteEq c 42 (by decide)
 rw [ofT, hCl] at hy
 refine Sp.body (n := 71) Tryz.call39 Tryz.func39 rfl rfl rfl ?_
 refine Qc (k:=Zx [_, _] (k:=fun b3 => Zc [vS [], vS [], vS [], vS [], .bool false, .bool false] (k:=fun b6 => Vv (k:=Wq (Zs (k:=Qc (k:=Qv (k:=Wq ?_))))))))
 refine Za (k:=Zl (k:=Ya (Za (k:=Qc (k:=Qx 1 93 (k:=?_))))))
 refine r_mlen Tryz.underlying93 rfl rfl ?_
 rw [hcl]
 refine Vv (k:=Wq (Zb (k:=?_)))
 refine p_loop (fun (i : { x : Nat × Bs // x.1 ≤ all.length ∧ y = wayF (all.map ckKey) l tag name (all.length - x.1) x.2 }) => [(1, vS tag), (2, vS name), (3, .pointer (some ⟨b3, 0, none⟩)), (6, .pointer (some ⟨b6, 0, none⟩)), (8, vS i.1.2), (15, vI all.length), (16, vI i.1.1)]) (fun (i : { x : Nat × Bs // x.1 ≤ all.length ∧ y = wayF (all.map ckKey) l tag name (all.length - x.1) x.2 }) => [MX.MapS MX.pairE m1 (lsK l), MapS m2 (ckK all), CkMs all, Ce b3 95 [.map (some m1), .map (some m2)], Ce b6 33 [vS [], vS [], vS [], vS [], .bool false, .bool false]]) (fun (i : { x : Nat × Bs // x.1 ≤ all.length ∧ y = wayF (all.map ckKey) l tag name (all.length - x.1) x.2 }) => all.length - i.1.1) rfl (⟨(0, name), Nat.zero_le _, hy⟩) ?_ ?_ (fun i => ?_)
 · exact ⟨rfl, rfl, rfl, rfl, rfl, rfl, rfl, trivial⟩
 ·
  exact ent_pick
 obtain ⟨⟨j, n⟩, hj, hw⟩ := i
 dsimp only at hj hw ⊢
 try dsimp only
 refine Qc (k:=Vv (k:=Wq (Za (k:=Zi (t:=fun h17 => ?_) (f:=fun h17 => ?_)))))
 ·
  refine Zk (k:=Ya (Za (k:=Zb (k:=Za (k:=?_)))))
  have hjl : j < all.length := by omega
  rw [show all.length - j = (all.length - (j + 1)) + 1 by omega, wayF, cfind_clook] at hw
  have hml := cfind_mlook hnd n
  have hxm : ∀ x, cfind all n = some x → x ∈ all := fun x h => List.mem_of_find?_eq_some h
  generalize cfind all n = fx at hw hml hxm
  obtain ⟨⟨zn, za, zc⟩, hzk⟩ : ∃ z : CkN, z = fx.getD ckn0 := ⟨_, rfl⟩
  have hv22 : Value.tuple #[(mlook (ckK all) n).getD (ckV ckn0), .bool (mlook (ckK all) n).isSome] = .tuple #[.agg #[vS zc.base, vS zc.comment, vI zc.date, .slice za.fa zc.files.length za.fc, .slice za.pa zc.parents.length za.pc, .slice za.ta zc.tags.length za.tc, vS zc.user], .bool fx.isSome] := by
   rw [hml]
   have e1 : (fx.map ckV).getD (ckV ckn0) = ckV (fx.getD ckn0) := by cases fx <;> rfl
   rw [e1, ← hzk]
   cases fx <;> rfl
  obtain ⟨hv1, hv2⟩ := lsK_val l (tag, n)
  generalize llook l (tag, n) = fs at hw hv1 hv2
  obtain ⟨⟨⟨ok, on, ot, ov⟩, od, os⟩, hold⟩ : ∃ z : Sd, z = fs.getD sd0 := ⟨_, rfl⟩
  have hv33 : Value.tuple #[(MX.mlook (lsK l) (tag, n)).getD (sdV sd0), .bool (MX.mlook (lsK l) (tag, n)).isSome] = .tuple #[.agg #[vU ok.toNat, vS on, vS ot, vS ov, vI od, vS os], .bool fs.isSome] := by rw [hv1, hv2, ← hold]; rfl
  refine Zr (k:=Qx 1 93 (k:=Vv (k:=?_)))
  refine r_lookup (v := .tuple #[.agg #[vS zc.base, vS zc.comment, vI zc.date, .slice za.fa zc.files.length za.fc, .slice za.pa zc.parents.length za.pc, .slice za.ta zc.tags.length za.tc, vS zc.user], .bool fx.isSome]) Tryz.underlying93 Tryz.underlying9 ti52 rfl rfl rfl hv22 rfl ?_
  refine Vv (k:=?_)
  refine wo_pv (pv_extract (v := .agg #[vS zc.base, vS zc.comment, vI zc.date, .slice za.fa zc.files.length za.fc, .slice za.pa zc.parents.length za.pc, .slice za.ta zc.tags.length za.tc, vS zc.user]) rfl rfl) rfl ?_
  refine wo_pv (pv_extract (v := .bool fx.isSome) rfl rfl) rfl ?_
  refine Zc [vS [], vS [], .int .i64 0, .slice none 0 0, .slice none 0 0, .slice none 0 0, vS []] (k:=fun b9 => Zp (k:=Vv (k:=Wq (Za (k:=Qc (k:=Qv (k:=Wq (Zi (t:=fun h26 => ?_) (f:=fun h26 => ?_)))))))))
  ·
   obtain rfl : fx = none := by cases fx with | none => rfl | some z => simp at h26
   have hyn : y = none := hw
   refine Ze (k:=Xa (Xo (k:=Xa (Xi (Xb (Ya (Qc (k:=Vx (Ps [vS [], vS [], vS [], vS [], .bool false, .bool false]) (k:=Zp (k:=Vv (k:=?_)))))))))))
   refine Wq (Zt (k:=Vs ?_))
   exact zb39ret13
  ·
   obtain rfl : fx = some (zn, za, zc) := by cases fx with | none => simp at h26 | some z => rw [hzk]; rfl
   have hxin := hxm _ rfl
   have hpz := hz _ hxin
   dsimp only [Option.map_some] at hw hpz
   refine Zk (k:=Ya (Qc (k:=Qx 0 92 (k:=Qv (k:=?_)))))
   refine wo_pv (pv_buildA (vs := [_, _]) Tryz.underlying108 ti9 rfl rfl rfl ti108 rfl rfl) rfl ?_
   refine MX.r_lookup (k := (tag, n)) (v := .tuple #[.agg #[vU ok.toNat, vS on, vS ot, vS ov, vI od, vS os], .bool fs.isSome]) Tryz.underlying92 keyP ti56 rfl rfl rfl hv33 rfl ?_
   refine Vv (k:=?_)
   refine wo_pv (pv_extract (v := .agg #[vU ok.toNat, vS on, vS ot, vS ov, vI od, vS os]) rfl rfl) rfl ?_
   refine wo_pv (pv_extract (v := .bool fs.isSome) rfl rfl) rfl ?_
   refine Zc [.int .u8 0, vS [], vS [], vS [], .int .i64 0, vS []] (k:=fun b11 => Zp (k:=Vv (k:=Wq (Za (k:=Qc (k:=Qv (k:=Wq (Zi (t:=fun h37 => ?_) (f:=fun h37 => ?_)))))))))
   ·
    obtain rfl : fs = none := by cases fs with | none => rfl | some z => simp at h37
    dsimp only at hw
    refine Qc (k:=Zm [_, _, _, _, _, _, _] (k:=?_))
    refine wo_ent' (ent_ckm hxin HasC.get) ?_
    refine r_call1 (links_First_sp (B := SlI za.pa (zc.parents.map vS)) za zc hpz sla_sli) rfl rfl rfl ?_
    refine Vv (k:=Wq (Ze (k:=Xa (Xb (Ya (Zr (k:=Qv (k:=Wn ?_))))))))
    exact to_inv ⟨(j + 1, firstB zc), by dsimp only; omega, hw⟩ (by dsimp only; omega) ⟨rfl, rfl, rfl, rfl, rfl, rfl, rfl, trivial⟩ ent_pick
   ·
    obtain rfl : fs = some ⟨⟨ok, on, ot, ov⟩, od, os⟩ := by cases fs with | none => simp at h37 | some z => rw [hold]; rfl
    dsimp only at hw
    refine Zk (k:=Ya (Za (k:=Zb (k:=Za (k:=Qc (k:=Vf 0 27 (k:=Qx 0 5 (k:=Qv (k:=?_)))))))))
    refine Wq (Zi (t:=fun h40 => ?_) (f:=fun h40 => ?_))
    ·
     refine Zk (k:=Ya (Zi (t:=fun h40 => ?_) (f:=fun h40 => ?_)))
     ·
      refine Ze (k:=Xo (k:=Xa (Xo (k:=Xa (Xi (Xb (Ya (Qc (k:=Vx (Ps [vS [], vS [], vS [], vS [], .bool false, .bool false]) (k:=Zp (k:=?_)))))))))))
      refine Vv (k:=Wq (Zt (k:=Vs ?_)))
      exact zb39ret13
     ·
      refine Zk (k:=Yb (Ya (Qc (k:=Qv (k:=Vf 0 27 (k:=Qx 3 9 (k:=Qx 5 9 (k:=?_))))))))
      refine Vf 0 27 (k:=Qx 0 5 (k:=Qv (k:=Qv (k:=Vx (Ps [_, _, _, _, _, _]) (k:=Zp (k:=Vv (k:=Wq (Zt (k:=?_)))))))))
      refine Vb (Va (Vi (Vb (Va (Vs ?_)))))
      exact zb39ret11
    ·
     refine Zr (k:=Vf 0 27 (k:=Qx 0 5 (k:=Qv (k:=Gi 4 (t:=fun h49 => ?_) (f:=fun h49 => ?_)))))
     ·
      refine J1 (k:=J1 (k:=J1 (k:=P1 (k:=Vv (k:=Wq (Zi (t:=fun h40 => ?_) (f:=fun h40 => ?_)))))))
      ·
       refine Ze (k:=Xo (k:=Xa (Xo (k:=Xa (Xi (Xb (Ya (Qc (k:=Vx (Ps [vS [], vS [], vS [], vS [], .bool false, .bool false]) (k:=Zp (k:=?_)))))))))))
       refine Vv (k:=Wq (Zt (k:=Vs ?_)))
       exact zb39ret13
      ·
       refine Zk (k:=Yb (Ya (Qc (k:=Qv (k:=Vf 0 27 (k:=Qx 3 9 (k:=Qx 5 9 (k:=?_))))))))
       refine Vf 0 27 (k:=Qx 0 5 (k:=Qv (k:=Qv (k:=Vx (Ps [_, _, _, _, _, _]) (k:=Zp (k:=Vv (k:=Wq (Zt (k:=?_)))))))))
       refine Vb (Va (Vi (Vb (Va (Vs ?_)))))
       exact zb39ret11
     ·
      refine O0 (k:=O0 (k:=O0 (k:=P0 (k:=Vv (k:=Wq (Z0 (k:=Zk (k:=Yb (Ya (Qc (k:=?_)))))))))))
      refine Qv (k:=Vf 0 27 (k:=Qx 3 9 (k:=Qx 5 9 (k:=Vf 0 27 (k:=Qx 0 5 (k:=Qv (k:=?_)))))))
      refine Qv (k:=Vx (Ps [_, _, _, _, _, _]) (k:=Zp (k:=Vv (k:=Wq (Zt (k:=Vb (Va (Vi (Vb (Va ?_))))))))))
      refine Vs ?_
      exact zb39ret11
 ·
  refine Ze (k:=Xa (Xi (Xb (Ya (Qc (k:=Vx (Ps [vS [], vS [], vS [], vS [], .bool false, .bool false]) (k:=Zp (k:=Vv (k:=Wq (Zt (k:=?_)))))))))))
  refine Vs ?_
  exact zb39ret13
end
section
set_option maxRecDepth 100000
theorem ckOf_sub (H : Ks) (n : Bs) : ((ckOf H n).map (·.1)).Sublist [n] := by
 unfold ckOf
 split
 · exact List.nil_sublist _
 · exact List.Sublist.refl _
theorem cksF_sub (H : Ks) (l : List Bs) : ((cksF H l).map (·.1)).Sublist l := by
 induction l with
 | nil => exact List.Sublist.refl _
 | cons n l ih =>
   have := (ckOf_sub H n).append ih
   simpa [cksF] using this
theorem cks_mem {H : Ks} {l : List Bs} {x : Bs × Ck} : x ∈ cksF H l ↔ x.1 ∈ l ∧ readK (getB H x.1) = some x.2 := by
 unfold cksF
 rw [List.mem_flatMap]
 constructor
 · rintro ⟨n, hn, hx⟩
   unfold ckOf at hx
   split at hx
   · cases hx
   · rename_i c e
     rw [List.mem_singleton.1 hx]
     exact ⟨hn, e⟩
 · rintro ⟨h1, h2⟩
   exact ⟨x.1, h1, by rw [ckOf, h2]; simp⟩
structure FinP (H : Ks) (all : List CkN) : Prop where
 nd : (all.map (·.1)).Nodup
 le : all.length ≤ H.length
 pl : ∀ x ∈ all, x.2.2.parents.length ≤ 3
theorem fin_ok {H : Ks} {all : List CkN} (hnd : (H.map (·.1)).Nodup) (h : finC H all) : FinP H all := by
 have hs : ((cksL H).map (·.1)).Sublist (keysS H) := cksF_sub H _
 have hm : all.map (·.1) = (cksL H).map (·.1) := by
  rw [← show all.map ckKey = cksL H from h, List.map_map]; rfl
 have hk : (keysS H).Nodup := (sortB_perm _).nodup_iff.2 hnd
 refine ⟨by rw [hm]; exact hk.sublist hs, ?_, fun x hx => ?_⟩
 · have h1 := congrArg List.length hm
   have h2 := hs.length_le
   rw [keysS_len] at h2
   rw [List.length_map] at h1
   omega
 · have : ckKey x ∈ cksL H := by rw [← show all.map ckKey = cksL H from h]; exact List.mem_map_of_mem hx
   have := (readK_right (cks_mem.1 this).2).parents.len
   have e : (ckKey x).2 = x.2.2 := rfl
   rw [e] at this
   omega
theorem sdL_len (H : Ks) : (sdL H).length ≤ 12 * H.length := by
 have key : ∀ l : List Bs, (sdF H l).length ≤ 12 * l.length := by
  intro l
  induction l with
  | nil => exact Nat.le_refl _
  | cons n l ih =>
    have h1 := opsB_len n (getB H n)
    simp only [sdF, List.flatMap_cons, List.length_append, List.length_cons] at ih ⊢
    have h2 : (sdOf H n).length = (opsB n (getB H n)).1.length := by simp [sdOf]
    omega
 have := key (keysS H)
 rw [keysS_len] at this
 exact this
theorem lastF_len (l : List Sd) : (lastF l).length ≤ l.length := by
 refine snoc_ind (P := fun l => (lastF l).length ≤ l.length) (Nat.le_refl _) (fun l a ih => ?_) l
 rw [lastF_snoc, List.length_append, List.length_singleton]
 have hp : ∀ k v, (lput (lastF l) k v).length ≤ (lastF l).length + 1 := fun k v => by
  have := congrArg List.length (lput_keys (lastF l) k v)
  rw [List.length_map] at this
  rw [this]
  split <;> simp
 unfold lstep
 split
 · have := hp (a.op.name, a.op.target) a; omega
 · split
   · have := hp (a.op.name, a.op.target) a; omega
   · omega
set_option maxHeartbeats 1000000 in
theorem tags_Of_sp (b : Nat) (H : Ks) (hH : TxtK H) (hnd : (H.map (·.1)).Nodup) (hn : H.length ≤ 1000000) (tag name : Bs) (y : Option Tgd) (hy : y = ofT (cksL H) (lastL H) tag name) :
    Sp1 Tryz.prog 14 [.map (some b), vS tag, vS name] [MapS b H] (.tuple #[.agg (tgdVals (y.getD tgd0)).toArray, vB y.isSome]) [MapS b H] := by
 refine Sp.body (n := 15) Tryz.call14 Tryz.func14 rfl rfl rfl ?_
 refine Qc (k:=Zc [vS [], vS [], vS [], vS [], .bool false, .bool false] (k:=fun b6 => Vv (k:=Wq (Qc (k:=Vv (k:=?_))))))
 refine r_callX (tags_Read_sp b H hH (by omega)) rfl rfl rfl (fun x9 hx9 => ?_)
 obtain ⟨m1, m2, all⟩ := x9
 dsimp only at hx9 ⊢
 have hf := fin_ok hnd hx9
 have hfl := hf.le
 have hO := tags_IOf_sp m1 m2 all (lastL H) tag name hf.nd (fun x hx => by have := hf.pl x hx; omega) (by omega) y (by rw [hy, show all.map ckKey = cksL H from hx9])
 generalize y.getD tgd0 = z at hO ⊢
 refine Qv (k:=?_)
 refine r_call1 hO rfl rfl rfl ?_
 refine wo_pv (pv_extract (v := .agg #[vS z.tag, vS z.target, vS z.value, vS z.source, .bool z.spread, .bool z.own]) rfl rfl) rfl ?_
 refine wo_pv (pv_extract (v := vB y.isSome) rfl rfl) rfl ?_
 refine Zp (k:=Vv (k:=Wq (Zt (k:=?_))))
 exact fin_ret () (vs := [_, _]) (Cs := [Ce b6 33 [vS z.tag, vS z.target, vS z.value, vS z.source, .bool z.spread, .bool z.own]]) rfl (.cell (l := [vS z.tag, vS z.target, vS z.value, vS z.source, .bool z.spread, .bool z.own]) rfl (shows_ce (T := 33)) Tryz.underlying33 rfl ti33 (Nat.le_of_ble_eq_true rfl) rfl (.tmp rfl .nil)) rfl trivial ent_pick
theorem tags_Names_sp (b : Nat) (H : Ks) (hH : TxtK H) (hn : H.length ≤ 1000000) : Sp Tryz.prog 17 [.map (some b)] [MapS b H] (X := Option Addr × Nat) (fun x => .slice x.1 (namesL (lastL H)).length x.2) (fun _ => True) (fun x => [Row 9 1 (.slice x.1 (namesL (lastL H)).length x.2) (namesL (lastL H)).length ((namesL (lastL H)).map vS), MapS b H]) := by
 have h1 := lastF_len (sdL H)
 have h2 := sdL_len H
 refine Sp.body (n := 6) Tryz.call17 Tryz.func17 rfl rfl rfl ?_
 refine Qc (k:=Vv (k:=Wq (Qc (k:=Vv (k:=?_)))))
 refine r_callX (tags_Read_sp b H hH (by omega)) rfl rfl rfl (fun x4 hx4 => ?_)
 obtain ⟨m1, m2, all⟩ := x4
 dsimp only at hx4 ⊢
 refine r_callX (tags_INames_sp m1 (some m2) (lastL H) (by show (lastF (sdL H)).length ≤ _; omega)) rfl rfl rfl (fun x5 _ => ?_)
 refine Vv (k:=Wq (Zt (k:=?_)))
 exact fin_ret x5 (vs := [_]) (Cs := []) rfl (.tmp rfl .nil) rfl trivial ent_pick
/-! Table. -/
theorem tblT_eq (C : List (Bs × Ck)) (l : Ls) : tblT C l = (namesL l).flatMap fun t => (sortB (C.map (·.1))).flatMap fun n => (ofT C l t n).toList := rfl
def tblR (C : List (Bs × Ck)) (l : Ls) (t : Bs) (ns : List Bs) : List Tgd := ns.flatMap fun n => (ofT C l t n).toList
def tblF (C : List (Bs × Ck)) (l : Ls) (ts : List Bs) : List Tgd := ts.flatMap fun t => tblR C l t (sortB (C.map (·.1)))
theorem tblR_snoc (C : List (Bs × Ck)) (l : Ls) (t : Bs) (ns : List Bs) (n : Bs) : tblR C l t (ns ++ [n]) = tblR C l t ns ++ (ofT C l t n).toList := by simp [tblR]
theorem tblF_snoc (C : List (Bs × Ck)) (l : Ls) (ts : List Bs) (t : Bs) : tblF C l (ts ++ [t]) = tblF C l ts ++ tblR C l t (sortB (C.map (·.1))) := by simp [tblF]
theorem tblR_len (C : List (Bs × Ck)) (l : Ls) (t : Bs) (ns : List Bs) : (tblR C l t ns).length ≤ ns.length := by
 induction ns with
 | nil => exact Nat.le_refl _
 | cons n ns ih =>
   have : ((ofT C l t n).toList).length ≤ 1 := by cases ofT C l t n <;> simp
   simp only [tblR, List.flatMap_cons, List.length_append, List.length_cons] at ih ⊢
   omega
theorem tblF_len (C : List (Bs × Ck)) (l : Ls) (ts : List Bs) : (tblF C l ts).length ≤ ts.length * C.length := by
 induction ts with
 | nil => simp [tblF]
 | cons t ts ih =>
   have := tblR_len C l t (sortB (C.map (·.1)))
   rw [sortB_len, List.length_map] at this
   simp only [tblF, List.flatMap_cons, List.length_append, List.length_cons, Nat.add_mul, Nat.one_mul] at ih ⊢
   omega
theorem namesL_len (l : Ls) : (namesL l).length ≤ l.length := by
 have := dedS_len (sortB (l.map fun p => p.1.1))
 rw [sortB_len, List.length_map] at this
 exact this
theorem zb15next1 {G : Prop} (h : G := by
    first
    | (have hzl : (tblF (cksL H) (lastL H) (N.take j) ++ (tblR (cksL H) (lastL H) tg (S.take i) ++ [z])).length = (tblF (cksL H) (lastL H) (N.take j) ++ tblR (cksL H) (lastL H) tg (S.take i)).length + 1 := by simp only [List.length_append, List.length_cons, List.length_nil]; omega
       have hzf : (tblF (cksL H) (lastL H) (N.take j) ++ (tblR (cksL H) (lastL H) tg (S.take i) ++ [z])).flatMap tgdVals = (tblF (cksL H) (lastL H) (N.take j) ++ tblR (cksL H) (lastL H) tg (S.take i)).flatMap tgdVals ++ [vS z.tag, vS z.target, vS z.value, vS z.source, .bool z.spread, .bool z.own] := by simp [tgdVals]
       refine to_inv ⟨(i + 1, a40, c40), by dsimp only; omega⟩ (by dsimp only; omega) ⟨rfl, sl_eq (by dsimp only; rw [hrz]; exact hzl.symm), rfl, rfl, rfl, rfl, rfl, rfl, rfl, trivial⟩ ?_
       dsimp only
       rw [hrz, hzl, hzf]
       exact ent_pick)
    | (refine to_inv ⟨(i + 1, oa, oc), by dsimp only; omega⟩ (by dsimp only; omega) ⟨rfl, sl_eq (by dsimp only; rw [hrz]), rfl, rfl, rfl, rfl, rfl, rfl, rfl, trivial⟩ ?_
       dsimp only
       rw [hrz]
       exact ent_pick)) : G := h
set_option maxHeartbeats 2000000 in
theorem tags_Table_sp (b : Nat) (H : Ks) (hH : TxtK H) (hnd : (H.map (·.1)).Nodup) (hn : H.length ≤ 1000) : Sp Tryz.prog 15 [.map (some b)] [MapS b H] (X := Option Addr × Nat) (fun x => .slice x.1 (tblT (cksL H) (lastL H)).length x.2) (fun _ => True) (fun x => [Row 33 6 (.slice x.1 (tblT (cksL H) (lastL H)).length x.2) (tblT (cksL H) (lastL H)).length ((tblT (cksL H) (lastL H)).flatMap tgdVals), MapS b H]) := by
 have h1 := lastF_len (sdL H)
 have h2 := sdL_len H
 have h3 := namesL_len (lastL H)
 have h4 : (lastL H).length ≤ 12000 := by show (lastF (sdL H)).length ≤ _; omega
 obtain ⟨N, hN⟩ : ∃ N, N = namesL (lastL H) := ⟨_, rfl⟩
 have htT : tblT (cksL H) (lastL H) = tblF (cksL H) (lastL H) N := by rw [hN]; rfl
 rw [← hN] at h3
 rw [htT]
 refine Sp.body (n := 44) Tryz.call15 Tryz.func15 rfl rfl rfl ?_
 refine Qc (k:=Vv (k:=Wq (Qc (k:=Vv (k:=?_)))))
 refine r_callX (tags_Read_sp b H hH (by omega)) rfl rfl rfl (fun x12 hx12 => ?_)
 obtain ⟨m1, m2, all⟩ := x12
 dsimp only at hx12 ⊢
 have hf := fin_ok hnd hx12
 have hfl := hf.le
 have hcl : (cksL H).length = all.length := by rw [← show all.map ckKey = cksL H from hx12, List.length_map]
 have hkk : (ckK all).map (·.1) = (cksL H).map (·.1) := by rw [ckK_map hf.nd, ← show all.map ckKey = cksL H from hx12, List.map_map, List.map_map]; rfl
 obtain ⟨S, hS⟩ : ∃ S, S = sortB ((cksL H).map (·.1)) := ⟨_, rfl⟩
 have hSl : S.length = all.length := by rw [hS, sortB_len, List.length_map, hcl]
 have hkl : (ckK all).length = all.length := by rw [ckK_map hf.nd, List.length_map]
 have hIN := tags_INames_sp m1 (some m2) (lastL H) (by omega)
 rw [← hN] at hIN
 refine Zc [.map none, .map none] (k:=fun b3 => Zp (k:=Wq (Qc (k:=Vv (k:=Wq (Za (k:=Qc (k:=Zm [_, _] (k:=?_)))))))))
 refine r_callX hIN rfl rfl rfl (fun x14 _ => ?_)
 obtain ⟨na, nc⟩ := x14
 dsimp only
 refine Qv (k:=Wq (Zb (k:=?_)))
 refine p_loop (fun (i : { x : Nat × Option Addr × Nat // x.1 ≤ N.length }) => [(3, .pointer (some ⟨b3, 0, none⟩)), (4, .slice i.1.2.1 (tblF (cksL H) (lastL H) (N.take i.1.1)).length i.1.2.2), (14, .slice na N.length nc), (15, vI N.length), (16, vI i.1.1)]) (fun (i : { x : Nat × Option Addr × Nat // x.1 ≤ N.length }) => [Row 33 6 (.slice i.1.2.1 (tblF (cksL H) (lastL H) (N.take i.1.1)).length i.1.2.2) (tblF (cksL H) (lastL H) (N.take i.1.1)).length ((tblF (cksL H) (lastL H) (N.take i.1.1)).flatMap tgdVals), Row 9 1 (.slice na N.length nc) N.length (N.map vS), MX.MapS MX.pairE m1 (lsK (lastL H)), MapS m2 (ckK all), CkMs all, Ce b3 95 [.map (some m1), .map (some m2)], MapS b H]) (fun (i : { x : Nat × Option Addr × Nat // x.1 ≤ N.length }) => N.length - i.1.1) rfl (⟨(0, none, 0), Nat.zero_le _⟩) ?_ ?_ (fun i => ?_)
 · exact ⟨rfl, rfl, rfl, rfl, rfl, trivial⟩
 ·
  dsimp only
  rw [show tblF (cksL H) (lastL H) (N.take 0) = [] from rfl]
  simp only [List.length_nil, List.flatMap_nil]
  exact (row_nil (e := 33) (sz := 6)).trans ent_pick
 obtain ⟨⟨j, ta, tc⟩, hj⟩ := i
 dsimp only at hj ⊢
 try dsimp only
 refine Qc (k:=Vv (k:=Wq (Za (k:=Zi (t:=fun h17 => ?_) (f:=fun h17 => ?_)))))
 ·
  refine Zk (k:=Ya (Za (k:=Zb (k:=Za (k:=?_)))))
  have hjl : j < N.length := by omega
  obtain ⟨tg, htg⟩ : ∃ tg, tg = N[j] := ⟨_, rfl⟩
  have hst : N.take (j + 1) = N.take j ++ [tg] := by rw [htg]; exact List.take_succ_eq_append_getElem hjl
  have hfs : tblF (cksL H) (lastL H) (N.take (j + 1)) = tblF (cksL H) (lastL H) (N.take j) ++ tblR (cksL H) (lastL H) tg S := by rw [hst, tblF_snoc, hS]
  have hfl2 := tblF_len (cksL H) (lastL H) (N.take j)
  have hml : (N.take j).length * (cksL H).length ≤ 12000 * 1000 := Nat.mul_le_mul (by rw [List.length_take]; omega) (by omega)
  refine Zr (k:=Ye 1 (k:=?_))
  refine r_eload Tryz.underlying9 rfl rfl ((get_map (m := j) (by omega)).trans (by rw [← htg])) rfl ?_
  refine Vv (k:=Wq (Qc (k:=Qx 1 93 (k:=?_))))
  refine r_callX (maps_KeysC_sp (some m2)) rfl rfl rfl (fun cb _ => ?_)
  refine r_callX (slices_Sorted_sp (maps_KeysC_it cb m2 (ckK all)) (ckK all).length (by omega) (fun pre x h => h.2.2) (fun l h => by have := h.length_eq; simp at this; omega)) rfl rfl rfl (fun xs hxs => ?_)
  obtain ⟨⟨sa, sc⟩, al⟩ := xs
  have hse : sortB al = S := by rw [hS, ← hkk]; exact sortB_eq hxs
  have hal : al.length = all.length := by have := hxs.length_eq; simp at this; omega
  dsimp only
  rw [hse, hal]
  refine Qv (k:=Wq (Zb (k:=?_)))
  refine p_loop (fun (i : { x : Nat × Option Addr × Nat // x.1 ≤ S.length }) => [(3, .pointer (some ⟨b3, 0, none⟩)), (4, .slice i.1.2.1 (tblF (cksL H) (lastL H) (N.take j) ++ tblR (cksL H) (lastL H) tg (S.take i.1.1)).length i.1.2.2), (6, vS tg), (14, .slice na N.length nc), (15, vI N.length), (16, vI j), (23, .slice sa all.length sc), (24, vI all.length), (25, vI i.1.1)]) (fun (i : { x : Nat × Option Addr × Nat // x.1 ≤ S.length }) => [Row 33 6 (.slice i.1.2.1 (tblF (cksL H) (lastL H) (N.take j) ++ tblR (cksL H) (lastL H) tg (S.take i.1.1)).length i.1.2.2) (tblF (cksL H) (lastL H) (N.take j) ++ tblR (cksL H) (lastL H) tg (S.take i.1.1)).length ((tblF (cksL H) (lastL H) (N.take j) ++ tblR (cksL H) (lastL H) tg (S.take i.1.1)).flatMap tgdVals), Row 9 1 (.slice sa all.length sc) all.length (S.map vS), Row 9 1 (.slice na N.length nc) N.length (N.map vS), MX.MapS MX.pairE m1 (lsK (lastL H)), MapS m2 (ckK all), CkMs all, Ce b3 95 [.map (some m1), .map (some m2)], MapS b H]) (fun (i : { x : Nat × Option Addr × Nat // x.1 ≤ S.length }) => S.length - i.1.1) rfl (⟨(0, ta, tc), Nat.zero_le _⟩) ?_ ?_ (fun i => ?_)
  · exact ⟨rfl, sl_eq (by simp [tblR]), rfl, rfl, rfl, rfl, rfl, rfl, rfl, trivial⟩
  ·
   dsimp only
   rw [show tblR (cksL H) (lastL H) tg (S.take 0) = [] from rfl, List.append_nil]
   exact ent_pick
  obtain ⟨⟨i, oa, oc⟩, hi⟩ := i
  dsimp only at hi ⊢
  try dsimp only
  refine Qc (k:=Vv (k:=Wq (Za (k:=Zi (t:=fun h26 => ?_) (f:=fun h26 => ?_)))))
  ·
   refine Zk (k:=Ya (Za (k:=Zb (k:=Za (k:=?_)))))
   have hil : i < S.length := by omega
   obtain ⟨nm, hnm⟩ : ∃ nm, nm = S[i] := ⟨_, rfl⟩
   have hst2 : S.take (i + 1) = S.take i ++ [nm] := by rw [hnm]; exact List.take_succ_eq_append_getElem hil
   obtain ⟨y, hy⟩ : ∃ y, y = ofT (cksL H) (lastL H) tg nm := ⟨_, rfl⟩
   have hrs : tblR (cksL H) (lastL H) tg (S.take (i + 1)) = tblR (cksL H) (lastL H) tg (S.take i) ++ y.toList := by rw [hst2, tblR_snoc, hy]
   have hrl := tblR_len (cksL H) (lastL H) tg (S.take i)
   have hapl : (tblF (cksL H) (lastL H) (N.take j) ++ tblR (cksL H) (lastL H) tg (S.take i)).length = (tblF (cksL H) (lastL H) (N.take j)).length + (tblR (cksL H) (lastL H) tg (S.take i)).length := List.length_append ..
   have hrl2 : (S.take i).length ≤ 1000 := by rw [List.length_take]; omega
   have hO := tags_IOf_sp m1 m2 all (lastL H) tg nm hf.nd (fun x hx => by have := hf.pl x hx; omega) (by omega) y (by rw [hy, show all.map ckKey = cksL H from hx12])
   obtain ⟨z, hz⟩ : ∃ z, z = y.getD tgd0 := ⟨_, rfl⟩
   rw [← hz] at hO
   refine Zr (k:=Ye 1 (k:=?_))
   refine r_eload Tryz.underlying9 rfl rfl ((get_map (m := i) (by omega)).trans (by rw [← hnm])) rfl ?_
   refine Vv (k:=Wq (Qc (k:=Zm [_, _] (k:=Qv (k:=?_)))))
   refine r_call1 hO rfl rfl rfl ?_
   refine Vv (k:=?_)
   refine wo_pv (pv_extract (v := .agg #[vS z.tag, vS z.target, vS z.value, vS z.source, .bool z.spread, .bool z.own]) rfl rfl) rfl ?_
   refine wo_pv (pv_extract (v := vB y.isSome) rfl rfl) rfl ?_
   refine Zc [vS [], vS [], vS [], vS [], .bool false, .bool false] (k:=fun b9 => Zp (k:=Vv (k:=Wq (Qc (k:=Vv (k:=Wq (Zi (t:=fun h36 => ?_) (f:=fun h36 => ?_))))))))
   ·
    obtain rfl : y = some z := by cases y with | none => simp at h36 | some q => rw [hz]; rfl
    have hrz : tblR (cksL H) (lastL H) tg (S.take (i + 1)) = tblR (cksL H) (lastL H) tg (S.take i) ++ [z] := hrs
    refine Zr (k:=Vv (k:=Zm [_, _, _, _, _, _] (k:=Zv [_] (cs := [_, _, _, _, _, _]) (k:=fun b39 => ?_))))
    refine r_append1 (sz := 6) (bytes := 72) Tryz.underlying36 ti33 rfl rfl rfl rfl rfl rfl rfl (by rfl) (by rfl) (by omega) (by simp only [maxLen]; omega) rfl (fun a40 c40 => ?_)
    refine Vv (k:=Wn (Yb (Ya (Zr (k:=Qv (k:=Wn ?_))))))
    exact zb15next1
   ·
    obtain rfl : y = none := by cases y with | none => rfl | some q => simp at h36
    have hrz : tblR (cksL H) (lastL H) tg (S.take (i + 1)) = tblR (cksL H) (lastL H) tg (S.take i) := by rw [hrs]; exact List.append_nil _
    refine Zk (k:=Yb (Ya (Zr (k:=Qv (k:=Wn ?_)))))
    exact zb15next1
  ·
   refine Ze (k:=Xa (Xi (Xb (Yb (Ya (Zr (k:=Qv (k:=Wn ?_))))))))
   have hi2 : i = S.length := by omega
   subst hi2
   rw [List.take_length, ← hfs]
   exact to_inv ⟨(j + 1, oa, oc), by dsimp only; omega⟩ (by dsimp only; omega) ⟨rfl, rfl, rfl, rfl, rfl, trivial⟩ ent_pick
 ·
  refine Ze (k:=Xa (Xi (Xb (Ya (Qc (k:=Qv (k:=Wq (Zt (k:=?_)))))))))
  have hj2 : j = N.length := by omega
  subst hj2
  rw [List.take_length]
  exact fin_ret (ta, tc) (vs := [_]) (Cs := []) rfl (.tmp rfl .nil) rfl trivial ent_pick
end
end Go.Proofs.YtomgdbanbpjedaaGreat
