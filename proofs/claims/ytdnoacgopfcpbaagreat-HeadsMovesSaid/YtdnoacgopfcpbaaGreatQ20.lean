/- Texts of this proof, put together: STags, STags2, STags3, STags4, PShaN, P18, P18R. -/
import Derived.Test.YtdnoacgopfcpbaaGreatQ19
set_option linter.unusedVariables false
set_option linter.unusedSimpArgs false
namespace Go.Proofs.YtdnoacgopfcpbaaGreat
section
set_option maxRecDepth 100000
def retg (n : Bs) (l : List Tg) (j : Nat) : List Tg := (l.take j).map (fun t => { t with target := n }) ++ l.drop j
theorem retg_len (n : Bs) (l : List Tg) (j : Nat) (h : j ≤ l.length) : (retg n l j).length = l.length := by simp [retg]; omega
theorem retg_all (n : Bs) (l : List Tg) : retg n l l.length = l.map (fun t => { t with target := n }) := by simp [retg]
theorem retg_set (n : Bs) (l : List Tg) {j : Nat} (h : j < l.length) : ((retg n l j).flatMap tgCells).set (j * 4 + 2) (vS n) = (retg n l (j + 1)).flatMap tgCells := by
 have hd : l.drop j = l[j] :: l.drop (j + 1) := List.drop_eq_getElem_cons h
 have ht : l.take (j + 1) = l.take j ++ [l[j]] := List.take_succ_eq_append_getElem h
 have hl : (((l.take j).map (fun t : Tg => { t with target := n })).flatMap tgCells).length = j * 4 := by
  rw [flat_len (f := tgCells) (sz := 4) (fun _ => rfl), List.length_map, List.length_take]; omega
 unfold retg
 rw [hd, ht]
 simp only [List.map_append, List.map_cons, List.map_nil, List.flatMap_append, List.flatMap_cons, List.flatMap_nil, List.append_nil]
 rw [List.set_append_right _ _ (by omega), hl]
 simp [tgCells, Nat.add_sub_cancel_left]
set_option maxHeartbeats 2000000 in
theorem tags_ops_sp (n s : Bs) (hs : s.length ≤ 1073741824) : Sp Tryz.prog 170 [vS n, vS s] [] (X := Option Addr × Nat) (fun x => .tuple #[.slice x.1 (opsB n s).1.length x.2, vI (opsB n s).2]) (fun _ => True) (fun x => [Row 60 4 (.slice x.1 (opsB n s).1.length x.2) (opsB n s).1.length ((opsB n s).1.flatMap tgCells)]) := by
 refine Sp.body (n := 43) Tryz.call170 Tryz.func170 rfl rfl rfl ?_
 refine Qc (k:=Qv (k:=Wq (Za (k:=Qc (k:=Vv (k:=?_))))))
 refine r_callX (checkin_Read_sp s hs) rfl rfl rfl (fun x13 hx13 => ?_)
 obtain ⟨xa, ck⟩ := x13
 obtain ⟨hck, hpc⟩ := hx13
 dsimp only at hck hpc ⊢
 refine Vv (k:=?_)
 refine wo_pv (pv_extract (v := .agg #[vS ck.base, vS ck.comment, vI ck.date, .slice xa.fa ck.files.length xa.fc, .slice xa.pa ck.parents.length xa.pc, .slice xa.ta ck.tags.length xa.tc, vS ck.user]) rfl rfl) rfl ?_
 refine wo_pv (pv_extract (v := vB (readK s).isSome) rfl rfl) rfl ?_
 refine Zc [vS [], vS [], .int .i64 0, .slice none 0 0, .slice none 0 0, .slice none 0 0, vS []] (k:=fun b6 => Zp (k:=Vv (k:=Wq (Qc (k:=Vv (k:=Wq (Zi (t:=fun h16 => ?_) (f:=fun h16 => ?_))))))))
 ·
  obtain ⟨k, hk⟩ : ∃ k, readK s = some k := Option.isSome_iff_exists.1 h16
  have hkk : ck = k := by rw [hck, hk]; rfl
  subst hkk
  have htl : ck.tags.length ≤ 12 := (readK_right hk).tags.len
  have hop : opsB n s = (ck.tags.map (fun t => { t with target := n }), ck.date) := by rw [opsB, hk]
  refine Za (k:=Qc (k:=Qx 5 28 (k:=Qv (k:=Wq (Zb (k:=?_))))))
  refine p_loop (fun (i : { j : Nat // j ≤ ck.tags.length }) => [(0, vS n), (6, .pointer (some ⟨b6, 0, none⟩)), (19, vI ck.tags.length), (20, vI i.1)]) (fun (i : { j : Nat // j ≤ ck.tags.length }) => [Row 60 4 (.slice xa.ta ck.tags.length xa.tc) ck.tags.length ((retg n ck.tags i.1).flatMap tgCells), Ce b6 30 [vS ck.base, vS ck.comment, vI ck.date, .slice xa.fa ck.files.length xa.fc, .slice xa.pa ck.parents.length xa.pc, .slice xa.ta ck.tags.length xa.tc, vS ck.user]]) (fun (i : { j : Nat // j ≤ ck.tags.length }) => ck.tags.length - i.1) rfl (⟨0, Nat.zero_le _⟩) ?_ ?_ (fun i => ?_)
  · exact ⟨rfl, rfl, rfl, rfl, trivial⟩
  ·
   dsimp only
   rw [show retg n ck.tags 0 = ck.tags by simp [retg]]
   exact ent_pick
  obtain ⟨j, hj⟩ := i
  dsimp only
  try dsimp only
  refine Qc (k:=Vv (k:=Wq (Za (k:=Zi (t:=fun h21 => ?_) (f:=fun h21 => ?_)))))
  ·
   refine Zk (k:=Ya (Za (k:=Zb (k:=Qc (k:=Qv (k:=Wq ?_))))))
   have hjl : j < ck.tags.length := by omega
   have hrl := retg_len n ck.tags j hj
   have hst := retg_set n ck.tags hjl
   have hfl6 : ((retg n ck.tags j).flatMap tgCells).length = 4 * ck.tags.length := by rw [flat_len (f := tgCells) (sz := 4) (fun _ => rfl), hrl]; omega
   refine Zr (k:=Qx 5 28 (k:=Qv (k:=Ye 4 (k:=Yf 2 9 (k:=?_)))))
   refine r_estore ti9 rfl rfl rfl rfl (by rw [hfl6]; omega) ?_
   refine Wn (Yb (Ya (Zr (k:=Qv (k:=Wn ?_)))))
   refine to_inv ⟨j + 1, by omega⟩ (by dsimp only; omega) ⟨rfl, rfl, rfl, rfl, trivial⟩ ?_
   dsimp only
   exact ent_step (row_norm (by rfl) hst) ent_pick
  ·
   refine Ze (k:=Xa (Xi (Xb (Ya (Za (k:=Dw [Ce b6 30 [vS ck.base, vS ck.comment, vI ck.date, .slice xa.fa ck.files.length xa.fc, .slice xa.pa ck.parents.length xa.pc, .slice xa.ta ck.tags.length xa.tc, vS ck.user]] (k:=?_)))))))
   refine Di 0 (t:=Uf 5 28) (k:=Di 1 (t:=Ul) (k:=Di 2 (t:=Uf 2 3) (k:=Di 3 (t:=Ul) (k:=Dv 4 (k:=Dv 5 (k:=Dd (k:=Ya (Zt (k:=Va ?_)))))))))
   rw [hop]
   have hjn : j = ck.tags.length := by omega
   subst hjn
   rw [retg_all]
   refine fin_ret (xa.ta, xa.tc) (vs := [_, _]) (Cs := []) rfl (.tmp rfl (.tmp rfl .nil)) (by simp [pack]) trivial ?_
   simp only [List.length_map]
   exact ent_pick
 ·
  have hk : readK s = none := by cases e : readK s with | none => rfl | some k => rw [e] at h16; cases h16
  have hop : opsB n s = (((readCt s).getD ct0).tags, ((readCt s).getD ct0).date) := by rw [opsB, hk]
  refine Zk (k:=Ya (Qc (k:=Vv (k:=?_))))
  refine r_callX (control_Read_sp s hs) rfl rfl rfl (fun x36 hx36 => ?_)
  obtain ⟨⟨ta, tc⟩, ct⟩ := x36
  dsimp only at hx36 ⊢
  subst hx36
  generalize (readCt s).getD ct0 = ct at *
  refine Vv (k:=?_)
  refine wo_pv (pv_extract (v := .agg #[vI ct.date, .slice ta ct.tags.length tc, vS ct.user]) rfl rfl) rfl ?_
  refine wo_pv (pv_extract (v := vB (readCt s).isSome) rfl rfl) rfl ?_
  refine Zc [.int .i64 0, .slice none 0 0, vS []] (k:=fun b9 => Zp (k:=Vv (k:=Wq (Za (k:=Dw [Ce b9 70 [vI ct.date, .slice ta ct.tags.length tc, vS ct.user]] (k:=?_))))))
  refine Di 0 (t:=Uf 1 28) (k:=Di 1 (t:=Ul) (k:=Di 2 (t:=Uf 0 3) (k:=Di 3 (t:=Ul) (k:=Dv 4 (k:=Dv 5 (k:=Dd (k:=Ya (Zt (k:=?_)))))))))
  rw [hop]
  exact fin_ret (ta, tc) (vs := [_, _]) (Cs := []) rfl (.tmp rfl (.tmp rfl .nil)) rfl trivial ent_pick
theorem opsB_len (n s : Bs) : (opsB n s).1.length ≤ 12 := by
 unfold opsB
 cases e : readK s with
 | some c => simp only [List.length_map]; exact (readK_right e).tags.len
 | none =>
   dsimp only
   cases e2 : readCt s with
   | none => simp [ct0]
   | some c => exact (readCt_iff.1 e2).1.tags.len
theorem tags_All_sp (m : Option Nat) : Sp Tryz.prog 127 [.map m] [] (X := Nat) (fun b => .func (.func 169) #[] #[.pointer (some ⟨b, 0, none⟩)]) (fun _ => True) (fun b => [Ce b 31 [.map m]]) := by
 refine Sp.body (n := 4) Tryz.call127 Tryz.func127 rfl rfl rfl ?_
 refine Qc (k:=Zx [_] (k:=fun b1 => Vv (k:=Wq (Qc (k:=Qv (k:=Wq (Zt (k:=?_))))))))
 exact fin_ret b1 (vs := [_]) (Cs := []) rfl (.tmp rfl .nil) rfl trivial ent_pick
def sdV (s : Sd) : Value := .agg (sdVals s).toArray
theorem sdF_snoc (H : Ks) (l : List Bs) (n : Bs) : sdF H (l ++ [n]) = sdF H l ++ sdOf H n := by simp [sdF]
set_option maxHeartbeats 2000000 in
theorem tags_All_itB (c b : Nat) (H : Ks) (hH : TxtK H) (hn : H.length ≤ 4398046511104) :
    IterB Tryz.prog 169 [.pointer (some ⟨c, 0, none⟩)] (fun s : Sd => [sdV s]) (okL (sdL H)) (stopL (sdL H)) (MapS b H) [Ce c 31 [.map (some b)]] [Ce c 31 [.map (some b)]] (sdL H) (fun _ => .tuple #[]) := by
 intro y Jy J0 Jx ys hj1 hj2
 have hkl := keysS_len H
 refine Sp.body (n := 40) Tryz.call169 Tryz.func169 rfl rfl rfl ?_
 refine wc_ent' (ent_open2 (hj1 []) (Ent.refl _)) ?_
 refine Qc (k:=Zd (k:=?_))
 refine r_callX (maps_Keys_sp (some b)) rfl rfl rfl (fun cb _ => ?_)
 refine r_callX (slices_Sorted_sp (maps_Keys_it cb b H) H.length hn (fun pre x h => h.2.2) (fun l h => by have := h.length_eq; simp at this; omega)) rfl rfl rfl (fun xs hxs => ?_)
 obtain ⟨⟨sa, sc⟩, al⟩ := xs
 have hse : sortB al = keysS H := sortB_eq hxs
 have hal : al.length = H.length := by have := hxs.length_eq; simpa using this
 dsimp only
 rw [hse, hal]
 refine Qv (k:=Wq (Zb (k:=?_)))
 refine p_loop (fun (i : { j : Nat // j ≤ H.length }) => [(0, y), (1, .pointer (some ⟨c, 0, none⟩)), (11, .slice sa H.length sc), (12, vI H.length), (13, vI i.1)]) (fun (i : { j : Nat // j ≤ H.length }) => [Jy (sdF H ((keysS H).take i.1)), Row 9 1 (.slice sa H.length sc) H.length ((keysS H).map vS), Ce c 31 [.map (some b)]]) (fun (i : { j : Nat // j ≤ H.length }) => H.length - i.1) rfl (⟨0, Nat.zero_le _⟩) ?_ ?_ (fun i => ?_)
 · exact ⟨rfl, rfl, rfl, rfl, rfl, trivial⟩
 ·
  dsimp only
  rw [show sdF H ((keysS H).take 0) = [] from rfl]
  refine ent_fold2 (hj2 []) ?_
  exact ent_pick
 obtain ⟨j, hj⟩ := i
 dsimp only
 try dsimp only
 refine Qc (k:=Vv (k:=Wq (Za (k:=Zi (t:=fun h14 => ?_) (f:=fun h14 => ?_)))))
 ·
  refine Zk (k:=Ya (Za (k:=Zb (k:=Za (k:=?_)))))
  have hjl : j < (keysS H).length := by omega
  refine wc_ent' (ent_open2 (hj1 (sdF H ((keysS H).take j))) (Ent.refl _)) ?_
  have hst : (keysS H).take (j + 1) = (keysS H).take j ++ [(keysS H)[j]] := List.take_succ_eq_append_getElem hjl
  obtain ⟨nm, hnm⟩ : ∃ nm, nm = (keysS H)[j] := ⟨_, rfl⟩
  have hfs : sdF H ((keysS H).take (j + 1)) = sdF H ((keysS H).take j) ++ sdOf H nm := by rw [hst, sdF_snoc, hnm]
  have hff : sdL H = sdF H ((keysS H).take j) ++ sdOf H nm ++ sdF H ((keysS H).drop (j + 1)) := by
   rw [← hfs]
   unfold sdL sdF
   rw [← List.flatMap_append, List.take_append_drop]
  obtain ⟨htx, htl⟩ := hH.get nm
  have hOp := tags_ops_sp nm (getB H nm) htl
  have hol := opsB_len nm (getB H nm)
  have hsd : sdOf H nm = (opsB nm (getB H nm)).1.map (fun t => (⟨t, (opsB nm (getB H nm)).2, nm⟩ : Sd)) := rfl
  generalize opsB nm (getB H nm) = op at hOp hol hsd
  obtain ⟨tgs, date⟩ := op
  dsimp only at hOp hol hsd
  refine Zr (k:=Ye 1 (k:=?_))
  refine r_eload Tryz.underlying9 rfl rfl ((get_map (m := j) (by omega)).trans (by rw [← hnm])) rfl ?_
  refine Vv (k:=Wq (Qc (k:=Vv (k:=Zd (k:=Vv (k:=?_))))))
  refine r_lookup (v := vS (getB H nm)) Tryz.underlying31 Tryz.underlying9 ti9 rfl rfl rfl htx rfl ?_
  refine r_callX hOp rfl rfl rfl (fun x22 _ => ?_)
  obtain ⟨oa, oc⟩ := x22
  dsimp only
  refine Vv (k:=?_)
  refine wo_pv (pv_extract (v := .slice oa tgs.length oc) rfl rfl) rfl ?_
  refine wo_pv (pv_extract (v := vI date) rfl rfl) rfl ?_
  refine Qv (k:=Wq (Qc (k:=Qv (k:=Vv (k:=Wq (Zb (k:=?_)))))))
  refine p_loop (fun (i : { i : Nat // i ≤ tgs.length }) => [(0, y), (1, .pointer (some ⟨c, 0, none⟩)), (4, vS nm), (6, vI date), (11, .slice sa H.length sc), (12, vI H.length), (13, vI j), (25, .slice oa tgs.length oc), (26, vI tgs.length), (27, vI i.1)]) (fun (i : { i : Nat // i ≤ tgs.length }) => [Jy (sdF H ((keysS H).take j) ++ (sdOf H nm).take i.1), Row 60 4 (.slice oa tgs.length oc) tgs.length (tgs.flatMap tgCells), Row 9 1 (.slice sa H.length sc) H.length ((keysS H).map vS), Ce c 31 [.map (some b)]]) (fun (i : { i : Nat // i ≤ tgs.length }) => tgs.length - i.1) rfl (⟨0, Nat.zero_le _⟩) ?_ ?_ (fun i => ?_)
  · exact ⟨rfl, rfl, rfl, rfl, rfl, rfl, rfl, rfl, rfl, rfl, trivial⟩
  ·
   dsimp only
   rw [List.take_zero, List.append_nil]
   refine ent_fold2 (hj2 _) ?_
   exact ent_pick
  obtain ⟨i, hi⟩ := i
  dsimp only
  try dsimp only
  refine Qc (k:=Vv (k:=Wq (Za (k:=Zi (t:=fun h28 => ?_) (f:=fun h28 => ?_)))))
  ·
   refine Zk (k:=Ya (Za (k:=Zb (k:=Za (k:=?_)))))
   have hil : i < tgs.length := by omega
   have hget := get_flat (f := tgCells) (sz := 4) (fun _ => rfl) hil
   have hsl : (sdOf H nm).length = tgs.length := by rw [hsd, List.length_map]
   have hsi : (sdOf H nm)[i]'(by omega) = ⟨tgs[i], date, nm⟩ := by simp [hsd]
   have hsn : (sdOf H nm).take (i + 1) = (sdOf H nm).take i ++ [⟨tgs[i], date, nm⟩] := by rw [← hsi]; exact List.take_succ_eq_append_getElem (by omega)
   obtain ⟨tg, htg⟩ : ∃ tg, tg = tgs[i] := ⟨_, rfl⟩
   rw [← htg] at hget hsn
   have hc4 : (tgCells tg).length = 4 := rfl
   have hall : sdL H = sdF H ((keysS H).take j) ++ (sdOf H nm).take i ++ (⟨tg, date, nm⟩ : Sd) :: ((sdOf H nm).drop (i + 1) ++ sdF H ((keysS H).drop (j + 1))) := by
    rw [hff]
    conv => lhs; rw [← List.take_append_drop (i + 1) (sdOf H nm), hsn]
    simp only [List.append_assoc, List.singleton_append, List.cons_append, List.nil_append]
   have hok6 : okL (sdL H) (sdF H ((keysS H).take j) ++ (sdOf H nm).take i) (⟨tg, date, nm⟩ : Sd) := ⟨_, hall⟩
   have hst6 : stopL (sdL H) (sdF H ((keysS H).take j) ++ (sdOf H nm).take i ++ [⟨tg, date, nm⟩]) := ⟨by simp, (sdOf H nm).drop (i + 1) ++ sdF H ((keysS H).drop (j + 1)), by rw [hall]; simp only [List.append_assoc, List.singleton_append, List.cons_append, List.nil_append]⟩
   refine Zr (k:=Ye 4 (k:=?_))
   refine r_eloada (sz := 4) Tryz.underlying60 rfl ti60 rfl rfl (by rw [flat_len (f := tgCells) (sz := 4) (fun _ => rfl)]; omega) rfl hget rfl ?_
   refine Zc [.int .u8 0, vS [], vS [], vS []] (k:=fun b8 => Zp (k:=Wq (Qc (k:=Vv (k:=Zm [_, _, _, _] (k:=Qv (k:=Vx (Ps [_, _, _, _, _, _]) (k:=?_))))))))
   refine r_yield ys (sdF H ((keysS H).take j) ++ (sdOf H nm).take i) (⟨tg, date, nm⟩ : Sd) hok6 rfl rfl rfl ?_ ?_
   ·
    refine Vv (k:=Wq (Z0 (k:=Zk (k:=Yb (Ya (Zr (k:=Qv (k:=Wn ?_))))))))
    refine to_inv ⟨i + 1, by omega⟩ (by dsimp only; omega) ⟨rfl, rfl, rfl, rfl, rfl, rfl, rfl, rfl, rfl, rfl, trivial⟩ ?_
    dsimp only
    rw [hsn, ← List.append_assoc]
    exact ent_pick
   ·
    refine Vv (k:=Wq (Z1 (k:=Zt (k:=Vb (Va (Vi (Vb (Vb (Va (Vi (Vb ?_)))))))))))
    refine fin_ret (some (sdF H ((keysS H).take j) ++ (sdOf H nm).take i ++ [⟨tg, date, nm⟩])) (vs := []) (Cs := []) rfl .nil rfl (fun pre e => by cases e; exact hst6) ?_
    simp only [endsAt]
    exact ent_pick
  ·
   refine Ze (k:=Xa (Xi (Xb (Yb (Ya (Zr (k:=Qv (k:=Wn ?_))))))))
   refine to_inv ⟨j + 1, by omega⟩ (by dsimp only; omega) ⟨rfl, rfl, rfl, rfl, rfl, trivial⟩ ?_
   dsimp only
   rw [hfs]
   have hi2 : i = (sdOf H nm).length := by rw [hsd, List.length_map]; omega
   subst hi2
   rw [List.take_length]
   exact ent_pick
 ·
  refine Ze (k:=Xa (Xi (Xb ?_)))
  have hj2 : j = (keysS H).length := by omega
  subst hj2
  refine fin_end none (vs := []) (Cs := []) rfl .nil rfl (fun pre e => by cases e) ?_
  simp only [endsAt]
  rw [List.take_length, show sdF H (keysS H) = sdL H from rfl]
  exact ent_pick
end
section
set_option maxRecDepth 100000
/-- What is said last, as a map's entries. -/
def lsK (l : Ls) : MX.Ks (Bs × Bs) := l.map fun p => (p.1, sdV p.2)
def sd0 : Sd := ⟨⟨0, [], [], []⟩, 0, []⟩
theorem lsK_look (l : Ls) (k : Bs × Bs) : MX.mlook (lsK l) k = (llook l k).map sdV := by
 induction l with
 | nil => rfl
 | cons p r ih =>
   simp only [lsK, List.map_cons, MX.mlook, llook] at ih ⊢
   by_cases h : p.1 = k
   · rw [if_pos h, if_pos h]; rfl
   · rw [if_neg h, if_neg h]; exact ih
theorem lsK_put (l : Ls) (k : Bs × Bs) (s : Sd) : MX.mput (lsK l) k (sdV s) = lsK (lput l k s) := by
 induction l with
 | nil => rfl
 | cons p r ih =>
   simp only [lsK, List.map_cons, MX.mput, lput] at ih ⊢
   by_cases h : p.1 = k
   · rw [if_pos h, if_pos h]; rfl
   · rw [if_neg h, if_neg h, ih]; rfl
theorem lsK_val (l : Ls) (k : Bs × Bs) : (MX.mlook (lsK l) k).getD (sdV sd0) = sdV ((llook l k).getD sd0) ∧ (MX.mlook (lsK l) k).isSome = (llook l k).isSome := by
 rw [lsK_look]
 cases llook l k <;> exact ⟨rfl, rfl⟩
theorem lstep_put {l : Ls} {s : Sd} (h : (llook l (sdKey s)).isSome = false ∨ ((llook l (sdKey s)).getD sd0).date ≤ s.date) : lstep l s = lput l (sdKey s) s := by
 unfold lstep
 show (match llook l (sdKey s) with | none => lput l (sdKey s) s | some old => if old.date ≤ s.date then lput l (sdKey s) s else l) = _
 cases e : llook l (sdKey s) with
 | none => rfl
 | some o =>
   rw [e] at h
   have h2 : o.date ≤ s.date := by
    rcases h with h | h
    · cases h
    · exact h
   exact if_pos h2
theorem lstep_same {l : Ls} {s : Sd} (h1 : (llook l (sdKey s)).isSome = true) (h2 : ¬ ((llook l (sdKey s)).getD sd0).date ≤ s.date) : lstep l s = l := by
 unfold lstep
 show (match llook l (sdKey s) with | none => lput l (sdKey s) s | some old => if old.date ≤ s.date then lput l (sdKey s) s else l) = _
 cases e : llook l (sdKey s) with
 | none => rw [e] at h1; cases h1
 | some o => rw [e] at h2; exact if_neg h2
abbrev keyP := MX.pairP (P := Tryz.prog) Tryz.underlying193 Tryz.underlying9 ti9 rfl
set_option maxHeartbeats 4000000 in
theorem tags_Read_sp (b : Nat) (H : Ks) (hH : TxtK H) (hn : H.length ≤ 4398046511104) :
    Sp Tryz.prog 77 [.map (some b)] [MapS b H] (X := Nat × Nat × List CkN) (fun x => .agg #[.map (some x.1), .map (some x.2.1)]) (fun x => finC H x.2.2) (fun x => [MX.MapS MX.pairE x.1 (lsK (lastL H)), MapS x.2.1 (ckK x.2.2), CkMs x.2.2, MapS b H]) := by
 refine Sp.body (n := 44) Tryz.call77 Tryz.func77 rfl rfl rfl ?_
 refine Qc (k:=Zc [.map none, .map none] (k:=fun b2 => Wq (Qc (k:=?_))))
 refine MX.r_mkmap (E := MX.pairE) rfl (fun b8 => ?_)
 refine Vv (k:=?_)
 refine r_callX (links_Checkins_sp (some b)) rfl rfl rfl (fun cb _ => ?_)
 refine r_callX (maps_CollectC_sp (links_Checkins_it cb b H hH hn)) rfl rfl rfl (fun x11 hx11 => ?_)
 obtain ⟨m2, all⟩ := x11
 dsimp only at hx11 ⊢
 refine Vx (Ps [_, _]) (k:=Zc [.map none, .map none] (k:=fun b3 => Zp (k:=Wq (Za (k:=Qc (k:=Vv (k:=?_)))))))
 refine r_callX (tags_All_sp (some b)) rfl rfl rfl (fun ca _ => ?_)
 refine Wq (Zb (k:=?_))
 refine p_rangeFuncB (fun pre => [MX.MapS MX.pairE b8 (lsK (lastF pre)), MapS m2 (ckK all), CkMs all, Ce b3 140 [.map (some b8), .map (some m2)], Ce b2 140 [.map none, .map none], MapS b H]) (fun j pre => [Pu False]) (fun pre => [MX.MapS MX.pairE b8 (lsK (lastF pre)), MapS m2 (ckK all), CkMs all, Ce b3 140 [.map (some b8), .map (some m2)], Ce b2 140 [.map none, .map none]]) rfl (tags_All_itB ca b H hH hn) rfl (fun _ => by rfl) rfl (fun pre => ?_) (fun pre => ?_) ?_ (fun l pre sd hok => ?_) ?_ (fun j pre hs => ?_)
 · exact ent_pick
 · exact ent_pick
 · (refine ent_app ?_; rw [show lsK (lastF []) = [] from rfl]; exact ent_pick)
 ·
  have hlf : lastF (pre ++ [sd]) = lstep (lastF pre) sd := lastF_snoc pre sd
  obtain ⟨hv1, hv2⟩ := lsK_val (lastF pre) (sdKey sd)
  have hput := lsK_put (lastF pre) (sdKey sd) sd
  have hs1 := lstep_put (l := lastF pre) (s := sd)
  have hs2 := lstep_same (l := lastF pre) (s := sd)
  obtain ⟨⟨tk, tn, tt, tv⟩, date, src⟩ := sd
  dsimp only [sdKey] at hv1 hv2 hput hs1 hs2
  generalize hold : (llook (lastF pre) (tn, tt)).getD sd0 = old at hv1 hs1 hs2
  generalize hmet : (llook (lastF pre) (tn, tt)).isSome = met at hv2 hs1 hs2
  obtain ⟨⟨ok, on, ot, ov⟩, od, os⟩ := old
  dsimp only at hs1 hs2
  have hv27 : Value.tuple #[(MX.mlook (lsK (lastF pre)) (tn, tt)).getD (sdV sd0), .bool (MX.mlook (lsK (lastF pre)) (tn, tt)).isSome] = .tuple #[.agg #[vU ok.toNat, vS on, vS ot, vS ov, vI od, vS os], .bool met] := by rw [hv1, hv2]; rfl
  dsimp only [sdV, sdVals]
  refine Zr (k:=Zc [.int .u8 0, vS [], vS [], vS [], .int .i64 0, vS []] (k:=fun b4 => Zp (k:=Wg (Zb (k:=Qc (k:=Vf 0 60 (k:=Qx 1 9 (k:=Vf 0 60 (k:=Vf 2 9 (k:=?_))))))))))
  refine Zd (k:=?_)
  refine wo_pv (pv_buildA (vs := [_, _]) Tryz.underlying193 ti9 rfl rfl rfl ti193 rfl rfl) rfl ?_
  refine Zc [vS [], vS []] (k:=fun b5 => Zp (k:=Wq (Qc (k:=Qx 0 137 (k:=Zm [_, _] (k:=?_))))))
  refine MX.r_lookup (k := (tn, tt)) (v := .tuple #[.agg #[vU ok.toNat, vS on, vS ot, vS ov, vI od, vS os], .bool met]) Tryz.underlying137 keyP ti192 rfl rfl rfl hv27 rfl ?_
  refine Vv (k:=?_)
  refine wo_pv (pv_extract (v := .agg #[vU ok.toNat, vS on, vS ot, vS ov, vI od, vS os]) rfl rfl) rfl ?_
  refine wo_pv (pv_extract (v := .bool met) rfl rfl) rfl ?_
  refine Zc [.int .u8 0, vS [], vS [], vS [], .int .i64 0, vS []] (k:=fun b6 => Zp (k:=Vv (k:=Wq (Qc (k:=Qv (k:=Vv (k:=Gi 2 (t:=fun h32 => ?_) (f:=fun h32 => ?_))))))))
  ·
   refine O1 (k:=O1 (k:=O1 (k:=O1 (k:=O1 (k:=P1 (k:=Wq (Z1 (k:=Zr (k:=Qx 0 137 (k:=Zm [_, _] (k:=?_)))))))))))
   refine Zm [_, _, _, _, _, _] (k:=?_)
   refine MX.r_mapUpdate (k := (tn, tt)) (v := sdV ⟨⟨tk, tn, tt, tv⟩, date, src⟩) Tryz.underlying137 keyP rfl rfl rfl ?_
   rw [hput, ← hs1 (by first | (left; simpa using h32) | (right; assumption) | (right; omega))]
   refine Wn (Yb ?_)
   refine to_round ?_
   rw [hlf]
   first
   | exact ent_pick
   | (rw [hs2 (by first | assumption | simp_all) (by first | assumption | omega)]
      exact ent_pick)
  ·
   refine I0 (k:=Vf 4 3 (k:=I0 (k:=Zd (k:=I0 (k:=Vf 4 3 (k:=I0 (k:=Zd (k:=J0 (k:=P0 (k:=Wq ?_))))))))))
   refine Zi (t:=fun h38 => ?_) (f:=fun h38 => ?_)
   ·
    refine Zr (k:=Qx 0 137 (k:=Zm [_, _] (k:=Zm [_, _, _, _, _, _] (k:=?_))))
    refine MX.r_mapUpdate (k := (tn, tt)) (v := sdV ⟨⟨tk, tn, tt, tv⟩, date, src⟩) Tryz.underlying137 keyP rfl rfl rfl ?_
    rw [hput, ← hs1 (by first | (left; simpa using h32) | (right; assumption) | (right; omega))]
    refine Wn (Yb ?_)
    refine to_round ?_
    rw [hlf]
    first
    | exact ent_pick
    | (rw [hs2 (by first | assumption | simp_all) (by first | assumption | omega)]
       exact ent_pick)
   ·
    refine Zk (k:=Yb ?_)
    refine to_round ?_
    rw [hlf]
    first
    | exact ent_pick
    | (rw [hs2 (by first | assumption | simp_all) (by first | assumption | omega)]
       exact ent_pick)
 ·
  skip
  refine Yb (Ya (Qc (k:=Zm [_, _] (k:=Zp (k:=Wq (Zt (k:=?_)))))))
  refine fin_ret (b8, m2, all) (vs := [_]) (Cs := [Ce b2 140 [.map (some b8), .map (some m2)]]) rfl (.cell (l := [.map (some b8), .map (some m2)]) rfl (shows_ce (T := 140)) Tryz.underlying140 rfl ti140 (Nat.le_of_ble_eq_true rfl) rfl .nil) rfl hx11 ?_
  rw [show lastF (sdL H) = lastL H from rfl]
  exact ent_pick
 ·
  exact wc_no (fun s => by obtain ⟨_, _, _, _, a, _⟩ := s; exact a)
end
section
set_option maxRecDepth 100000
/-! Of. -/
def cfind (all : List CkN) (n : Bs) : Option CkN := all.find? fun x => decide (x.1 = n)
theorem cfind_clook (all : List CkN) (n : Bs) : clook (all.map ckKey) n = (cfind all n).map (fun x => x.2.2) := by
 induction all with
 | nil => rfl
 | cons a r ih =>
   simp only [List.map_cons, clook, cfind, List.find?_cons] at ih ⊢
   by_cases h : a.1 = n
   · have h' : (ckKey a).1 = n := h
     rw [if_pos h']; simp [h, ckKey]
   · have h' : ¬ (ckKey a).1 = n := h
     rw [if_neg h']; simp only [h, decide_false]; exact ih
theorem ckK_map {all : List CkN} (h : (all.map (·.1)).Nodup) : ckK all = all.map fun x => (x.1, ckV x) := by
 revert h
 refine snoc_ind (P := fun l : List CkN => (l.map (·.1)).Nodup → ckK l = l.map fun x => (x.1, ckV x)) (fun _ => rfl) (fun l a ih h => ?_) all
 rw [List.map_append, List.nodup_append] at h
 rw [ckK_snoc, ih h.1]
 have : a.1 ∉ (l.map fun x => (x.1, ckV x)).map (·.1) := fun hm => by
  rw [List.map_map] at hm
  obtain ⟨y, hy, e⟩ := List.mem_map.1 hm
  exact h.2.2 y.1 (List.mem_map_of_mem (f := fun x : CkN => x.1) hy) a.1 (by simp) e
 have hp : ∀ (ks : Ks), a.1 ∉ ks.map (·.1) → mput ks a.1 (ckV a) = ks ++ [(a.1, ckV a)] := by
  intro ks
  induction ks with
  | nil => intro _; rfl
  | cons p r ih2 =>
    intro hn
    simp only [List.map_cons, List.mem_cons, not_or] at hn
    rw [mput, if_neg (fun e => hn.1 e.symm), ih2 hn.2]; rfl
 rw [hp _ this]; simp
theorem cfind_mlook {all : List CkN} (h : (all.map (·.1)).Nodup) (n : Bs) : mlook (ckK all) n = (cfind all n).map ckV := by
 rw [ckK_map h]
 clear h
 induction all with
 | nil => rfl
 | cons a r ih =>
   simp only [List.map_cons, mlook, cfind, List.find?_cons] at ih ⊢
   by_cases h : a.1 = n
   · rw [if_pos h]; simp [h]
   · rw [if_neg h]; simp only [h, decide_false]; exact ih
def ckn0 : CkN := ([], ka0, ck0)
theorem byteEq (c : UInt8) (k : Nat) (hk : k < 256) : ((c.toNat : Int) = (k : Int)) ↔ c = UInt8.ofNat k := by
 constructor
 · intro h
   apply UInt8.toNat_inj.1
   simp
   omega
 · intro h
   rw [h]; simp
   omega
theorem zb128ret13 {G : Prop} (h : G := by
    have hyn : y = none := by
     first
     | assumption
     | (rw [hw, show all.length - j = 0 by omega]; rfl)
     | (rw [if_pos (.inl ((e45 ok).1 (by assumption)))] at hw; exact hw)
     | (rw [if_pos (.inr ⟨(e43 ok).1 (by assumption), by assumption⟩)] at hw; exact hw)
    rw [hyn]
    exact fin_ret () (vs := [_, _]) (Cs := [Ce b6 90 [vS [], vS [], vS [], vS [], .bool false, .bool false]]) rfl (.cell (l := [vS [], vS [], vS [], vS [], .bool false, .bool false]) rfl (shows_ce (T := 90)) Tryz.underlying90 rfl ti90 (Nat.le_of_ble_eq_true rfl) rfl (.tmp rfl .nil)) rfl trivial ent_pick) : G := h
theorem zb128ret11 {G : Prop} (h : G := by
    rw [if_neg (by
     rintro (h | ⟨h, h2⟩)
     · first
       | contradiction
       | exact absurd ((e45 ok).2 h) (by assumption)
     · first
       | contradiction
       | exact absurd ((e43 ok).2 h) (by assumption)
       | exact absurd h2 (by assumption))] at hw
    rw [hw, show (decide (ok = 42)) = decide ((ok.toNat : Int) = 42) from decide_eq_decide.2 (e42 ok).symm]
    refine fin_ret () (vs := [_, _]) (Cs := [Ce b6 90 [vS tag, vS name, vS ov, vS os, .bool (decide ((ok.toNat : Int) = 42)), .bool (decide (n = name))]]) rfl (.cell (l := [vS tag, vS name, vS ov, vS os, .bool (decide ((ok.toNat : Int) = 42)), .bool (decide (n = name))]) rfl (shows_ce (T := 90)) Tryz.underlying90 rfl ti90 (Nat.le_of_ble_eq_true rfl) rfl (.tmp rfl .nil)) rfl trivial ent_pick) : G := h
set_option maxHeartbeats 4000000 in
theorem tags_IOf_sp (m1 m2 : Nat) (all : List CkN) (l : Ls) (tag name : Bs) (hnd : (all.map (·.1)).Nodup) (hz : ∀ x ∈ all, x.2.2.parents.length ≤ 9223372036854775807) (hal : all.length ≤ 4398046511104) (y : Option Tgd) (hy : y = ofT (all.map ckKey) l tag name) :
    Sp1 Tryz.prog 128 [.agg #[.map (some m1), .map (some m2)], vS tag, vS name] [MX.MapS MX.pairE m1 (lsK l), MapS m2 (ckK all), CkMs all] (.tuple #[.agg (tgdVals (y.getD tgd0)).toArray, vB y.isSome]) [MX.MapS MX.pairE m1 (lsK l), MapS m2 (ckK all), CkMs all] := by
 have hcl : (ckK all).length = all.length := by rw [ckK_map hnd, List.length_map]
 have hCl : (all.map ckKey).length = all.length := List.length_map ..
 have e45 := fun c : UInt8 => byteEq c 45 (by decide)
 have e43 := fun c : UInt8 => byteEq c 43 (by decide)
 have e42 := fun c : UInt8 => byteEq c 42 (by decide)
 rw [ofT, hCl] at hy
 refine Sp.body (n := 71) Tryz.call128 Tryz.func128 rfl rfl rfl ?_
 refine Qc (k:=Zx [_, _] (k:=fun b3 => Zc [vS [], vS [], vS [], vS [], .bool false, .bool false] (k:=fun b6 => Vv (k:=Wq (Zs (k:=Qc (k:=Qv (k:=Wq ?_))))))))
 refine Za (k:=Zl (k:=Ya (Za (k:=Qc (k:=Qx 1 138 (k:=?_))))))
 refine r_mlen Tryz.underlying138 rfl rfl ?_
 rw [hcl]
 refine Vv (k:=Wq (Zb (k:=?_)))
 refine p_loop (fun (i : { x : Nat × Bs // x.1 ≤ all.length ∧ y = wayF (all.map ckKey) l tag name (all.length - x.1) x.2 }) => [(1, vS tag), (2, vS name), (3, .pointer (some ⟨b3, 0, none⟩)), (6, .pointer (some ⟨b6, 0, none⟩)), (8, vS i.1.2), (15, vI all.length), (16, vI i.1.1)]) (fun (i : { x : Nat × Bs // x.1 ≤ all.length ∧ y = wayF (all.map ckKey) l tag name (all.length - x.1) x.2 }) => [MX.MapS MX.pairE m1 (lsK l), MapS m2 (ckK all), CkMs all, Ce b3 140 [.map (some m1), .map (some m2)], Ce b6 90 [vS [], vS [], vS [], vS [], .bool false, .bool false]]) (fun (i : { x : Nat × Bs // x.1 ≤ all.length ∧ y = wayF (all.map ckKey) l tag name (all.length - x.1) x.2 }) => all.length - i.1.1) rfl (⟨(0, name), Nat.zero_le _, hy⟩) ?_ ?_ (fun i => ?_)
 · exact ⟨rfl, rfl, rfl, rfl, rfl, rfl, rfl, trivial⟩
 ·
  exact ent_pick
 obtain ⟨⟨j, n⟩, hj, hw⟩ := i
 dsimp only at hj hw ⊢
 try dsimp only
 refine Qc (k:=Vv (k:=Wq (Za (k:=Zi (t:=fun h17 => ?_) (f:=fun h17 => ?_)))))
 ·
  refine Zk (k:=Ya (Za (k:=Zb (k:=Za (k:=?_)))))
  have hjl : j < all.length := by omega
  rw [show all.length - j = (all.length - (j + 1)) + 1 by omega, wayF, cfind_clook] at hw
  have hml := cfind_mlook hnd n
  have hxm : ∀ x, cfind all n = some x → x ∈ all := fun x h => List.mem_of_find?_eq_some h
  generalize cfind all n = fx at hw hml hxm
  obtain ⟨⟨zn, za, zc⟩, hzk⟩ : ∃ z : CkN, z = fx.getD ckn0 := ⟨_, rfl⟩
  have hv22 : Value.tuple #[(mlook (ckK all) n).getD (ckV ckn0), .bool (mlook (ckK all) n).isSome] = .tuple #[.agg #[vS zc.base, vS zc.comment, vI zc.date, .slice za.fa zc.files.length za.fc, .slice za.pa zc.parents.length za.pc, .slice za.ta zc.tags.length za.tc, vS zc.user], .bool fx.isSome] := by
   rw [hml]
   have e1 : (fx.map ckV).getD (ckV ckn0) = ckV (fx.getD ckn0) := by cases fx <;> rfl
   rw [e1, ← hzk]
   cases fx <;> rfl
  obtain ⟨hv1, hv2⟩ := lsK_val l (tag, n)
  generalize llook l (tag, n) = fs at hw hv1 hv2
  obtain ⟨⟨⟨ok, on, ot, ov⟩, od, os⟩, hold⟩ : ∃ z : Sd, z = fs.getD sd0 := ⟨_, rfl⟩
  have hv33 : Value.tuple #[(MX.mlook (lsK l) (tag, n)).getD (sdV sd0), .bool (MX.mlook (lsK l) (tag, n)).isSome] = .tuple #[.agg #[vU ok.toNat, vS on, vS ot, vS ov, vI od, vS os], .bool fs.isSome] := by rw [hv1, hv2, ← hold]; rfl
  refine Zr (k:=Qx 1 138 (k:=Vv (k:=?_)))
  refine r_lookup (v := .tuple #[.agg #[vS zc.base, vS zc.comment, vI zc.date, .slice za.fa zc.files.length za.fc, .slice za.pa zc.parents.length za.pc, .slice za.ta zc.tags.length za.tc, vS zc.user], .bool fx.isSome]) Tryz.underlying138 Tryz.underlying9 ti30 rfl rfl rfl hv22 rfl ?_
  refine Vv (k:=?_)
  refine wo_pv (pv_extract (v := .agg #[vS zc.base, vS zc.comment, vI zc.date, .slice za.fa zc.files.length za.fc, .slice za.pa zc.parents.length za.pc, .slice za.ta zc.tags.length za.tc, vS zc.user]) rfl rfl) rfl ?_
  refine wo_pv (pv_extract (v := .bool fx.isSome) rfl rfl) rfl ?_
  refine Zc [vS [], vS [], .int .i64 0, .slice none 0 0, .slice none 0 0, .slice none 0 0, vS []] (k:=fun b9 => Zp (k:=Vv (k:=Wq (Za (k:=Qc (k:=Qv (k:=Wq (Zi (t:=fun h26 => ?_) (f:=fun h26 => ?_)))))))))
  ·
   obtain rfl : fx = none := by cases fx with | none => rfl | some z => simp at h26
   have hyn : y = none := hw
   refine Ze (k:=Xa (Xo (k:=Xa (Xi (Xb (Ya (Qc (k:=Vx (Ps [vS [], vS [], vS [], vS [], .bool false, .bool false]) (k:=Zp (k:=Vv (k:=?_)))))))))))
   refine Wq (Zt (k:=Vs ?_))
   exact zb128ret13
  ·
   obtain rfl : fx = some (zn, za, zc) := by cases fx with | none => simp at h26 | some z => rw [hzk]; rfl
   have hxin := hxm _ rfl
   have hpz := hz _ hxin
   dsimp only [Option.map_some] at hw hpz
   refine Zk (k:=Ya (Qc (k:=Qx 0 137 (k:=Qv (k:=?_)))))
   refine wo_pv (pv_buildA (vs := [_, _]) Tryz.underlying193 ti9 rfl rfl rfl ti193 rfl rfl) rfl ?_
   refine MX.r_lookup (k := (tag, n)) (v := .tuple #[.agg #[vU ok.toNat, vS on, vS ot, vS ov, vI od, vS os], .bool fs.isSome]) Tryz.underlying137 keyP ti192 rfl rfl rfl hv33 rfl ?_
   refine Vv (k:=?_)
   refine wo_pv (pv_extract (v := .agg #[vU ok.toNat, vS on, vS ot, vS ov, vI od, vS os]) rfl rfl) rfl ?_
   refine wo_pv (pv_extract (v := .bool fs.isSome) rfl rfl) rfl ?_
   refine Zc [.int .u8 0, vS [], vS [], vS [], .int .i64 0, vS []] (k:=fun b11 => Zp (k:=Vv (k:=Wq (Za (k:=Qc (k:=Qv (k:=Wq (Zi (t:=fun h37 => ?_) (f:=fun h37 => ?_)))))))))
   ·
    obtain rfl : fs = none := by cases fs with | none => rfl | some z => simp at h37
    dsimp only at hw
    refine Qc (k:=Zm [_, _, _, _, _, _, _] (k:=?_))
    refine wo_ent' (ent_ckm hxin HasC.get) ?_
    refine r_call1 (links_First_sp (B := SlI za.pa (zc.parents.map vS)) za zc hpz sla_sli) rfl rfl rfl ?_
    refine Vv (k:=Wq (Ze (k:=Xa (Xb (Ya (Zr (k:=Qv (k:=Wn ?_))))))))
    exact to_inv ⟨(j + 1, firstB zc), by dsimp only; omega, hw⟩ (by dsimp only; omega) ⟨rfl, rfl, rfl, rfl, rfl, rfl, rfl, trivial⟩ ent_pick
   ·
    obtain rfl : fs = some ⟨⟨ok, on, ot, ov⟩, od, os⟩ := by cases fs with | none => simp at h37 | some z => rw [hold]; rfl
    dsimp only at hw
    refine Zk (k:=Ya (Za (k:=Zb (k:=Za (k:=Qc (k:=Vf 0 60 (k:=Qx 0 5 (k:=Qv (k:=?_)))))))))
    refine Wq (Zi (t:=fun h40 => ?_) (f:=fun h40 => ?_))
    ·
     refine Zk (k:=Ya (Zi (t:=fun h40 => ?_) (f:=fun h40 => ?_)))
     ·
      refine Ze (k:=Xo (k:=Xa (Xo (k:=Xa (Xi (Xb (Ya (Qc (k:=Vx (Ps [vS [], vS [], vS [], vS [], .bool false, .bool false]) (k:=Zp (k:=?_)))))))))))
      refine Vv (k:=Wq (Zt (k:=Vs ?_)))
      exact zb128ret13
     ·
      refine Zk (k:=Yb (Ya (Qc (k:=Qv (k:=Vf 0 60 (k:=Qx 3 9 (k:=Qx 5 9 (k:=?_))))))))
      refine Vf 0 60 (k:=Qx 0 5 (k:=Qv (k:=Qv (k:=Vx (Ps [_, _, _, _, _, _]) (k:=Zp (k:=Vv (k:=Wq (Zt (k:=?_)))))))))
      refine Vb (Va (Vi (Vb (Va (Vs ?_)))))
      exact zb128ret11
    ·
     refine Zr (k:=Vf 0 60 (k:=Qx 0 5 (k:=Qv (k:=Gi 4 (t:=fun h49 => ?_) (f:=fun h49 => ?_)))))
     ·
      refine J1 (k:=J1 (k:=J1 (k:=P1 (k:=Vv (k:=Wq (Zi (t:=fun h40 => ?_) (f:=fun h40 => ?_)))))))
      ·
       refine Ze (k:=Xo (k:=Xa (Xo (k:=Xa (Xi (Xb (Ya (Qc (k:=Vx (Ps [vS [], vS [], vS [], vS [], .bool false, .bool false]) (k:=Zp (k:=?_)))))))))))
       refine Vv (k:=Wq (Zt (k:=Vs ?_)))
       exact zb128ret13
      ·
       refine Zk (k:=Yb (Ya (Qc (k:=Qv (k:=Vf 0 60 (k:=Qx 3 9 (k:=Qx 5 9 (k:=?_))))))))
       refine Vf 0 60 (k:=Qx 0 5 (k:=Qv (k:=Qv (k:=Vx (Ps [_, _, _, _, _, _]) (k:=Zp (k:=Vv (k:=Wq (Zt (k:=?_)))))))))
       refine Vb (Va (Vi (Vb (Va (Vs ?_)))))
       exact zb128ret11
     ·
      refine O0 (k:=O0 (k:=O0 (k:=P0 (k:=Vv (k:=Wq (Z0 (k:=Zk (k:=Yb (Ya (Qc (k:=?_)))))))))))
      refine Qv (k:=Vf 0 60 (k:=Qx 3 9 (k:=Qx 5 9 (k:=Vf 0 60 (k:=Qx 0 5 (k:=Qv (k:=?_)))))))
      refine Qv (k:=Vx (Ps [_, _, _, _, _, _]) (k:=Zp (k:=Vv (k:=Wq (Zt (k:=Vb (Va (Vi (Vb (Va ?_))))))))))
      refine Vs ?_
      exact zb128ret11
 ·
  refine Ze (k:=Xa (Xi (Xb (Ya (Qc (k:=Vx (Ps [vS [], vS [], vS [], vS [], .bool false, .bool false]) (k:=Zp (k:=Vv (k:=Wq (Zt (k:=?_)))))))))))
  refine Vs ?_
  exact zb128ret13
end
section
set_option maxRecDepth 100000
theorem ckOf_sub (H : Ks) (n : Bs) : ((ckOf H n).map (·.1)).Sublist [n] := by
 unfold ckOf
 split
 · exact List.nil_sublist _
 · exact List.Sublist.refl _
theorem cksF_sub (H : Ks) (l : List Bs) : ((cksF H l).map (·.1)).Sublist l := by
 induction l with
 | nil => exact List.Sublist.refl _
 | cons n l ih =>
   have := (ckOf_sub H n).append ih
   simpa [cksF] using this
theorem cks_mem {H : Ks} {l : List Bs} {x : Bs × Ck} : x ∈ cksF H l ↔ x.1 ∈ l ∧ readK (getB H x.1) = some x.2 := by
 unfold cksF
 rw [List.mem_flatMap]
 constructor
 · rintro ⟨n, hn, hx⟩
   unfold ckOf at hx
   split at hx
   · cases hx
   · rename_i c e
     rw [List.mem_singleton.1 hx]
     exact ⟨hn, e⟩
 · rintro ⟨h1, h2⟩
   exact ⟨x.1, h1, by rw [ckOf, h2]; simp⟩
structure FinP (H : Ks) (all : List CkN) : Prop where
 nd : (all.map (·.1)).Nodup
 le : all.length ≤ H.length
 pl : ∀ x ∈ all, x.2.2.parents.length ≤ 3
theorem fin_ok {H : Ks} {all : List CkN} (hnd : (H.map (·.1)).Nodup) (h : finC H all) : FinP H all := by
 have hs : ((cksL H).map (·.1)).Sublist (keysS H) := cksF_sub H _
 have hm : all.map (·.1) = (cksL H).map (·.1) := by
  rw [← show all.map ckKey = cksL H from h, List.map_map]; rfl
 have hk : (keysS H).Nodup := (sortB_perm _).nodup_iff.2 hnd
 refine ⟨by rw [hm]; exact hk.sublist hs, ?_, fun x hx => ?_⟩
 · have h1 := congrArg List.length hm
   have h2 := hs.length_le
   rw [keysS_len] at h2
   rw [List.length_map] at h1
   omega
 · have : ckKey x ∈ cksL H := by rw [← show all.map ckKey = cksL H from h]; exact List.mem_map_of_mem hx
   have := (readK_right (cks_mem.1 this).2).parents.len
   have e : (ckKey x).2 = x.2.2 := rfl
   rw [e] at this
   omega
/-! Table. -/
end
def frc {α : Type} (n : Nat) (k : Nat → α) : α := match n with | 0 => k 0 | m + 1 => k (m + 1)
theorem frc_eq {α : Type} (n : Nat) (k : Nat → α) : frc n k = k n := by cases n <;> rfl
def rotN (x k : Nat) : Nat := Nat.lor (Nat.mod (Nat.shiftLeft x k) 4294967296) (Nat.shiftRight x (Nat.sub 32 k))
def addN (x y : Nat) : Nat := Nat.mod (Nat.add x y) 4294967296
def notN (x : Nat) : Nat := Nat.sub 4294967295 x
theorem rotN_eq (x : UInt32) {k : Nat} (h0 : 0 < k) (h : k < 32) : rotN x.toNat k = (rotl x k).toNat := by
 have h1 : (UInt32.ofNat k).toNat % 32 = k := by rw [UInt32.toNat_ofNat']; omega
 have h2 : (UInt32.ofNat (32 - k)).toNat % 32 = 32 - k := by rw [UInt32.toNat_ofNat']; omega
 rw [rotl, UInt32.toNat_or, UInt32.toNat_shiftLeft, UInt32.toNat_shiftRight, h1, h2]; rfl
theorem addN_eq (x y : UInt32) : addN x.toNat y.toNat = (x + y).toNat := by rw [UInt32.toNat_add]; rfl
theorem notN_eq (x : UInt32) : notN x.toNat = (~~~x).toNat := by rw [UInt32.toNat_not]; rfl
theorem andN_eq (x y : UInt32) : Nat.land x.toNat y.toNat = (x &&& y).toNat := by rw [UInt32.toNat_and]; rfl
theorem orN_eq (x y : UInt32) : Nat.lor x.toNat y.toNat = (x ||| y).toNat := by rw [UInt32.toNat_or]; rfl
theorem xorN_eq (x y : UInt32) : Nat.xor x.toNat y.toNat = (x ^^^ y).toNat := by rw [UInt32.toNat_xor]; rfl
/-! The words. -/
def wordsN : Bs → Nat → List Nat → List Nat
 | b, 0, r => r
 | a :: b :: c :: d :: l, k + 1, r => frc (Nat.add (Nat.add (Nat.mul a.toNat 16777216) (Nat.mul b.toNat 65536)) (Nat.add (Nat.mul c.toNat 256) d.toNat)) fun w => wordsN l k (w :: r)
 | _, _ + 1, r => r
def moreN : Nat → List Nat → List Nat
 | 0, r => r
 | k + 1, r => frc (rotN (Nat.xor (Nat.xor (Nat.xor (r.getD 2 0) (r.getD 7 0)) (r.getD 13 0)) (r.getD 15 0)) 1) fun w => moreN k (w :: r)
theorem blkW_nat (b : Bs) (i : Nat) : (blkW b i).toNat = (b.getD (4 * i) 0).toNat * 16777216 + (b.getD (4 * i + 1) 0).toNat * 65536 + ((b.getD (4 * i + 2) 0).toNat * 256 + (b.getD (4 * i + 3) 0).toNat) := by
 unfold blkW byteW
 generalize b.getD (4 * i) 0 = p, b.getD (4 * i + 1) 0 = q, b.getD (4 * i + 2) 0 = u, b.getD (4 * i + 3) 0 = v
 have hp : p.toNat < 256 := p.toNat_lt
 have hq : q.toNat < 256 := q.toNat_lt
 have hu : u.toNat < 256 := u.toNat_lt
 have hv : v.toNat < 256 := v.toNat_lt
 have e24 : (UInt32.ofNat 24).toNat % 32 = 24 := rfl
 have e16 : (UInt32.ofNat 16).toNat % 32 = 16 := rfl
 have e8 : (UInt32.ofNat 8).toNat % 32 = 8 := rfl
 rw [UInt32.toNat_or, UInt32.toNat_or, UInt32.toNat_or, UInt32.toNat_shiftLeft, UInt32.toNat_shiftLeft, UInt32.toNat_shiftLeft, e24, e16, e8, UInt8.toNat_toUInt32, UInt8.toNat_toUInt32, UInt8.toNat_toUInt32, UInt8.toNat_toUInt32]
 rw [Nat.shiftLeft_eq, Nat.shiftLeft_eq, Nat.shiftLeft_eq]
 rw [Nat.mod_eq_of_lt (by omega : p.toNat * 2 ^ 24 < 2 ^ 32), Nat.mod_eq_of_lt (by omega : q.toNat * 2 ^ 16 < 2 ^ 32), Nat.mod_eq_of_lt (by omega : u.toNat * 2 ^ 8 < 2 ^ 32)]
 rw [Nat.or_assoc, Nat.or_assoc]
 have e1 := Nat.two_pow_add_eq_or_of_lt (i := 8) (b := v.toNat) (by omega) u.toNat
 have e2 := Nat.two_pow_add_eq_or_of_lt (i := 16) (b := 2 ^ 8 * u.toNat + v.toNat) (by omega) q.toNat
 have e3 := Nat.two_pow_add_eq_or_of_lt (i := 24) (b := 2 ^ 16 * q.toNat + (2 ^ 8 * u.toNat + v.toNat)) (by omega) p.toNat
 rw [Nat.mul_comm u.toNat, Nat.mul_comm q.toNat, Nat.mul_comm p.toNat, ← e1, ← e2, ← e3]
 omega
def revT (l : List UInt32) : List Nat := (l.map UInt32.toNat).reverse
theorem revT_snoc (l : List UInt32) (x : UInt32) : revT (l ++ [x]) = x.toNat :: revT l := by simp [revT]
theorem revT_getD (l : List UInt32) (j : Nat) (h : j < l.length) : (revT l).getD j 0 = (l.getD (l.length - 1 - j) 0).toNat := by
 have h1 : l.length - 1 - j < l.length := by omega
 simp [revT, h, h1, List.getElem?_reverse]
theorem wordsN_eq (b : Bs) (hb : b.length = 64) : ∀ (k j : Nat), k + j = 16 → wordsN (b.drop (4 * j)) k (revT (spreadL b j)) = revT (spreadL b 16) := by
 intro k
 induction k with
 | zero =>
   intro j h
   obtain rfl : j = 16 := by omega
   rw [wordsN]
 | succ k ih =>
   intro j h
   have hl : 4 * j + 4 ≤ b.length := by omega
   have hd : b.drop (4 * j) = b.getD (4 * j) 0 :: b.getD (4 * j + 1) 0 :: b.getD (4 * j + 2) 0 :: b.getD (4 * j + 3) 0 :: b.drop (4 * (j + 1)) := by
    have g : ∀ i, i < b.length → b.drop i = b.getD i 0 :: b.drop (i + 1) := fun i hi => by
     rw [List.drop_eq_getElem_cons hi]
     simp [hi]
    rw [g (4 * j) (by omega), g (4 * j + 1) (by omega), g (4 * j + 1 + 1) (by omega), g (4 * j + 1 + 1 + 1) (by omega), show 4 * (j + 1) = 4 * j + 1 + 1 + 1 + 1 by omega]
   rw [hd, wordsN, frc_eq]
   have := ih (j + 1) (by omega)
   rw [← this, spreadL, revT_snoc, if_pos (by omega : j < 16), blkW_nat]
   rfl
theorem moreN_eq (b : Bs) : ∀ (k j : Nat), 16 ≤ j → moreN k (revT (spreadL b j)) = revT (spreadL b (j + k)) := by
 intro k
 induction k with
 | zero => intro j _; rfl
 | succ k ih =>
   intro j hj
   have hl := spreadL_len b j
   rw [moreN, frc_eq, revT_getD _ _ (by omega), revT_getD _ _ (by omega), revT_getD _ _ (by omega), revT_getD _ _ (by omega), hl, xorN_eq, xorN_eq, xorN_eq, rotN_eq _ (by decide) (by decide)]
   rw [show j + (k + 1) = j + 1 + k by omega, ← ih (j + 1) (by omega), spreadL, revT_snoc, if_neg (by omega : ¬ j < 16), nextW]
   rw [show j - 1 - 2 = j - 3 by omega, show j - 1 - 7 = j - 8 by omega, show j - 1 - 13 = j - 14 by omega, show j - 1 - 15 = j - 16 by omega]
/-! The rounds. -/
def mixN (p b c d : Nat) : Nat :=
 match p with
 | 0 => Nat.add (Nat.lor (Nat.land b c) (Nat.land (notN b) d)) 0x5a827999
 | 1 => Nat.add (Nat.xor (Nat.xor b c) d) 0x6ed9eba1
 | 2 => Nat.add (Nat.lor (Nat.lor (Nat.land b c) (Nat.land b d)) (Nat.land c d)) 0x8f1bbcdc
 | _ => Nat.add (Nat.xor (Nat.xor b c) d) 0xca62c1d6
def goN {α : Type} : List Nat → Nat → Nat → Nat → Nat → Nat → Nat → (Nat → Nat → Nat → Nat → Nat → α) → α
 | [], _, a, b, c, d, e, k => k a b c d e
 | w :: ws, i, a, b, c, d, e, k => frc (Nat.mod (Nat.add (Nat.add (Nat.add (rotN a 5) (mixN (Nat.div i 20) b c d)) e) w) 4294967296) fun t => frc (rotN b 30) fun b' => frc (Nat.succ i) fun i' => goN ws i' t a b' c d k
theorem round_nat (w : List UInt32) (i : Nat) (s : W5) : (roundW w i s).a.toNat = Nat.mod (Nat.add (Nat.add (Nat.add (rotN s.a.toNat 5) (mixN (Nat.div i 20) s.b.toNat s.c.toNat s.d.toNat)) s.e.toNat) (w.getD i 0).toNat) 4294967296 := by
 have key : ∀ f k : UInt32, ∀ m : Nat, m = f.toNat + k.toNat → (rotl s.a 5 + f + s.e + k + w.getD i 0).toNat = Nat.mod (Nat.add (Nat.add (Nat.add (rotN s.a.toNat 5) m) s.e.toNat) (w.getD i 0).toNat) 4294967296 := by
  intro f k m hm
  rw [rotN_eq _ (by decide) (by decide), hm]
  simp only [UInt32.toNat_add]
  show _ = ((rotl s.a 5).toNat + (f.toNat + k.toNat) + s.e.toNat + (w.getD i 0).toNat) % 4294967296
  omega
 show (rotl s.a 5 + (mixW i s.b s.c s.d).1 + s.e + (mixW i s.b s.c s.d).2 + w.getD i 0).toNat = _
 refine key _ _ _ ?_
 have hd : Nat.div i 20 = i / 20 := rfl
 rw [hd]
 unfold mixW
 rcases e : i / 20 with _ | _ | _ | n
 · rw [if_pos rfl]
   show Nat.add (Nat.lor (Nat.land s.b.toNat s.c.toNat) (Nat.land (notN s.b.toNat) s.d.toNat)) 0x5a827999 = _
   rw [notN_eq, andN_eq, andN_eq, orN_eq]; rfl
 · rw [if_neg (by decide), if_pos rfl]
   show Nat.add (Nat.xor (Nat.xor s.b.toNat s.c.toNat) s.d.toNat) 0x6ed9eba1 = _
   rw [xorN_eq, xorN_eq]; rfl
 · rw [if_neg (by decide), if_neg (by decide), if_pos rfl]
   show Nat.add (Nat.lor (Nat.lor (Nat.land s.b.toNat s.c.toNat) (Nat.land s.b.toNat s.d.toNat)) (Nat.land s.c.toNat s.d.toNat)) 0x8f1bbcdc = _
   rw [andN_eq, andN_eq, andN_eq, orN_eq, orN_eq]; rfl
 · rw [if_neg (by omega), if_neg (by omega), if_neg (by omega)]
   show Nat.add (Nat.xor (Nat.xor s.b.toNat s.c.toNat) s.d.toNat) 0xca62c1d6 = _
   rw [xorN_eq, xorN_eq]; rfl
theorem goN_eq {α : Type} (w : List UInt32) (h : W5) (k : Nat → Nat → Nat → Nat → Nat → α) : ∀ (m i : Nat), m + i = w.length → goN ((w.drop i).map UInt32.toNat) i (roundsW w h i).a.toNat (roundsW w h i).b.toNat (roundsW w h i).c.toNat (roundsW w h i).d.toNat (roundsW w h i).e.toNat k =
    k (roundsW w h w.length).a.toNat (roundsW w h w.length).b.toNat (roundsW w h w.length).c.toNat (roundsW w h w.length).d.toNat (roundsW w h w.length).e.toNat := by
 intro m
 induction m with
 | zero => intro i e; rw [show i = w.length by omega, List.drop_length]; rfl
 | succ m ih =>
   intro i e
   have hi : i < w.length := by omega
   rw [List.drop_eq_getElem_cons hi, List.map_cons, goN, frc_eq, frc_eq, frc_eq, ← ih (i + 1) (by omega)]
   have h1 := round_nat w i (roundsW w h i)
   rw [show (w.getD i 0) = w[i] by simp [hi]] at h1
   rw [← h1, rotN_eq _ (by decide) (by decide)]
   rfl
/-! A block; a content. -/
def takeN {α : Type} (b : Bs) (a0 b0 c0 d0 e0 : Nat) (k : Nat → Nat → Nat → Nat → Nat → α) : α :=
 goN (moreN 64 (wordsN b 16 [])).reverse 0 a0 b0 c0 d0 e0 fun a b c d e => frc (addN a0 a) fun a => frc (addN b0 b) fun b => frc (addN c0 c) fun c => frc (addN d0 d) fun d => frc (addN e0 e) fun e => k a b c d e
theorem takeN_eq {α : Type} (b : Bs) (hb : b.length = 64) (h : W5) (k : Nat → Nat → Nat → Nat → Nat → α) : takeN b h.a.toNat h.b.toNat h.c.toNat h.d.toNat h.e.toNat k = k (takeW h b).a.toNat (takeW h b).b.toNat (takeW h b).c.toNat (takeW h b).d.toNat (takeW h b).e.toNat := by
 have h1 : wordsN b 16 [] = revT (spreadL b 16) := wordsN_eq b hb 16 0 rfl
 have h2 := moreN_eq b 64 16 (Nat.le_refl _)
 have h3 : (revT (spreadL b 80)).reverse = (spreadL b 80).map UInt32.toNat := by simp [revT]
 have h4 := goN_eq (α := α) (spreadL b 80) h (fun x y z u v => frc (addN h.a.toNat x) fun x => frc (addN h.b.toNat y) fun y => frc (addN h.c.toNat z) fun z => frc (addN h.d.toNat u) fun u => frc (addN h.e.toNat v) fun v => k x y z u v) 80 0 (by rw [spreadL_len])
 rw [List.drop_zero, spreadL_len] at h4
 rw [takeN, h1, h2, h3]
 refine h4.trans ?_
 simp only [frc_eq, addN_eq]
 rfl
def blksN {α : Type} : Nat → Bs → Nat → Nat → Nat → Nat → Nat → (Nat → Nat → Nat → Nat → Nat → α) → α
 | 0, _, a, b, c, d, e, k => k a b c d e
 | n + 1, p, a, b, c, d, e, k => takeN (p.take 64) a b c d e fun a b c d e => blksN n (p.drop 64) a b c d e k
theorem blksN_eq {α : Type} (p : Bs) (h : W5) (k : Nat → Nat → Nat → Nat → Nat → α) (N : Nat) (hp : p.length = 64 * N) : ∀ (m i : Nat), m + i = N → blksN m (p.drop (64 * i)) (sumsW p h i).a.toNat (sumsW p h i).b.toNat (sumsW p h i).c.toNat (sumsW p h i).d.toNat (sumsW p h i).e.toNat k =
    k (sumsW p h N).a.toNat (sumsW p h N).b.toNat (sumsW p h N).c.toNat (sumsW p h N).d.toNat (sumsW p h N).e.toNat := by
 intro m
 induction m with
 | zero => intro i e; rw [show i = N by omega]; rfl
 | succ m ih =>
   intro i e
   rw [blksN, takeN_eq _ (by rw [List.length_take, List.length_drop]; omega), List.drop_drop, show 64 * i + 64 = 64 * (i + 1) by omega]
   exact ih (i + 1) (by omega)
/-- A content's five words. -/
def sumN {α : Type} (s : Bs) (k : Nat → Nat → Nat → Nat → Nat → α) : α := frc (blocksN s) fun n => blksN n (padB s) 0x67452301 0xefcdab89 0x98badcfe 0x10325476 0xc3d2e1f0 k
theorem sumN_eq {α : Type} (s : Bs) (k : Nat → Nat → Nat → Nat → Nat → α) : sumN s k = k (sumsW (padB s) h0W (blocksN s)).a.toNat (sumsW (padB s) h0W (blocksN s)).b.toNat (sumsW (padB s) h0W (blocksN s)).c.toNat (sumsW (padB s) h0W (blocksN s)).d.toNat (sumsW (padB s) h0W (blocksN s)).e.toNat := by
 rw [sumN, frc_eq]
 exact blksN_eq (padB s) h0W k (blocksN s) (padB_len s) (blocksN s) 0 rfl
def hexN (x : Nat) : Bs := (List.range 8).map fun j => hexD.getD (Nat.land (Nat.shiftRight x (28 - 4 * j)) 15) 0
theorem hexN_eq (x : UInt32) : hexN x.toNat = hexW x := by
 unfold hexN hexW
 refine List.map_congr_left fun j hj => ?_
 have hj8 := List.mem_range.1 hj
 have h1 : (UInt32.ofNat (28 - 4 * j)).toNat % 32 = 28 - 4 * j := by rw [UInt32.toNat_ofNat']; omega
 rw [UInt32.toNat_and, UInt32.toNat_shiftRight, h1]; rfl
def shaN (s : Bs) : Bs := sumN s fun a b c d e => hexN a ++ (hexN b ++ (hexN c ++ (hexN d ++ hexN e)))
theorem shaN_eq (s : Bs) : shaN s = shaB s := by
 rw [shaN, sumN_eq]
 simp only [hexN_eq, shaB, W5.list, List.flatMap_cons, List.flatMap_nil, List.append_nil]
section
def me : Bs := [109, 101]
def ckMe (ps : List Bs) (ts : List Tg) (u : Bs) (d : Int) : Ck := ⟨[], [], d, [], ps, ts, u⟩
theorem right_me {ps : List Bs} {ts : List Tg} {u : Bs} {d : Int} (hp : ∀ p ∈ ps, isN p = true) (hn : ps.Nodup) (hl : ps.length ≤ 3) (ht : RightT true ts) (hu : wordP u) (hd : 0 ≤ d ∧ d ≤ 1073741824) : RightK (ckMe ps ts u d) := by
 refine ⟨.inl rfl, Nat.zero_le _, hd, ⟨fun i hi => absurd hi (Nat.not_lt_zero _), Nat.zero_le _⟩, ⟨fun i hi => ?_, by show (ps.length : Int) ≤ 3; omega⟩, ht, hu⟩
 have hi : i < ps.length := hi
 have hg : ps.getD i [] = ps[i] := by simp [hi]
 show isN (ps.getD i []) = true ∧ ps.getD i [] ∉ ps.take i
 rw [hg]
 refine ⟨hp _ (List.getElem_mem hi), fun hm => ?_⟩
 obtain ⟨j, hj, e⟩ := List.getElem_of_mem hm
 rw [List.length_take] at hj
 rw [List.getElem_take] at e
 have := nodup_inj hn (by omega) hi e
 omega
theorem right_z {c : Ck} (h : RightK c) : CkZ c := by
 have e := (prgCk_some (prgCk_cards h)).2.2.2.2.2.2
 have := ckZ_prg (ck_small h) (by decide)
 rwa [← e] at this
theorem right_read {c : Ck} (h : RightK c) : readK (ckB c) = some c := readK_iff.2 ⟨h, rfl⟩
theorem ckB_len {c : Ck} (h : RightK c) : (ckB c).length ≤ 10043 := by
 have := ck_small h
 rw [ckB, printB, sealB_len]; omega
theorem ctB_len {c : Ct} (h : RightCt c) : (ctB c).length ≤ 10043 := by
 have := ct_small h
 rw [ctB, printB, sealB_len]; omega
theorem ct_read {c : Ct} (h : RightCt c) : readCt (ctB c) = some c ∧ readK (ctB c) = none := by
 have : readCt (ctB c) = some c := readCt_iff.2 ⟨h, rfl⟩
 exact ⟨this, only_ct this⟩
theorem right_one {k : UInt8} {nm tgt v : Bs} (hk : k.toNat = 43 ∨ k.toNat = 42 ∨ (k.toNat = 45 ∧ v = [])) (hn : wordP nm) (hv : v.length ≤ 12) (ht : isN tgt = true) : RightT false [⟨k, nm, tgt, v⟩] :=
 ⟨fun i hi => by
  have : i = 0 := by simp at hi; omega
  subst this
  exact ⟨hk, hn, hv, ⟨(fun h => by cases h), fun _ => ht⟩, fun h => by omega⟩, by simp⟩
theorem opsB_ck {c : Ck} (h : RightK c) (n : Bs) : opsB n (ckB c) = (c.tags.map fun t => { t with target := n }, c.date) := by rw [opsB, right_read h]
theorem opsB_ct {c : Ct} (h : RightCt c) (n : Bs) : opsB n (ctB c) = (c.tags, c.date) := by
 obtain ⟨h1, h2⟩ := ct_read h
 rw [opsB, h2, h1]; rfl
/-! What is held. -/
structure HeldP (K : Ks) (L : List (Bs × Bs)) : Prop where
 perm : K.Perm (L.map fun p => (p.1, vS p.2))
 nd : (L.map (·.1)).Nodup
 tx : ∀ p ∈ L, p.2.length ≤ 1073741824
namespace HeldP
variable {K : Ks} {L : List (Bs × Bs)} (h : HeldP K L)
include h
theorem keys : (K.map (·.1)).Perm (L.map (·.1)) := by
 have := h.perm.map (·.1)
 rwa [List.map_map] at this
theorem knd : (K.map (·.1)).Nodup := h.keys.nodup_iff.2 h.nd
theorem txt : TxtK K := fun p hp => by
 obtain ⟨q, hq, e⟩ := List.mem_map.1 (h.perm.mem_iff.1 hp)
 rw [← e]
 exact ⟨q.2, rfl, h.tx q hq⟩
theorem len : K.length = L.length := by have := h.perm.length_eq; rwa [List.length_map] at this
theorem get {p : Bs × Bs} (hp : p ∈ L) : getB K p.1 = p.2 := by
 have hm : (p.1, vS p.2) ∈ K := h.perm.mem_iff.2 (List.mem_map_of_mem (f := fun p : Bs × Bs => (p.1, vS p.2)) hp)
 unfold getB
 rw [mlook_of_mem h.knd hm]
 simp [bytesV, vS]
theorem mem {n : Bs} : n ∈ keysS K ↔ n ∈ L.map (·.1) := by rw [keysS_mem]; exact h.keys.mem_iff
theorem sd {s : Sd} : s ∈ sdL K ↔ ∃ p ∈ L, ∃ t ∈ (opsB p.1 p.2).1, s = ⟨t, (opsB p.1 p.2).2, p.1⟩ := by
 unfold sdL sdF
 rw [List.mem_flatMap]
 constructor
 · rintro ⟨n, hn, hs⟩
   obtain ⟨p, hp, rfl⟩ := List.mem_map.1 (h.mem.1 hn)
   obtain ⟨t, ht, e⟩ := List.mem_map.1 hs
   rw [h.get hp] at ht e
   exact ⟨p, hp, t, ht, e.symm⟩
 · rintro ⟨p, hp, t, ht, e⟩
   refine ⟨p.1, h.mem.2 (List.mem_map_of_mem (f := fun p : Bs × Bs => p.1) hp), ?_⟩
   refine List.mem_map.2 ⟨t, ?_, ?_⟩
   · rw [h.get hp]; exact ht
   · rw [h.get hp]; exact e.symm
theorem cks {x : Bs × Ck} : x ∈ cksL K ↔ ∃ p ∈ L, p.1 = x.1 ∧ readK p.2 = some x.2 := by
 unfold cksL
 rw [cks_mem]
 constructor
 · rintro ⟨h1, h2⟩
   obtain ⟨p, hp, e⟩ := List.mem_map.1 (h.mem.1 h1)
   rw [← e, h.get hp] at h2
   exact ⟨p, hp, e, h2⟩
 · rintro ⟨p, hp, e, h2⟩
   rw [← e]
   exact ⟨h.mem.2 (List.mem_map_of_mem (f := fun p : Bs × Bs => p.1) hp), by rw [h.get hp]; exact h2⟩
theorem cnd : ((cksL K).map (·.1)).Nodup := ((sortB_perm _).nodup_iff.2 h.knd).sublist (cksF_sub K _)
theorem ck {n : Bs} {s : Bs} {c : Ck} (hp : (n, s) ∈ L) (hr : readK s = some c) : clook (cksL K) n = some c := by
 have hm : (n, c) ∈ cksL K := h.cks.2 ⟨(n, s), hp, rfl, hr⟩
 have hn := h.cnd
 generalize cksL K = C at hm hn
 induction C with
 | nil => cases hm
 | cons a r ih =>
   simp only [List.map_cons, List.nodup_cons] at hn
   rw [clook]
   rcases List.mem_cons.1 hm with e | e
   · subst e; rw [if_pos rfl]
   · rw [if_neg (fun e2 => hn.1 (by rw [e2]; exact List.mem_map_of_mem (f := fun p : Bs × Ck => p.1) e))]
     exact ih e hn.2
theorem nock {n : Bs} (hp : ∀ p ∈ L, p.1 = n → readK p.2 = none) : clook (cksL K) n = none := by
 have hm : ∀ x ∈ cksL K, x.1 ≠ n := fun x hx e => by
  obtain ⟨p, h1, h2, h3⟩ := h.cks.1 hx
  rw [hp p h1 (h2.trans e)] at h3
  cases h3
 generalize cksL K = C at hm
 induction C with
 | nil => rfl
 | cons a r ih =>
   rw [clook, if_neg (hm a (by simp))]
   exact ih fun x hx => hm x (by simp [hx])
theorem put {n s : Bs} (hn : n ∉ L.map (·.1)) (hs : s.length ≤ 1073741824) : HeldP (mput K n (vS s)) (L ++ [(n, s)]) := by
 have hk : n ∉ K.map (·.1) := fun hm => hn (h.keys.mem_iff.1 hm)
 have hp : ∀ (ks : Ks), n ∉ ks.map (·.1) → mput ks n (vS s) = ks ++ [(n, vS s)] := by
  intro ks
  induction ks with
  | nil => intro _; rfl
  | cons p r ih =>
    intro hn
    simp only [List.map_cons, List.mem_cons, not_or] at hn
    rw [mput, if_neg (fun e => hn.1 e.symm), ih hn.2]; rfl
 refine ⟨?_, ?_, fun p hp => ?_⟩
 · rw [hp K hk, List.map_append]
   exact h.perm.append_right _
 · rw [List.map_append, List.nodup_append]
   exact ⟨h.nd, by simp, fun a ha b hb e => hn (by simp at hb; rw [← hb, ← e]; exact ha)⟩
 · rcases List.mem_append.1 hp with hp | hp
   · exact h.tx p hp
   · rw [List.mem_singleton.1 hp]; exact hs
end HeldP
theorem ofT_at {C : List (Bs × Ck)} {l : Ls} {tag name : Bs} {k : Nat} (hk : 0 < C.length) : ofT C l tag name = wayF C l tag name ((C.length - 1) + 1) name := by
 rw [ofT, show C.length - 1 + 1 = C.length by omega]
end
theorem me_word : wordP me := by decide
theorem right_t0 : RightT true [] := ⟨fun i hi => absurd hi (Nat.not_lt_zero _), by decide⟩
/-! The runs. -/
end Go.Proofs.YtdnoacgopfcpbaaGreat
