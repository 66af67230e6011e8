/- Texts of this proof, put together: SBlob3, SBlob4, LawBlobRuns. -/
import Derived.Test.YtibccdcemcgkeaaGreatQ13
import Derived.Test.YtibccdcemcgkeaaGreatQ14
set_option linter.unusedVariables false
set_option linter.unusedSimpArgs false
namespace Go.Proofs.YtibccdcemcgkeaaGreat
section
set_option maxRecDepth 100000
theorem zb37ret4 {G : Prop} (h : G := by
    unfold rowF
    try dsimp only
    try rw [if_pos (by first | (left; omega) | (right; left; omega) | (right; right; assumption))]
    exact fin_ret () (vs := [_]) (Cs := [Ce b8 77 [vS (98 :: name), vS (102 :: content), .bool false]]) rfl (.cell (l := [vS (98 :: name), vS (102 :: content), .bool false]) (us := [vS (98 :: name), vS (102 :: content), .bool false]) rfl (shows_ce (T := 77)) Tryz.underlying77 rfl ti77 (by exact Nat.le_of_ble_eq_true rfl) rfl .nil) rfl trivial ent_pick) : G := h
theorem zb37ret7 {G : Prop} (h : G := by
    rw [if_pos (by first | exact .inl h49 | exact .inr (by omega))]
    exact fin_ret () (vs := [_]) (Cs := [Ce b8 77 [vS (98 :: name), vS (102 :: content), .bool false]]) rfl (.cell (l := [vS (98 :: name), vS (102 :: content), .bool false]) (us := [vS (98 :: name), vS (102 :: content), .bool false]) rfl (shows_ce (T := 77)) Tryz.underlying77 rfl ti77 (by exact Nat.le_of_ble_eq_true rfl) rfl .nil) rfl trivial ent_pick) : G := h
set_option maxHeartbeats 2000000 in
theorem blob_Row_sp (s p : Nat) (J : Jn) (K : Ks) (hK : TxtK K) (name content base : Bs) (hn : name.length ≤ 1073741824) (hc : content.length ≤ 1073741824) (hb : base.length ≤ 1073741824) :
    Sp1 Tryz.prog 37 [.pointer (some ⟨s, 0, none⟩), vS name, vS content, vS base] [IsS s p J K] (.agg (rowC (rowB K name content base)).toArray) [IsS s p J K] := by
 obtain ⟨y, hy⟩ : ∃ y, y = ctnB K base := ⟨_, rfl⟩
 have hC := blob_Content_sp s p J K hK base (by omega)
 have hD := blob_Depth_sp s p J K hK base (by omega)
 have hS := blob_stands_sp s p J K hK base name (by omega)
 have hyl : ∀ t, y = some t → t.length ≤ 1073741824 := fun t e => ctnR_len hK (k := 3) (n := base) (by rw [← e, hy]; rfl)
 rw [← hy] at hC
 unfold rowB
 rw [← hy]
 generalize depB K base = dd at hD ⊢
 generalize staB K base name = st at hS ⊢
 refine Sp.body (n := 66) Tryz.call37 Tryz.func37 rfl rfl rfl ?_
 refine Qc (k:=Zc [vS [], vS [], .bool false] (k:=fun b8 => Wq (Qc (k:=Vv (k:=?_)))))
 refine wo_pv (pv_cat rfl rfl (by simp only [List.length_singleton]; omega)) rfl ?_
 rw [List.singleton_append]
 refine Vv (k:=?_)
 refine wo_pv (pv_cat rfl rfl (by simp only [List.length_singleton]; omega)) rfl ?_
 rw [List.singleton_append]
 refine Vx (Ps [_, _, .bool false]) (k:=Zc [vS [], vS [], .bool false] (k:=fun b9 => Zp (k:=Wq (Qc (k:=Qv (k:=?_))))))
 refine r_call1 hC rfl rfl rfl ?_
 refine Vv (k:=?_)
 refine wo_pv (pv_extract (v := vS (y.getD [])) rfl rfl) rfl ?_
 refine wo_pv (pv_extract (v := vB y.isSome) rfl rfl) rfl ?_
 refine Qv (k:=Wq (Za (k:=Qc (k:=Qv (k:=Vv (k:=Gi 2 (t:=fun h26 => ?_) (f:=fun h26 => ?_)))))))
 ·
  obtain rfl : y = none := by cases y with | none => rfl | some z => simp at h26
  refine O1 (k:=O1 (k:=O1 (k:=P1 (k:=Vv (k:=O1 (k:=O1 (k:=O1 (k:=O1 (k:=P1 (k:=Vv (k:=O1 (k:=?_))))))))))))
  refine O1 (k:=O1 (k:=O1 (k:=P1 (k:=Wq (Z1 (k:=Qc (k:=Zm [_, _, _] (k:=Zp (k:=Wq (Zt (k:=?_)))))))))))
  refine Va ?_
  exact zb37ret4
 ·
  obtain ⟨src, rfl⟩ : ∃ z, y = some z := by cases y with | none => simp at h26 | some z => exact ⟨z, rfl⟩
  have hsl := hyl src rfl
  dsimp only [Option.getD_some]
  refine J0 (k:=J0 (k:=J0 (k:=P0 (k:=Vv (k:=Gi 7 (t:=fun h31 => ?_) (f:=fun h31 => ?_))))))
  ·
   refine O1 (k:=O1 (k:=O1 (k:=O1 (k:=P1 (k:=Vv (k:=O1 (k:=O1 (k:=O1 (k:=O1 (k:=P1 (k:=Wq ?_)))))))))))
   refine Z1 (k:=Qc (k:=Zm [_, _, _] (k:=Zp (k:=Wq (Zt (k:=Va ?_))))))
   exact zb37ret4
  ·
   refine J0 (k:=J0 (k:=I0 (k:=?_)))
   refine r_call1 hD rfl rfl rfl ?_
   refine J0 (k:=P0 (k:=Vv (k:=Gi 13 (t:=fun h37 => ?_) (f:=fun h37 => ?_))))
   ·
    refine O1 (k:=O1 (k:=O1 (k:=O1 (k:=P1 (k:=Wq (Z1 (k:=Qc (k:=Zm [_, _, _] (k:=Zp (k:=Wq ?_))))))))))
    refine Zt (k:=Va ?_)
    exact zb37ret4
   ·
    refine J0 (k:=J0 (k:=J0 (k:=I0 (k:=?_))))
    refine r_call1 hS rfl rfl rfl ?_
    refine P0 (k:=Wq (Zi (t:=fun h42 => ?_) (f:=fun h42 => ?_)))
    ·
     refine Qc (k:=Zm [_, _, _] (k:=Zp (k:=Wq (Zt (k:=Va ?_)))))
     exact zb37ret4
    ·
     have hnot : ¬ (base.length ≠ 40 ∨ 3 ≤ dd ∨ st = true) := by
      rintro (h | h | h)
      · omega
      · omega
      · first
        | (rw [h] at h42; cases h42)
        | (exact absurd h (by assumption))
        | simp_all
     unfold rowF
     dsimp only
     rw [if_neg hnot]
     have hbl : base.length = 40 := by omega
     refine Zk (k:=Ya (Qc (k:=Qv (k:=?_))))
     refine r_callF (delta_Make_sp src content hsl hc) rfl rfl rfl ?_
     obtain ⟨m, hm⟩ : ∃ m, m = makeB src content := ⟨_, rfl⟩
     rw [← hm]
     refine Vv (k:=Wq (Za (k:=Qc (k:=Qv (k:=Vv (k:=Gi 2 (t:=fun h49 => ?_) (f:=fun h49 => ?_)))))))
     ·
      refine O1 (k:=O1 (k:=O1 (k:=O1 (k:=O1 (k:=O1 (k:=O1 (k:=P1 (k:=Wq (Z1 (k:=Qc (k:=?_)))))))))))
      refine Zm [_, _, _] (k:=Zp (k:=Wq (Zt (k:=Va ?_))))
      exact zb37ret7
     ·
      refine J0 (k:=J0 (k:=J0 (k:=J0 (k:=J0 (k:=J0 (k:=?_))))))
      refine J0 (k:=P0 (k:=Wq (Zi (t:=fun h57 => ?_) (f:=fun h57 => ?_))))
      ·
       refine Qc (k:=Zm [_, _, _] (k:=Zp (k:=Wq (Zt (k:=Va ?_)))))
       exact zb37ret7
      ·
       refine Zk (k:=Ya (Za (k:=?_)))
       have hml : (m.length : Int) < (content.length : Int) - 1 - 40 := by omega
       rw [if_neg (by rintro (h | h); exact absurd h (by assumption); omega)]
       refine Zr (k:=Vv (k:=?_))
       refine wo_pv (pv_cat rfl rfl (by simp only [List.length_singleton]; omega)) rfl ?_
       rw [List.singleton_append]
       refine Vv (k:=?_)
       refine wo_pv (pv_cat rfl rfl (by simp only [List.length_singleton]; omega)) rfl ?_
       rw [List.singleton_append]
       refine Vv (k:=?_)
       refine wo_pv (pv_cat rfl rfl (by simp only [List.length_cons]; omega)) rfl ?_
       rw [List.cons_append]
       refine Vx (Ps [_, _, .bool false]) (k:=Zp (k:=Wq (Zt (k:=?_))))
       exact fin_ret () (vs := [_]) (Cs := [Ce b8 77 [vS (98 :: name), vS (100 :: (base ++ m)), .bool false]]) rfl (.cell (l := [vS (98 :: name), vS (100 :: (base ++ m)), .bool false]) (us := [vS (98 :: name), vS (100 :: (base ++ m)), .bool false]) rfl (shows_ce (T := 77)) Tryz.underlying77 rfl ti77 (by exact Nat.le_of_ble_eq_true rfl) rfl .nil) rfl trivial ent_pick
theorem blob_Names_sp (s : Nat) : Sp Tryz.prog 44 [.pointer (some ⟨s, 0, none⟩)] [] (X := Nat) (fun b => .func (.func 99) #[] #[.pointer (some ⟨b, 0, none⟩)]) (fun _ => True) (fun b => [Ce b 72 [.pointer (some ⟨s, 0, none⟩)]]) := by
 refine Sp.body (n := 4) Tryz.call44 Tryz.func44 rfl rfl rfl ?_
 refine Qc (k:=Zx [_] (k:=fun b1 => Vv (k:=Wq (Qc (k:=Qv (k:=Wq (Zt (k:=?_))))))))
 refine fin_ret b1 (vs := [_]) (Cs := []) rfl (.tmp rfl .nil) rfl trivial ?_
 exact ent_pick
theorem fromS_98 {K : Ks} {x : Bs × Value} (h : x ∈ fromS K [98]) : ∃ n, x.1 = 98 :: n := by
 have hp := (fromS_mem h).2.1
 cases hx : x.1 with
 | nil => rw [hx] at hp; simp [Lib.hasPrefix] at hp
 | cons c n =>
   rw [hx] at hp
   have : 98 = c := by simpa [Lib.hasPrefix] using hp
   exact ⟨n, by rw [← this]⟩
set_option maxHeartbeats 2000000 in
theorem blob_Names_itB (s p b : Nat) (J : Jn) (K : Ks) (hK : K.length ≤ 4398046511104) :
    IterB Tryz.prog 99 [.pointer (some ⟨b, 0, none⟩)] (fun w : Bs => [vS w]) (okL (nmsB K)) (stopL (nmsB K)) (IsS s p J K) [Ce b 72 [.pointer (some ⟨s, 0, none⟩)]] [Ce b 72 [.pointer (some ⟨s, 0, none⟩)]] (nmsB K) (fun _ => .tuple #[]) := by
 intro y Jy J0 Jx ys hj1 hj2
 obtain ⟨ly, rfl, hys⟩ := id ys
 refine Sp.body (n := 13) Tryz.call99 Tryz.func99 rfl rfl rfl ?_
 refine Qc (k:=Zx [_] (k:=fun b2 => Wq (Qc (k:=Zd (k:=?_)))))
 refine r_callX (store_From_sp s [98]) rfl rfl rfl (fun x5 _ => ?_)
 refine Wq (Zb (k:=?_))
 refine p_rangeFuncB (fun pre => [Jy (pre.map fun x => x.1.drop 1), Ce b2 112 [.func (.yield ly) #[] #[]], Ce b 72 [.pointer (some ⟨s, 0, none⟩)]]) (fun j pre => if j = none then [Jx (pre.map fun x => x.1.drop 1), Ce b 72 [.pointer (some ⟨s, 0, none⟩)]] else [Pu False]) (fun pre => [J0 (pre.map fun x => x.1.drop 1), Ce b2 112 [.func (.yield ly) #[] #[]], Ce b 72 [.pointer (some ⟨s, 0, none⟩)]]) rfl (store_From_itB x5.1 x5.2 s p J K [98] hK) rfl (fun _ => by rfl) rfl (fun pre => ?_) (fun pre => ?_) ?_ (fun l pre w hok => ?_) ?_ (fun j pre hs => ?_)
 · (refine ent_open2 (hj1 (pre.map fun x => x.1.drop 1)) ?_; exact ent_pick)
 · (refine ent_fold2 (hj2 (pre.map fun x => x.1.drop 1)) ?_; exact ent_pick)
 · (refine ent_app ?_; rw [List.map_nil]; exact ent_pick)
 ·
  obtain ⟨k, v⟩ := w
  obtain ⟨rr, hrr⟩ := hok
  obtain ⟨nm, hnm⟩ := fromS_98 (K := K) (x := (k, v)) (by rw [hrr]; simp)
  dsimp only at hnm
  subst hnm
  refine Zr (k:=Vv (k:=Wg (Zb (k:=Za (k:=Dw [Ce b2 112 [.func (.yield ly) #[] #[]]] (k:=?_))))))
  refine Di 0 (t:=Ul) (k:=Dv 1 (k:=?_))
  refine d_first 2 rfl rfl rfl (by kernel_rfl) (by kernel_rfl) (tl_pv (pv_slice_fromm (m := 1) Tryz.underlying9 rfl rfl rfl (by simp))) ?_
  refine Dn 3 (k:=?_)
  refine an_yield ys (pre.map fun x => x.1.drop 1) nm ⟨rr.map fun x => x.1.drop 1, by rw [nmsB, hrr]; simp⟩ rfl rfl rfl ?_ ?_
  ·
   refine Dv 4 (k:=Dd (k:=Ya (Z0 (k:=Zk (k:=Yb ?_)))))
   refine to_round ?_
   simp only [List.map_append, List.map_cons, List.map_nil, List.drop_succ_cons, List.drop_zero]
   exact ent_pick
  ·
   refine Dv 4 (k:=Dd (k:=Ya (Z1 (k:=Zt (k:=Vb ?_)))))
   refine to_round_ret ?_
   rw [if_pos rfl]
   simp only [List.map_append, List.map_cons, List.map_nil, List.drop_succ_cons, List.drop_zero]
   exact ent_pick
 ·
  skip
  refine Yb ?_
  refine fin_end none (vs := []) (Cs := []) rfl .nil rfl (fun pre e => by cases e) ?_
  simp only [endsAt]
  rw [show (fromS K [98]).map (fun x => x.1.drop 1) = nmsB K from rfl]
  exact ent_pick
 ·
  by_cases hj : j = none
  · subst hj
    rw [if_pos rfl]
    refine Zt (k:=Vb ?_)
    obtain ⟨h1, r, hr⟩ := hs
    refine fin_ret (some (pre.map fun x => x.1.drop 1)) (vs := []) (Cs := []) rfl .nil rfl (fun q e => by cases e; exact ⟨by simpa using h1, r.map fun x => x.1.drop 1, by rw [nmsB, hr, List.map_append]⟩) ?_
    simp only [endsAt]
    exact ent_pick
  · rw [if_neg hj]
    exact wc_no (fun s => by obtain ⟨_, _, _, _, a, _⟩ := s; exact a)
theorem nms_len2 (K : Ks) : (nmsB K).length ≤ K.length := by
 rw [nmsB, List.length_map, fromS, fromL, List.length_map]
 exact Nat.le_trans (List.length_filter_le _ _) (by rw [keysS_len]; exact Nat.le_refl _)
theorem nms_name {K : Ks} {n : Bs} (h : n ∈ nmsB K) : 98 :: n ∈ K.map (·.1) := by
 obtain ⟨x, hx, rfl⟩ := List.mem_map.1 h
 obtain ⟨m, hm⟩ := fromS_98 hx
 have := (fromS_mem hx).1
 rw [hm] at this ⊢
 exact this
/-- Names are not too long. -/
def NamK (K : Ks) : Prop := ∀ k ∈ K.map (·.1), k.length ≤ 1073741824
theorem zb41roundret {G : Prop} (h : G := by
    refine to_round_ret ?_
    rw [if_pos rfl]
    first
    | exact ent_pu hbad ent_pick
    | exact ent_pu (hno (fun t e => by cases e; assumption)) ent_pick) : G := h
theorem zb41ret {G : Prop} (h : G := by
    first
    | exact fin_ret () (vs := [_]) (Cs := [Ce b2 4 [vB false]]) rfl (.cell1 (l := [vB false]) rfl (shows_ce (T := 4)) Tryz.underlying4 rfl rfl .nil) rfl trivial ent_pick
    | exact fin_ret () (vs := [_]) (Cs := [Ce b2 4 [vB true]]) rfl (.cell1 (l := [vB true]) rfl (shows_ce (T := 4)) Tryz.underlying4 rfl rfl .nil) rfl trivial ent_pick) : G := h
set_option maxHeartbeats 2000000 in
theorem blob_Check_sp (s p : Nat) (J : Jn) (K : Ks) (hK : TxtK K) (hN : NamK K) (hl : K.length ≤ 4398046511104) : Sp1 Tryz.prog 41 [.pointer (some ⟨s, 0, none⟩)] [IsS s p J K] (vB (checkB K)) [IsS s p J K] := by
 refine Sp.body (n := 23) Tryz.call41 Tryz.func41 rfl rfl rfl ?_
 refine Qc (k:=Zx [_] (k:=fun b1 => Zc [.bool false] (k:=fun b2 => Wq (Za (k:=Qc (k:=Zd (k:=?_)))))))
 refine r_callX (blob_Names_sp s) rfl rfl rfl (fun x7 _ => ?_)
 refine Wq (Zb (k:=?_))
 refine p_rangeFuncB (fun pre => [Pu (∀ n ∈ pre, (ctnB K n).map shaB = some n), Ce b2 4 [vB false], Ce b1 72 [.pointer (some ⟨s, 0, none⟩)], IsS s p J K]) (fun j pre => if j = none then [Pu (checkB K = false), Ce b2 4 [vB false], IsS s p J K] else [Pu False]) (fun pre => [Pu (∀ n ∈ pre, (ctnB K n).map shaB = some n), Ce b2 4 [vB false], Ce b1 72 [.pointer (some ⟨s, 0, none⟩)]]) rfl (blob_Names_itB s p x7 J K hl) rfl (fun _ => by rfl) rfl (fun pre => ?_) (fun pre => ?_) ?_ (fun l pre n hok => ?_) ?_ (fun j pre hs => ?_)
 · exact ent_pick
 · exact ent_pick
 · (refine ent_app (ent_pu (fun n h => by cases h) ?_); exact ent_pick)
 ·
  obtain ⟨rr, hrr⟩ := hok
  refine wc_pu fun hall => ?_
  have hnm : n ∈ nmsB K := by rw [hrr]; simp
  have hnl := hN _ (nms_name hnm)
  rw [List.length_cons] at hnl
  obtain ⟨y, hy⟩ : ∃ y, y = ctnB K n := ⟨_, rfl⟩
  have hC := blob_Content_sp s p J K hK n (by omega)
  have hyl : ∀ t, y = some t → t.length ≤ 1073741824 := fun t e => ctnR_len hK (k := 3) (n := n) (by rw [← e, hy]; rfl)
  rw [← hy] at hC
  have hno : (∀ t, y = some t → shaB t ≠ n) → checkB K = false := fun h => by
   unfold checkB
   rw [List.all_eq_false]
   refine ⟨n, hnm, ?_⟩
   rw [← hy]
   cases y with
   | none => simp
   | some t => simpa using h t rfl
  refine Zr (k:=Vv (k:=Wg (Zb (k:=Qc (k:=Zd (k:=Vv (k:=?_)))))))
  refine r_call1 hC rfl rfl rfl ?_
  refine Vv (k:=?_)
  refine wo_pv (pv_extract (v := vS (y.getD [])) rfl rfl) rfl ?_
  refine wo_pv (pv_extract (v := vB y.isSome) rfl rfl) rfl ?_
  refine Qv (k:=Wq (Qc (k:=Qv (k:=Vv (k:=Gi 2 (t:=fun h17 => ?_) (f:=fun h17 => ?_))))))
  ·
   obtain rfl : y = none := by cases y with | none => rfl | some z => simp at h17
   have hbad := hno (fun t e => by cases e)
   refine O1 (k:=O1 (k:=O1 (k:=O1 (k:=P1 (k:=Wq (Z1 (k:=Qc (k:=Zo (k:=Wq (Zt (k:=?_)))))))))))
   refine Vb ?_
   exact zb41roundret
  ·
   obtain ⟨t, rfl⟩ : ∃ z, y = some z := by cases y with | none => simp at h17 | some z => exact ⟨z, rfl⟩
   have htl := hyl t rfl
   dsimp only [Option.getD_some]
   refine J0 (k:=I0 (k:=?_))
   refine r_callF (hash_Sum_sp t (by omega)) rfl rfl rfl ?_
   refine J0 (k:=J0 (k:=P0 (k:=Wq (Zi (t:=fun h22 => ?_) (f:=fun h22 => ?_)))))
   ·
    refine Qc (k:=Zo (k:=Wq (Zt (k:=Vb ?_))))
    exact zb41roundret
   ·
    refine Zk (k:=Yb ?_)
    refine to_round (ent_pu (fun m hm => ?_) ent_pick)
    rcases List.mem_append.1 hm with h | h
    · exact hall m h
    · rw [List.mem_singleton.1 h, ← hy]
      have h22 := h22
      first
      | (show some (shaB t) = some n
         congr 1
         simpa using h22)
      | simp_all
 ·
  refine tw_know (A := Pu (∀ n ∈ nmsB K, (ctnB K n).map shaB = some n)) .here (fun x => x) (fun hall => ?_)
  have hch : checkB K = true := by
   unfold checkB
   rw [List.all_eq_true]
   exact fun n hn => decide_eq_true (hall n hn)
  rw [hch]
  refine Yb (Ya (Qc (k:=Zo (k:=Wq (Zt (k:=?_))))))
  exact zb41ret
 ·
  by_cases hj : j = none
  · subst hj
    rw [if_pos rfl]
    simp only [List.cons_append, List.nil_append]
    refine wc_pu fun hbad => ?_
    rw [hbad]
    refine Zt (k:=Vb (Va ?_))
    exact zb41ret
  · rw [if_neg hj]
    exact wc_no (fun s => by obtain ⟨_, _, _, _, a, _⟩ := s; exact a)
end
section
set_option maxRecDepth 100000
def DropH (b : Nat) (l : List Rw) : HP := Ex fun ac : Option Addr × Nat => Al [Row 77 3 (.slice ac.1 l.length ac.2) l.length (l.flatMap rowC), Ce b 81 [.slice ac.1 l.length ac.2]]
set_option maxHeartbeats 2000000 in
theorem blob_Drop_sp (s p : Nat) (J : Jn) (K : Ks) (hK : TxtK K) (hN : NamK K) (hl : K.length ≤ 1073741824) (name : Bs) (hnm : name.length ≤ 1073741824) :
    Sp Tryz.prog 39 [.pointer (some ⟨s, 0, none⟩), vS name] [IsS s p J K] (X := Option Addr × Nat) (fun x => .slice x.1 (dropB K name).length x.2) (fun _ => True) (fun x => [Row 77 3 (.slice x.1 (dropB K name).length x.2) (dropB K name).length ((dropB K name).flatMap rowC), IsS s p J K]) := by
 have hG := store_Get_sp s p J K (98 :: name)
 rw [(hK.get (98 :: name)).1] at hG
 have hl2 := nms_len2 K
 unfold dropB
 generalize hms : (mlook K (98 :: name)).isSome = ms at hG ⊢
 refine Sp.body (n := 66) Tryz.call39 Tryz.func39 rfl rfl rfl ?_
 refine Qc (k:=Zx [_] (k:=fun b2 => Zx [_] (k:=fun b3 => Vv (k:=Wq (Za (k:=Qc (k:=Zd (k:=Zd (k:=?_)))))))))
 refine wo_pv (pv_cat rfl rfl (by simp only [List.length_singleton]; omega)) rfl ?_
 rw [List.singleton_append]
 refine r_call1 hG rfl rfl rfl ?_
 refine Vv (k:=?_)
 refine wo_pv (pv_extract (v := vS (getB K (98 :: name))) rfl rfl) rfl ?_
 refine wo_pv (pv_extract (v := vB ms) rfl rfl) rfl ?_
 refine Qv (k:=Wq (Qc (k:=Qv (k:=Wq (Zi (t:=fun h22 => ?_) (f:=fun h22 => ?_))))))
 ·
  refine Qc (k:=Vv (k:=Wq (Zt (k:=Va ?_))))
  rw [if_neg (by first | assumption | simp_all)]
  refine fin_ret (none, 0) (vs := [_]) (Cs := []) rfl (.tmp rfl .nil) rfl trivial ?_
  exact ent_step row_nil ent_pick
 ·
  refine Zk (k:=Ya (Qc (k:=Zc [.slice none 0 0] (k:=fun b7 => Wq (Za (k:=Qc (k:=Zd (k:=?_))))))))
  refine r_callX (blob_Names_sp s) rfl rfl rfl (fun x24 _ => ?_)
  refine Wq (Zb (k:=?_))
  refine p_rangeFuncB (fun pre => [DropH b7 (dropF K name pre), Ce b3 9 [vS name], Ce b2 72 [.pointer (some ⟨s, 0, none⟩)], IsS s p J K]) (fun j pre => [Pu False]) (fun pre => [DropH b7 (dropF K name pre), Ce b3 9 [vS name], Ce b2 72 [.pointer (some ⟨s, 0, none⟩)]]) rfl (blob_Names_itB s p x24 J K (by omega)) rfl (fun _ => by rfl) rfl (fun pre => ?_) (fun pre => ?_) ?_ (fun l pre n hok => ?_) ?_ (fun j pre hs => ?_)
  · exact ent_pick
  · exact ent_pick
  · (rw [show dropF K name [] = [] from rfl]; refine ent_app (ent_ex (none, 0) ?_); refine ent_al ?_; exact ent_step row_nil ent_pick)
  ·
   obtain ⟨rr, hrr⟩ := hok
   have hn := hN _ (nms_name (n := n) (by rw [hrr]; simp))
   rw [List.length_cons] at hn
   have hpl := dropF_len K name pre
   have hpl2 : pre.length < (nmsB K).length := by rw [hrr]; simp
   refine wc_front (DropH b7 (dropF K name pre)) ?_
   refine wc_exi fun ac => wc_al ?_
   obtain ⟨a, c⟩ := ac
   obtain ⟨x, hx⟩ : ∃ x, x = basedB K n := ⟨_, rfl⟩
   have hB := blob_based_sp s p J K hK n (by omega)
   rw [← hx] at hB
   obtain ⟨y, hy⟩ : ∃ y, y = ctnB K n := ⟨_, rfl⟩
   have hC := blob_Content_sp s p J K hK n (by omega)
   have hyl : ∀ t, y = some t → t.length ≤ 1073741824 := fun t e => ctnR_len hK (k := 3) (n := n) (by rw [← e, hy]; rfl)
   rw [← hy] at hC
   have hdo : dropF K name (pre ++ [n]) = dropF K name pre ++ dropG name n x y := by rw [dropF_snoc, dropO, hx, hy]
   generalize dropF K name pre = out at *
   refine Zr (k:=Vv (k:=Wg (Zb (k:=Za (k:=Qc (k:=Zd (k:=Vv (k:=?_))))))))
   refine r_call1 hB rfl rfl rfl ?_
   refine Vv (k:=?_)
   refine wo_pv (pv_extract (v := vS (x.getD ([], [])).1) rfl rfl) rfl ?_
   refine wo_pv (pv_extract (v := vS (x.getD ([], [])).2) rfl rfl) rfl ?_
   refine wo_pv (pv_extract (v := vB x.isSome) rfl rfl) rfl ?_
   refine Qv (k:=Vv (k:=Wq (Qc (k:=Qv (k:=Vv (k:=Gi 2 (t:=fun h35 => ?_) (f:=fun h35 => ?_)))))))
   ·
    refine O1 (k:=O1 (k:=O1 (k:=P1 (k:=Vv (k:=O1 (k:=O1 (k:=O1 (k:=P1 (k:=Wq (Z1 (k:=Ze (k:=?_))))))))))))
    refine Xa (Xb ?_)
    refine to_round ?_
    rw [hdo]
    first
    | (have e : dropG name n x y = [] := by clear hdo hB hC hyl hx hy; cases x <;> cases y <;> simp_all [dropG]
       rw [e, List.append_nil]
       refine ent_ex (a, c) ?_
       refine ent_al ?_
       exact ent_pick)
    | (have e : dropG name n x y = [⟨98 :: n, 102 :: y.getD [], false⟩] := by clear hdo hB hC hyl hx hy; cases x <;> cases y <;> simp_all [dropG]
       rw [e]
       refine ent_ex (a59, c59) ?_
       refine ent_al ?_
       simp only [List.length_append, List.length_cons, List.length_nil, Nat.zero_add, List.flatMap_append]
       exact ent_step (row_norm (by rfl) (by rfl)) ent_pick)
   ·
    refine J0 (k:=I0 (k:=Zd (k:=J0 (k:=P0 (k:=Vv (k:=Gi 7 (t:=fun h40 => ?_) (f:=fun h40 => ?_)))))))
    ·
     refine O1 (k:=O1 (k:=O1 (k:=P1 (k:=Wq (Z1 (k:=Ze (k:=Xa (Xb ?_))))))))
     refine to_round ?_
     rw [hdo]
     first
     | (have e : dropG name n x y = [] := by clear hdo hB hC hyl hx hy; cases x <;> cases y <;> simp_all [dropG]
        rw [e, List.append_nil]
        refine ent_ex (a, c) ?_
        refine ent_al ?_
        exact ent_pick)
     | (have e : dropG name n x y = [⟨98 :: n, 102 :: y.getD [], false⟩] := by clear hdo hB hC hyl hx hy; cases x <;> cases y <;> simp_all [dropG]
        rw [e]
        refine ent_ex (a59, c59) ?_
        refine ent_al ?_
        simp only [List.length_append, List.length_cons, List.length_nil, Nat.zero_add, List.flatMap_append]
        exact ent_step (row_norm (by rfl) (by rfl)) ent_pick)
    ·
     refine J0 (k:=I0 (k:=Zd (k:=J0 (k:=P0 (k:=Wq (Zi (t:=fun h44 => ?_) (f:=fun h44 => ?_)))))))
     ·
      refine Ze (k:=Xa (Xb ?_))
      refine to_round ?_
      rw [hdo]
      first
      | (have e : dropG name n x y = [] := by clear hdo hB hC hyl hx hy; cases x <;> cases y <;> simp_all [dropG]
         rw [e, List.append_nil]
         refine ent_ex (a, c) ?_
         refine ent_al ?_
         exact ent_pick)
      | (have e : dropG name n x y = [⟨98 :: n, 102 :: y.getD [], false⟩] := by clear hdo hB hC hyl hx hy; cases x <;> cases y <;> simp_all [dropG]
         rw [e]
         refine ent_ex (a59, c59) ?_
         refine ent_al ?_
         simp only [List.length_append, List.length_cons, List.length_nil, Nat.zero_add, List.flatMap_append]
         exact ent_step (row_norm (by rfl) (by rfl)) ent_pick)
     ·
      refine Zk (k:=Ya (Qc (k:=Zd (k:=Vv (k:=?_)))))
      refine r_call1 hC rfl rfl rfl ?_
      refine Vv (k:=?_)
      refine wo_pv (pv_extract (v := vS (y.getD [])) rfl rfl) rfl ?_
      refine wo_pv (pv_extract (v := vB y.isSome) rfl rfl) rfl ?_
      refine Qv (k:=Wq (Qc (k:=Vv (k:=Wq (Zi (t:=fun h51 => ?_) (f:=fun h51 => ?_))))))
      ·
       have hyl2 : (y.getD []).length ≤ 1073741824 := by cases y with | none => simp at h51 | some t => exact hyl t rfl
       refine Zr (k:=Zd (k:=Vv (k:=?_)))
       refine wo_pv (pv_cat rfl rfl (by simp only [List.length_singleton]; omega)) rfl ?_
       rw [List.singleton_append]
       refine Vv (k:=?_)
       refine wo_pv (pv_cat rfl rfl (by simp only [List.length_singleton]; omega)) rfl ?_
       rw [List.singleton_append]
       refine Vx (Ps [_, _, .bool false]) (k:=Zv [_] (cs := [_, _, _]) (k:=fun b58 => ?_))
       refine r_append1 (sz := 3) (bytes := 40) Tryz.underlying81 ti77 rfl rfl rfl rfl rfl rfl rfl (by rfl) (by rfl) (by omega) (by simp only [maxLen]; omega) rfl (fun a59 c59 => ?_)
       refine Zo (k:=Wn (Yb ?_))
       refine to_round ?_
       rw [hdo]
       first
       | (have e : dropG name n x y = [] := by clear hdo hB hC hyl hx hy; cases x <;> cases y <;> simp_all [dropG]
          rw [e, List.append_nil]
          refine ent_ex (a, c) ?_
          refine ent_al ?_
          exact ent_pick)
       | (have e : dropG name n x y = [⟨98 :: n, 102 :: y.getD [], false⟩] := by clear hdo hB hC hyl hx hy; cases x <;> cases y <;> simp_all [dropG]
          rw [e]
          refine ent_ex (a59, c59) ?_
          refine ent_al ?_
          simp only [List.length_append, List.length_cons, List.length_nil, Nat.zero_add, List.flatMap_append]
          exact ent_step (row_norm (by rfl) (by rfl)) ent_pick)
      ·
       refine Zk (k:=Yb ?_)
       refine to_round ?_
       rw [hdo]
       first
       | (have e : dropG name n x y = [] := by clear hdo hB hC hyl hx hy; cases x <;> cases y <;> simp_all [dropG]
          rw [e, List.append_nil]
          refine ent_ex (a, c) ?_
          refine ent_al ?_
          exact ent_pick)
       | (have e : dropG name n x y = [⟨98 :: n, 102 :: y.getD [], false⟩] := by clear hdo hB hC hyl hx hy; cases x <;> cases y <;> simp_all [dropG]
          rw [e]
          refine ent_ex (a59, c59) ?_
          refine ent_al ?_
          simp only [List.length_append, List.length_cons, List.length_nil, Nat.zero_add, List.flatMap_append]
          exact ent_step (row_norm (by rfl) (by rfl)) ent_pick)
  ·
   skip
   refine Yb (Ya (Za (k:=?_)))
   have hfl := dropF_len K name (nmsB K)
   refine wc_front (DropH b7 (dropF K name (nmsB K))) ?_
   refine wc_exi fun ac => wc_al ?_
   obtain ⟨a, c⟩ := ac
   generalize dropF K name (nmsB K) = out at *
   refine Zr (k:=Zd (k:=Zd (k:=?_)))
   refine wo_pv (pv_cat rfl rfl (by simp only [List.length_singleton]; omega)) rfl ?_
   rw [List.singleton_append]
   refine Vx (Ps [_, vS [], _]) (k:=Zv [_] (cs := [_, _, _]) (k:=fun b64 => ?_))
   refine r_append1 (sz := 3) (bytes := 40) Tryz.underlying81 ti77 rfl rfl rfl rfl rfl rfl rfl (by rfl) (by rfl) (by omega) (by simp only [maxLen]; omega) rfl (fun a65 c65 => ?_)
   refine Vv (k:=Wq (Zt (k:=?_)))
   rw [if_pos (by first | assumption | simp_all)]
   refine fin_ret (a65, c65) (vs := [_]) (Cs := []) rfl (.tmp rfl .nil) (by simp only [List.length_append, List.length_cons, List.length_nil, Nat.zero_add]; rfl) trivial ?_
   simp only [List.length_append, List.length_cons, List.length_nil, Nat.zero_add, List.flatMap_append]
   exact ent_step (row_norm (by rfl) (by rfl)) ent_pick
  ·
   exact wc_no (fun s => by obtain ⟨_, _, _, _, a, _⟩ := s; exact a)
end
section
set_option maxRecDepth 100000
set_option maxHeartbeats 4000000 in
theorem BlobRuns_sp : Sp1 Tryz.prog 8 [] [] (vB true) [] := by
 have r := r8_one
 have hxl := x81_len
 have i0 : BI 60 0 ⟨[], 0, false⟩ [] (newD 60) := bi_new (by decide) (by decide)
 refine Sp.body (n := 106) Tryz.call8 Tryz.func8 rfl rfl rfl ?_
 refine Qc (k:=Vv (k:=Wq (Qc (k:=?_))))
 refine r_callX (disk_New_sp 60) rfl rfl rfl (fun d _ => ?_)
 refine Vv (k:=Wq (Qc (k:=Vv (k:=?_))))
 refine r_callX (store_Open_sp d (newD 60)) rfl rfl rfl (fun s _ => ?_)
 refine Vv (k:=Wq (Za (k:=Qc (k:=Vv (k:=?_)))))
 refine wo_pv (pv_peql_nil Tryz.underlying70 rfl rfl) rfl ?_
 refine Vv (k:=Gi 2 (t:=fun h18 => ?_) (f:=fun h18 => ?_))
 ·
  cases h18
  --done
 ·
  refine J0 (k:=I0 (k:=?_))
  refine wo_pv (pv_peql_nil Tryz.underlying72 rfl rfl) rfl ?_
  refine P0 (k:=Wq (Zi (t:=fun h21 => ?_) (f:=fun h21 => ?_)))
  ·
   cases h21
   --done
  ·
   refine Zk (k:=Ya (Qc (k:=Vv (k:=Wq (Za (k:=?_))))))
   refine wc_keep [(0, .bool false), (1, .pointer (some ⟨d, 0, none⟩)), (2, .pointer (some ⟨s, 0, none⟩)), (3, vS x81)] ⟨rfl, rfl, rfl, rfl, trivial⟩ ?_
   rw [show openJ (newD 60) = ⟨[], 0, false⟩ from rfl, show openK (⟨[], 0, false⟩ : Jn).l = [] from rfl]
   generalize x81 = x at *
   refine Zr (k:=Vv (k:=?_))
   refine wo_pv (pv_cat rfl rfl (by simp only [List.length_singleton]; omega)) rfl ?_
   obtain ⟨y, hy⟩ : ∃ y, y = x ++ [33] := ⟨_, rfl⟩
   rw [← hy]
   have hyl : y.length = 106 := by rw [hy, List.length_append, hxl]; rfl
   obtain ⟨a, ha⟩ : ∃ a, a = shaB x := ⟨_, rfl⟩
   obtain ⟨b, hb⟩ : ∃ b, b = shaB y := ⟨_, rfl⟩
   rw [← ha, ← hy, ← hb] at r
   refine Vv (k:=Wq (Qc (k:=Vv (k:=?_))))
   refine r_callF (hash_Sum_sp x (by omega)) rfl rfl rfl ?_
   refine Vv (k:=?_)
   refine r_callF (hash_Sum_sp y (by omega)) rfl rfl rfl ?_
   refine Qv (k:=Wq (Za (k:=?_)))
   rw [← ha, ← hb]
   have hal := r.al
   have hbl := r.bl
   have e1 : rowB [] a x [] = ⟨98 :: a, 102 :: x, false⟩ := r8_row1
   have hR1 := blob_Row_sp s d ⟨[], 0, false⟩ [] i0.txt a x [] (by omega) (by omega) (by simp)
   rw [e1] at hR1
   obtain ⟨ja, da, i1, hC1⟩ := i0.sp (l := [⟨98 :: a, 102 :: x, false⟩]) 6 (fun q hq => by rw [List.mem_singleton.1 hq]; exact ⟨by simp, by simp; omega, by simp; omega, fun e => by cases e⟩) (Nat.le_trans (textOf_one (by simp <;> omega) (by simp <;> omega)) (by simp <;> omega)) (by decide) (by decide)
   rw [show doR [] [(⟨98 :: a, 102 :: x, false⟩ : Rw)] = k81 a x from rfl] at i1 hC1
   refine Zr (k:=Qv (k:=Qv (k:=?_)))
   refine r_call1 hR1 rfl rfl rfl ?_
   refine Zv [_] (cs := [_, _, _]) (k:=fun b33 => ?_)
   refine wo_ent' (ce_norm (b := b33) (T := 77) (l' := [(⟨98 :: a, 102 :: x, false⟩ : Rw)].flatMap rowC) (by rfl) (by rfl)) ?_
   refine r_call1 (hC1 (Ce b33 77 ([(⟨98 :: a, 102 :: x, false⟩ : Rw)].flatMap rowC)) _ s d 1 1 sla_ce rfl) rfl rfl rfl ?_
   refine Wq (Za (k:=?_))
   have e2 := r.row2
   have e3 := r.drop
   have g2 : getB (k82 a b x (makeB x (x ++ [33]))) (98 :: b) = 100 :: (a ++ makeB x (x ++ [33])) := r8_get2b
   have g3 := r.get3
   have hck := r.check (by rw [← hy]; exact hb.symm)
   have hml := pre_len (s := x) (t := [33]) (by omega) (by decide) (by rw [hxl]; decide)
   rw [← hy] at e2 e3 g2 g3 hck hml
   rw [List.length_singleton] at hml
   have hR2 := blob_Row_sp s d ja (k81 a x) i1.txt b y a (by omega) (by omega) (by omega)
   rw [e2] at hR2
   have hm0 : 0 < (makeB x y).length := List.length_pos_iff.2 (makeB_ne (by omega))
   generalize makeB x y = m at *
   have hva : List.take (41 - 1) (List.drop 1 (100 :: (a ++ m))) = a := by
    rw [List.drop_succ_cons, List.drop_zero]
    show List.take 40 _ = _
    rw [← hal, List.take_left]
   obtain ⟨jb, db, i2, hC2⟩ := i1.sp (l := [⟨98 :: b, 100 :: (a ++ m), false⟩]) 4 (fun q hq => by rw [List.mem_singleton.1 hq]; exact ⟨by simp, by simp; omega, by simp; omega, fun e => by cases e⟩) (Nat.le_trans (textOf_one (by simp <;> omega) (by simp <;> omega)) (by simp <;> omega)) (by decide) (by decide)
   rw [show doR (k81 a x) [(⟨98 :: b, 100 :: (a ++ m), false⟩ : Rw)] = k82 a b x m from rfl] at i2 hC2
   refine Zr (k:=Qv (k:=Qv (k:=Vv (k:=?_))))
   refine r_call1 hR2 rfl rfl rfl ?_
   refine Zv [_] (cs := [_, _, _]) (k:=fun b41 => ?_)
   refine wo_ent' (ce_norm (b := b41) (T := 77) (l' := [(⟨98 :: b, 100 :: (a ++ m), false⟩ : Rw)].flatMap rowC) (by rfl) (by rfl)) ?_
   refine r_call1 (hC2 (Ce b41 77 ([(⟨98 :: b, 100 :: (a ++ m), false⟩ : Rw)].flatMap rowC)) _ s d 1 1 sla_ce rfl) rfl rfl rfl ?_
   refine Wq (Za (k:=?_))
   have hG2 := store_Get_sp s d jb (k82 a b x m) (98 :: b)
   rw [(i2.txt.get (98 :: b)).1, g2] at hG2
   generalize (mlook (k82 a b x m) (98 :: b)).isSome = q2 at hG2
   refine Zr (k:=Qv (k:=?_))
   refine wo_pv (pv_cat rfl rfl (by simp only [List.length_singleton]; omega)) rfl ?_
   rw [List.singleton_append]
   refine r_call1 hG2 rfl rfl rfl ?_
   refine Vv (k:=?_)
   refine wo_pv (pv_extract (v := vS (100 :: (a ++ m))) rfl rfl) rfl ?_
   refine wo_pv (pv_extract (v := vB q2) rfl rfl) rfl ?_
   refine Qv (k:=Wq (Za (k:=?_)))
   have hD := blob_Drop_sp s d jb (k82 a b x m) i2.txt i2.NamK (by have := i2.len; omega) a (by omega)
   rw [e3] at hD
   simp only [List.length_cons, List.length_nil, Nat.zero_add, Nat.reduceAdd] at hD
   obtain ⟨jc3, dc3, i3, hC3⟩ := i2.sp (l := [⟨98 :: b, 102 :: y, false⟩, ⟨98 :: a, [], true⟩]) 7 (fun q hq => by
    rcases List.mem_cons.1 hq with rfl | hq
    · exact ⟨by simp, by simp; omega, by simp; omega, fun e => by cases e⟩
    · rw [List.mem_singleton.1 hq]; exact ⟨by simp, by simp; omega, by simp, fun e => rfl⟩) (Nat.le_trans (textOf_two (by simp <;> omega) (by simp <;> omega) (by simp <;> omega) (by simp <;> omega)) (by simp <;> omega)) (by decide) (by decide)
   rw [show doR (k82 a b x m) [(⟨98 :: b, 102 :: y, false⟩ : Rw), ⟨98 :: a, [], true⟩] = k83 a b x y m from rfl] at i3 hC3
   refine Zr (k:=Qv (k:=Vv (k:=?_)))
   refine r_callX hD rfl rfl rfl (fun x53 _ => ?_)
   refine r_call1 (hC3 (Row 77 3 (.slice x53.1 2 x53.2) 2 ([(⟨98 :: b, 102 :: y, false⟩ : Rw), ⟨98 :: a, [], true⟩].flatMap rowC)) _ s d 2 x53.2 sla_row rfl) rfl rfl rfl ?_
   refine Wq (Za (k:=?_))
   have hG3 := store_Get_sp s d jc3 (k83 a b x y m) (98 :: b)
   rw [(i3.txt.get (98 :: b)).1, g3] at hG3
   generalize (mlook (k83 a b x y m) (98 :: b)).isSome = q3 at hG3
   refine Zr (k:=Qv (k:=?_))
   refine wo_pv (pv_cat rfl rfl (by simp only [List.length_singleton]; omega)) rfl ?_
   rw [List.singleton_append]
   refine r_call1 hG3 rfl rfl rfl ?_
   refine Vv (k:=?_)
   refine wo_pv (pv_extract (v := vS (102 :: y)) rfl rfl) rfl ?_
   refine wo_pv (pv_extract (v := vB q3) rfl rfl) rfl ?_
   refine Qv (k:=Wq (Za (k:=?_)))
   have hCt := blob_Content_sp s d jc3 (k83 a b x y m) i3.txt b (by omega)
   rw [show ctnB (k83 a b x y m) b = some y from full_ctn g3 3] at hCt
   have hCk := blob_Check_sp s d jc3 (k83 a b x y m) i3.txt i3.NamK (by have := i3.len; omega)
   rw [hck] at hCk
   have hDp := blob_Depth_sp s d jc3 (k83 a b x y m) i3.txt b (by omega)
   rw [full_dep g3] at hDp
   refine Zr (k:=Qv (k:=?_))
   refine r_call1 hCt rfl rfl rfl ?_
   refine Vv (k:=?_)
   refine wo_pv (pv_extract (v := vS y) rfl rfl) rfl ?_
   refine wo_pv (pv_extract (v := vB true) rfl rfl) rfl ?_
   refine Qv (k:=Wq (Qc (k:=Qv (k:=Qv (k:=Gi 3 (t:=fun h71 => ?_) (f:=fun h71 => ?_))))))
   ·
    refine J1 (k:=I1 (k:=?_))
    refine wo_pv (pv_indexm (m := 0) Tryz.underlying9 rfl rfl rfl (by simp)) rfl ?_
    refine J1 (k:=P1 (k:=Vv (k:=Gi 8 (t:=fun h76 => ?_) (f:=fun h76 => ?_))))
    ·
     refine J1 (k:=I1 (k:=?_))
     refine wo_pv (pv_slice_inm (m := 1) (o := 41) Tryz.underlying9 rfl rfl rfl rfl rfl (by omega) (by simp; omega)) rfl ?_
     refine J1 (k:=J1 (k:=P1 (k:=Vv (k:=Gi 14 (t:=fun h82 => ?_) (f:=fun h82 => ?_)))))
     ·
      refine J1 (k:=J1 (k:=I1 (k:=?_)))
      refine wo_pv (pv_cat rfl rfl (by simp only [List.length_singleton]; omega)) rfl ?_
      rw [List.singleton_append]
      refine J1 (k:=P1 (k:=Vv (k:=Gi 20 (t:=fun h88 => ?_) (f:=fun h88 => ?_))))
      ·
       refine J1 (k:=J1 (k:=J1 (k:=P1 (k:=Vv (k:=Gi 25 (t:=fun h93 => ?_) (f:=fun h93 => ?_))))))
       ·
        refine J1 (k:=P1 (k:=Vv (k:=Gi 28 (t:=fun h96 => ?_) (f:=fun h96 => ?_))))
        ·
         refine J1 (k:=I1 (k:=?_))
         refine r_call1 hCk rfl rfl rfl ?_
         refine P1 (k:=Vv (k:=Gi 32 (t:=fun h100 => ?_) (f:=fun h100 => ?_)))
         ·
          refine J1 (k:=J1 (k:=I1 (k:=?_)))
          refine r_call1 hDp rfl rfl rfl ?_
          refine J1 (k:=P1 (k:=Vv (k:=Wq (Zt (k:=?_)))))
          exact fin_ret () (vs := [_]) (Cs := []) rfl (.tmp rfl .nil) rfl trivial ent_nil
         ·
          cases h100
          --done
        ·
         cases h96
         --done
       ·
        exact absurd rfl h93
        --done
      ·
       exact absurd rfl h88
       --done
     ·
      exact absurd hva h82
      --done
    ·
     exact absurd rfl h76
     --done
   ·
    exact absurd (by simp; omega) h71
    --done
end
end Go.Proofs.YtibccdcemcgkeaaGreat
