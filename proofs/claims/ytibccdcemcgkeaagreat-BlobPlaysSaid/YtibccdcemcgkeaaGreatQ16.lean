/- Texts of this proof, put together: SBlob3, SBlob4, SRefB, SRefB2. -/
import Derived.Test.YtibccdcemcgkeaaGreatQ14
import Derived.Test.YtibccdcemcgkeaaGreatQ15
set_option linter.unusedVariables false
set_option linter.unusedSimpArgs false
namespace Go.Proofs.YtibccdcemcgkeaaGreat
section
set_option maxRecDepth 100000
theorem zb37ret4 {G : Prop} (h : G := by
    unfold rowF
    try dsimp only
    try rw [if_pos (by first | (left; omega) | (right; left; omega) | (right; right; assumption))]
    exact fin_ret () (vs := [_]) (Cs := [Ce b8 77 [vS (98 :: name), vS (102 :: content), .bool false]]) rfl (.cell (l := [vS (98 :: name), vS (102 :: content), .bool false]) (us := [vS (98 :: name), vS (102 :: content), .bool false]) rfl (shows_ce (T := 77)) Tryz.underlying77 rfl ti77 (by exact Nat.le_of_ble_eq_true rfl) rfl .nil) rfl trivial ent_pick) : G := h
theorem zb37ret7 {G : Prop} (h : G := by
    rw [if_pos (by first | exact .inl h49 | exact .inr (by omega))]
    exact fin_ret () (vs := [_]) (Cs := [Ce b8 77 [vS (98 :: name), vS (102 :: content), .bool false]]) rfl (.cell (l := [vS (98 :: name), vS (102 :: content), .bool false]) (us := [vS (98 :: name), vS (102 :: content), .bool false]) rfl (shows_ce (T := 77)) Tryz.underlying77 rfl ti77 (by exact Nat.le_of_ble_eq_true rfl) rfl .nil) rfl trivial ent_pick) : G := h
set_option maxHeartbeats 2000000 in
theorem blob_Row_sp (s p : Nat) (J : Jn) (K : Ks) (hK : TxtK K) (name content base : Bs) (hn : name.length ≤ 1073741824) (hc : content.length ≤ 1073741824) (hb : base.length ≤ 1073741824) :
    Sp1 Tryz.prog 37 [.pointer (some ⟨s, 0, none⟩), vS name, vS content, vS base] [IsS s p J K] (.agg (rowC (rowB K name content base)).toArray) [IsS s p J K] := by
 obtain ⟨y, hy⟩ : ∃ y, y = ctnB K base := ⟨_, rfl⟩
 have hC := blob_Content_sp s p J K hK base (by omega)
 have hD := blob_Depth_sp s p J K hK base (by omega)
 have hS := blob_stands_sp s p J K hK base name (by omega)
 have hyl : ∀ t, y = some t → t.length ≤ 1073741824 := fun t e => ctnR_len hK (k := 3) (n := base) (by rw [← e, hy]; rfl)
 rw [← hy] at hC
 unfold rowB
 rw [← hy]
 generalize depB K base = dd at hD ⊢
 generalize staB K base name = st at hS ⊢
 refine Sp.body (n := 66) Tryz.call37 Tryz.func37 rfl rfl rfl ?_
 refine Qc (k:=Zc [vS [], vS [], .bool false] (k:=fun b8 => Wq (Qc (k:=Vv (k:=?_)))))
 refine wo_pv (pv_cat rfl rfl (by simp only [List.length_singleton]; omega)) rfl ?_
 rw [List.singleton_append]
 refine Vv (k:=?_)
 refine wo_pv (pv_cat rfl rfl (by simp only [List.length_singleton]; omega)) rfl ?_
 rw [List.singleton_append]
 refine Vx (Ps [_, _, .bool false]) (k:=Zc [vS [], vS [], .bool false] (k:=fun b9 => Zp (k:=Wq (Qc (k:=Qv (k:=?_))))))
 refine r_call1 hC rfl rfl rfl ?_
 refine Vv (k:=?_)
 refine wo_pv (pv_extract (v := vS (y.getD [])) rfl rfl) rfl ?_
 refine wo_pv (pv_extract (v := vB y.isSome) rfl rfl) rfl ?_
 refine Qv (k:=Wq (Za (k:=Qc (k:=Qv (k:=Vv (k:=Gi 2 (t:=fun h26 => ?_) (f:=fun h26 => ?_)))))))
 ·
  obtain rfl : y = none := by cases y with | none => rfl | some z => simp at h26
  refine O1 (k:=O1 (k:=O1 (k:=P1 (k:=Vv (k:=O1 (k:=O1 (k:=O1 (k:=O1 (k:=P1 (k:=Vv (k:=O1 (k:=?_))))))))))))
  refine O1 (k:=O1 (k:=O1 (k:=P1 (k:=Wq (Z1 (k:=Qc (k:=Zm [_, _, _] (k:=Zp (k:=Wq (Zt (k:=?_)))))))))))
  refine Va ?_
  exact zb37ret4
 ·
  obtain ⟨src, rfl⟩ : ∃ z, y = some z := by cases y with | none => simp at h26 | some z => exact ⟨z, rfl⟩
  have hsl := hyl src rfl
  dsimp only [Option.getD_some]
  refine J0 (k:=J0 (k:=J0 (k:=P0 (k:=Vv (k:=Gi 7 (t:=fun h31 => ?_) (f:=fun h31 => ?_))))))
  ·
   refine O1 (k:=O1 (k:=O1 (k:=O1 (k:=P1 (k:=Vv (k:=O1 (k:=O1 (k:=O1 (k:=O1 (k:=P1 (k:=Wq ?_)))))))))))
   refine Z1 (k:=Qc (k:=Zm [_, _, _] (k:=Zp (k:=Wq (Zt (k:=Va ?_))))))
   exact zb37ret4
  ·
   refine J0 (k:=J0 (k:=I0 (k:=?_)))
   refine r_call1 hD rfl rfl rfl ?_
   refine J0 (k:=P0 (k:=Vv (k:=Gi 13 (t:=fun h37 => ?_) (f:=fun h37 => ?_))))
   ·
    refine O1 (k:=O1 (k:=O1 (k:=O1 (k:=P1 (k:=Wq (Z1 (k:=Qc (k:=Zm [_, _, _] (k:=Zp (k:=Wq ?_))))))))))
    refine Zt (k:=Va ?_)
    exact zb37ret4
   ·
    refine J0 (k:=J0 (k:=J0 (k:=I0 (k:=?_))))
    refine r_call1 hS rfl rfl rfl ?_
    refine P0 (k:=Wq (Zi (t:=fun h42 => ?_) (f:=fun h42 => ?_)))
    ·
     refine Qc (k:=Zm [_, _, _] (k:=Zp (k:=Wq (Zt (k:=Va ?_)))))
     exact zb37ret4
    ·
     have hnot : ¬ (base.length ≠ 40 ∨ 3 ≤ dd ∨ st = true) := by
      rintro (h | h | h)
      · omega
      · omega
      · first
        | (rw [h] at h42; cases h42)
        | (exact absurd h (by assumption))
        | simp_all
     unfold rowF
     dsimp only
     rw [if_neg hnot]
     have hbl : base.length = 40 := by omega
     refine Zk (k:=Ya (Qc (k:=Qv (k:=?_))))
     refine r_callF (delta_Make_sp src content hsl hc) rfl rfl rfl ?_
     obtain ⟨m, hm⟩ : ∃ m, m = makeB src content := ⟨_, rfl⟩
     rw [← hm]
     refine Vv (k:=Wq (Za (k:=Qc (k:=Qv (k:=Vv (k:=Gi 2 (t:=fun h49 => ?_) (f:=fun h49 => ?_)))))))
     ·
      refine O1 (k:=O1 (k:=O1 (k:=O1 (k:=O1 (k:=O1 (k:=O1 (k:=P1 (k:=Wq (Z1 (k:=Qc (k:=?_)))))))))))
      refine Zm [_, _, _] (k:=Zp (k:=Wq (Zt (k:=Va ?_))))
      exact zb37ret7
     ·
      refine J0 (k:=J0 (k:=J0 (k:=J0 (k:=J0 (k:=J0 (k:=?_))))))
      refine J0 (k:=P0 (k:=Wq (Zi (t:=fun h57 => ?_) (f:=fun h57 => ?_))))
      ·
       refine Qc (k:=Zm [_, _, _] (k:=Zp (k:=Wq (Zt (k:=Va ?_)))))
       exact zb37ret7
      ·
       refine Zk (k:=Ya (Za (k:=?_)))
       have hml : (m.length : Int) < (content.length : Int) - 1 - 40 := by omega
       rw [if_neg (by rintro (h | h); exact absurd h (by assumption); omega)]
       refine Zr (k:=Vv (k:=?_))
       refine wo_pv (pv_cat rfl rfl (by simp only [List.length_singleton]; omega)) rfl ?_
       rw [List.singleton_append]
       refine Vv (k:=?_)
       refine wo_pv (pv_cat rfl rfl (by simp only [List.length_singleton]; omega)) rfl ?_
       rw [List.singleton_append]
       refine Vv (k:=?_)
       refine wo_pv (pv_cat rfl rfl (by simp only [List.length_cons]; omega)) rfl ?_
       rw [List.cons_append]
       refine Vx (Ps [_, _, .bool false]) (k:=Zp (k:=Wq (Zt (k:=?_))))
       exact fin_ret () (vs := [_]) (Cs := [Ce b8 77 [vS (98 :: name), vS (100 :: (base ++ m)), .bool false]]) rfl (.cell (l := [vS (98 :: name), vS (100 :: (base ++ m)), .bool false]) (us := [vS (98 :: name), vS (100 :: (base ++ m)), .bool false]) rfl (shows_ce (T := 77)) Tryz.underlying77 rfl ti77 (by exact Nat.le_of_ble_eq_true rfl) rfl .nil) rfl trivial ent_pick
theorem blob_Names_sp (s : Nat) : Sp Tryz.prog 44 [.pointer (some ⟨s, 0, none⟩)] [] (X := Nat) (fun b => .func (.func 99) #[] #[.pointer (some ⟨b, 0, none⟩)]) (fun _ => True) (fun b => [Ce b 72 [.pointer (some ⟨s, 0, none⟩)]]) := by
 refine Sp.body (n := 4) Tryz.call44 Tryz.func44 rfl rfl rfl ?_
 refine Qc (k:=Zx [_] (k:=fun b1 => Vv (k:=Wq (Qc (k:=Qv (k:=Wq (Zt (k:=?_))))))))
 refine fin_ret b1 (vs := [_]) (Cs := []) rfl (.tmp rfl .nil) rfl trivial ?_
 exact ent_pick
theorem fromS_98 {K : Ks} {x : Bs × Value} (h : x ∈ fromS K [98]) : ∃ n, x.1 = 98 :: n := by
 have hp := (fromS_mem h).2.1
 cases hx : x.1 with
 | nil => rw [hx] at hp; simp [Lib.hasPrefix] at hp
 | cons c n =>
   rw [hx] at hp
   have : 98 = c := by simpa [Lib.hasPrefix] using hp
   exact ⟨n, by rw [← this]⟩
set_option maxHeartbeats 2000000 in
theorem blob_Names_itB (s p b : Nat) (J : Jn) (K : Ks) (hK : K.length ≤ 4398046511104) :
    IterB Tryz.prog 99 [.pointer (some ⟨b, 0, none⟩)] (fun w : Bs => [vS w]) (okL (nmsB K)) (stopL (nmsB K)) (IsS s p J K) [Ce b 72 [.pointer (some ⟨s, 0, none⟩)]] [Ce b 72 [.pointer (some ⟨s, 0, none⟩)]] (nmsB K) (fun _ => .tuple #[]) := by
 intro y Jy J0 Jx ys hj1 hj2
 obtain ⟨ly, rfl, hys⟩ := id ys
 refine Sp.body (n := 13) Tryz.call99 Tryz.func99 rfl rfl rfl ?_
 refine Qc (k:=Zx [_] (k:=fun b2 => Wq (Qc (k:=Zd (k:=?_)))))
 refine r_callX (store_From_sp s [98]) rfl rfl rfl (fun x5 _ => ?_)
 refine Wq (Zb (k:=?_))
 refine p_rangeFuncB (fun pre => [Jy (pre.map fun x => x.1.drop 1), Ce b2 112 [.func (.yield ly) #[] #[]], Ce b 72 [.pointer (some ⟨s, 0, none⟩)]]) (fun j pre => if j = none then [Jx (pre.map fun x => x.1.drop 1), Ce b 72 [.pointer (some ⟨s, 0, none⟩)]] else [Pu False]) (fun pre => [J0 (pre.map fun x => x.1.drop 1), Ce b2 112 [.func (.yield ly) #[] #[]], Ce b 72 [.pointer (some ⟨s, 0, none⟩)]]) rfl (store_From_itB x5.1 x5.2 s p J K [98] hK) rfl (fun _ => by rfl) rfl (fun pre => ?_) (fun pre => ?_) ?_ (fun l pre w hok => ?_) ?_ (fun j pre hs => ?_)
 · (refine ent_open2 (hj1 (pre.map fun x => x.1.drop 1)) ?_; exact ent_pick)
 · (refine ent_fold2 (hj2 (pre.map fun x => x.1.drop 1)) ?_; exact ent_pick)
 · (refine ent_app ?_; rw [List.map_nil]; exact ent_pick)
 ·
  obtain ⟨k, v⟩ := w
  obtain ⟨rr, hrr⟩ := hok
  obtain ⟨nm, hnm⟩ := fromS_98 (K := K) (x := (k, v)) (by rw [hrr]; simp)
  dsimp only at hnm
  subst hnm
  refine Zr (k:=Vv (k:=Wg (Zb (k:=Za (k:=Dw [Ce b2 112 [.func (.yield ly) #[] #[]]] (k:=?_))))))
  refine Di 0 (t:=Ul) (k:=Dv 1 (k:=?_))
  refine d_first 2 rfl rfl rfl (by kernel_rfl) (by kernel_rfl) (tl_pv (pv_slice_fromm (m := 1) Tryz.underlying9 rfl rfl rfl (by simp))) ?_
  refine Dn 3 (k:=?_)
  refine an_yield ys (pre.map fun x => x.1.drop 1) nm ⟨rr.map fun x => x.1.drop 1, by rw [nmsB, hrr]; simp⟩ rfl rfl rfl ?_ ?_
  ·
   refine Dv 4 (k:=Dd (k:=Ya (Z0 (k:=Zk (k:=Yb ?_)))))
   refine to_round ?_
   simp only [List.map_append, List.map_cons, List.map_nil, List.drop_succ_cons, List.drop_zero]
   exact ent_pick
  ·
   refine Dv 4 (k:=Dd (k:=Ya (Z1 (k:=Zt (k:=Vb ?_)))))
   refine to_round_ret ?_
   rw [if_pos rfl]
   simp only [List.map_append, List.map_cons, List.map_nil, List.drop_succ_cons, List.drop_zero]
   exact ent_pick
 ·
  skip
  refine Yb ?_
  refine fin_end none (vs := []) (Cs := []) rfl .nil rfl (fun pre e => by cases e) ?_
  simp only [endsAt]
  rw [show (fromS K [98]).map (fun x => x.1.drop 1) = nmsB K from rfl]
  exact ent_pick
 ·
  by_cases hj : j = none
  · subst hj
    rw [if_pos rfl]
    refine Zt (k:=Vb ?_)
    obtain ⟨h1, r, hr⟩ := hs
    refine fin_ret (some (pre.map fun x => x.1.drop 1)) (vs := []) (Cs := []) rfl .nil rfl (fun q e => by cases e; exact ⟨by simpa using h1, r.map fun x => x.1.drop 1, by rw [nmsB, hr, List.map_append]⟩) ?_
    simp only [endsAt]
    exact ent_pick
  · rw [if_neg hj]
    exact wc_no (fun s => by obtain ⟨_, _, _, _, a, _⟩ := s; exact a)
theorem nms_len2 (K : Ks) : (nmsB K).length ≤ K.length := by
 rw [nmsB, List.length_map, fromS, fromL, List.length_map]
 exact Nat.le_trans (List.length_filter_le _ _) (by rw [keysS_len]; exact Nat.le_refl _)
theorem nms_name {K : Ks} {n : Bs} (h : n ∈ nmsB K) : 98 :: n ∈ K.map (·.1) := by
 obtain ⟨x, hx, rfl⟩ := List.mem_map.1 h
 obtain ⟨m, hm⟩ := fromS_98 hx
 have := (fromS_mem hx).1
 rw [hm] at this ⊢
 exact this
/-- Names are not too long. -/
def NamK (K : Ks) : Prop := ∀ k ∈ K.map (·.1), k.length ≤ 1073741824
theorem zb41roundret {G : Prop} (h : G := by
    refine to_round_ret ?_
    rw [if_pos rfl]
    first
    | exact ent_pu hbad ent_pick
    | exact ent_pu (hno (fun t e => by cases e; assumption)) ent_pick) : G := h
theorem zb41ret {G : Prop} (h : G := by
    first
    | exact fin_ret () (vs := [_]) (Cs := [Ce b2 4 [vB false]]) rfl (.cell1 (l := [vB false]) rfl (shows_ce (T := 4)) Tryz.underlying4 rfl rfl .nil) rfl trivial ent_pick
    | exact fin_ret () (vs := [_]) (Cs := [Ce b2 4 [vB true]]) rfl (.cell1 (l := [vB true]) rfl (shows_ce (T := 4)) Tryz.underlying4 rfl rfl .nil) rfl trivial ent_pick) : G := h
set_option maxHeartbeats 2000000 in
theorem blob_Check_sp (s p : Nat) (J : Jn) (K : Ks) (hK : TxtK K) (hN : NamK K) (hl : K.length ≤ 4398046511104) : Sp1 Tryz.prog 41 [.pointer (some ⟨s, 0, none⟩)] [IsS s p J K] (vB (checkB K)) [IsS s p J K] := by
 refine Sp.body (n := 23) Tryz.call41 Tryz.func41 rfl rfl rfl ?_
 refine Qc (k:=Zx [_] (k:=fun b1 => Zc [.bool false] (k:=fun b2 => Wq (Za (k:=Qc (k:=Zd (k:=?_)))))))
 refine r_callX (blob_Names_sp s) rfl rfl rfl (fun x7 _ => ?_)
 refine Wq (Zb (k:=?_))
 refine p_rangeFuncB (fun pre => [Pu (∀ n ∈ pre, (ctnB K n).map shaB = some n), Ce b2 4 [vB false], Ce b1 72 [.pointer (some ⟨s, 0, none⟩)], IsS s p J K]) (fun j pre => if j = none then [Pu (checkB K = false), Ce b2 4 [vB false], IsS s p J K] else [Pu False]) (fun pre => [Pu (∀ n ∈ pre, (ctnB K n).map shaB = some n), Ce b2 4 [vB false], Ce b1 72 [.pointer (some ⟨s, 0, none⟩)]]) rfl (blob_Names_itB s p x7 J K hl) rfl (fun _ => by rfl) rfl (fun pre => ?_) (fun pre => ?_) ?_ (fun l pre n hok => ?_) ?_ (fun j pre hs => ?_)
 · exact ent_pick
 · exact ent_pick
 · (refine ent_app (ent_pu (fun n h => by cases h) ?_); exact ent_pick)
 ·
  obtain ⟨rr, hrr⟩ := hok
  refine wc_pu fun hall => ?_
  have hnm : n ∈ nmsB K := by rw [hrr]; simp
  have hnl := hN _ (nms_name hnm)
  rw [List.length_cons] at hnl
  obtain ⟨y, hy⟩ : ∃ y, y = ctnB K n := ⟨_, rfl⟩
  have hC := blob_Content_sp s p J K hK n (by omega)
  have hyl : ∀ t, y = some t → t.length ≤ 1073741824 := fun t e => ctnR_len hK (k := 3) (n := n) (by rw [← e, hy]; rfl)
  rw [← hy] at hC
  have hno : (∀ t, y = some t → shaB t ≠ n) → checkB K = false := fun h => by
   unfold checkB
   rw [List.all_eq_false]
   refine ⟨n, hnm, ?_⟩
   rw [← hy]
   cases y with
   | none => simp
   | some t => simpa using h t rfl
  refine Zr (k:=Vv (k:=Wg (Zb (k:=Qc (k:=Zd (k:=Vv (k:=?_)))))))
  refine r_call1 hC rfl rfl rfl ?_
  refine Vv (k:=?_)
  refine wo_pv (pv_extract (v := vS (y.getD [])) rfl rfl) rfl ?_
  refine wo_pv (pv_extract (v := vB y.isSome) rfl rfl) rfl ?_
  refine Qv (k:=Wq (Qc (k:=Qv (k:=Vv (k:=Gi 2 (t:=fun h17 => ?_) (f:=fun h17 => ?_))))))
  ·
   obtain rfl : y = none := by cases y with | none => rfl | some z => simp at h17
   have hbad := hno (fun t e => by cases e)
   refine O1 (k:=O1 (k:=O1 (k:=O1 (k:=P1 (k:=Wq (Z1 (k:=Qc (k:=Zo (k:=Wq (Zt (k:=?_)))))))))))
   refine Vb ?_
   exact zb41roundret
  ·
   obtain ⟨t, rfl⟩ : ∃ z, y = some z := by cases y with | none => simp at h17 | some z => exact ⟨z, rfl⟩
   have htl := hyl t rfl
   dsimp only [Option.getD_some]
   refine J0 (k:=I0 (k:=?_))
   refine r_callF (hash_Sum_sp t (by omega)) rfl rfl rfl ?_
   refine J0 (k:=J0 (k:=P0 (k:=Wq (Zi (t:=fun h22 => ?_) (f:=fun h22 => ?_)))))
   ·
    refine Qc (k:=Zo (k:=Wq (Zt (k:=Vb ?_))))
    exact zb41roundret
   ·
    refine Zk (k:=Yb ?_)
    refine to_round (ent_pu (fun m hm => ?_) ent_pick)
    rcases List.mem_append.1 hm with h | h
    · exact hall m h
    · rw [List.mem_singleton.1 h, ← hy]
      have h22 := h22
      first
      | (show some (shaB t) = some n
         congr 1
         simpa using h22)
      | simp_all
 ·
  refine tw_know (A := Pu (∀ n ∈ nmsB K, (ctnB K n).map shaB = some n)) .here (fun x => x) (fun hall => ?_)
  have hch : checkB K = true := by
   unfold checkB
   rw [List.all_eq_true]
   exact fun n hn => decide_eq_true (hall n hn)
  rw [hch]
  refine Yb (Ya (Qc (k:=Zo (k:=Wq (Zt (k:=?_))))))
  exact zb41ret
 ·
  by_cases hj : j = none
  · subst hj
    rw [if_pos rfl]
    simp only [List.cons_append, List.nil_append]
    refine wc_pu fun hbad => ?_
    rw [hbad]
    refine Zt (k:=Vb (Va ?_))
    exact zb41ret
  · rw [if_neg hj]
    exact wc_no (fun s => by obtain ⟨_, _, _, _, a, _⟩ := s; exact a)
end
section
set_option maxRecDepth 100000
def DropH (b : Nat) (l : List Rw) : HP := Ex fun ac : Option Addr × Nat => Al [Row 77 3 (.slice ac.1 l.length ac.2) l.length (l.flatMap rowC), Ce b 81 [.slice ac.1 l.length ac.2]]
set_option maxHeartbeats 2000000 in
theorem blob_Drop_sp (s p : Nat) (J : Jn) (K : Ks) (hK : TxtK K) (hN : NamK K) (hl : K.length ≤ 1073741824) (name : Bs) (hnm : name.length ≤ 1073741824) :
    Sp Tryz.prog 39 [.pointer (some ⟨s, 0, none⟩), vS name] [IsS s p J K] (X := Option Addr × Nat) (fun x => .slice x.1 (dropB K name).length x.2) (fun _ => True) (fun x => [Row 77 3 (.slice x.1 (dropB K name).length x.2) (dropB K name).length ((dropB K name).flatMap rowC), IsS s p J K]) := by
 have hG := store_Get_sp s p J K (98 :: name)
 rw [(hK.get (98 :: name)).1] at hG
 have hl2 := nms_len2 K
 unfold dropB
 generalize hms : (mlook K (98 :: name)).isSome = ms at hG ⊢
 refine Sp.body (n := 66) Tryz.call39 Tryz.func39 rfl rfl rfl ?_
 refine Qc (k:=Zx [_] (k:=fun b2 => Zx [_] (k:=fun b3 => Vv (k:=Wq (Za (k:=Qc (k:=Zd (k:=Zd (k:=?_)))))))))
 refine wo_pv (pv_cat rfl rfl (by simp only [List.length_singleton]; omega)) rfl ?_
 rw [List.singleton_append]
 refine r_call1 hG rfl rfl rfl ?_
 refine Vv (k:=?_)
 refine wo_pv (pv_extract (v := vS (getB K (98 :: name))) rfl rfl) rfl ?_
 refine wo_pv (pv_extract (v := vB ms) rfl rfl) rfl ?_
 refine Qv (k:=Wq (Qc (k:=Qv (k:=Wq (Zi (t:=fun h22 => ?_) (f:=fun h22 => ?_))))))
 ·
  refine Qc (k:=Vv (k:=Wq (Zt (k:=Va ?_))))
  rw [if_neg (by first | assumption | simp_all)]
  refine fin_ret (none, 0) (vs := [_]) (Cs := []) rfl (.tmp rfl .nil) rfl trivial ?_
  exact ent_step row_nil ent_pick
 ·
  refine Zk (k:=Ya (Qc (k:=Zc [.slice none 0 0] (k:=fun b7 => Wq (Za (k:=Qc (k:=Zd (k:=?_))))))))
  refine r_callX (blob_Names_sp s) rfl rfl rfl (fun x24 _ => ?_)
  refine Wq (Zb (k:=?_))
  refine p_rangeFuncB (fun pre => [DropH b7 (dropF K name pre), Ce b3 9 [vS name], Ce b2 72 [.pointer (some ⟨s, 0, none⟩)], IsS s p J K]) (fun j pre => [Pu False]) (fun pre => [DropH b7 (dropF K name pre), Ce b3 9 [vS name], Ce b2 72 [.pointer (some ⟨s, 0, none⟩)]]) rfl (blob_Names_itB s p x24 J K (by omega)) rfl (fun _ => by rfl) rfl (fun pre => ?_) (fun pre => ?_) ?_ (fun l pre n hok => ?_) ?_ (fun j pre hs => ?_)
  · exact ent_pick
  · exact ent_pick
  · (rw [show dropF K name [] = [] from rfl]; refine ent_app (ent_ex (none, 0) ?_); refine ent_al ?_; exact ent_step row_nil ent_pick)
  ·
   obtain ⟨rr, hrr⟩ := hok
   have hn := hN _ (nms_name (n := n) (by rw [hrr]; simp))
   rw [List.length_cons] at hn
   have hpl := dropF_len K name pre
   have hpl2 : pre.length < (nmsB K).length := by rw [hrr]; simp
   refine wc_front (DropH b7 (dropF K name pre)) ?_
   refine wc_exi fun ac => wc_al ?_
   obtain ⟨a, c⟩ := ac
   obtain ⟨x, hx⟩ : ∃ x, x = basedB K n := ⟨_, rfl⟩
   have hB := blob_based_sp s p J K hK n (by omega)
   rw [← hx] at hB
   obtain ⟨y, hy⟩ : ∃ y, y = ctnB K n := ⟨_, rfl⟩
   have hC := blob_Content_sp s p J K hK n (by omega)
   have hyl : ∀ t, y = some t → t.length ≤ 1073741824 := fun t e => ctnR_len hK (k := 3) (n := n) (by rw [← e, hy]; rfl)
   rw [← hy] at hC
   have hdo : dropF K name (pre ++ [n]) = dropF K name pre ++ dropG name n x y := by rw [dropF_snoc, dropO, hx, hy]
   generalize dropF K name pre = out at *
   refine Zr (k:=Vv (k:=Wg (Zb (k:=Za (k:=Qc (k:=Zd (k:=Vv (k:=?_))))))))
   refine r_call1 hB rfl rfl rfl ?_
   refine Vv (k:=?_)
   refine wo_pv (pv_extract (v := vS (x.getD ([], [])).1) rfl rfl) rfl ?_
   refine wo_pv (pv_extract (v := vS (x.getD ([], [])).2) rfl rfl) rfl ?_
   refine wo_pv (pv_extract (v := vB x.isSome) rfl rfl) rfl ?_
   refine Qv (k:=Vv (k:=Wq (Qc (k:=Qv (k:=Vv (k:=Gi 2 (t:=fun h35 => ?_) (f:=fun h35 => ?_)))))))
   ·
    refine O1 (k:=O1 (k:=O1 (k:=P1 (k:=Vv (k:=O1 (k:=O1 (k:=O1 (k:=P1 (k:=Wq (Z1 (k:=Ze (k:=?_))))))))))))
    refine Xa (Xb ?_)
    refine to_round ?_
    rw [hdo]
    first
    | (have e : dropG name n x y = [] := by clear hdo hB hC hyl hx hy; cases x <;> cases y <;> simp_all [dropG]
       rw [e, List.append_nil]
       refine ent_ex (a, c) ?_
       refine ent_al ?_
       exact ent_pick)
    | (have e : dropG name n x y = [⟨98 :: n, 102 :: y.getD [], false⟩] := by clear hdo hB hC hyl hx hy; cases x <;> cases y <;> simp_all [dropG]
       rw [e]
       refine ent_ex (a59, c59) ?_
       refine ent_al ?_
       simp only [List.length_append, List.length_cons, List.length_nil, Nat.zero_add, List.flatMap_append]
       exact ent_step (row_norm (by rfl) (by rfl)) ent_pick)
   ·
    refine J0 (k:=I0 (k:=Zd (k:=J0 (k:=P0 (k:=Vv (k:=Gi 7 (t:=fun h40 => ?_) (f:=fun h40 => ?_)))))))
    ·
     refine O1 (k:=O1 (k:=O1 (k:=P1 (k:=Wq (Z1 (k:=Ze (k:=Xa (Xb ?_))))))))
     refine to_round ?_
     rw [hdo]
     first
     | (have e : dropG name n x y = [] := by clear hdo hB hC hyl hx hy; cases x <;> cases y <;> simp_all [dropG]
        rw [e, List.append_nil]
        refine ent_ex (a, c) ?_
        refine ent_al ?_
        exact ent_pick)
     | (have e : dropG name n x y = [⟨98 :: n, 102 :: y.getD [], false⟩] := by clear hdo hB hC hyl hx hy; cases x <;> cases y <;> simp_all [dropG]
        rw [e]
        refine ent_ex (a59, c59) ?_
        refine ent_al ?_
        simp only [List.length_append, List.length_cons, List.length_nil, Nat.zero_add, List.flatMap_append]
        exact ent_step (row_norm (by rfl) (by rfl)) ent_pick)
    ·
     refine J0 (k:=I0 (k:=Zd (k:=J0 (k:=P0 (k:=Wq (Zi (t:=fun h44 => ?_) (f:=fun h44 => ?_)))))))
     ·
      refine Ze (k:=Xa (Xb ?_))
      refine to_round ?_
      rw [hdo]
      first
      | (have e : dropG name n x y = [] := by clear hdo hB hC hyl hx hy; cases x <;> cases y <;> simp_all [dropG]
         rw [e, List.append_nil]
         refine ent_ex (a, c) ?_
         refine ent_al ?_
         exact ent_pick)
      | (have e : dropG name n x y = [⟨98 :: n, 102 :: y.getD [], false⟩] := by clear hdo hB hC hyl hx hy; cases x <;> cases y <;> simp_all [dropG]
         rw [e]
         refine ent_ex (a59, c59) ?_
         refine ent_al ?_
         simp only [List.length_append, List.length_cons, List.length_nil, Nat.zero_add, List.flatMap_append]
         exact ent_step (row_norm (by rfl) (by rfl)) ent_pick)
     ·
      refine Zk (k:=Ya (Qc (k:=Zd (k:=Vv (k:=?_)))))
      refine r_call1 hC rfl rfl rfl ?_
      refine Vv (k:=?_)
      refine wo_pv (pv_extract (v := vS (y.getD [])) rfl rfl) rfl ?_
      refine wo_pv (pv_extract (v := vB y.isSome) rfl rfl) rfl ?_
      refine Qv (k:=Wq (Qc (k:=Vv (k:=Wq (Zi (t:=fun h51 => ?_) (f:=fun h51 => ?_))))))
      ·
       have hyl2 : (y.getD []).length ≤ 1073741824 := by cases y with | none => simp at h51 | some t => exact hyl t rfl
       refine Zr (k:=Zd (k:=Vv (k:=?_)))
       refine wo_pv (pv_cat rfl rfl (by simp only [List.length_singleton]; omega)) rfl ?_
       rw [List.singleton_append]
       refine Vv (k:=?_)
       refine wo_pv (pv_cat rfl rfl (by simp only [List.length_singleton]; omega)) rfl ?_
       rw [List.singleton_append]
       refine Vx (Ps [_, _, .bool false]) (k:=Zv [_] (cs := [_, _, _]) (k:=fun b58 => ?_))
       refine r_append1 (sz := 3) (bytes := 40) Tryz.underlying81 ti77 rfl rfl rfl rfl rfl rfl rfl (by rfl) (by rfl) (by omega) (by simp only [maxLen]; omega) rfl (fun a59 c59 => ?_)
       refine Zo (k:=Wn (Yb ?_))
       refine to_round ?_
       rw [hdo]
       first
       | (have e : dropG name n x y = [] := by clear hdo hB hC hyl hx hy; cases x <;> cases y <;> simp_all [dropG]
          rw [e, List.append_nil]
          refine ent_ex (a, c) ?_
          refine ent_al ?_
          exact ent_pick)
       | (have e : dropG name n x y = [⟨98 :: n, 102 :: y.getD [], false⟩] := by clear hdo hB hC hyl hx hy; cases x <;> cases y <;> simp_all [dropG]
          rw [e]
          refine ent_ex (a59, c59) ?_
          refine ent_al ?_
          simp only [List.length_append, List.length_cons, List.length_nil, Nat.zero_add, List.flatMap_append]
          exact ent_step (row_norm (by rfl) (by rfl)) ent_pick)
      ·
       refine Zk (k:=Yb ?_)
       refine to_round ?_
       rw [hdo]
       first
       | (have e : dropG name n x y = [] := by clear hdo hB hC hyl hx hy; cases x <;> cases y <;> simp_all [dropG]
          rw [e, List.append_nil]
          refine ent_ex (a, c) ?_
          refine ent_al ?_
          exact ent_pick)
       | (have e : dropG name n x y = [⟨98 :: n, 102 :: y.getD [], false⟩] := by clear hdo hB hC hyl hx hy; cases x <;> cases y <;> simp_all [dropG]
          rw [e]
          refine ent_ex (a59, c59) ?_
          refine ent_al ?_
          simp only [List.length_append, List.length_cons, List.length_nil, Nat.zero_add, List.flatMap_append]
          exact ent_step (row_norm (by rfl) (by rfl)) ent_pick)
  ·
   skip
   refine Yb (Ya (Za (k:=?_)))
   have hfl := dropF_len K name (nmsB K)
   refine wc_front (DropH b7 (dropF K name (nmsB K))) ?_
   refine wc_exi fun ac => wc_al ?_
   obtain ⟨a, c⟩ := ac
   generalize dropF K name (nmsB K) = out at *
   refine Zr (k:=Zd (k:=Zd (k:=?_)))
   refine wo_pv (pv_cat rfl rfl (by simp only [List.length_singleton]; omega)) rfl ?_
   rw [List.singleton_append]
   refine Vx (Ps [_, vS [], _]) (k:=Zv [_] (cs := [_, _, _]) (k:=fun b64 => ?_))
   refine r_append1 (sz := 3) (bytes := 40) Tryz.underlying81 ti77 rfl rfl rfl rfl rfl rfl rfl (by rfl) (by rfl) (by omega) (by simp only [maxLen]; omega) rfl (fun a65 c65 => ?_)
   refine Vv (k:=Wq (Zt (k:=?_)))
   rw [if_pos (by first | assumption | simp_all)]
   refine fin_ret (a65, c65) (vs := [_]) (Cs := []) rfl (.tmp rfl .nil) (by simp only [List.length_append, List.length_cons, List.length_nil, Nat.zero_add]; rfl) trivial ?_
   simp only [List.length_append, List.length_cons, List.length_nil, Nat.zero_add, List.flatMap_append]
   exact ent_step (row_norm (by rfl) (by rfl)) ent_pick
  ·
   exact wc_no (fun s => by obtain ⟨_, _, _, _, a, _⟩ := s; exact a)
end
section
set_option maxRecDepth 100000
/-- The first row of a key. -/
def getL : List Rw → Bs → Option Bs
 | [], _ => none
 | r :: l, k => if r.key = k then some r.val else getL l k
theorem getL_step {l : List Rw} {j : Nat} (h : j < l.length) (k : Bs) : getL (l.drop j) k = if l[j].key = k then some l[j].val else getL (l.drop (j + 1)) k := by rw [List.drop_eq_getElem_cons h]; rfl
theorem ref5_Get_sp {B : HP} {a : Option Addr} (n c : Nat) (l : List Rw) (sh : SlA B a (l.flatMap rowC)) (hn : l.length = n) (hb : n ≤ 140737488355328) (k : Bs) :
    Sp1 Tryz.prog 101 [.slice a n c, vS k] [B] (apV (getL l k)) [B] := by
 subst hn
 haveI : RdSl a (l.flatMap rowC) [B] := ⟨⟨B, sh, .here⟩⟩
 refine Sp.body (n := 21) Tryz.call101 Tryz.func101 rfl rfl rfl ?_
 refine Qc (k:=Qv (k:=Wq (Za (k:=Qc (k:=Qv (k:=Vv (k:=Wq ?_)))))))
 refine Zb (k:=?_)
 refine p_loop (fun (i : { j : Nat // j ≤ l.length ∧ getL l k = getL (l.drop j) k }) => [(1, vS k), (8, .slice a l.length c), (9, vI l.length), (10, vI i.1)]) (fun (i : { j : Nat // j ≤ l.length ∧ getL l k = getL (l.drop j) k }) => [B]) (fun (i : { j : Nat // j ≤ l.length ∧ getL l k = getL (l.drop j) k }) => l.length - i.1) rfl (⟨0, Nat.zero_le _, rfl⟩) ?_ ?_ (fun i => ?_)
 · exact ⟨rfl, rfl, rfl, rfl, trivial⟩
 ·
  exact Ent.refl _
 obtain ⟨j, hj, hg⟩ := i
 try dsimp only
 refine Qc (k:=Vv (k:=Wq (Za (k:=Zi (t:=fun h11 => ?_) (f:=fun h11 => ?_)))))
 ·
  refine Zk (k:=Ya (Za (k:=Zb (k:=Za (k:=?_)))))
  have hjl : j < l.length := by omega
  rw [getL_step hjl] at hg
  refine Zr (k:=Ye 3 (k:=?_))
  refine r_eloada (vs := [_, _, _]) (sz := 3) Tryz.underlying77 rfl ti77 rfl rfl (by rw [flat_len (sz := 3) (fun _ => rfl)]; omega) rfl (by refine get_flat (fun x => ?_) ?_ <;> first | rfl | omega) rfl ?_
  refine Zc [vS [], vS [], .bool false] (k:=fun b7 => Zp (k:=Wq (Qc (k:=Qx 0 9 (k:=Qv (k:=Wq (Zi (t:=fun h17 => ?_) (f:=fun h17 => ?_))))))))
  ·
   refine Qc (k:=Qx 1 9 (k:=Qv (k:=Wq (Zt (k:=Vb (Va (Vi (Vb ?_))))))))
   refine Va ?_
   rw [hg, if_pos (by first | exact h17 | exact h17.symm)]
   exact fin_ret () (vs := [_, _]) (Cs := []) rfl (.tmp rfl (.tmp rfl .nil)) rfl trivial ent_pick
  ·
   refine Zk (k:=Yb (Ya (Zr (k:=Qv (k:=Wn ?_)))))
   exact to_inv ⟨j + 1, by omega, by rw [hg, if_neg h17]⟩ (by dsimp only; omega) ⟨rfl, rfl, rfl, rfl, trivial⟩ ent_pick
 ·
  refine Ze (k:=Xa (Xi (Xb (Ya (Qc (k:=Qv (k:=Wq (Zt (k:=?_)))))))))
  have hjl : j = l.length := by omega
  subst hjl
  rw [hg, List.drop_length]
  exact fin_ret () (vs := [_, _]) (Cs := []) rfl (.tmp rfl (.tmp rfl .nil)) rfl trivial ent_pick
/-- How many deltas there are, by the document. -/
def depG (d : Nat → Bs → Int) (k : Nat) : Option Bs → Int
 | none => if k = 0 then -1 else k
 | some v => if v = [] ∨ v.getD 0 0 ≠ 100 ∨ v.length < 41 then k else d (k + 1) ((v.drop 1).take 40)
def depL (l : List Rw) : Nat → Nat → Bs → Int
 | 0, k, _ => k
 | f + 1, k, n => depG (depL l f) k (getL l (98 :: n))
theorem zb46ret7 {G : Prop} (h : G := by
    rw [hd2]
    first
    | (exfalso; simp at h19; done)
    | (first
       | rw [depG, if_neg (by have := h22; omega)]
       | rw [depG, if_pos (by first | exact .inl h29 | exact .inr (.inl fun h => absurd ((e100 _).2 h) h34) | exact .inr (.inr (by omega)))]
       exact fin_ret () (vs := [_]) (Cs := []) rfl (.tmp rfl .nil) rfl trivial ent_pick)) : G := h
theorem zb46next0 {G : Prop} (h : G := by
    have hbad : ¬ (v = [] ∨ v.getD 0 0 ≠ 100 ∨ v.length < 41) := by
     rintro (h | h | h)
     · exact h29 h
     · exact h34 (fun h2 => h ((e100 _).1 h2))
     · omega
    rw [depG, if_neg hbad] at hd2
    exact to_inv ⟨(j + 1, (v.drop 1).take 40), by dsimp only; omega, by dsimp only; rw [List.length_take]; omega, by dsimp only; rw [show 4 - (j + 1) = 3 - j by omega]; exact hd2⟩ (by dsimp only; omega) ⟨rfl, rfl, rfl, trivial⟩ ent_pick) : G := h
theorem ref5_Depth_sp {B : HP} {a : Option Addr} (n c : Nat) (l : List Rw) (sh : SlA B a (l.flatMap rowC)) (hn : l.length = n) (hb : n ≤ 140737488355328) (k : Bs) (hk : k.length ≤ 1073741824) (d0 : Int) (hd0 : depL l 4 0 k = d0) :
    Sp1 Tryz.prog 46 [.slice a n c, vS k] [B] (vI d0) [B] := by
 have e100 : ∀ c : UInt8, ((c.toNat : Int) = 100) ↔ c = 100 := fun c => u8_eq c 100 (by decide)
 refine Sp.body (n := 45) Tryz.call46 Tryz.func46 rfl rfl rfl ?_
 refine Qc (k:=Vv (k:=Wq (Qc (k:=Vv (k:=Wq (Za (k:=Zb (k:=?_))))))))
 refine p_loop (fun (i : { x : Nat × Bs // x.1 ≤ 4 ∧ x.2.length ≤ 1073741824 ∧ d0 = depL l (4 - x.1) x.1 x.2 }) => [(0, .slice a n c), (1, vS i.1.2), (5, vI i.1.1)]) (fun (i : { x : Nat × Bs // x.1 ≤ 4 ∧ x.2.length ≤ 1073741824 ∧ d0 = depL l (4 - x.1) x.1 x.2 }) => [B]) (fun (i : { x : Nat × Bs // x.1 ≤ 4 ∧ x.2.length ≤ 1073741824 ∧ d0 = depL l (4 - x.1) x.1 x.2 }) => 4 - i.1.1) rfl (⟨(0, k), Nat.zero_le _, hk, hd0.symm⟩) ?_ ?_ (fun i => ?_)
 · exact ⟨rfl, rfl, rfl, trivial⟩
 ·
  exact Ent.refl _
 obtain ⟨⟨j, q⟩, hj, hq, hd⟩ := i
 dsimp only at hj hq hd
 try dsimp only
 refine Za (k:=Qc (k:=Qv (k:=Wq (Zi (t:=fun h9 => ?_) (f:=fun h9 => ?_)))))
 ·
  refine Zk (k:=Ya (Zb (k:=Za (k:=?_))))
  have hj4 : j ≤ 3 := by omega
  have hG := ref5_Get_sp n c l sh hn hb (98 :: q)
  obtain ⟨y, hy⟩ : ∃ y, y = getL l (98 :: q) := ⟨_, rfl⟩
  have hd2 : d0 = depG (depL l (3 - j)) j y := by rw [hd, show 4 - j = (3 - j) + 1 by omega, hy]; rfl
  rw [← hy] at hG
  refine Zr (k:=Qv (k:=?_))
  refine wo_pv (pv_cat rfl rfl (by simp only [List.length_singleton]; omega)) rfl ?_
  rw [List.singleton_append]
  refine r_call1 hG rfl rfl rfl ?_
  refine Vv (k:=?_)
  refine wo_pv (pv_extract (v := vS (y.getD [])) rfl rfl) rfl ?_
  refine wo_pv (pv_extract (v := vB y.isSome) rfl rfl) rfl ?_
  refine Qv (k:=Wq (Za (k:=Qc (k:=Qv (k:=Vv (k:=Gi 2 (t:=fun h19 => ?_) (f:=fun h19 => ?_)))))))
  ·
   refine J1 (k:=J1 (k:=P1 (k:=Wq (Zi (t:=fun h22 => ?_) (f:=fun h22 => ?_)))))
   ·
    refine Qc (k:=Vv (k:=Wq (Zt (k:=Va (Vb (Vi (Vb (Va ?_))))))))
    obtain rfl : y = none := by cases y with | none => rfl | some z => simp at h19
    rw [hd2, depG, if_pos (by omega)]
    exact fin_ret () (vs := [_]) (Cs := []) rfl (.tmp rfl .nil) rfl trivial ent_pick
   ·
    refine Zk (k:=Ya (Za (k:=Qc (k:=Qv (k:=Vv (k:=Gi 2 (t:=fun h25 => ?_) (f:=fun h25 => ?_)))))))
    ·
     obtain rfl : y = none := by cases y with | none => rfl | some z => simp at h25
     refine O1 (k:=O1 (k:=P1 (k:=Vv (k:=O1 (k:=O1 (k:=O1 (k:=P1 (k:=Vv (k:=O1 (k:=O1 (k:=O1 (k:=?_))))))))))))
     refine P1 (k:=Wq (Z1 (k:=Qc (k:=Qv (k:=Wq (Zt (k:=Va (Vb (Vi ?_)))))))))
     refine Vb (Va ?_)
     exact zb46ret7
    ·
     obtain ⟨v, rfl⟩ : ∃ z, y = some z := by cases y with | none => simp at h25 | some z => exact ⟨z, rfl⟩
     dsimp only [Option.getD_some]
     refine J0 (k:=J0 (k:=P0 (k:=Vv (k:=Gi 6 (t:=fun h29 => ?_) (f:=fun h29 => ?_)))))
     ·
      refine O1 (k:=O1 (k:=O1 (k:=P1 (k:=Vv (k:=O1 (k:=O1 (k:=O1 (k:=P1 (k:=Wq (Z1 (k:=Za (k:=?_))))))))))))
      refine Zr (k:=Qv (k:=Wq (Zt (k:=Va (Vb (Vi (Vb (Va ?_))))))))
      exact zb46ret7
     ·
      have hv0 : 0 < v.length := List.length_pos_iff.2 h29
      refine J0 (k:=I0 (k:=?_))
      refine wo_pv (pv_indexm (m := 0) Tryz.underlying9 rfl rfl rfl (by omega)) rfl ?_
      refine J0 (k:=P0 (k:=Vv (k:=Gi 11 (t:=fun h34 => ?_) (f:=fun h34 => ?_))))
      ·
       refine O1 (k:=O1 (k:=O1 (k:=P1 (k:=Wq (Z1 (k:=Qc (k:=Qv (k:=Wq (Zt (k:=?_))))))))))
       refine Va (Vb (Vi (Vb (Va ?_))))
       exact zb46ret7
      ·
       refine J0 (k:=J0 (k:=J0 (k:=P0 (k:=Wq (Zi (t:=fun h38 => ?_) (f:=fun h38 => ?_))))))
       ·
        refine Qc (k:=Qv (k:=Wq (Zt (k:=Va (Vb (Vi (Vb (Va ?_))))))))
        exact zb46ret7
       ·
        refine Zk (k:=Ya (Dw [] (k:=?_)))
        refine Dv 0 (k:=Dv 1 (k:=Dv 2 (k:=?_)))
        refine d_first 3 rfl rfl rfl (by kernel_rfl) (by kernel_rfl) (tl_pv (pv_slice_inm (m := 1) (o := 41) Tryz.underlying9 rfl rfl rfl rfl rfl (by omega) (by omega))) ?_
        refine Dv 4 (k:=Dv 5 (k:=Dd (k:=Yb ?_)))
        exact zb46next0
  ·
   refine O0 (k:=O0 (k:=P0 (k:=Wq (Z0 (k:=Zk (k:=Ya (Za (k:=Qc (k:=Qv (k:=?_))))))))))
   refine Vv (k:=Gi 2 (t:=fun h25 => ?_) (f:=fun h25 => ?_))
   ·
    obtain rfl : y = none := by cases y with | none => rfl | some z => simp at h25
    refine O1 (k:=O1 (k:=P1 (k:=Vv (k:=O1 (k:=O1 (k:=O1 (k:=P1 (k:=Vv (k:=O1 (k:=O1 (k:=O1 (k:=?_))))))))))))
    refine P1 (k:=Wq (Z1 (k:=Qc (k:=Qv (k:=Wq (Zt (k:=Va (Vb (Vi ?_)))))))))
    refine Vb (Va ?_)
    exact zb46ret7
   ·
    obtain ⟨v, rfl⟩ : ∃ z, y = some z := by cases y with | none => simp at h25 | some z => exact ⟨z, rfl⟩
    dsimp only [Option.getD_some]
    refine J0 (k:=J0 (k:=P0 (k:=Vv (k:=Gi 6 (t:=fun h29 => ?_) (f:=fun h29 => ?_)))))
    ·
     refine O1 (k:=O1 (k:=O1 (k:=P1 (k:=Vv (k:=O1 (k:=O1 (k:=O1 (k:=P1 (k:=Wq (Z1 (k:=Za (k:=?_))))))))))))
     refine Zr (k:=Qv (k:=Wq (Zt (k:=Va (Vb (Vi (Vb (Va ?_))))))))
     exact zb46ret7
    ·
     have hv0 : 0 < v.length := List.length_pos_iff.2 h29
     refine J0 (k:=I0 (k:=?_))
     refine wo_pv (pv_indexm (m := 0) Tryz.underlying9 rfl rfl rfl (by omega)) rfl ?_
     refine J0 (k:=P0 (k:=Vv (k:=Gi 11 (t:=fun h34 => ?_) (f:=fun h34 => ?_))))
     ·
      refine O1 (k:=O1 (k:=O1 (k:=P1 (k:=Wq (Z1 (k:=Qc (k:=Qv (k:=Wq (Zt (k:=?_))))))))))
      refine Va (Vb (Vi (Vb (Va ?_))))
      exact zb46ret7
     ·
      refine J0 (k:=J0 (k:=J0 (k:=P0 (k:=Wq (Zi (t:=fun h38 => ?_) (f:=fun h38 => ?_))))))
      ·
       refine Qc (k:=Qv (k:=Wq (Zt (k:=Va (Vb (Vi (Vb (Va ?_))))))))
       exact zb46ret7
      ·
       refine Zk (k:=Ya (Dw [] (k:=?_)))
       refine Dv 0 (k:=Dv 1 (k:=Dv 2 (k:=?_)))
       refine d_first 3 rfl rfl rfl (by kernel_rfl) (by kernel_rfl) (tl_pv (pv_slice_inm (m := 1) (o := 41) Tryz.underlying9 rfl rfl rfl rfl rfl (by omega) (by omega))) ?_
       refine Dv 4 (k:=Dv 5 (k:=Dd (k:=Yb ?_)))
       exact zb46next0
 ·
  refine Ze (k:=Xa (Xi (Xb (Ya (Qc (k:=Qv (k:=Wq (Zt (k:=?_)))))))))
  have hj4 : j = 4 := by omega
  subst hj4
  rw [hd]
  exact fin_ret () (vs := [_]) (Cs := []) rfl (.tmp rfl .nil) rfl trivial ent_pick
end
section
set_option maxRecDepth 100000
def dpG (d : Bs → Option Bs) (k : Nat) : Option Bs → Option Bs
 | none => none
 | some v => if v = [] then none else if v.getD 0 0 = 102 then some (v.drop 1)
   else if v.getD 0 0 ≠ 100 ∨ v.length < 41 ∨ k = 0 then none else (d ((v.drop 1).take 40)).bind fun s => applyB s (v.drop 41)
/-- A content, by the document. -/
def dpL (l : List Rw) : Nat → Bs → Option Bs
 | 0, n => dpG (fun _ => none) 0 (getL l (98 :: n))
 | k + 1, n => dpG (dpL l k) (k + 1) (getL l (98 :: n))
theorem getL_len {l : List Rw} (hv : ∀ r ∈ l, r.val.length ≤ 1073741824) {k v : Bs} (h : getL l k = some v) : v.length ≤ 1073741824 := by
 induction l with
 | nil => cases h
 | cons r l ih =>
   simp only [getL] at h
   split at h
   · cases h; exact hv r (by simp)
   · exact ih (fun r hr => hv r (by simp [hr])) h
theorem dpG_len {d : Bs → Option Bs} {k : Nat} {y : Option Bs} (hy : ∀ v, y = some v → v.length ≤ 1073741824) {t : Bs} (h : dpG d k y = some t) : t.length ≤ 1073741824 := by
 unfold dpG at h
 split at h
 · cases h
 · rename_i v
   have hl := hy v rfl
   split at h
   · cases h
   · split at h
     · cases h; rw [List.length_drop]; omega
     · split at h
       · cases h
       · cases e : d ((v.drop 1).take 40) with
         | none => rw [e] at h; cases h
         | some s =>
           rw [e] at h
           have := applyB_len (show applyB s (v.drop 41) = some t from h)
           omega
theorem dpL_len {l : List Rw} (hv : ∀ r ∈ l, r.val.length ≤ 1073741824) {k : Nat} {n t : Bs} (h : dpL l k n = some t) : t.length ≤ 1073741824 := by
 cases k with
 | zero => exact dpG_len (fun v e => getL_len hv e) h
 | succ k => exact dpG_len (fun v e => getL_len hv e) h
theorem zb102ret3 {G : Prop} (h : G := by
    first
    | exact fin_ret () (vs := [_, _]) (Cs := []) rfl (.tmp rfl (.tmp rfl .nil)) rfl trivial ent_pick
    | (rw [show dpG d k (some v) = none by rw [dpG, if_pos (by assumption)]]
       exact fin_ret () (vs := [_, _]) (Cs := []) rfl (.tmp rfl (.tmp rfl .nil)) rfl trivial ent_pick)) : G := h
theorem zb102ret7 {G : Prop} (h : G := by
    rw [dpG, if_neg h24, if_neg (fun h => h27 ((e102 _).2 h)), if_pos (by first | exact .inl fun h => absurd ((e100 _).2 h) h33 | exact .inr (.inl (by omega)) | exact .inr (.inr (by omega)))]
    exact fin_ret () (vs := [_, _]) (Cs := []) rfl (.tmp rfl (.tmp rfl .nil)) rfl trivial ent_pick) : G := h
set_option maxHeartbeats 2000000 in
theorem ref5_deep_step {B : HP} {a : Option Addr} (n c : Nat) (l : List Rw) (sh : SlA B a (l.flatMap rowC)) (hn : l.length = n) (hb : n ≤ 140737488355328) (hv : ∀ r ∈ l, r.val.length ≤ 1073741824) (k : Nat) (hk : k ≤ 3) (d : Bs → Option Bs) (hdl : ∀ q t, d q = some t → t.length ≤ 1073741824)
    (hD : k ≠ 0 → ∀ q : Bs, q.length ≤ 1073741824 → Sp1 Tryz.prog 102 [.slice a n c, vS q, vI ((k : Int) - 1)] [B] (apV (d q)) [B]) (q : Bs) (hq : q.length ≤ 1073741824) :
    Sp1 Tryz.prog 102 [.slice a n c, vS q, vI k] [B] (apV (dpG d k (getL l (98 :: q)))) [B] := by
 have e100 : ∀ c : UInt8, ((c.toNat : Int) = 100) ↔ c = 100 := fun c => u8_eq c 100 (by decide)
 have e102 : ∀ c : UInt8, ((c.toNat : Int) = 102) ↔ c = 102 := fun c => u8_eq c 102 (by decide)
 have hG := ref5_Get_sp n c l sh hn hb (98 :: q)
 have hyl := fun v => getL_len (k := 98 :: q) (v := v) hv
 generalize getL l (98 :: q) = y at hG hyl ⊢
 refine Sp.body (n := 59) Tryz.call102 Tryz.func102 rfl rfl rfl ?_
 refine Qc (k:=Qv (k:=Wq (Qc (k:=Qv (k:=?_)))))
 refine wo_pv (pv_cat rfl rfl (by simp only [List.length_singleton]; omega)) rfl ?_
 rw [List.singleton_append]
 refine r_call1 hG rfl rfl rfl ?_
 refine Vv (k:=?_)
 refine wo_pv (pv_extract (v := vS (y.getD [])) rfl rfl) rfl ?_
 refine wo_pv (pv_extract (v := vB y.isSome) rfl rfl) rfl ?_
 refine Qv (k:=Wq (Za (k:=Qc (k:=Qv (k:=Vv (k:=Gi 2 (t:=fun h21 => ?_) (f:=fun h21 => ?_)))))))
 ·
  obtain rfl : y = none := by cases y with | none => rfl | some z => simp at h21
  refine O1 (k:=O1 (k:=P1 (k:=Wq (Z1 (k:=Qc (k:=Qv (k:=Wq (Zt (k:=Va ?_)))))))))
  exact zb102ret3
 ·
  obtain ⟨v, rfl⟩ : ∃ z, y = some z := by cases y with | none => simp at h21 | some z => exact ⟨z, rfl⟩
  have hvl := hyl v rfl
  dsimp only [Option.getD_some]
  refine J0 (k:=J0 (k:=P0 (k:=Wq (Zi (t:=fun h24 => ?_) (f:=fun h24 => ?_)))))
  ·
   refine Qc (k:=Qv (k:=Wq (Zt (k:=Va ?_))))
   exact zb102ret3
  ·
   have hv0 : 0 < v.length := List.length_pos_iff.2 h24
   refine Zk (k:=Ya (Za (k:=Qc (k:=Vv (k:=?_)))))
   refine wo_pv (pv_indexm (m := 0) Tryz.underlying9 rfl rfl rfl (by omega)) rfl ?_
   refine Vv (k:=Wq (Zi (t:=fun h27 => ?_) (f:=fun h27 => ?_)))
   ·
    refine Qc (k:=Vv (k:=?_))
    refine wo_pv (pv_slice_fromm (m := 1) Tryz.underlying9 rfl rfl rfl (by omega)) rfl ?_
    refine Qv (k:=Wq (Zt (k:=Va ?_)))
    rw [dpG, if_neg h24, if_pos ((e102 _).1 h27)]
    exact fin_ret () (vs := [_, _]) (Cs := []) rfl (.tmp rfl (.tmp rfl .nil)) rfl trivial ent_pick
   ·
    refine Zk (k:=Ya (Za (k:=Qc (k:=Vv (k:=?_)))))
    refine wo_pv (pv_indexm (m := 0) Tryz.underlying9 rfl rfl rfl (by omega)) rfl ?_
    refine Qv (k:=Gi 3 (t:=fun h33 => ?_) (f:=fun h33 => ?_))
    ·
     refine O1 (k:=O1 (k:=O1 (k:=P1 (k:=Vv (k:=O1 (k:=O1 (k:=P1 (k:=Wq (Z1 (k:=Qc (k:=?_)))))))))))
     refine Qv (k:=Wq (Zt (k:=Va ?_)))
     exact zb102ret7
    ·
     refine J0 (k:=J0 (k:=J0 (k:=P0 (k:=Vv (k:=Gi 8 (t:=fun h38 => ?_) (f:=fun h38 => ?_))))))
     ·
      refine O1 (k:=O1 (k:=P1 (k:=Wq (Z1 (k:=Qc (k:=Qv (k:=Wq (Zt (k:=Va ?_)))))))))
      exact zb102ret7
     ·
      refine J0 (k:=J0 (k:=P0 (k:=Wq (Zi (t:=fun h41 => ?_) (f:=fun h41 => ?_)))))
      ·
       refine Qc (k:=Qv (k:=Wq (Zt (k:=Va ?_))))
       exact zb102ret7
      ·
       have hk0 : k ≠ 0 := by omega
       have hbad : ¬ (v.getD 0 0 ≠ 100 ∨ v.length < 41 ∨ k = 0) := by
        rintro (h | h | h)
        · exact h33 (fun h2 => h ((e100 _).1 h2))
        · omega
        · exact hk0 h
       rw [dpG, if_neg h24, if_neg (fun h => h27 ((e102 _).2 h)), if_neg hbad]
       have hDq := hD hk0 ((v.drop 1).take 40) (by rw [List.length_take]; omega)
       have hzl := hdl ((v.drop 1).take 40)
       generalize d ((v.drop 1).take 40) = z at hDq hzl ⊢
       refine Zk (k:=Ya (Qc (k:=Qv (k:=?_))))
       refine wo_pv (pv_slice_inm (m := 1) (o := 41) Tryz.underlying9 rfl rfl rfl rfl rfl (by omega) (by omega)) rfl ?_
       refine Qv (k:=?_)
       refine r_call1 hDq rfl rfl rfl ?_
       refine Vv (k:=?_)
       refine wo_pv (pv_extract (v := vS (z.getD [])) rfl rfl) rfl ?_
       refine wo_pv (pv_extract (v := vB z.isSome) rfl rfl) rfl ?_
       refine Qv (k:=Wq (Za (k:=Qc (k:=Qv (k:=Wq (Zi (t:=fun h52 => ?_) (f:=fun h52 => ?_)))))))
       ·
        obtain rfl : z = none := by cases z with | none => rfl | some w => simp at h52
        refine Qc (k:=Qv (k:=Wq (Zt (k:=Va ?_))))
        exact fin_ret () (vs := [_, _]) (Cs := []) rfl (.tmp rfl (.tmp rfl .nil)) rfl trivial ent_pick
       ·
        obtain ⟨w, rfl⟩ : ∃ w, z = some w := by cases z with | none => simp at h52 | some w => exact ⟨w, rfl⟩
        have hwl := hzl w rfl
        dsimp only [Option.getD_some, Option.bind_some]
        refine Zk (k:=Ya (Qc (k:=Qv (k:=?_))))
        refine wo_pv (pv_slice_fromm (m := 41) Tryz.underlying9 rfl rfl rfl (by omega)) rfl ?_
        refine r_callF (ref1_Apply_sp w (v.drop 41) (by omega) (by rw [List.length_drop]; omega)) rfl rfl rfl ?_
        generalize applyB w (v.drop 41) = u
        refine wo_pv (pv_extract (v := vS (u.getD [])) rfl rfl) rfl ?_
        refine wo_pv (pv_extract (v := vB u.isSome) rfl rfl) rfl ?_
        refine Qv (k:=Wq (Zt (k:=?_)))
        exact fin_ret () (vs := [_, _]) (Cs := []) rfl (.tmp rfl (.tmp rfl .nil)) rfl trivial ent_pick
theorem ref5_deep_sp {B : HP} {a : Option Addr} (n c : Nat) (l : List Rw) (sh : SlA B a (l.flatMap rowC)) (hn : l.length = n) (hb : n ≤ 140737488355328) (hv : ∀ r ∈ l, r.val.length ≤ 1073741824) :
    ∀ (k : Nat), k ≤ 3 → ∀ (q : Bs), q.length ≤ 1073741824 → Sp1 Tryz.prog 102 [.slice a n c, vS q, vI k] [B] (apV (dpL l k q)) [B] := by
 intro k
 induction k with
 | zero => exact fun hk => ref5_deep_step n c l sh hn hb hv 0 hk (fun _ => none) (fun q t e => by cases e) (fun h => absurd rfl h)
 | succ k ih =>
   refine fun hk => ref5_deep_step n c l sh hn hb hv (k + 1) hk (dpL l k) (fun q t e => dpL_len hv e) (fun _ q hq => ?_)
   rw [show ((k + 1 : Nat) : Int) - 1 = (k : Int) by omega]
   exact ih (by omega) q hq
theorem ref5_Content_sp {B : HP} {a : Option Addr} (n c : Nat) (l : List Rw) (sh : SlA B a (l.flatMap rowC)) (hn : l.length = n) (hb : n ≤ 140737488355328) (hv : ∀ r ∈ l, r.val.length ≤ 1073741824) (q : Bs) (hq : q.length ≤ 1073741824) :
    Sp1 Tryz.prog 47 [.slice a n c, vS q] [B] (apV (dpL l 3 q)) [B] := by
 have hD := ref5_deep_sp n c l sh hn hb hv 3 (Nat.le_refl _) q hq
 generalize dpL l 3 q = u at hD ⊢
 refine Sp.body (n := 11) Tryz.call47 Tryz.func47 rfl rfl rfl ?_
 refine Qc (k:=Qv (k:=Wq (Qc (k:=Qv (k:=?_)))))
 refine r_call1 hD rfl rfl rfl ?_
 refine wo_pv (pv_extract (v := vS (u.getD [])) rfl rfl) rfl ?_
 refine wo_pv (pv_extract (v := vB u.isSome) rfl rfl) rfl ?_
 refine Qv (k:=Wq (Zt (k:=?_)))
 exact fin_ret () (vs := [_, _]) (Cs := []) rfl (.tmp rfl (.tmp rfl .nil)) rfl trivial ent_pick
end
end Go.Proofs.YtibccdcemcgkeaaGreat
