/- Texts of this proof, put together: SDisk, SlFn, SJour0, SJour. -/
import Derived.Test.YtibccdcemcgkeaaGreatQ07
set_option linter.unusedVariables false
set_option linter.unusedSimpArgs false
namespace Go.Proofs.YtibccdcemcgkeaaGreat
section
set_option maxRecDepth 100000
theorem bits_Mul_sp (x y : Nat) (hx : x < 18446744073709551616) (hy : y < 18446744073709551616) : SpF Tryz.prog 130 [.int .u64 x, .int .u64 y] (.tuple #[.int .u64 ((x * y / 18446744073709551616 : Nat) : Int), .int .u64 ((x * y % 18446744073709551616 : Nat) : Int)]) :=
 SpF.of_same Tryz.call130 fun w => Tryz.bits_Mul x y hx hy w
theorem copy_step (x z : Value) (j k : Nat) (h0 : 0 < j) (h : j < k) :
    let cur := List.replicate j x ++ List.replicate (k - j) z
    let m := Nat.min j (k - j)
    cur.take (0 + j) ++ List.replicate m x ++ cur.drop (0 + j + m) = List.replicate (j + m) x ++ List.replicate (k - (j + m)) z := by
 intro cur m
 have hm : m ≤ k - j := Nat.min_le_right _ _
 have e1 : cur.take (0 + j) = List.replicate j x := by
  rw [Nat.zero_add]
  have : (List.replicate j x).length = j := List.length_replicate
  conv => lhs; arg 1; rw [← this]
  exact List.take_left
 have e2 : cur.drop (0 + j + m) = List.replicate (k - (j + m)) z := by
  rw [Nat.zero_add, ← List.drop_drop]
  have : (List.replicate j x).length = j := List.length_replicate
  have e3 : cur.drop j = List.replicate (k - j) z := by
   conv => lhs; arg 1; rw [← this]
   exact List.drop_left
  rw [e3, List.drop_replicate]; congr 1; omega
 rw [e1, e2, List.append_assoc, ← List.append_assoc, List.replicate_append_replicate]
theorem take_rep (x z : Value) (j k : Nat) : ((List.replicate j x ++ List.replicate (k - j) z).drop 0).take (Nat.min j (k - j)) = List.replicate (Nat.min j (k - j)) x := by
 rw [List.drop_zero, List.take_append_of_le_length (by simp; exact Nat.min_le_left _ _), List.take_replicate]
 congr 1
 exact Nat.min_eq_left (Nat.min_le_left _ _)
theorem u64_in {m : Int} (h : 0 ≤ m ∧ m ≤ 18446744073709551615) : IntKind.u64.wrap m = m := by rw [IntKind.wrap_u64]; omega
theorem bits_Mul_one (k : Nat) (hk : k ≤ 2000) : SpF Tryz.prog 130 [.int .u64 (1 : Int), .int .u64 (k : Int)] (.tuple #[.int .u64 0, .int .u64 (k : Int)]) := by
 have := bits_Mul_sp 1 k (by omega) (by omega)
 have e1 : 1 * k / 18446744073709551616 = 0 := by omega
 have e2 : 1 * k % 18446744073709551616 = k := by omega
 rw [e1, e2] at this
 exact this
theorem slices_Repeat_sp (b k : Nat) (s : List UInt8) (hk : 1 ≤ k) (hk2 : k ≤ 2000) : Sp Tryz.prog 84 [.slice (some ⟨b, 0, none⟩) 1 1, vI k] [Ce b 9 [vS s]] (X := Nat) (fun g => .slice (some ⟨g, 0, none⟩) k k) (fun _ => True) (fun g => [Row 9 1 (.slice (some ⟨g, 0, none⟩) k k) k ((List.replicate k s).map vS)]) := by
 refine Sp.body (n := 48) Tryz.call84 Tryz.func84 rfl rfl rfl ?_
 refine Qc (k:=Vv (k:=Wq (Za (k:=Qc (k:=Qv (k:=Wq (Zi (t:=fun h10 => ?_) (f:=fun h10 => ?_))))))))
 ·
  exfalso; omega
  --done
 ·
  refine Zk (k:=Ya (Qc (k:=Qv (k:=?_))))
  refine wo_pv (pv_conv_in rfl Tryz.underlying3 Tryz.underlying105 (u64_in (by omega))) rfl ?_
  refine Vv (k:=?_)
  refine wo_pv (pv_conv_in rfl Tryz.underlying3 Tryz.underlying105 (u64_in (by omega))) rfl ?_
  refine r_callF (bits_Mul_one k hk2) rfl rfl rfl ?_
  refine Qv (k:=Qv (k:=Vv (k:=Wq (Za (k:=Qc (k:=Qv (k:=Vv (k:=?_))))))))
  refine Gi 2 (t:=fun h23 => ?_) (f:=fun h23 => ?_)
  ·
   exfalso; omega
   --done
  ·
   refine J0 (k:=J0 (k:=P0 (k:=Wq (Zi (t:=fun h26 => ?_) (f:=fun h26 => ?_)))))
   ·
    exfalso; omega
    --done
   ·
    refine Zk (k:=Ya (Qc (k:=Vv (k:=?_))))
    refine wo_pv (pv_conv_in rfl Tryz.underlying105 Tryz.underlying3 (i64_in' (by omega))) rfl ?_
    refine r_makeSlice (z := vS []) Tryz.underlying27 ti9 rfl rfl rfl rfl rfl (by omega) (by rw [show Tryz.t9.bytes = 16 from rfl]; omega) rfl (fun b30 => ?_)
    refine Vv (k:=Wq (Qc (k:=Qv (k:=?_))))
    refine wo_ent' ent_true ?_
    refine wo_opT (by intro c; simp) (opt_copy Tryz.underlying27 rfl rfl rfl (.inr (shows_ce (b := b) (T := 9) (l := [vS s]))) (q := 1) (Nat.min_eq_left hk) rfl (by simp) (by simp; omega) rfl (cur := List.replicate k (vS [])) (T := 9)) rfl (fun _ _ => ?_)
    have e33 : (List.replicate k (vS [])).take 0 ++ (List.take 1 (List.drop 0 [vS s])) ++ (List.replicate k (vS [])).drop (0 + 1) = List.replicate 1 (vS s) ++ List.replicate (k - 1) (vS []) := by
     simp [List.drop_replicate]
    rw [e33]
    refine Vv (k:=Wq (Za (k:=Zb (k:=?_))))
    refine p_loop (fun (i : { j : Nat // 1 ≤ j ∧ j ≤ k }) => [(8, vI i.1), (7, .slice (some ⟨b30, 0, none⟩) k k)]) (fun (i : { j : Nat // 1 ≤ j ∧ j ≤ k }) => [Pu True, Ce b30 9 (List.replicate i.1 (vS s) ++ List.replicate (k - i.1) (vS []))]) (fun (i : { j : Nat // 1 ≤ j ∧ j ≤ k }) => k - i.1) rfl (⟨1, Nat.le_refl _, hk⟩) ?_ ?_ (fun i => ?_)
    · exact ⟨rfl, rfl, trivial⟩
    ·
     refine ent_cons ent_pick
    obtain ⟨j, hj1, hj2⟩ := i
    have hm1 : Nat.min j (k - j) ≤ j := Nat.min_le_left _ _
    have hm2 : Nat.min j (k - j) ≤ k - j := Nat.min_le_right _ _
    try dsimp only
    refine Za (k:=Qc (k:=Qv (k:=Qv (k:=Wq (Zi (t:=fun h37 => ?_) (f:=fun h37 => ?_))))))
    ·
     refine Zk (k:=Ya (Zb (k:=Dw [] (k:=?_))))
     refine Dv 0 (k:=Dv 1 (k:=Dv 2 (k:=?_)))
     refine d_first 3 rfl rfl rfl (by kernel_rfl) (by kernel_rfl) (tl_pv (pv_slslice_fromm Tryz.underlying27 ti9 rfl rfl rfl rfl (Nat.mul_one _) (by omega) (by omega) (fun b e => by cases e; rfl))) ?_
     refine Dv 4 (k:=Dv 5 (k:=?_))
     refine d_first 6 rfl rfl rfl (by kernel_rfl) (by kernel_rfl) (tl_pv (pv_slslice_tom Tryz.underlying27 ti9 rfl rfl rfl (by omega))) ?_
     refine Dn 7 (k:=?_)
     refine an_opT (opt_copy Tryz.underlying27 rfl rfl rfl (.inl ⟨rfl, rfl, rfl⟩) rfl (take_rep _ _ _ _) (by simp; omega) (by simp; omega) (by simp [oneCell]) (cur := List.replicate j (vS s) ++ List.replicate (k - j) (vS [])) (T := 9)) rfl (fun _ _ => ?_)
     refine Dv 8 (k:=Dv 9 (k:=Dd (k:=Yb ?_)))
     have hp : 1 ≤ Nat.min j (k - j) := by rw [show Nat.min j (k - j) = min j (k - j) from rfl]; omega
     refine to_inv ⟨j + Nat.min j (k - j), by omega, by omega⟩ ?_ ⟨vI_eq (by dsimp only; omega), rfl, trivial⟩ ?_
     · dsimp only; omega
     · have e := copy_step (vS s) (vS []) j k (by omega) (by omega)
       dsimp only at e
       rw [← e]
       exact ent_pick
    ·
     refine Ze (k:=Xa (Xi (Xb (Ya (Qc (k:=Qv (k:=Wq (Zt (k:=?_)))))))))
     have hjk : j = k := by omega
     subst hjk
     refine fin_ret b30 (vs := [_]) (Cs := []) rfl (.tmp rfl .nil) rfl trivial ?_
     refine ent_step (ent_row (cur := List.replicate j (vS s) ++ List.replicate (j - j) (vS [])) (Nat.le_refl _) (by simp only [maxLen]; omega) (by simp) (by simp) (by simp)) ent_nil
theorem disk_whole_sp (s : List UInt8) (h : s.length ≤ 32) : SpF Tryz.prog 85 [vS s] (vS (wholeS s)) := by
 refine Sp.body (n := 9) Tryz.call85 Tryz.func85 rfl rfl rfl ?_
 refine Qc (k:=Vv (k:=Wq (Qc (k:=Qv (k:=Qv (k:=?_))))))
 have e7 : (32 : Int) - (s.length : Int) = ((32 - s.length : Nat) : Int) := by omega
 have hr := Repeat_sp [0] (32 - s.length) (by simp; omega) (by omega)
 rw [repeat_one] at hr
 rw [← e7] at hr
 refine r_callF hr rfl rfl rfl ?_
 refine Qv (k:=Wq (Zt (k:=?_)))
 exact fin_ret () (vs := [_]) rfl (.tmp rfl .nil) rfl trivial ent_nil
/-- A disk in memory. -/
def IsD (p : Nat) (D : Dk) : HP := Ex fun a : Option Addr => Ex fun c : Nat => Al [Pu D.Ok, Ce p 145 [.slice a D.secs.length c, vB D.armed, vI D.left, vI D.keep, vB D.down], Row 9 1 (.slice a D.secs.length c) D.secs.length (D.secs.map vS)]
theorem fold_isD {p : Nat} (D : Dk) {v0 v1 v2 v3 v4 : Value} {n e sz T : Nat} {xs : List Value} {Hs R1 Rs : List HP} [h1 : OwnC p T [v0, v1, v2, v3, v4] Hs R1] [h2 : RowC v0 e sz n xs R1 Rs] (ok : D.Ok) (hT : T = 145) (he : e = 9 ∧ sz = 1)
    (h0 : ∃ a c, v0 = .slice a D.secs.length c) (e1 : v1 = vB D.armed) (e2 : v2 = vI D.left) (e3 : v3 = vI D.keep) (e4 : v4 = vB D.down) (hn : n = D.secs.length) (hx : xs = D.secs.map vS) : Ent Hs (IsD p D :: Rs) := by
 obtain ⟨a, c, rfl⟩ := h0
 obtain ⟨rfl, rfl⟩ := he
 subst hT; subst e1; subst e2; subst e3; subst e4; subst hn; subst hx
 refine ent_ex a ?_
 refine ent_ex c (ent_al (ent_pu ok ?_))
 exact ent_step (ent_pick1 h1.get) (ent_pick1 h2.get)
theorem newD_ok (n : Int) : (newD n).Ok := by
 refine ⟨fun s hs => ?_, by simp [newD], by simp [newD]; omega⟩
 have : s = wholeS [] := List.eq_of_mem_replicate hs
 subst this; rfl
theorem disk_New_sp (n : Int) : Sp Tryz.prog 33 [vI n] [] (X := Nat) (fun p => .pointer (some ⟨p, 0, none⟩)) (fun _ => True) (fun p => [IsD p (newD n)]) := by
 refine Sp.body (n := 11) Tryz.call33 Tryz.func33 rfl rfl rfl ?_
 refine Qc (k:=Vv (k:=Wq (Qc (k:=?_))))
 refine r_callF (disk_whole_sp [] (by simp)) rfl rfl rfl ?_
 refine Zv [_] (cs := [_]) (k:=fun b4 => Qv (k:=Vv (k:=?_)))
 have e8 : max 1 (min n 2000) = (((max 1 (min n 2000)).toNat : Nat) : Int) := by omega
 have hw8 : (newD n).secs.length = (max 1 (min n 2000)).toNat := by simp [newD]
 have hr := slices_Repeat_sp b4 (max 1 (min n 2000)).toNat (wholeS []) (by omega) (by omega)
 rw [← e8] at hr
 refine r_callX hr rfl rfl rfl (fun g8 _ => ?_)
 clear hr e8
 generalize hk : (max 1 (min n 2000)).toNat = k at *
 refine Vx (Ps [_, .bool false, .int .i64 0, .int .i64 0, .bool false]) (k:=Zx [_, _, _, _, _] (k:=fun b10 => Vv (k:=Wq (Zt (k:=?_)))))
 refine fin_ret b10 (vs := [_]) (Cs := []) rfl (.tmp rfl .nil) rfl trivial ?_
 exact fold_isD (newD n) (newD_ok n) rfl ⟨rfl, rfl⟩ ⟨_, _, by rw [hw8]⟩ rfl rfl rfl rfl hw8.symm (by simp [newD, hk])
theorem disk_Sectors_sp (p : Nat) (D : Dk) : Sp1 Tryz.prog 140 [.pointer (some ⟨p, 0, none⟩)] [IsD p D] (vI D.secs.length) [IsD p D] := by
 refine Sp.body (n := 8) Tryz.call140 Tryz.func140 rfl rfl rfl ?_
 refine wc_exi fun a => wc_exi fun c => wc_al (wc_pu fun ok => ?_)
 refine Qc (k:=Vv (k:=Wq (Qc (k:=Qv (k:=Qx 0 27 (k:=Qv (k:=?_)))))))
 refine Wq (Zt (k:=?_))
 refine fin_ret () (vs := [_]) (Cs := []) rfl (.tmp rfl .nil) rfl trivial ?_
 exact fold_isD D ok (by rfl) (by exact ⟨rfl, rfl⟩) (by exact ⟨_, _, rfl⟩) (by rfl) (by rfl) (by rfl) (by rfl) (by rfl) (by rfl)
theorem zb141ret2 {G : Prop} (h : G := by
    have hw : D.write i s = (D, false) := by
     rw [Dk.write, if_pos (by first | exact .inl ‹D.down = true› | exact .inr (.inl ‹i < 0›) | exact .inr (.inr (.inl ‹_›)) | exact .inr (.inr (.inr (by omega))))]
    rw [hw]
    refine fin_ret () (vs := [_]) (Cs := []) rfl (.tmp rfl .nil) rfl trivial ?_
    exact fold_isD D ok (by rfl) (by exact ⟨rfl, rfl⟩) (by exact ⟨_, _, rfl⟩) (by rfl) (by rfl) (by rfl) (by rfl) (by rfl) (by rfl)) : G := h
theorem zb141ret10 {G : Prop} (h : G := by
    have hw : D.write i s = ({ D with secs := D.secs.set i.toNat (wholeS s), left := D.left - 1 }, true) := by
     rw [Dk.write, if_neg (by rintro (h | h | h | h) <;> first | exact h16 h | exact h25 h | omega | (rw [h12] at h; cases h)), if_neg (by rintro ⟨h1, h2⟩; first | exact absurd h2 ‹_› | (rw [h36] at h1; cases h1))]
    rw [hw]
    refine fin_ret () (vs := [_]) (Cs := []) rfl (.tmp rfl .nil) rfl trivial ?_
    refine fold_isD { D with secs := D.secs.set i.toNat (wholeS s), left := D.left - 1 } ⟨fun u hu => ?_, ok.keep, by simpa using hm⟩ (by rfl) (by exact ⟨rfl, rfl⟩) (by exact ⟨a, c, by rw [List.length_set]⟩) (by rfl) (by rfl) (by rfl) (by rfl) (by simp) (by rw [List.map_set])
    rcases List.mem_or_eq_of_mem_set hu with h | rfl
    · exact ok.secs u h
    · exact wholeS_len (by omega)) : G := h
theorem disk_Write_sp (p : Nat) (D : Dk) (i : Int) (s : List UInt8) (hs : s.length ≤ 140737488355328) (hl : -4611686018427387904 ≤ D.left ∧ D.left ≤ 9223372036854775807) : Sp1 Tryz.prog 141 [.pointer (some ⟨p, 0, none⟩), vI i, vS s] [IsD p D] (vB (D.write i s).2) [IsD p (D.write i s).1] := by
 refine Sp.body (n := 88) Tryz.call141 Tryz.func141 rfl rfl rfl ?_
 refine wc_exi fun a => wc_exi fun c => wc_al (wc_pu fun ok => ?_)
 have hk := ok.keep
 have hm := ok.many
 refine Qc (k:=Vv (k:=Wq (Za (k:=Qc (k:=Qv (k:=Qx 4 4 (k:=Vv (k:=?_))))))))
 refine Gi 4 (t:=fun h12 => ?_) (f:=fun h12 => ?_)
 ·
  refine O1 (k:=O1 (k:=P1 (k:=Vv (k:=O1 (k:=O1 (k:=O1 (k:=O1 (k:=O1 (k:=O1 (k:=O1 (k:=P1 (k:=?_))))))))))))
  refine Vv (k:=O1 (k:=O1 (k:=O1 (k:=P1 (k:=Wq (Z1 (k:=Qc (k:=Vv (k:=Wq (Zt (k:=?_)))))))))))
  refine Va ?_
  exact zb141ret2
 ·
  refine J0 (k:=J0 (k:=P0 (k:=Vv (k:=Gi 8 (t:=fun h16 => ?_) (f:=fun h16 => ?_)))))
  ·
   refine O1 (k:=O1 (k:=O1 (k:=O1 (k:=O1 (k:=O1 (k:=O1 (k:=P1 (k:=Vv (k:=O1 (k:=O1 (k:=O1 (k:=?_))))))))))))
   refine P1 (k:=Wq (Z1 (k:=Qc (k:=Vv (k:=Wq (Zt (k:=Va ?_)))))))
   exact zb141ret2
  ·
   refine J0 (k:=J0 (k:=J0 (k:=I0 (k:=Vf 0 27 (k:=I0 (k:=Zd (k:=J0 (k:=?_))))))))
   refine J0 (k:=P0 (k:=Vv (k:=Gi 17 (t:=fun h25 => ?_) (f:=fun h25 => ?_))))
   ·
    refine O1 (k:=O1 (k:=O1 (k:=P1 (k:=Wq (Z1 (k:=Qc (k:=Vv (k:=Wq (Zt (k:=Va ?_))))))))))
    exact zb141ret2
   ·
    refine J0 (k:=J0 (k:=J0 (k:=P0 (k:=Wq (Zi (t:=fun h29 => ?_) (f:=fun h29 => ?_))))))
    ·
     refine Qc (k:=Vv (k:=Wq (Zt (k:=Va ?_))))
     exact zb141ret2
    ·
     refine Zk (k:=Ya (Qc (k:=Vv (k:=?_))))
     refine r_callF (disk_whole_sp s (by omega)) rfl rfl rfl ?_
     refine Vv (k:=Wq (Za (k:=Qc (k:=Qv (k:=Qx 1 4 (k:=Vv (k:=Gi 4 (t:=fun h36 => ?_) (f:=fun h36 => ?_))))))))
     ·
      refine J1 (k:=J1 (k:=I1 (k:=Vf 2 3 (k:=I1 (k:=Zd (k:=J1 (k:=P1 (k:=Wq ?_))))))))
      refine Zi (t:=fun h42 => ?_) (f:=fun h42 => ?_)
      ·
       refine Za (k:=?_)
       have em : i = ((i.toNat : Nat) : Int) := by omega
       have hlen : (D.secs[i.toNat]'(by omega)).length = 32 := ok.secs _ (List.getElem_mem _)
       have hwl : (wholeS s).length = 32 := wholeS_len (by omega)
       refine Dw [Ce p 145 [.slice a D.secs.length c, vB D.armed, vI D.left, vI D.keep, vB D.down]] (k:=?_)
       refine Dv 0 (k:=Dv 1 (k:=Di 2 (t:=Uf 0 27) (k:=Di 3 (t:=Ul) (k:=Dv 4 (k:=Dv 5 (k:=Dv 6 (k:=Dv 7 (k:=Di 8 (t:=Uf 3 3) (k:=Di 9 (t:=Ul) (k:=Dv 10 (k:=Dv 11 (k:=?_))))))))))))
       refine Dv 12 (k:=Di 13 (t:=Uf 0 27) (k:=Di 14 (t:=Ul) (k:=Dv 15 (k:=Dv 18 (k:=Dv 19 (k:=Di 20 (t:=Uf 3 3) (k:=Di 21 (t:=Ul) (k:=Dn 16 (k:=?_)))))))))
       refine an_elemAddr Tryz.underlying27 ti9 rfl rfl rfl em (by omega) (by rw [List.length_map]; omega) (Nat.mul_one _) rfl ?_
       refine Dn 17 (k:=?_)
       refine an_eload Tryz.underlying9 rfl rfl (get_map (by omega)) rfl ?_
       refine Dv 22 (k:=Dv 23 (k:=Dn 24 (k:=?_)))
       refine an_elemAddr Tryz.underlying27 ti9 rfl rfl rfl em (by omega) (by rw [List.length_map]; omega) (Nat.mul_one _) rfl ?_
       refine Dn 25 (k:=?_)
       refine an_estore ti9 rfl rfl rfl rfl (by first | (rw [List.length_map]; omega) | (rw [flat_len (fun _ => rfl)]; omega) | (simp; omega)) ?_
       refine Dd (k:=Ya (Qc (k:=Qv (k:=Vv (k:=Vf 4 4 (k:=Zo (k:=Vv (k:=Vf 1 4 (k:=Zo (k:=?_))))))))))
       refine Wq (Qc (k:=Vv (k:=Wq (Zt (k:=Va ?_)))))
       have hw : D.write i s = ({ D with secs := D.secs.set i.toNat ((wholeS s).take D.keep ++ (D.secs.getD i.toNat []).drop D.keep), down := true, armed := false }, false) := by
        rw [Dk.write, if_neg (by rintro (h | h | h | h) <;> first | exact h16 h | exact h25 h | omega | (rw [h12] at h; cases h)), if_pos ⟨h36, h42⟩]
       rw [hw]
       have hg : D.secs.getD i.toNat [] = D.secs[i.toNat]'(by omega) := by simp; rw [List.getElem?_eq_getElem (by omega)]; rfl
       refine fin_ret () (vs := [_]) (Cs := []) rfl (.tmp rfl .nil) rfl trivial ?_
       refine fold_isD { D with secs := D.secs.set i.toNat ((wholeS s).take D.keep ++ (D.secs.getD i.toNat []).drop D.keep), down := true, armed := false } ⟨fun u hu => ?_, ok.keep, by simpa using hm⟩ (by rfl) (by exact ⟨rfl, rfl⟩) (by exact ⟨a, c, by rw [List.length_set]⟩) (by rfl) (by rfl) (by rfl) (by rfl) (by simp) (by rw [List.map_set, hg])
       rcases List.mem_or_eq_of_mem_set hu with h | rfl
       · exact ok.secs u h
       · rw [hg]; simp only [List.length_append, List.length_take, List.length_drop, hlen, hwl]; omega
      ·
       refine Zk (k:=Ya (Qc (k:=Qv (k:=Qx 0 27 (k:=Qv (k:=?_))))))
       have em : i = ((i.toNat : Nat) : Int) := by omega
       refine r_elemAddr Tryz.underlying27 ti9 rfl rfl rfl em (by omega) (by rw [List.length_map]; omega) (Nat.mul_one _) rfl ?_
       refine r_estore ti9 rfl rfl rfl rfl (by first | (rw [List.length_map]; omega) | (rw [flat_len (fun _ => rfl)]; omega) | (simp; omega)) ?_
       refine Wq (Qc (k:=Qv (k:=Qx 2 3 (k:=Qv (k:=Vf 2 3 (k:=Zo (k:=Wq ?_)))))))
       refine Qc (k:=Vv (k:=Wq (Zt (k:=?_))))
       exact zb141ret10
     ·
      refine O0 (k:=O0 (k:=O0 (k:=O0 (k:=O0 (k:=P0 (k:=Wq (Z0 (k:=Zk (k:=Ya (Qc (k:=?_)))))))))))
      refine Qv (k:=Qx 0 27 (k:=Qv (k:=?_)))
      have em : i = ((i.toNat : Nat) : Int) := by omega
      refine r_elemAddr Tryz.underlying27 ti9 rfl rfl rfl em (by omega) (by rw [List.length_map]; omega) (Nat.mul_one _) rfl ?_
      refine r_estore ti9 rfl rfl rfl rfl (by first | (rw [List.length_map]; omega) | (rw [flat_len (fun _ => rfl)]; omega) | (simp; omega)) ?_
      refine Wq (Qc (k:=Qv (k:=Qx 2 3 (k:=Qv (k:=Vf 2 3 (k:=Zo (k:=Wq ?_)))))))
      refine Qc (k:=Vv (k:=Wq (Zt (k:=?_))))
      exact zb141ret10
end
section
set_option maxRecDepth 100000
section
variable {r : Option Nat} {P : Program} {n : Nat} {ops : Array Oper} {os : List Oper} {A : List HP} {L : Loc} {Hs : List HP} {Q : Out} {c : Code}
theorem row_none {e : TypeId} {sz k n' c' : Nat} {a : Option Addr} {xs : List Value} {M : Kn} {h : Res} (x : (Row e sz (.slice a n' c') k xs).at_ M h) : a = none → k = 0 := by
 intro ha
 rcases x with ⟨_, h1, _⟩ | ⟨g, cap, cur, h1, _⟩
 · exact h1
 · subst ha; cases h1
end
theorem slices_Clone_sp {B : HP} {a : Option Addr} (n c : Nat) (l : List (List UInt8)) (sh : SlA B a (l.map vS)) (hn : l.length = n) (ha : a = none → n = 0) (hb : n ≤ 8796093022208) :
    Sp Tryz.prog 134 [.slice a n c] [B] (X := Option Addr × Nat) (fun x => .slice x.1 n x.2) (fun _ => True) (fun x => [Row 9 1 (.slice x.1 n x.2) n (l.map vS), B]) := by
 subst hn
 refine Sp.body (n := 8) Tryz.call134 Tryz.func134 rfl rfl rfl ?_
 refine Qc (k:=Vv (k:=Wq (Za (k:=Qc (k:=Vv (k:=?_))))))
 refine wo_pv (pv_sleql_nil Tryz.underlying27 rfl rfl) rfl ?_
 refine Wq (Zi (t:=fun h4 => ?_) (f:=fun h4 => ?_))
 ·
  refine Qc (k:=Vv (k:=Wq (Zt (k:=Va ?_))))
  have ha' : a = none := by simpa using h4
  have hl : l = [] := List.eq_nil_of_length_eq_zero (ha ha')
  subst hl
  refine fin_ret (none, 0) (vs := [_]) (Cs := []) rfl (.tmp rfl .nil) rfl trivial ?_
  exact row_nil
 ·
  refine Zk (k:=Ya (Qc (k:=Zv [] (cs := []) (k:=fun b5 => Vv (k:=?_)))))
  refine wo_ent' (ent_row (k := 0) (cap := 0) (sz := 1) (e := 9) (g := b5) (xs := []) (cur := []) (Nat.le_refl _) (by simp [maxLen]) rfl rfl rfl) ?_
  refine wo_opT (by intro c; simp) (opt_appendA Tryz.underlying27 ti9 rfl rfl rfl rfl rfl rfl rfl sh (by simp) (by simp [oneCell]) (by omega) (by simp only [maxLen]; omega) (k := 0) (xs := []) (sz := 1) (bytes := 16)) rfl (fun x7 ⟨a7, c7, h7⟩ => ?_)
  subst h7
  rw [Nat.zero_add, List.nil_append]
  refine Vv (k:=Wq (Zt (k:=?_)))
  refine fin_ret (a7, c7) (vs := [_]) (Cs := []) rfl (.tmp rfl .nil) rfl trivial ?_
  exact ent_pick
/-- The functions that walk a slice. -/
theorem slices_All_sp (a : Option Addr) (n c : Nat) : Sp Tryz.prog 180 [.slice a n c] [] (X := Nat) (fun b => .func (.func 202) #[] #[.pointer (some ⟨b, 0, none⟩)]) (fun _ => True) (fun b => [Ce b 27 [.slice a n c]]) := by
 refine Sp.body (n := 4) Tryz.call180 Tryz.func180 rfl rfl rfl ?_
 refine Qc (k:=Zx [_] (k:=fun b1 => Vv (k:=Wq (Qc (k:=Qv (k:=Wq (Zt (k:=?_))))))))
 refine fin_ret b1 (vs := [_]) (Cs := []) rfl (.tmp rfl .nil) rfl trivial ?_
 exact ent_pick
theorem slices_Values_sp (a : Option Addr) (n c : Nat) : Sp Tryz.prog 133 [.slice a n c] [] (X := Nat) (fun b => .func (.func 181) #[] #[.pointer (some ⟨b, 0, none⟩)]) (fun _ => True) (fun b => [Ce b 27 [.slice a n c]]) := by
 refine Sp.body (n := 4) Tryz.call133 Tryz.func133 rfl rfl rfl ?_
 refine Qc (k:=Zx [_] (k:=fun b1 => Vv (k:=Wq (Qc (k:=Qv (k:=Wq (Zt (k:=?_))))))))
 refine fin_ret b1 (vs := [_]) (Cs := []) rfl (.tmp rfl .nil) rfl trivial ?_
 exact ent_pick
theorem get_mapD {α : Type} {f : α → Value} {l : List α} {m : Nat} (d : α) (h : m < l.length) : (l.map f)[m]? = some (f (l.getD m d)) := by simp [h]
/-- How far a walk over a slice has come. -/
abbrev okR (n : Nat) : List Nat → Nat → Prop := fun pre i => i = pre.length ∧ i < n
abbrev stopR (n : Nat) : List Nat → Prop := fun pre => ∃ m, 0 < m ∧ m ≤ n ∧ pre = List.range m
theorem slices_All_it {B : HP} {a : Option Addr} (n c b : Nat) (l : List (List UInt8)) (sh : SlA B a (l.map vS)) (hn : l.length = n) (hb : n ≤ 140737488355328) :
    Iter Tryz.prog 202 [.pointer (some ⟨b, 0, none⟩)] (fun i : Nat => [vI i, vS (l.getD i [])]) (okR n) (stopR n) [Ce b 27 [.slice a n c], B] [Ce b 27 [.slice a n c], B] (List.range n) (fun _ => .tuple #[]) := by
 intro y J Jx ys
 subst hn
 haveI : RdSl a (l.map vS) [B] := ⟨⟨B, sh, .here⟩⟩
 refine Sp.body (n := 18) Tryz.call202 Tryz.func202 rfl rfl rfl ?_
 refine Qc (k:=Zd (k:=Qv (k:=Wq (Zb (k:=?_)))))
 refine p_loop (fun (i : { j : Nat // j ≤ l.length }) => [(0, y), (5, .slice a l.length c), (6, vI l.length), (7, vI i.1)]) (fun (i : { j : Nat // j ≤ l.length }) => [J (List.range i.1), Ce b 27 [.slice a l.length c], B]) (fun (i : { j : Nat // j ≤ l.length }) => l.length - i.1) rfl (⟨0, Nat.zero_le _⟩) ?_ ?_ (fun i => ?_)
 · exact ⟨rfl, rfl, rfl, rfl, trivial⟩
 ·
  exact Ent.refl _
 obtain ⟨j, hj⟩ := i
 try dsimp only
 refine Qc (k:=Vv (k:=Wq (Za (k:=Zi (t:=fun h8 => ?_) (f:=fun h8 => ?_)))))
 ·
  refine Zk (k:=Ya (Za (k:=Zb (k:=Qc (k:=Vv (k:=Ye 1 (k:=Yl (hv:=by exact get_mapD [] (by omega)) (k:=Qv (k:=Wq ?_)))))))))
  refine Qc (k:=Qv (k:=Vv (k:=?_)))
  refine r_yield ys (List.range j) j ⟨by simp, by omega⟩ rfl rfl rfl ?_ ?_
  ·
   refine Vv (k:=Wq (Z0 (k:=Zk (k:=Yb (Ya (Zr (k:=Qv (k:=Wn ?_))))))))
   refine to_inv ⟨j + 1, by omega⟩ ?_ ⟨rfl, rfl, rfl, rfl, trivial⟩ ?_
   · dsimp only; omega
   · rw [List.range_succ]; exact ent_pick
  ·
   refine Vv (k:=Wq (Z1 (k:=Zt (k:=Vb (Va (Vi (Vb ?_)))))))
   refine fin_ret (some (List.range (j + 1))) (vs := []) (Cs := []) rfl .nil rfl (fun pre e => by cases e; exact ⟨j + 1, by omega, by omega, rfl⟩) ?_
   simp only [endsAt]
   rw [List.range_succ]
   exact ent_pick
 ·
  refine Ze (k:=Xa (Xi (Xb ?_)))
  have hj2 : j = l.length := by omega
  subst hj2
  refine fin_end none (vs := []) (Cs := []) rfl .nil rfl (fun pre e => by cases e) ?_
  simp only [endsAt]
  exact ent_pick
theorem slices_Values_it {B : HP} {a : Option Addr} (n c b : Nat) (l : List (List UInt8)) (sh : SlA B a (l.map vS)) (hn : l.length = n) (hb : n ≤ 140737488355328) :
    Iter Tryz.prog 181 [.pointer (some ⟨b, 0, none⟩)] (fun i : Nat => [vS (l.getD i [])]) (okR n) (stopR n) [Ce b 27 [.slice a n c], B] [Ce b 27 [.slice a n c], B] (List.range n) (fun _ => .tuple #[]) := by
 intro y J Jx ys
 subst hn
 haveI : RdSl a (l.map vS) [B] := ⟨⟨B, sh, .here⟩⟩
 refine Sp.body (n := 16) Tryz.call181 Tryz.func181 rfl rfl rfl ?_
 refine Qc (k:=Zd (k:=Qv (k:=Wq (Zb (k:=?_)))))
 refine p_loop (fun (i : { j : Nat // j ≤ l.length }) => [(0, y), (5, .slice a l.length c), (6, vI l.length), (7, vI i.1)]) (fun (i : { j : Nat // j ≤ l.length }) => [J (List.range i.1), Ce b 27 [.slice a l.length c], B]) (fun (i : { j : Nat // j ≤ l.length }) => l.length - i.1) rfl (⟨0, Nat.zero_le _⟩) ?_ ?_ (fun i => ?_)
 · exact ⟨rfl, rfl, rfl, rfl, trivial⟩
 ·
  exact Ent.refl _
 obtain ⟨j, hj⟩ := i
 try dsimp only
 refine Qc (k:=Vv (k:=Wq (Za (k:=Zi (t:=fun h8 => ?_) (f:=fun h8 => ?_)))))
 ·
  refine Zk (k:=Ya (Za (k:=Zb (k:=Qc (k:=Ye 1 (k:=Yl (hv:=by exact get_mapD [] (by omega)) (k:=Vv (k:=Wq (Qc (k:=?_))))))))))
  refine Qv (k:=?_)
  refine r_yield ys (List.range j) j ⟨by simp, by omega⟩ rfl rfl rfl ?_ ?_
  ·
   refine Vv (k:=Wq (Z0 (k:=Zk (k:=Yb (Ya (Zr (k:=Qv (k:=Wn ?_))))))))
   refine to_inv ⟨j + 1, by omega⟩ ?_ ⟨rfl, rfl, rfl, rfl, trivial⟩ ?_
   · dsimp only; omega
   · rw [List.range_succ]; exact ent_pick
  ·
   refine Vv (k:=Wq (Z1 (k:=Zt (k:=Vb (Va (Vi (Vb ?_)))))))
   refine fin_ret (some (List.range (j + 1))) (vs := []) (Cs := []) rfl .nil rfl (fun pre e => by cases e; exact ⟨j + 1, by omega, by omega, rfl⟩) ?_
   simp only [endsAt]
   rw [List.range_succ]
   exact ent_pick
 ·
  refine Ze (k:=Xa (Xi (Xb ?_)))
  have hj2 : j = l.length := by omega
  subst hj2
  refine fin_end none (vs := []) (Cs := []) rfl .nil rfl (fun pre e => by cases e) ?_
  simp only [endsAt]
  exact ent_pick
end
section
set_option maxRecDepth 100000
theorem vUs_one (x : UInt8) (h : Int) (e : h = (x.toNat : Int)) : ([vU h] : List Value).take 1 = vUs [x] := by subst e; rfl
theorem u8_len (s : List UInt8) (h : s.length ≤ 30) : IntKind.u8.wrap (s.length : Int) = ((UInt8.ofNat s.length).toNat : Int) := by
 rw [IntWalk.u8_in _ (by omega)]
 have : s.length < 256 := by omega
 simp [UInt8.toNat_ofNat, Nat.mod_eq_of_lt this]
theorem zb184ret {G : Prop} (h : G := by exact fin_ret () (vs := [_]) rfl (.tmp rfl .nil) rfl trivial ent_nil) : G := h
theorem journal_piece_sp (s : List UInt8) (h : s.length ≤ 30) (mk : UInt8) : SpF Tryz.prog 184 [vS s, vU (mk.toNat : Int)] (vS (pieceS s mk)) := by
 refine Sp.body (n := 21) Tryz.call184 Tryz.func184 rfl rfl rfl ?_
 have e7 : (30 : Int) - (s.length : Int) = ((30 - s.length : Nat) : Int) := by omega
 have hr := Repeat_sp [0] (30 - s.length) (by simp; omega) (by omega)
 rw [repeat_one, ← e7] at hr
 refine Qc (k:=Vv (k:=Wq (Za (k:=Dw [] (k:=?_)))))
 refine Dv 0 (k:=Dv 1 (k:=?_))
 refine d_first 2 rfl rfl rfl (by kernel_rfl) (by kernel_rfl) (tl_pv (pv_conv rfl Tryz.underlying3 Tryz.underlying5)) ?_
 refine Dv 5 (k:=Dv 7 (k:=Dv 8 (k:=Dv 9 (k:=Dv 12 (k:=?_)))))
 refine d_next3 3 10 13 (by kernel_rfl) rfl rfl rfl ?_ ?_ ?_
 ·
  refine Nl [_] (cs := [_]) (k:=fun b8 => ?_)
  refine d_next3 4 10 13 (by kernel_rfl) rfl rfl rfl ?_ ?_ ?_
  ·
   refine an_b2s (l := [UInt8.ofNat s.length]) Tryz.underlying89 Tryz.underlying9 Tryz.underlying5 rfl (vUs_one _ _ (u8_len s h)) (by simp) rfl ?_
   refine Dv 6 (k:=?_)
   refine d_next2 10 13 (by kernel_rfl) rfl rfl ?_ ?_
   ·
    refine an_callF hr rfl rfl rfl ?_
    refine Dv 11 (k:=Dn 13 (k:=Nl [_] (cs := [_]) (k:=fun b18 => Dn 14 (k:=?_))))
    refine an_b2s (l := [mk]) Tryz.underlying89 Tryz.underlying9 Tryz.underlying5 rfl (vUs_one _ _ rfl) (by simp) rfl ?_
    refine Dv 15 (k:=Dv 16 (k:=Dd (k:=Ya (Zt (k:=?_)))))
    exact zb184ret
   ·
    refine Nl [_] (cs := [_]) (k:=fun b18 => ?_)
    refine d_next2 10 14 (by kernel_rfl) rfl rfl ?_ ?_
    ·
     refine an_callF hr rfl rfl rfl ?_
     refine Dv 11 (k:=Dn 14 (k:=?_))
     refine an_b2s (l := [mk]) Tryz.underlying89 Tryz.underlying9 Tryz.underlying5 rfl (vUs_one _ _ rfl) (by simp) rfl ?_
     refine Dv 15 (k:=Dv 16 (k:=Dd (k:=Ya (Zt (k:=?_)))))
     exact zb184ret
    ·
     refine an_b2s (l := [mk]) Tryz.underlying89 Tryz.underlying9 Tryz.underlying5 rfl (vUs_one _ _ rfl) (by simp) rfl ?_
     refine Dn 10 (k:=?_)
     refine an_callF hr rfl rfl rfl ?_
     refine Dv 11 (k:=Dv 15 (k:=Dv 16 (k:=Dd (k:=Ya (Zt (k:=?_))))))
     exact zb184ret
  ·
   refine an_callF hr rfl rfl rfl ?_
   refine d_next2 4 13 (by kernel_rfl) rfl rfl ?_ ?_
   ·
    refine an_b2s (l := [UInt8.ofNat s.length]) Tryz.underlying89 Tryz.underlying9 Tryz.underlying5 rfl (vUs_one _ _ (u8_len s h)) (by simp) rfl ?_
    refine Dv 6 (k:=Dv 11 (k:=Dn 13 (k:=Nl [_] (cs := [_]) (k:=fun b18 => Dn 14 (k:=?_)))))
    refine an_b2s (l := [mk]) Tryz.underlying89 Tryz.underlying9 Tryz.underlying5 rfl (vUs_one _ _ rfl) (by simp) rfl ?_
    refine Dv 15 (k:=Dv 16 (k:=Dd (k:=Ya (Zt (k:=?_)))))
    exact zb184ret
   ·
    refine Nl [_] (cs := [_]) (k:=fun b18 => ?_)
    refine d_next2 4 14 (by kernel_rfl) rfl rfl ?_ ?_
    ·
     refine an_b2s (l := [UInt8.ofNat s.length]) Tryz.underlying89 Tryz.underlying9 Tryz.underlying5 rfl (vUs_one _ _ (u8_len s h)) (by simp) rfl ?_
     refine Dv 6 (k:=Dv 11 (k:=Dn 14 (k:=?_)))
     refine an_b2s (l := [mk]) Tryz.underlying89 Tryz.underlying9 Tryz.underlying5 rfl (vUs_one _ _ rfl) (by simp) rfl ?_
     refine Dv 15 (k:=Dv 16 (k:=Dd (k:=Ya (Zt (k:=?_)))))
     exact zb184ret
    ·
     refine an_b2s (l := [mk]) Tryz.underlying89 Tryz.underlying9 Tryz.underlying5 rfl (vUs_one _ _ rfl) (by simp) rfl ?_
     refine Dn 4 (k:=?_)
     refine an_b2s (l := [UInt8.ofNat s.length]) Tryz.underlying89 Tryz.underlying9 Tryz.underlying5 rfl (vUs_one _ _ (u8_len s h)) (by simp) rfl ?_
     refine Dv 6 (k:=Dv 11 (k:=Dv 15 (k:=Dv 16 (k:=Dd (k:=Ya (Zt (k:=?_)))))))
     exact zb184ret
  ·
   refine Nl [_] (cs := [_]) (k:=fun b18 => ?_)
   refine d_next3 4 10 14 (by kernel_rfl) rfl rfl rfl ?_ ?_ ?_
   ·
    refine an_b2s (l := [UInt8.ofNat s.length]) Tryz.underlying89 Tryz.underlying9 Tryz.underlying5 rfl (vUs_one _ _ (u8_len s h)) (by simp) rfl ?_
    refine Dv 6 (k:=?_)
    refine d_next2 10 14 (by kernel_rfl) rfl rfl ?_ ?_
    ·
     refine an_callF hr rfl rfl rfl ?_
     refine Dv 11 (k:=Dn 14 (k:=?_))
     refine an_b2s (l := [mk]) Tryz.underlying89 Tryz.underlying9 Tryz.underlying5 rfl (vUs_one _ _ rfl) (by simp) rfl ?_
     refine Dv 15 (k:=Dv 16 (k:=Dd (k:=Ya (Zt (k:=?_)))))
     exact zb184ret
    ·
     refine an_b2s (l := [mk]) Tryz.underlying89 Tryz.underlying9 Tryz.underlying5 rfl (vUs_one _ _ rfl) (by simp) rfl ?_
     refine Dn 10 (k:=?_)
     refine an_callF hr rfl rfl rfl ?_
     refine Dv 11 (k:=Dv 15 (k:=Dv 16 (k:=Dd (k:=Ya (Zt (k:=?_))))))
     exact zb184ret
   ·
    refine an_callF hr rfl rfl rfl ?_
    refine d_next2 4 14 (by kernel_rfl) rfl rfl ?_ ?_
    ·
     refine an_b2s (l := [UInt8.ofNat s.length]) Tryz.underlying89 Tryz.underlying9 Tryz.underlying5 rfl (vUs_one _ _ (u8_len s h)) (by simp) rfl ?_
     refine Dv 6 (k:=Dv 11 (k:=Dn 14 (k:=?_)))
     refine an_b2s (l := [mk]) Tryz.underlying89 Tryz.underlying9 Tryz.underlying5 rfl (vUs_one _ _ rfl) (by simp) rfl ?_
     refine Dv 15 (k:=Dv 16 (k:=Dd (k:=Ya (Zt (k:=?_)))))
     exact zb184ret
    ·
     refine an_b2s (l := [mk]) Tryz.underlying89 Tryz.underlying9 Tryz.underlying5 rfl (vUs_one _ _ rfl) (by simp) rfl ?_
     refine Dn 4 (k:=?_)
     refine an_b2s (l := [UInt8.ofNat s.length]) Tryz.underlying89 Tryz.underlying9 Tryz.underlying5 rfl (vUs_one _ _ (u8_len s h)) (by simp) rfl ?_
     refine Dv 6 (k:=Dv 11 (k:=Dv 15 (k:=Dv 16 (k:=Dd (k:=Ya (Zt (k:=?_)))))))
     exact zb184ret
   ·
    refine an_b2s (l := [mk]) Tryz.underlying89 Tryz.underlying9 Tryz.underlying5 rfl (vUs_one _ _ rfl) (by simp) rfl ?_
    refine d_next2 4 10 (by kernel_rfl) rfl rfl ?_ ?_
    ·
     refine an_b2s (l := [UInt8.ofNat s.length]) Tryz.underlying89 Tryz.underlying9 Tryz.underlying5 rfl (vUs_one _ _ (u8_len s h)) (by simp) rfl ?_
     refine Dv 6 (k:=Dn 10 (k:=?_))
     refine an_callF hr rfl rfl rfl ?_
     refine Dv 11 (k:=Dv 15 (k:=Dv 16 (k:=Dd (k:=Ya (Zt (k:=?_))))))
     exact zb184ret
    ·
     refine an_callF hr rfl rfl rfl ?_
     refine Dn 4 (k:=?_)
     refine an_b2s (l := [UInt8.ofNat s.length]) Tryz.underlying89 Tryz.underlying9 Tryz.underlying5 rfl (vUs_one _ _ (u8_len s h)) (by simp) rfl ?_
     refine Dv 6 (k:=Dv 11 (k:=Dv 15 (k:=Dv 16 (k:=Dd (k:=Ya (Zt (k:=?_)))))))
     exact zb184ret
 ·
  refine an_callF hr rfl rfl rfl ?_
  refine d_next2 3 13 (by kernel_rfl) rfl rfl ?_ ?_
  ·
   refine Nl [_] (cs := [_]) (k:=fun b8 => ?_)
   refine d_next2 4 13 (by kernel_rfl) rfl rfl ?_ ?_
   ·
    refine an_b2s (l := [UInt8.ofNat s.length]) Tryz.underlying89 Tryz.underlying9 Tryz.underlying5 rfl (vUs_one _ _ (u8_len s h)) (by simp) rfl ?_
    refine Dv 6 (k:=Dv 11 (k:=Dn 13 (k:=Nl [_] (cs := [_]) (k:=fun b18 => Dn 14 (k:=?_)))))
    refine an_b2s (l := [mk]) Tryz.underlying89 Tryz.underlying9 Tryz.underlying5 rfl (vUs_one _ _ rfl) (by simp) rfl ?_
    refine Dv 15 (k:=Dv 16 (k:=Dd (k:=Ya (Zt (k:=?_)))))
    exact zb184ret
   ·
    refine Nl [_] (cs := [_]) (k:=fun b18 => ?_)
    refine d_next2 4 14 (by kernel_rfl) rfl rfl ?_ ?_
    ·
     refine an_b2s (l := [UInt8.ofNat s.length]) Tryz.underlying89 Tryz.underlying9 Tryz.underlying5 rfl (vUs_one _ _ (u8_len s h)) (by simp) rfl ?_
     refine Dv 6 (k:=Dv 11 (k:=Dn 14 (k:=?_)))
     refine an_b2s (l := [mk]) Tryz.underlying89 Tryz.underlying9 Tryz.underlying5 rfl (vUs_one _ _ rfl) (by simp) rfl ?_
     refine Dv 15 (k:=Dv 16 (k:=Dd (k:=Ya (Zt (k:=?_)))))
     exact zb184ret
    ·
     refine an_b2s (l := [mk]) Tryz.underlying89 Tryz.underlying9 Tryz.underlying5 rfl (vUs_one _ _ rfl) (by simp) rfl ?_
     refine Dn 4 (k:=?_)
     refine an_b2s (l := [UInt8.ofNat s.length]) Tryz.underlying89 Tryz.underlying9 Tryz.underlying5 rfl (vUs_one _ _ (u8_len s h)) (by simp) rfl ?_
     refine Dv 6 (k:=Dv 11 (k:=Dv 15 (k:=Dv 16 (k:=Dd (k:=Ya (Zt (k:=?_)))))))
     exact zb184ret
  ·
   refine Nl [_] (cs := [_]) (k:=fun b18 => ?_)
   refine d_next2 3 14 (by kernel_rfl) rfl rfl ?_ ?_
   ·
    refine Nl [_] (cs := [_]) (k:=fun b8 => ?_)
    refine d_next2 4 14 (by kernel_rfl) rfl rfl ?_ ?_
    ·
     refine an_b2s (l := [UInt8.ofNat s.length]) Tryz.underlying89 Tryz.underlying9 Tryz.underlying5 rfl (vUs_one _ _ (u8_len s h)) (by simp) rfl ?_
     refine Dv 6 (k:=Dv 11 (k:=Dn 14 (k:=?_)))
     refine an_b2s (l := [mk]) Tryz.underlying89 Tryz.underlying9 Tryz.underlying5 rfl (vUs_one _ _ rfl) (by simp) rfl ?_
     refine Dv 15 (k:=Dv 16 (k:=Dd (k:=Ya (Zt (k:=?_)))))
     exact zb184ret
    ·
     refine an_b2s (l := [mk]) Tryz.underlying89 Tryz.underlying9 Tryz.underlying5 rfl (vUs_one _ _ rfl) (by simp) rfl ?_
     refine Dn 4 (k:=?_)
     refine an_b2s (l := [UInt8.ofNat s.length]) Tryz.underlying89 Tryz.underlying9 Tryz.underlying5 rfl (vUs_one _ _ (u8_len s h)) (by simp) rfl ?_
     refine Dv 6 (k:=Dv 11 (k:=Dv 15 (k:=Dv 16 (k:=Dd (k:=Ya (Zt (k:=?_)))))))
     exact zb184ret
   ·
    refine an_b2s (l := [mk]) Tryz.underlying89 Tryz.underlying9 Tryz.underlying5 rfl (vUs_one _ _ rfl) (by simp) rfl ?_
    refine Dn 3 (k:=Nl [_] (cs := [_]) (k:=fun b8 => Dn 4 (k:=?_)))
    refine an_b2s (l := [UInt8.ofNat s.length]) Tryz.underlying89 Tryz.underlying9 Tryz.underlying5 rfl (vUs_one _ _ (u8_len s h)) (by simp) rfl ?_
    refine Dv 6 (k:=Dv 11 (k:=Dv 15 (k:=Dv 16 (k:=Dd (k:=Ya (Zt (k:=?_)))))))
    exact zb184ret
 ·
  refine Nl [_] (cs := [_]) (k:=fun b18 => ?_)
  refine d_next3 3 10 14 (by kernel_rfl) rfl rfl rfl ?_ ?_ ?_
  ·
   refine Nl [_] (cs := [_]) (k:=fun b8 => ?_)
   refine d_next3 4 10 14 (by kernel_rfl) rfl rfl rfl ?_ ?_ ?_
   ·
    refine an_b2s (l := [UInt8.ofNat s.length]) Tryz.underlying89 Tryz.underlying9 Tryz.underlying5 rfl (vUs_one _ _ (u8_len s h)) (by simp) rfl ?_
    refine Dv 6 (k:=?_)
    refine d_next2 10 14 (by kernel_rfl) rfl rfl ?_ ?_
    ·
     refine an_callF hr rfl rfl rfl ?_
     refine Dv 11 (k:=Dn 14 (k:=?_))
     refine an_b2s (l := [mk]) Tryz.underlying89 Tryz.underlying9 Tryz.underlying5 rfl (vUs_one _ _ rfl) (by simp) rfl ?_
     refine Dv 15 (k:=Dv 16 (k:=Dd (k:=Ya (Zt (k:=?_)))))
     exact zb184ret
    ·
     refine an_b2s (l := [mk]) Tryz.underlying89 Tryz.underlying9 Tryz.underlying5 rfl (vUs_one _ _ rfl) (by simp) rfl ?_
     refine Dn 10 (k:=?_)
     refine an_callF hr rfl rfl rfl ?_
     refine Dv 11 (k:=Dv 15 (k:=Dv 16 (k:=Dd (k:=Ya (Zt (k:=?_))))))
     exact zb184ret
   ·
    refine an_callF hr rfl rfl rfl ?_
    refine d_next2 4 14 (by kernel_rfl) rfl rfl ?_ ?_
    ·
     refine an_b2s (l := [UInt8.ofNat s.length]) Tryz.underlying89 Tryz.underlying9 Tryz.underlying5 rfl (vUs_one _ _ (u8_len s h)) (by simp) rfl ?_
     refine Dv 6 (k:=Dv 11 (k:=Dn 14 (k:=?_)))
     refine an_b2s (l := [mk]) Tryz.underlying89 Tryz.underlying9 Tryz.underlying5 rfl (vUs_one _ _ rfl) (by simp) rfl ?_
     refine Dv 15 (k:=Dv 16 (k:=Dd (k:=Ya (Zt (k:=?_)))))
     exact zb184ret
    ·
     refine an_b2s (l := [mk]) Tryz.underlying89 Tryz.underlying9 Tryz.underlying5 rfl (vUs_one _ _ rfl) (by simp) rfl ?_
     refine Dn 4 (k:=?_)
     refine an_b2s (l := [UInt8.ofNat s.length]) Tryz.underlying89 Tryz.underlying9 Tryz.underlying5 rfl (vUs_one _ _ (u8_len s h)) (by simp) rfl ?_
     refine Dv 6 (k:=Dv 11 (k:=Dv 15 (k:=Dv 16 (k:=Dd (k:=Ya (Zt (k:=?_)))))))
     exact zb184ret
   ·
    refine an_b2s (l := [mk]) Tryz.underlying89 Tryz.underlying9 Tryz.underlying5 rfl (vUs_one _ _ rfl) (by simp) rfl ?_
    refine d_next2 4 10 (by kernel_rfl) rfl rfl ?_ ?_
    ·
     refine an_b2s (l := [UInt8.ofNat s.length]) Tryz.underlying89 Tryz.underlying9 Tryz.underlying5 rfl (vUs_one _ _ (u8_len s h)) (by simp) rfl ?_
     refine Dv 6 (k:=Dn 10 (k:=?_))
     refine an_callF hr rfl rfl rfl ?_
     refine Dv 11 (k:=Dv 15 (k:=Dv 16 (k:=Dd (k:=Ya (Zt (k:=?_))))))
     exact zb184ret
    ·
     refine an_callF hr rfl rfl rfl ?_
     refine Dn 4 (k:=?_)
     refine an_b2s (l := [UInt8.ofNat s.length]) Tryz.underlying89 Tryz.underlying9 Tryz.underlying5 rfl (vUs_one _ _ (u8_len s h)) (by simp) rfl ?_
     refine Dv 6 (k:=Dv 11 (k:=Dv 15 (k:=Dv 16 (k:=Dd (k:=Ya (Zt (k:=?_)))))))
     exact zb184ret
  ·
   refine an_callF hr rfl rfl rfl ?_
   refine d_next2 3 14 (by kernel_rfl) rfl rfl ?_ ?_
   ·
    refine Nl [_] (cs := [_]) (k:=fun b8 => ?_)
    refine d_next2 4 14 (by kernel_rfl) rfl rfl ?_ ?_
    ·
     refine an_b2s (l := [UInt8.ofNat s.length]) Tryz.underlying89 Tryz.underlying9 Tryz.underlying5 rfl (vUs_one _ _ (u8_len s h)) (by simp) rfl ?_
     refine Dv 6 (k:=Dv 11 (k:=Dn 14 (k:=?_)))
     refine an_b2s (l := [mk]) Tryz.underlying89 Tryz.underlying9 Tryz.underlying5 rfl (vUs_one _ _ rfl) (by simp) rfl ?_
     refine Dv 15 (k:=Dv 16 (k:=Dd (k:=Ya (Zt (k:=?_)))))
     exact zb184ret
    ·
     refine an_b2s (l := [mk]) Tryz.underlying89 Tryz.underlying9 Tryz.underlying5 rfl (vUs_one _ _ rfl) (by simp) rfl ?_
     refine Dn 4 (k:=?_)
     refine an_b2s (l := [UInt8.ofNat s.length]) Tryz.underlying89 Tryz.underlying9 Tryz.underlying5 rfl (vUs_one _ _ (u8_len s h)) (by simp) rfl ?_
     refine Dv 6 (k:=Dv 11 (k:=Dv 15 (k:=Dv 16 (k:=Dd (k:=Ya (Zt (k:=?_)))))))
     exact zb184ret
   ·
    refine an_b2s (l := [mk]) Tryz.underlying89 Tryz.underlying9 Tryz.underlying5 rfl (vUs_one _ _ rfl) (by simp) rfl ?_
    refine Dn 3 (k:=Nl [_] (cs := [_]) (k:=fun b8 => Dn 4 (k:=?_)))
    refine an_b2s (l := [UInt8.ofNat s.length]) Tryz.underlying89 Tryz.underlying9 Tryz.underlying5 rfl (vUs_one _ _ (u8_len s h)) (by simp) rfl ?_
    refine Dv 6 (k:=Dv 11 (k:=Dv 15 (k:=Dv 16 (k:=Dd (k:=Ya (Zt (k:=?_)))))))
    exact zb184ret
  ·
   refine an_b2s (l := [mk]) Tryz.underlying89 Tryz.underlying9 Tryz.underlying5 rfl (vUs_one _ _ rfl) (by simp) rfl ?_
   refine d_next2 3 10 (by kernel_rfl) rfl rfl ?_ ?_
   ·
    refine Nl [_] (cs := [_]) (k:=fun b8 => ?_)
    refine d_next2 4 10 (by kernel_rfl) rfl rfl ?_ ?_
    ·
     refine an_b2s (l := [UInt8.ofNat s.length]) Tryz.underlying89 Tryz.underlying9 Tryz.underlying5 rfl (vUs_one _ _ (u8_len s h)) (by simp) rfl ?_
     refine Dv 6 (k:=Dn 10 (k:=?_))
     refine an_callF hr rfl rfl rfl ?_
     refine Dv 11 (k:=Dv 15 (k:=Dv 16 (k:=Dd (k:=Ya (Zt (k:=?_))))))
     exact zb184ret
    ·
     refine an_callF hr rfl rfl rfl ?_
     refine Dn 4 (k:=?_)
     refine an_b2s (l := [UInt8.ofNat s.length]) Tryz.underlying89 Tryz.underlying9 Tryz.underlying5 rfl (vUs_one _ _ (u8_len s h)) (by simp) rfl ?_
     refine Dv 6 (k:=Dv 11 (k:=Dv 15 (k:=Dv 16 (k:=Dd (k:=Ya (Zt (k:=?_)))))))
     exact zb184ret
   ·
    refine an_callF hr rfl rfl rfl ?_
    refine Dn 3 (k:=Nl [_] (cs := [_]) (k:=fun b8 => Dn 4 (k:=?_)))
    refine an_b2s (l := [UInt8.ofNat s.length]) Tryz.underlying89 Tryz.underlying9 Tryz.underlying5 rfl (vUs_one _ _ (u8_len s h)) (by simp) rfl ?_
    refine Dv 6 (k:=Dv 11 (k:=Dv 15 (k:=Dv 16 (k:=Dd (k:=Ya (Zt (k:=?_)))))))
    exact zb184ret
end
section
set_option maxRecDepth 100000
theorem journal_Pieces_sp (s : List UInt8) (h : s.length ≤ 4398046511104) : Sp Tryz.prog 139 [vS s] [] (X := Option Addr × Nat) (fun x => .slice x.1 (piecesS s).length x.2) (fun _ => True) (fun x => [Row 9 1 (.slice x.1 (piecesS s).length x.2) (piecesS s).length ((piecesS s).map vS)]) := by
 refine Sp.body (n := 20) Tryz.call139 Tryz.func139 rfl rfl rfl ?_
 refine Qc (k:=Vv (k:=Wq (Qc (k:=Vv (k:=Wq (Za (k:=Zb (k:=?_))))))))
 refine p_loop (fun (i : { p : (Option Addr × Nat) × List (List UInt8) × List UInt8 // p.2.1 ++ piecesS p.2.2 = piecesS s ∧ p.2.1.length + p.2.2.length ≤ s.length }) => [(0, vS i.1.2.2), (3, .slice i.1.1.1 i.1.2.1.length i.1.1.2)]) (fun (i : { p : (Option Addr × Nat) × List (List UInt8) × List UInt8 // p.2.1 ++ piecesS p.2.2 = piecesS s ∧ p.2.1.length + p.2.2.length ≤ s.length }) => [Row 9 1 (.slice i.1.1.1 i.1.2.1.length i.1.1.2) i.1.2.1.length (i.1.2.1.map vS)]) (fun (i : { p : (Option Addr × Nat) × List (List UInt8) × List UInt8 // p.2.1 ++ piecesS p.2.2 = piecesS s ∧ p.2.1.length + p.2.2.length ≤ s.length }) => i.1.2.2.length) rfl (⟨((none, 0), [], s), rfl, by simp⟩) ?_ ?_ (fun i => ?_)
 · exact ⟨rfl, rfl, trivial⟩
 ·
  exact row_nil
 obtain ⟨⟨⟨a, c⟩, dn, rs⟩, hi, hl⟩ := i
 dsimp only at hi hl
 try dsimp only
 refine Za (k:=Qc (k:=Qv (k:=Vv (k:=Wq (Zi (t:=fun h6 => ?_) (f:=fun h6 => ?_))))))
 ·
  refine Zk (k:=Ya (Zb (k:=Qc (k:=Qv (k:=?_)))))
  refine wo_pv (pv_slice_tom (m := 30) Tryz.underlying9 rfl rfl rfl (by omega)) rfl ?_
  refine r_callF (journal_piece_sp (rs.take 30) (by simp; omega) 1) rfl rfl rfl ?_
  refine Zv [_] (cs := [_]) (k:=fun b11 => ?_)
  refine r_append1 (sz := 1) (bytes := 16) Tryz.underlying27 ti9 rfl rfl rfl rfl rfl rfl rfl (by rfl) (by rfl) (by omega) (by simp only [maxLen]; omega) rfl (fun a12 c12 => ?_)
  refine Vv (k:=Wq (Zr (k:=Vv (k:=?_))))
  refine wo_pv (pv_slice_fromm (m := 30) Tryz.underlying9 rfl rfl rfl (by omega)) rfl ?_
  refine Vv (k:=Wn (Yb ?_))
  refine to_inv ⟨((a12, c12), dn ++ [pieceS (rs.take 30) 1], rs.drop 30), ?_, ?_⟩ ?_ ⟨rfl, sl_eq (by simp), trivial⟩ ?_
  · rw [← hi, piecesS_more (s := rs) (by omega)]; simp
  · simp; omega
  · simp; omega
  · simp only [List.map_append, List.length_append, List.length_singleton, List.map_cons, List.map_nil]
    exact ent_pick
 ·
  refine Ze (k:=Xa (Xi (Xb (Ya (Qc (k:=Qv (k:=?_)))))))
  refine r_callF (journal_piece_sp rs (by omega) 2) rfl rfl rfl ?_
  refine Zv [_] (cs := [_]) (k:=fun b18 => ?_)
  refine r_append1 (sz := 1) (bytes := 16) Tryz.underlying27 ti9 rfl rfl rfl rfl rfl rfl rfl (by rfl) (by rfl) (by omega) (by simp only [maxLen]; omega) rfl (fun a19 c19 => ?_)
  refine Vv (k:=Wq (Zt (k:=?_)))
  have hp : piecesS s = dn ++ [pieceS rs 2] := by rw [← hi, piecesS_last (by omega)]
  refine fin_ret (a19, c19) (vs := [_]) (Cs := []) rfl (.tmp rfl .nil) ?_ trivial ?_
  · simp [pack, hp]
  · simp only [hp, List.map_append, List.length_append, List.length_singleton, List.map_cons, List.map_nil]
    exact ent_pick
theorem disk_All_sp (p : Nat) (D : Dk) : Sp Tryz.prog 132 [.pointer (some ⟨p, 0, none⟩)] [IsD p D] (X := Nat × Option Addr × Nat) (fun x => .func (.func 202) #[] #[.pointer (some ⟨x.1, 0, none⟩)]) (fun _ => True)
    (fun x => [IsD p D, Ce x.1 27 [.slice x.2.1 D.secs.length x.2.2], SlI x.2.1 (D.secs.map vS)]) := by
 refine Sp.body (n := 9) Tryz.call132 Tryz.func132 rfl rfl rfl ?_
 refine wc_exi fun a => wc_exi fun c => wc_al (wc_pu fun ok => ?_)
 have hm := ok.many
 refine wc_know (A := Row 9 1 (.slice a D.secs.length c) D.secs.length (D.secs.map vS)) (.there .here) row_none (fun hnone => ?_)
 refine Qc (k:=Vv (k:=Wq (Qc (k:=Qv (k:=Qx 0 27 (k:=?_))))))
 refine r_callX (slices_Clone_sp D.secs.length c D.secs (sla_row (e := 9) (sz := 1) (k := D.secs.length) (n := D.secs.length) (c := c)) rfl hnone (by omega)) rfl rfl rfl (fun x7 _ => ?_)
 obtain ⟨a7, c7⟩ := x7
 dsimp only
 refine wo_frz a7 ?_
 refine r_callX (slices_All_sp a7 D.secs.length c7) rfl rfl rfl (fun b8 _ => ?_)
 refine Vv (k:=Wq (Zt (k:=?_)))
 refine fin_ret (b8, a7, c7) (vs := [_]) (Cs := []) rfl (.tmp rfl .nil) rfl trivial ?_
 refine ent_step (fold_isD D ok (by rfl) (by exact ⟨rfl, rfl⟩) (by exact ⟨_, _, rfl⟩) (by rfl) (by rfl) (by rfl) (by rfl) (by rfl) (by rfl)) ?_
 exact ent_pick
/-- A journal in memory. -/
def IsJ (q p : Nat) (J : Jn) : HP := Ex fun a : Option Addr => Ex fun c : Nat => Al [Ce q 191 [.pointer (some ⟨p, 0, none⟩), .slice a J.l.length c, vI J.e, vB J.down], Row 9 1 (.slice a J.l.length c) J.l.length (J.l.map vS)]
theorem fold_isJ {q p : Nat} (J : Jn) {v0 v1 v2 v3 : Value} {n e sz T : Nat} {xs : List Value} {Hs R1 Rs : List HP} [h1 : OwnC q T [v0, v1, v2, v3] Hs R1] [h2 : RowC v1 e sz n xs R1 Rs] (hT : T = 191) (he : e = 9 ∧ sz = 1)
    (h0 : v0 = .pointer (some ⟨p, 0, none⟩)) (hs : ∃ a c, v1 = .slice a J.l.length c) (e2 : v2 = vI J.e) (e3 : v3 = vB J.down) (hn : n = J.l.length) (hx : xs = J.l.map vS) : Ent Hs (IsJ q p J :: Rs) := by
 obtain ⟨a, c, rfl⟩ := hs
 obtain ⟨rfl, rfl⟩ := he
 subst hT; subst h0; subst e2; subst e3; subst hn; subst hx
 refine ent_ex a ?_
 refine ent_ex c (ent_al ?_)
 exact ent_step (ent_pick1 h1.get) (ent_pick1 h2.get)
end
end Go.Proofs.YtibccdcemcgkeaaGreat
