/- Texts of this proof, put together: LawBlobChains, PChN. -/
import Derived.Test.YtibccdcemcgkeaaGreatQ16
set_option linter.unusedVariables false
set_option linter.unusedSimpArgs false
namespace Go.Proofs.YtibccdcemcgkeaaGreat
section
set_option maxRecDepth 100000
structure SCh where
 i : Nat
 J : Jn
 K : Ks
 D : Dk
 H : Ks
 na : Option Addr
 nc : Nat
 ta : Option Addr
 tc : Nat
structure SCh.Ok (c : UInt8) (k : Nat) (x : SCh) : Prop where
 le : x.i ≤ k
 ci : CI c x.i x.K x.H
 bi : BI 1500 (16 * x.i) x.J x.K x.D
def nmsC (c : UInt8) (i : Nat) : List Bs := (List.range i).map (chX c)
def txsC (c : UInt8) (i : Nat) : List Bs := (List.range i).map (fun j => chT c (j + 1))
theorem nmsC_succ (c : UInt8) (i : Nat) : nmsC c (i + 1) = nmsC c i ++ [chX c i] := by simp [nmsC, List.range_succ]
theorem txsC_succ (c : UInt8) (i : Nat) : txsC c (i + 1) = txsC c i ++ [chT c (i + 1)] := by simp [txsC, List.range_succ]
theorem nmsC_len (c : UInt8) (i : Nat) : (nmsC c i).length = i := by simp [nmsC]
theorem txsC_len (c : UInt8) (i : Nat) : (txsC c i).length = i := by simp [txsC]
theorem vUs_ch (c : UInt8) {i : Nat} (h : i ≤ 9) : ([vU c.toNat, vU (IntKind.u8.wrap (97 + (i : Int)))] : List Value).take 2 = vUs [c, UInt8.ofNat (97 + i)] := by
 have e : IntKind.u8.wrap (97 + (i : Int)) = ((97 + i : Nat) : Int) := (u8_in' (by omega)).trans (by omega)
 rw [e]
 simp [vUs]
 omega
theorem zb10next1 {G : Prop} (h : G := by exact to_inv ⟨j + 1, by omega⟩ (by dsimp only; omega) ⟨rfl, rfl, rfl, rfl, rfl, rfl, trivial⟩ ent_pick) : G := h
set_option maxHeartbeats 8000000 in
theorem BlobChains_sp (nn : Int) (c : UInt8) (hc : ChN c) : Sp1 Tryz.prog 10 [vI nn, vU c.toNat] [] (vB true) [] := by
 have i0 : BI 1500 0 ⟨[], 0, false⟩ [] (newD 1500) := bi_new (by decide) (by decide)
 obtain ⟨k, hk, hk1, hk9⟩ : ∃ m : Nat, withinI nn 1 9 = (m : Int) ∧ 1 ≤ m ∧ m ≤ 9 := by
  have := withinI_in (n := nn) (lo := 1) (hi := 9) (by omega)
  exact ⟨(withinI nn 1 9).toNat, by omega, by omega, by omega⟩
 have hW := book_Within_sp nn 1 9 (by omega) (by omega) (by omega)
 rw [hk] at hW
 refine Sp.body (n := 112) Tryz.call10 Tryz.func10 rfl rfl rfl ?_
 refine Qc (k:=Vv (k:=Wq (Qc (k:=?_))))
 refine r_callX (disk_New_sp 1500) rfl rfl rfl (fun d _ => ?_)
 refine Vv (k:=Wq (Qc (k:=Vv (k:=?_))))
 refine r_callX (store_Open_sp d (newD 1500)) rfl rfl rfl (fun s _ => ?_)
 refine Vv (k:=Wq (Za (k:=Qc (k:=Vv (k:=?_)))))
 refine wo_pv (pv_peql_nil Tryz.underlying70 rfl rfl) rfl ?_
 refine Vv (k:=Gi 2 (t:=fun h24 => ?_) (f:=fun h24 => ?_))
 ·
  cases h24
  --done
 ·
  refine J0 (k:=I0 (k:=?_))
  refine wo_pv (pv_peql_nil Tryz.underlying72 rfl rfl) rfl ?_
  refine P0 (k:=Wq (Zi (t:=fun h27 => ?_) (f:=fun h27 => ?_)))
  ·
   cases h27
   --done
  ·
   refine Zk (k:=Ya (Za (k:=?_)))
   rw [show openJ (newD 1500) = ⟨[], 0, false⟩ from rfl, show openK (⟨[], 0, false⟩ : Jn).l = [] from rfl]
   refine Zr (k:=Vv (k:=Wq (Qc (k:=Vv (k:=?_)))))
   refine r_callF hW rfl rfl rfl ?_
   refine Vv (k:=Wq (Qc (k:=Vv (k:=Wq (Qc (k:=Qv (k:=Wq (Za (k:=?_)))))))))
   refine Qc (k:=Qv (k:=Wq (Zb (k:=?_))))
   refine p_loop (fun (i : { x : SCh // x.Ok c k }) => [(1, vU c.toNat), (6, .pointer (some ⟨s, 0, none⟩)), (7, vS (chT c i.1.i)), (9, vS (lastX c i.1.i)), (10, .slice i.1.na i.1.i i.1.nc), (11, .slice i.1.ta i.1.i i.1.tc), (30, vI k), (31, vI i.1.i)]) (fun (i : { x : SCh // x.Ok c k }) => [IsS s d i.1.J i.1.K, IsD d i.1.D, Row 9 1 (.slice i.1.na i.1.i i.1.nc) i.1.i ((nmsC c i.1.i).map vS), Row 9 1 (.slice i.1.ta i.1.i i.1.tc) i.1.i ((txsC c i.1.i).map vS)]) (fun (i : { x : SCh // x.Ok c k }) => k - i.1.i) rfl (⟨⟨0, ⟨[], 0, false⟩, [], newD 1500, [], none, 0, none, 0⟩, Nat.zero_le _, ci_0 c, i0⟩) ?_ ?_ (fun i => ?_)
   · exact ⟨rfl, rfl, rfl, rfl, rfl, rfl, rfl, rfl, trivial⟩
   ·
    dsimp only
    simp only [List.length_nil, List.map_nil, show nmsC c 0 = [] from rfl, show txsC c 0 = [] from rfl]
    exact (row_nil (e := 9) (sz := 1)).trans ((row_nil (e := 9) (sz := 1)).trans ent_pick)
   obtain ⟨⟨i, J, K, D, H, na, nc, ta, tc⟩, ok⟩ := i
   have hik := ok.le
   have ci := ok.ci
   have bi := ok.bi
   dsimp only at hik ci bi ⊢
   have hkl := bi.len
   have hnl := nmsC_len c i
   have htl := txsC_len c i
   try dsimp only
   refine Qc (k:=Vv (k:=Wq (Za (k:=Zi (t:=fun h32 => ?_) (f:=fun h32 => ?_)))))
   ·
    refine Zk (k:=Ya (Za (k:=Zb (k:=Za (k:=?_)))))
    have hil : i < k := by omega
    have hcl := chT_len c i
    have hcl1 := chT_len c (i + 1)
    obtain ⟨t, ht⟩ : ∃ t, t = chT c (i + 1) := ⟨_, rfl⟩
    have htt : chT c i ++ [c, UInt8.ofNat (97 + i)] = t := by rw [ht]; rfl
    obtain ⟨x, hx⟩ : ∃ x, x = chX c i := ⟨_, rfl⟩
    have hxs : shaB t = x := by rw [ht, hx]; rfl
    have hxl : x.length = 40 := by rw [← hxs]; exact shaB_len _
    have hS := hash_Sum_sp t (by rw [ht]; omega)
    rw [hxs] at hS
    have hrow := ci.row hc (by omega)
    have hlx : (lastX c i).length ≤ 40 := by
     cases i with
     | zero => exact Nat.zero_le _
     | succ i => exact Nat.le_of_eq (shaB_len _)
    have ci2 := ci.put hc (by omega)
    rw [← ht] at hcl1
    rw [← hx, ← ht] at hrow ci2
    obtain ⟨rv, hrv⟩ : ∃ rv, rv = chV c i := ⟨_, rfl⟩
    rw [← hrv] at hrow ci2
    have hrl := hrow.len
    have hR := blob_Row_sp s d J K bi.txt x t (lastX c i) (by omega) (by omega) (by omega)
    rw [hrow.row] at hR
    change Sp1 _ _ _ _ (.agg #[vS (98 :: x), vS rv, .bool false]) _ at hR
    obtain ⟨ja, da, i2, hC2⟩ := bi.sp (l := [⟨98 :: x, rv, false⟩]) 15 (fun q hq => by rw [List.mem_singleton.1 hq]; exact ⟨by simp, by simp; omega, by simp; omega, fun e => by cases e⟩) (Nat.le_trans (textOf_one (by simp <;> omega) (by simp <;> omega)) (by simp <;> omega)) (by omega) (by decide)
    have i3 := i2.up (m := 16 * (i + 1)) (by omega)
    have hch := ci2.ch i (by omega)
    rw [← hx, ← ht] at hch
    have hDp := blob_Depth_sp s d ja (doR K [⟨98 :: x, rv, false⟩]) i3.txt x (by omega)
    rw [hch.dep (by omega)] at hDp
    refine Zr (k:=Qv (k:=Wq (Qc (k:=Qv (k:=Qv (k:=?_))))))
    refine wo_pv (pv_conv rfl Tryz.underlying3 Tryz.underlying5) rfl ?_
    refine Zv [_, _] (cs := [_, _]) (k:=fun b39 => ?_)
    refine r_b2s (l := [c, UInt8.ofNat (97 + i)]) Tryz.underlying89 Tryz.underlying9 Tryz.underlying5 rfl (vUs_ch c (by omega)) (by simp) rfl ?_
    refine wo_pv (pv_cat rfl rfl (by simp; omega)) rfl ?_
    rw [htt]
    refine Vv (k:=Wq (Qc (k:=Vv (k:=?_))))
    refine r_callF hS rfl rfl rfl ?_
    refine Vv (k:=Wq (Za (k:=Qc (k:=Qv (k:=Qv (k:=Vv (k:=?_)))))))
    refine r_call1 hR rfl rfl rfl ?_
    refine Zv [_] (cs := [_, _, _]) (k:=fun b50 => ?_)
    refine wo_ent' (ce_norm (b := b50) (T := 77) (l' := [(⟨98 :: x, rv, false⟩ : Rw)].flatMap rowC) (by rfl) (by rfl)) ?_
    refine r_call1 (hC2 (Ce b50 77 ([(⟨98 :: x, rv, false⟩ : Rw)].flatMap rowC)) _ s d 1 1 sla_ce rfl) rfl rfl rfl ?_
    refine Vv (k:=Wq (Zi (t:=fun h52 => ?_) (f:=fun h52 => ?_)))
    ·
     exact absurd rfl h52
     --done
    ·
     refine Zk (k:=Ya (Qc (k:=Qv (k:=Zv [_] (cs := [_]) (k:=fun b55 => ?_)))))
     refine r_append1 (sz := 1) (bytes := 16) Tryz.underlying27 ti9 rfl rfl rfl rfl rfl rfl rfl (by rfl) (by rfl) (by omega) (by simp only [maxLen]; omega) rfl (fun a56 c56 => ?_)
     refine Qv (k:=Zv [_] (cs := [_]) (k:=fun b59 => ?_))
     refine r_append1 (sz := 1) (bytes := 16) Tryz.underlying27 ti9 rfl rfl rfl rfl rfl rfl rfl (by rfl) (by rfl) (by omega) (by simp only [maxLen]; omega) rfl (fun a60 c60 => ?_)
     refine Qv (k:=Qv (k:=Wq (Qc (k:=Qv (k:=Vv (k:=Wq (Za (k:=?_))))))))
     refine Zr (k:=Qv (k:=?_))
     refine r_call1 hDp rfl rfl rfl ?_
     refine Qv (k:=Wq (Zi (t:=fun h68 => ?_) (f:=fun h68 => ?_)))
     ·
      exfalso; omega
      --done
     ·
      refine Zk (k:=Yb (Ya (Zr (k:=Qv (k:=Wn ?_)))))
      refine to_inv ⟨⟨i + 1, ja, doR K [⟨98 :: x, rv, false⟩], da, mput H x (vS t), a56, c56, a60, c60⟩, by dsimp only; omega, ci2, i3⟩ (by dsimp only; omega) ⟨rfl, rfl, vS_eq ht, vS_eq hx, sl_eq (by simp), sl_eq (by simp), rfl, rfl, trivial⟩ ?_
      dsimp only
      rw [nmsC_succ, txsC_succ, ← hx, ← ht]
      simp only [List.length_append, List.length_cons, List.length_nil, Nat.zero_add, List.map_append, List.map_cons, List.map_nil]
      exact ent_pick
   ·
    refine Ze (k:=Xa (Xi (Xb (Ya (Za (k:=Za (k:=?_)))))))
    have hik2 : i = k := by omega
    subst hik2
    have hx0 : (nmsC c i)[0]'(by omega) = chX c 0 := by simp [nmsC]
    have hx0l : (chX c 0).length = 40 := shaB_len _
    obtain ⟨hd1, hd2, hd3⟩ := dropB_ok ci.hb bi.nam (x := chX c 0) (by omega)
    have hdt := textOf_many hd2
    have hHl : H.length ≤ 9 := by
     have h1 := ci.hb.count
     have h2 : (nmsB K).length ≤ (nmsC c i).length := nodup_len (nms_nodup ci.hb.nd) fun n hn => by
      obtain ⟨j, hj, e⟩ := (ci.key n).1 (ci.hb.nms.1 hn)
      exact List.mem_map.2 ⟨j, List.mem_range.2 hj, e.symm⟩
     omega
    obtain ⟨jb, db, i4, hC4⟩ := bi.sp (l := dropB K (chX c 0)) 130 hd1 (by omega) (by omega) (by decide)
    have hDr := blob_Drop_sp s d J K bi.txt bi.NamK (by omega) (chX c 0) (by omega)
    obtain ⟨hb4, hall⟩ := ci.drop hc (by omega) (by omega)
    have hck := blob_Check_sp s d jb (doR K (dropB K (chX c 0))) i4.txt i4.NamK (by have := i4.len; omega)
    rw [show checkB (doR K (dropB K (chX c 0))) = true from hb4.check] at hck
    refine Zr (k:=Qv (k:=Vv (k:=Ye 1 (m := 0) (k:=?_))))
    refine r_eload Tryz.underlying9 rfl rfl ((get_map (m := 0) (by omega)).trans (by rw [hx0])) rfl ?_
    refine r_callX hDr rfl rfl rfl (fun x75 _ => ?_)
    refine r_call1 (hC4 (Row 77 3 (.slice x75.1 (dropB K (chX c 0)).length x75.2) (dropB K (chX c 0)).length ((dropB K (chX c 0)).flatMap rowC)) _ s d (dropB K (chX c 0)).length x75.2 sla_row rfl) rfl rfl rfl ?_
    refine Vv (k:=Wq (Zi (t:=fun h77 => ?_) (f:=fun h77 => ?_)))
    ·
     exact absurd rfl h77
     --done
    ·
     refine Zk (k:=Ya (Za (k:=Qc (k:=Qv (k:=Vv (k:=Wq (Zb (k:=?_))))))))
     refine p_loop (fun (j : { j : Nat // j ≤ i }) => [(6, .pointer (some ⟨s, 0, none⟩)), (10, .slice na i nc), (11, .slice ta i tc), (78, .slice na i nc), (79, vI i), (80, vI j.1)]) (fun (j : { j : Nat // j ≤ i }) => [IsS s d jb (doR K (dropB K (chX c 0))), IsD d db, Row 9 1 (.slice na i nc) i ((nmsC c i).map vS), Row 9 1 (.slice ta i tc) i ((txsC c i).map vS)]) (fun (j : { j : Nat // j ≤ i }) => i - j.1) rfl (⟨0, Nat.zero_le _⟩) ?_ ?_ (fun j => ?_)
     · exact ⟨rfl, rfl, rfl, rfl, rfl, rfl, trivial⟩
     ·
      exact ent_pick
     obtain ⟨j, hj⟩ := j
     dsimp only
     try dsimp only
     refine Qc (k:=Vv (k:=Wq (Za (k:=Zi (t:=fun h81 => ?_) (f:=fun h81 => ?_)))))
     ·
      refine Zk (k:=Ya (Za (k:=Zb (k:=Za (k:=?_)))))
      have hji : j < i := by omega
      have hxj : (nmsC c i)[j]'(by omega) = chX c j := by simp [nmsC]
      have htj : (txsC c i)[j]'(by omega) = chT c (j + 1) := by simp [txsC]
      have hxjl : (chX c j).length = 40 := shaB_len _
      have hCn := blob_Content_sp s d jb (doR K (dropB K (chX c 0))) i4.txt (chX c j) (by omega)
      rw [show ctnB (doR K (dropB K (chX c 0))) (chX c j) = if j = 0 then none else some (chT c (j + 1)) from hall j hji] at hCn
      obtain ⟨y, hy⟩ : ∃ y : Option Bs, y = if j = 0 then none else some (chT c (j + 1)) := ⟨_, rfl⟩
      rw [← hy] at hCn
      have hys : y.isSome = decide ((j : Int) > 0) := by rw [hy]; by_cases e : j = 0 <;> simp [e]; omega
      have hyv : y.isSome = true → y.getD [] = chT c (j + 1) := by rw [hy]; by_cases e : j = 0 <;> simp [e]
      refine Zr (k:=Vv (k:=Ye 1 (k:=?_)))
      refine r_eload Tryz.underlying9 rfl rfl ((get_map (m := j) (by omega)).trans (by rw [hxj])) rfl ?_
      refine Qv (k:=Wq (Qc (k:=Qv (k:=?_))))
      refine r_call1 hCn rfl rfl rfl ?_
      refine Vv (k:=?_)
      refine wo_pv (pv_extract (v := vS (y.getD [])) rfl rfl) rfl ?_
      refine wo_pv (pv_extract (v := vB y.isSome) rfl rfl) rfl ?_
      refine Qv (k:=Wq (Qc (k:=Qv (k:=Vv (k:=?_)))))
      refine wo_pv (pv_bneq Tryz.underlying4 rfl rfl) rfl ?_
      refine Vv (k:=Gi 4 (t:=fun h95 => ?_) (f:=fun h95 => ?_))
      ·
       exfalso; rw [hys] at h95; simp at h95
       --done
      ·
       refine J0 (k:=J0 (k:=Gi 6 (t:=fun h97 => ?_) (f:=fun h97 => ?_)))
       ·
        refine J1 (k:=J1 (k:=J1 (k:=I1 (k:=Ye 1 (k:=I1 (k:=?_))))))
        refine r_eload Tryz.underlying9 rfl rfl ((get_map (m := j) (by omega)).trans (by rw [htj])) rfl ?_
        refine J1 (k:=I0 (k:=P1 (k:=P0 (k:=Wq (Zi (t:=fun h105 => ?_) (f:=fun h105 => ?_))))))
        ·
         exfalso; simp_all
         --done
        ·
         refine Zk (k:=Yb (Ya (Zr (k:=Qv (k:=Wn ?_)))))
         exact zb10next1
       ·
        refine O0 (k:=O0 (k:=O0 (k:=O0 (k:=O0 (k:=O0 (k:=I0 (k:=P0 (k:=P0 (k:=Wq (Z0 (k:=Zk (k:=?_))))))))))))
        refine Yb (Ya (Zr (k:=Qv (k:=Wn ?_))))
        exact zb10next1
     ·
      refine Ze (k:=Xa (Xi (Xb (Ya (Qc (k:=Vv (k:=?_)))))))
      refine r_call1 hck rfl rfl rfl ?_
      refine Vv (k:=Gi 2 (t:=fun h109 => ?_) (f:=fun h109 => ?_))
      ·
       refine I1 (k:=?_)
       refine r_call1 BlobRuns_sp rfl rfl rfl ?_
       refine P1 (k:=Vv (k:=Wq (Zt (k:=?_))))
       exact fin_ret () (vs := [_]) (Cs := []) rfl (.tmp rfl .nil) rfl trivial ent_pick
      ·
       cases h109
       --done
end
/-- Behind the first block, which is the same in all the texts. -/
def sum1 {α : Type} (s : Bs) (k : Nat → Nat → Nat → Nat → Nat → α) : α := frc (Nat.sub (blocksN s) 1) fun n => blksN n ((padB s).drop 64) 570995619 2263302745 3037680301 4109762172 2908925206 k
theorem first64 {α : Type} (k : Nat → Nat → Nat → Nat → Nat → α) : takeN (chBase.take 64) 0x67452301 0xefcdab89 0x98badcfe 0x10325476 0xc3d2e1f0 k = k 570995619 2263302745 3037680301 4109762172 2908925206 := by kernel_rfl
theorem sum1_eq {α : Type} {s : Bs} (h : (padB s).take 64 = chBase.take 64) (hb : 1 ≤ blocksN s) (k : Nat → Nat → Nat → Nat → Nat → α) : sumN s k = sum1 s k := by
 rw [sumN, sum1, frc_eq, frc_eq]
 obtain ⟨n, e⟩ : ∃ n, blocksN s = n + 1 := ⟨blocksN s - 1, by omega⟩
 rw [e, blksN, h, first64]
 rfl
def chF (c : UInt8) (i : Nat) : Nat := sum1 (chT c (i + 1)) fun a _ _ _ _ => a
theorem chT_pre (c : UInt8) (i : Nat) : ∃ r, chT c i = chBase ++ r := by
 induction i with
 | zero => exact ⟨[], by simp [chT]⟩
 | succ i ih => obtain ⟨r, e⟩ := ih; exact ⟨r ++ [c, UInt8.ofNat (97 + i)], by rw [chT, e, List.append_assoc]⟩
theorem chF_eq (c : UInt8) (i : Nat) : (sumN (chT c (i + 1)) fun a _ _ _ _ => a) = chF c i := by
 refine sum1_eq ?_ (by unfold blocksN; omega) _
 obtain ⟨r, e⟩ := chT_pre c (i + 1)
 have hl : chBase.length = 110 := chT_len 0 0
 unfold padB
 rw [e]
 simp only [List.append_assoc]
 rw [List.take_append_of_le_length (by omega)]
def chk (c : UInt8) : Nat → Nat → List Nat → Bool
 | 0, _, _ => true
 | f + 1, i, acc => frc (chF c i) fun w => bif acc.contains w then false else chk c f (i + 1) (w :: acc)
theorem chk_ok (c : UInt8) : ∀ (f i : Nat) (acc : List Nat), chk c f i acc = true → (∀ j, i ≤ j → j < i + f → chF c j ∉ acc) ∧ (∀ j l, i ≤ j → j < l → l < i + f → chF c j ≠ chF c l) := by
 intro f
 induction f with
 | zero => intro i acc _; exact ⟨fun j h1 h2 => by omega, fun j l h1 h2 h3 => by omega⟩
 | succ f ih =>
   intro i acc h
   rw [chk, frc_eq] at h
   cases hc : acc.contains (chF c i) with
   | true => rw [hc] at h; cases h
   | false =>
     rw [hc] at h
     obtain ⟨h1, h2⟩ := ih _ _ h
     have hn : chF c i ∉ acc := by simpa using hc
     refine ⟨fun j hj hl => ?_, fun j l hj hjl hl => ?_⟩
     · by_cases e : j = i
       · subst e; exact hn
       · exact fun hm => h1 j (by omega) (by omega) (List.mem_cons_of_mem _ hm)
     · by_cases e : j = i
       · subst e
         exact fun e2 => h1 l (by omega) (by omega) (by rw [← e2]; exact List.mem_cons_self)
       · exact h2 j l (by omega) hjl (by omega)
theorem chN_of {c : UInt8} (h : chk c 9 0 [] = true) : ChN c := by
 obtain ⟨_, h2⟩ := chk_ok c 9 0 [] h
 have key : ∀ i j, i < j → j < 9 → chX c i ≠ chX c j := fun i j hij hj => first_ne (by rw [chF_eq, chF_eq]; exact h2 i j (by omega) hij (by omega))
 intro i j hi hj hne
 rcases Nat.lt_or_gt_of_ne hne with h | h
 · exact key i j h hj
 · exact (key j i h hi).symm
def chks (a : Nat) : Nat → Bool
 | 0 => true
 | n + 1 => bif chk (UInt8.ofNat (a + n)) 9 0 [] then chks a n else false
theorem chks_ok {a : Nat} : ∀ {n : Nat}, chks a n = true → ∀ x, a ≤ x → x < a + n → ChN (UInt8.ofNat x) := by
 intro n
 induction n with
 | zero => intro _ x h1 h2; omega
 | succ n ih =>
   intro h x h1 h2
   rw [chks] at h
   cases hc : chk (UInt8.ofNat (a + n)) 9 0 [] with
   | false => rw [hc] at h; cases h
   | true =>
     rw [hc] at h
     by_cases e : x = a + n
     · subst e; exact chN_of hc
     · exact ih h x h1 (by omega)
end Go.Proofs.YtibccdcemcgkeaaGreat
