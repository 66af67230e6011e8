/- Texts of this proof, put together: PChains, LawBlobRuns, PCard, PEsc, SIs, SEsc, Args, SCard, SRead, PCk, PCk2, SCk3, RowZ, SRSha2, PCk4, SBook. -/
import Derived.Lib.MakeNoZero
import Derived.ChangeArms
import Derived.DataReads
import Derived.WideShapes
import Derived.Laws.IdiomStrings
import Derived.Test.YtibccdcemcgkeaaGreatQ15
set_option linter.unusedVariables false
set_option linter.unusedSimpArgs false
namespace Go.Proofs.YtibccdcemcgkeaaGreat
/-- The texts of the chain. -/
def chBase : Bs := ([116, 104, 101, 32, 98, 101, 103, 105, 110, 110, 105, 110, 103, 32, 111, 102, 32, 97, 32, 116, 101, 120, 116, 32, 116, 104, 97, 116, 32, 103, 114, 111, 119, 115, 32, 98, 121, 32, 97, 32, 98, 121, 116, 101, 32, 111, 114, 32, 116, 119, 111, 32, 97, 116, 32, 101, 97, 99, 104, 32, 116, 117, 114, 110]).append [44, 32, 108, 111, 110, 103, 32, 101, 110, 111, 117, 103, 104, 32, 116, 104, 97, 116, 32, 97, 32, 100, 101, 108, 116, 97, 32, 105, 115, 32, 115, 104, 111, 114, 116, 101, 114, 32, 116, 104, 97, 110, 32, 105, 116, 32]
def chT (c : UInt8) : Nat → Bs
 | 0 => chBase
 | i + 1 => chT c i ++ [c, UInt8.ofNat (97 + i)]
theorem chB_len : chBase.length = 110 := by decide +kernel
theorem chT_len (c : UInt8) (i : Nat) : (chT c i).length = 110 + 2 * i := by
 induction i with
 | zero => rw [chT, chB_len]
 | succ i ih => rw [chT, List.length_append, ih]; simp; omega
def chX (c : UInt8) (i : Nat) : Bs := shaB (chT c (i + 1))
/-- No two of the names are the same. -/
def ChN (c : UInt8) : Prop := ∀ i j, i < 9 → j < 9 → i ≠ j → chX c i ≠ chX c j
/-- Where the chain stands. -/
structure CI (c : UInt8) (i : Nat) (K H : Ks) : Prop where
 hb : Hb K H
 key : ∀ n, n ∈ H.map (·.1) ↔ ∃ j, j < i ∧ n = chX c j
 ch : ∀ j, j < i → Ch K (j % 4) (chX c j) (chT c (j + 1))
theorem ci_0 (c : UInt8) : CI c 0 [] [] := ⟨hb_nil, fun n => by simp, fun j h => by omega⟩
def lastX (c : UInt8) : Nat → Bs
 | 0 => []
 | i + 1 => chX c i
theorem CI.new {c : UInt8} {i : Nat} {K H : Ks} (s : CI c i K H) (hc : ChN c) (hi : i < 9) : chX c i ∉ H.map (·.1) := by
 rw [s.key]
 rintro ⟨j, hj, e⟩
 exact hc i j hi (by omega) (by omega) e
def chV (c : UInt8) (i : Nat) : Bs := if i % 4 = 0 then 102 :: chT c (i + 1) else 100 :: (lastX c i ++ makeB (chT c i) (chT c (i + 1)))
theorem CI.row {c : UInt8} {i : Nat} {K H : Ks} (s : CI c i K H) (hc : ChN c) (hi : i < 9) : RowP K H (chX c i) (chT c (i + 1)) (lastX c i) (chV c i) := by
 have hn := s.new hc hi
 cases i with
 | zero =>
   have : ctnB K [] = none := no_ctn (s.hb.none (x := []) (fun h => by obtain ⟨j, hj, _⟩ := (s.key []).1 h; omega)) 3
   exact ⟨rowB_none this, .inl rfl⟩
 | succ i =>
   have h1 := s.ch i (by omega)
   have hl := chT_len c (i + 1)
   have hne : chX c i ≠ chX c (i + 1) := hc i (i + 1) (by omega) hi (by omega)
   have hxl : (chX c i).length = 40 := shaB_len _
   by_cases h4 : (i + 1) % 4 = 0
   · have h3 : i % 4 = 3 := by omega
     have hv : chV c (i + 1) = 102 :: chT c (i + 1 + 1) := if_pos h4
     refine ⟨?_, .inl hv⟩
     rw [hv, rowB, show ctnB K (lastX c (i + 1)) = some (chT c (i + 1)) from h1.ctn 3 (by omega)]
     show rowF _ _ (chX c i) _ _ _ = _
     unfold rowF
     dsimp only
     rw [if_pos (.inr (.inl (by rw [show lastX c (i + 1) = chX c i from rfl, h1.dep (by omega)]; omega)))]
   · have hv : chV c (i + 1) = 100 :: (chX c i ++ makeB (chT c (i + 1)) (chT c (i + 1 + 1))) := if_neg h4
     have hml := pre_len (s := chT c (i + 1)) (t := [c, UInt8.ofNat (97 + (i + 1))]) (by omega) (by simp) (by simp; omega)
     have hl2 := chT_len c (i + 1 + 1)
     refine ⟨?_, .inr ⟨chT c (i + 1), i % 4, h1, by omega, by omega, hxl, hne, hv, ?_⟩⟩
     · rw [hv]
       exact rowB_pre (x := chT c (i + 1)) (t := [c, UInt8.ofNat (97 + (i + 1))]) (h1.ctn 3 (by omega)) hxl (by show depB K (chX c i) < 3; rw [h1.dep (by omega)]; omega) (by show staB K (chX c i) _ = false; rw [staB]; exact h1.sta (s.hb.none hn) 4) (by omega) (by simp) (by simp; omega)
     · rw [hv]
       have : chT c (i + 1 + 1) = chT c (i + 1) ++ [c, UInt8.ofNat (97 + (i + 1))] := rfl
       rw [← this] at hml
       simp at hml ⊢
       omega
theorem CI.put {c : UInt8} {i : Nat} {K H : Ks} (s : CI c i K H) (hc : ChN c) (hi : i < 9) : CI c (i + 1) (doR K [⟨98 :: chX c i, chV c i, false⟩]) (mput H (chX c i) (vS (chT c (i + 1)))) := by
 have hn := s.new hc hi
 have r := s.row hc hi
 have hl := chT_len c (i + 1)
 have hb2 := s.hb.put hn rfl (by omega) r
 refine ⟨hb2, fun n => ?_, fun j hj => ?_⟩
 · rw [← mlook_isSome, mlook_mput]
   by_cases e : chX c i = n
   · rw [if_pos e]; exact ⟨fun _ => ⟨i, by omega, e.symm⟩, fun _ => rfl⟩
   · rw [if_neg e, mlook_isSome, s.key]
     constructor
     · rintro ⟨j, hj, h⟩; exact ⟨j, by omega, h⟩
     · rintro ⟨j, hj, h⟩
       by_cases ej : j = i
       · subst ej; exact absurd h.symm e
       · exact ⟨j, by omega, h⟩
 · by_cases ej : j = i
   · subst ej
     have hg : getB (doR K [⟨98 :: chX c j, chV c j, false⟩]) (98 :: chX c j) = chV c j := by
      rw [doR_one, getB_doOne s.hb.nd, if_pos rfl]; rfl
     cases j with
     | zero => exact hg
     | succ j =>
       by_cases h4 : (j + 1) % 4 = 0
       · rw [h4]
         have hv : chV c (j + 1) = 102 :: chT c (j + 1 + 1) := if_pos h4
         exact hg.trans hv
       · have hv : chV c (j + 1) = 100 :: (chX c j ++ makeB (chT c (j + 1)) (chT c (j + 1 + 1))) := if_neg h4
         have hg := hg.trans hv
         rw [show (j + 1) % 4 = j % 4 + 1 by omega]
         have hl2 := chT_len c (j + 1)
         refine ⟨chX c j, _, chT c (j + 1), shaB_len _, hg, ?_, apply_make (by omega) (by omega)⟩
         exact (s.ch j (by omega)).put s.hb.nd _ (s.hb.none hn)
   · exact (s.ch j (by omega)).put s.hb.nd _ (s.hb.none hn)
/-- The first one dropped. -/
theorem CI.drop {c : UInt8} {i : Nat} {K H : Ks} (s : CI c i K H) (hc : ChN c) (h0 : 0 < i) (hi : i ≤ 9) : Hb (kdr K (chX c 0)) (mdel H (chX c 0)) ∧ ∀ j, j < i → ctnB (kdr K (chX c 0)) (chX c j) = if j = 0 then none else some (chT c (j + 1)) := by
 have hm : chX c 0 ∈ H.map (·.1) := (s.key _).2 ⟨0, h0, rfl⟩
 have hk := (s.hb.key _).1 hm
 have hb2 := s.hb.drop hm
 refine ⟨hb2, fun j hj => ?_⟩
 by_cases e : j = 0
 · subst e
   rw [if_pos rfl]
   refine no_ctn (get_nil ?_) 3
   rw [kdr_key s.hb.nd hk]
   simp
 · rw [if_neg e]
   obtain ⟨k', h1, h2⟩ := (s.ch j hj).drop s.hb.nd hk (by omega) (hc 0 j (by omega) (by omega) (by omega))
   exact h2.ctn 3 (by omega)
section
set_option maxRecDepth 100000
set_option maxHeartbeats 4000000 in
theorem BlobRuns_sp : Sp1 Tryz.prog 8 [] [] (vB true) [] := by
 have r := r8_one
 have hxl := x81_len
 have i0 : BI 60 0 ⟨[], 0, false⟩ [] (newD 60) := bi_new (by decide) (by decide)
 refine Sp.body (n := 106) Tryz.call8 Tryz.func8 rfl rfl rfl ?_
 refine Qc (k:=Vv (k:=Wq (Qc (k:=?_))))
 refine r_callX (disk_New_sp 60) rfl rfl rfl (fun d _ => ?_)
 refine Vv (k:=Wq (Qc (k:=Vv (k:=?_))))
 refine r_callX (store_Open_sp d (newD 60)) rfl rfl rfl (fun s _ => ?_)
 refine Vv (k:=Wq (Za (k:=Qc (k:=Vv (k:=?_)))))
 refine wo_pv (pv_peql_nil Tryz.underlying70 rfl rfl) rfl ?_
 refine Vv (k:=Gi 2 (t:=fun h18 => ?_) (f:=fun h18 => ?_))
 ·
  cases h18
  --done
 ·
  refine J0 (k:=I0 (k:=?_))
  refine wo_pv (pv_peql_nil Tryz.underlying72 rfl rfl) rfl ?_
  refine P0 (k:=Wq (Zi (t:=fun h21 => ?_) (f:=fun h21 => ?_)))
  ·
   cases h21
   --done
  ·
   refine Zk (k:=Ya (Qc (k:=Vv (k:=Wq (Za (k:=?_))))))
   refine wc_keep [(0, .bool false), (1, .pointer (some ⟨d, 0, none⟩)), (2, .pointer (some ⟨s, 0, none⟩)), (3, vS x81)] ⟨rfl, rfl, rfl, rfl, trivial⟩ ?_
   rw [show openJ (newD 60) = ⟨[], 0, false⟩ from rfl, show openK (⟨[], 0, false⟩ : Jn).l = [] from rfl]
   generalize x81 = x at *
   refine Zr (k:=Vv (k:=?_))
   refine wo_pv (pv_cat rfl rfl (by simp only [List.length_singleton]; omega)) rfl ?_
   obtain ⟨y, hy⟩ : ∃ y, y = x ++ [33] := ⟨_, rfl⟩
   rw [← hy]
   have hyl : y.length = 106 := by rw [hy, List.length_append, hxl]; rfl
   obtain ⟨a, ha⟩ : ∃ a, a = shaB x := ⟨_, rfl⟩
   obtain ⟨b, hb⟩ : ∃ b, b = shaB y := ⟨_, rfl⟩
   rw [← ha, ← hy, ← hb] at r
   refine Vv (k:=Wq (Qc (k:=Vv (k:=?_))))
   refine r_callF (hash_Sum_sp x (by omega)) rfl rfl rfl ?_
   refine Vv (k:=?_)
   refine r_callF (hash_Sum_sp y (by omega)) rfl rfl rfl ?_
   refine Qv (k:=Wq (Za (k:=?_)))
   rw [← ha, ← hb]
   have hal := r.al
   have hbl := r.bl
   have e1 : rowB [] a x [] = ⟨98 :: a, 102 :: x, false⟩ := r8_row1
   have hR1 := blob_Row_sp s d ⟨[], 0, false⟩ [] i0.txt a x [] (by omega) (by omega) (by simp)
   rw [e1] at hR1
   obtain ⟨ja, da, i1, hC1⟩ := i0.sp (l := [⟨98 :: a, 102 :: x, false⟩]) 6 (fun q hq => by rw [List.mem_singleton.1 hq]; exact ⟨by simp, by simp; omega, by simp; omega, fun e => by cases e⟩) (Nat.le_trans (textOf_one (by simp <;> omega) (by simp <;> omega)) (by simp <;> omega)) (by decide) (by decide)
   rw [show doR [] [(⟨98 :: a, 102 :: x, false⟩ : Rw)] = k81 a x from rfl] at i1 hC1
   refine Zr (k:=Qv (k:=Qv (k:=?_)))
   refine r_call1 hR1 rfl rfl rfl ?_
   refine Zv [_] (cs := [_, _, _]) (k:=fun b33 => ?_)
   refine wo_ent' (ce_norm (b := b33) (T := 77) (l' := [(⟨98 :: a, 102 :: x, false⟩ : Rw)].flatMap rowC) (by rfl) (by rfl)) ?_
   refine r_call1 (hC1 (Ce b33 77 ([(⟨98 :: a, 102 :: x, false⟩ : Rw)].flatMap rowC)) _ s d 1 1 sla_ce rfl) rfl rfl rfl ?_
   refine Wq (Za (k:=?_))
   have e2 := r.row2
   have e3 := r.drop
   have g2 : getB (k82 a b x (makeB x (x ++ [33]))) (98 :: b) = 100 :: (a ++ makeB x (x ++ [33])) := r8_get2b
   have g3 := r.get3
   have hck := r.check (by rw [← hy]; exact hb.symm)
   have hml := pre_len (s := x) (t := [33]) (by omega) (by decide) (by rw [hxl]; decide)
   rw [← hy] at e2 e3 g2 g3 hck hml
   rw [List.length_singleton] at hml
   have hR2 := blob_Row_sp s d ja (k81 a x) i1.txt b y a (by omega) (by omega) (by omega)
   rw [e2] at hR2
   have hm0 : 0 < (makeB x y).length := List.length_pos_iff.2 (makeB_ne (by omega))
   generalize makeB x y = m at *
   have hva : List.take (41 - 1) (List.drop 1 (100 :: (a ++ m))) = a := by
    rw [List.drop_succ_cons, List.drop_zero]
    show List.take 40 _ = _
    rw [← hal, List.take_left]
   obtain ⟨jb, db, i2, hC2⟩ := i1.sp (l := [⟨98 :: b, 100 :: (a ++ m), false⟩]) 4 (fun q hq => by rw [List.mem_singleton.1 hq]; exact ⟨by simp, by simp; omega, by simp; omega, fun e => by cases e⟩) (Nat.le_trans (textOf_one (by simp <;> omega) (by simp <;> omega)) (by simp <;> omega)) (by decide) (by decide)
   rw [show doR (k81 a x) [(⟨98 :: b, 100 :: (a ++ m), false⟩ : Rw)] = k82 a b x m from rfl] at i2 hC2
   refine Zr (k:=Qv (k:=Qv (k:=Vv (k:=?_))))
   refine r_call1 hR2 rfl rfl rfl ?_
   refine Zv [_] (cs := [_, _, _]) (k:=fun b41 => ?_)
   refine wo_ent' (ce_norm (b := b41) (T := 77) (l' := [(⟨98 :: b, 100 :: (a ++ m), false⟩ : Rw)].flatMap rowC) (by rfl) (by rfl)) ?_
   refine r_call1 (hC2 (Ce b41 77 ([(⟨98 :: b, 100 :: (a ++ m), false⟩ : Rw)].flatMap rowC)) _ s d 1 1 sla_ce rfl) rfl rfl rfl ?_
   refine Wq (Za (k:=?_))
   have hG2 := store_Get_sp s d jb (k82 a b x m) (98 :: b)
   rw [(i2.txt.get (98 :: b)).1, g2] at hG2
   generalize (mlook (k82 a b x m) (98 :: b)).isSome = q2 at hG2
   refine Zr (k:=Qv (k:=?_))
   refine wo_pv (pv_cat rfl rfl (by simp only [List.length_singleton]; omega)) rfl ?_
   rw [List.singleton_append]
   refine r_call1 hG2 rfl rfl rfl ?_
   refine Vv (k:=?_)
   refine wo_pv (pv_extract (v := vS (100 :: (a ++ m))) rfl rfl) rfl ?_
   refine wo_pv (pv_extract (v := vB q2) rfl rfl) rfl ?_
   refine Qv (k:=Wq (Za (k:=?_)))
   have hD := blob_Drop_sp s d jb (k82 a b x m) i2.txt i2.NamK (by have := i2.len; omega) a (by omega)
   rw [e3] at hD
   simp only [List.length_cons, List.length_nil, Nat.zero_add, Nat.reduceAdd] at hD
   obtain ⟨jc3, dc3, i3, hC3⟩ := i2.sp (l := [⟨98 :: b, 102 :: y, false⟩, ⟨98 :: a, [], true⟩]) 7 (fun q hq => by
    rcases List.mem_cons.1 hq with rfl | hq
    · exact ⟨by simp, by simp; omega, by simp; omega, fun e => by cases e⟩
    · rw [List.mem_singleton.1 hq]; exact ⟨by simp, by simp; omega, by simp, fun e => rfl⟩) (Nat.le_trans (textOf_two (by simp <;> omega) (by simp <;> omega) (by simp <;> omega) (by simp <;> omega)) (by simp <;> omega)) (by decide) (by decide)
   rw [show doR (k82 a b x m) [(⟨98 :: b, 102 :: y, false⟩ : Rw), ⟨98 :: a, [], true⟩] = k83 a b x y m from rfl] at i3 hC3
   refine Zr (k:=Qv (k:=Vv (k:=?_)))
   refine r_callX hD rfl rfl rfl (fun x53 _ => ?_)
   refine r_call1 (hC3 (Row 77 3 (.slice x53.1 2 x53.2) 2 ([(⟨98 :: b, 102 :: y, false⟩ : Rw), ⟨98 :: a, [], true⟩].flatMap rowC)) _ s d 2 x53.2 sla_row rfl) rfl rfl rfl ?_
   refine Wq (Za (k:=?_))
   have hG3 := store_Get_sp s d jc3 (k83 a b x y m) (98 :: b)
   rw [(i3.txt.get (98 :: b)).1, g3] at hG3
   generalize (mlook (k83 a b x y m) (98 :: b)).isSome = q3 at hG3
   refine Zr (k:=Qv (k:=?_))
   refine wo_pv (pv_cat rfl rfl (by simp only [List.length_singleton]; omega)) rfl ?_
   rw [List.singleton_append]
   refine r_call1 hG3 rfl rfl rfl ?_
   refine Vv (k:=?_)
   refine wo_pv (pv_extract (v := vS (102 :: y)) rfl rfl) rfl ?_
   refine wo_pv (pv_extract (v := vB q3) rfl rfl) rfl ?_
   refine Qv (k:=Wq (Za (k:=?_)))
   have hCt := blob_Content_sp s d jc3 (k83 a b x y m) i3.txt b (by omega)
   rw [show ctnB (k83 a b x y m) b = some y from full_ctn g3 3] at hCt
   have hCk := blob_Check_sp s d jc3 (k83 a b x y m) i3.txt i3.NamK (by have := i3.len; omega)
   rw [hck] at hCk
   have hDp := blob_Depth_sp s d jc3 (k83 a b x y m) i3.txt b (by omega)
   rw [full_dep g3] at hDp
   refine Zr (k:=Qv (k:=?_))
   refine r_call1 hCt rfl rfl rfl ?_
   refine Vv (k:=?_)
   refine wo_pv (pv_extract (v := vS y) rfl rfl) rfl ?_
   refine wo_pv (pv_extract (v := vB true) rfl rfl) rfl ?_
   refine Qv (k:=Wq (Qc (k:=Qv (k:=Qv (k:=Gi 3 (t:=fun h71 => ?_) (f:=fun h71 => ?_))))))
   ·
    refine J1 (k:=I1 (k:=?_))
    refine wo_pv (pv_indexm (m := 0) Tryz.underlying9 rfl rfl rfl (by simp)) rfl ?_
    refine J1 (k:=P1 (k:=Vv (k:=Gi 8 (t:=fun h76 => ?_) (f:=fun h76 => ?_))))
    ·
     refine J1 (k:=I1 (k:=?_))
     refine wo_pv (pv_slice_inm (m := 1) (o := 41) Tryz.underlying9 rfl rfl rfl rfl rfl (by omega) (by simp; omega)) rfl ?_
     refine J1 (k:=J1 (k:=P1 (k:=Vv (k:=Gi 14 (t:=fun h82 => ?_) (f:=fun h82 => ?_)))))
     ·
      refine J1 (k:=J1 (k:=I1 (k:=?_)))
      refine wo_pv (pv_cat rfl rfl (by simp only [List.length_singleton]; omega)) rfl ?_
      rw [List.singleton_append]
      refine J1 (k:=P1 (k:=Vv (k:=Gi 20 (t:=fun h88 => ?_) (f:=fun h88 => ?_))))
      ·
       refine J1 (k:=J1 (k:=J1 (k:=P1 (k:=Vv (k:=Gi 25 (t:=fun h93 => ?_) (f:=fun h93 => ?_))))))
       ·
        refine J1 (k:=P1 (k:=Vv (k:=Gi 28 (t:=fun h96 => ?_) (f:=fun h96 => ?_))))
        ·
         refine J1 (k:=I1 (k:=?_))
         refine r_call1 hCk rfl rfl rfl ?_
         refine P1 (k:=Vv (k:=Gi 32 (t:=fun h100 => ?_) (f:=fun h100 => ?_)))
         ·
          refine J1 (k:=J1 (k:=I1 (k:=?_)))
          refine r_call1 hDp rfl rfl rfl ?_
          refine J1 (k:=P1 (k:=Vv (k:=Wq (Zt (k:=?_)))))
          exact fin_ret () (vs := [_]) (Cs := []) rfl (.tmp rfl .nil) rfl trivial ent_nil
         ·
          cases h100
          --done
        ·
         cases h96
         --done
       ·
        exact absurd rfl h93
        --done
      ·
       exact absurd rfl h88
       --done
     ·
      exact absurd hva h82
      --done
    ·
     exact absurd rfl h76
     --done
   ·
    exact absurd (by simp; omega) h71
    --done
end
structure Cd where
 l : UInt8
 args : List Bs
 deriving DecidableEq, Repr
def argsB (l : List Bs) : Bs := l.flatMap (fun a => 32 :: a)
def lineB (c : Cd) : Bs := c.l :: argsB c.args
def cardB (c : Cd) : Bs := lineB c ++ [10]
def bodyB (l : List Cd) : Bs := l.flatMap cardB
def sealB (s : Bs) : Bs := s ++ [90, 32] ++ shaB s ++ [10]
def printB (l : List Cd) : Bs := sealB (bodyB l)
def argOk (a : Bs) : Prop := a ≠ [] ∧ 32 ∉ a ∧ 10 ∉ a
instance (a : Bs) : Decidable (argOk a) := inferInstanceAs (Decidable (_ ∧ _ ∧ _))
def cd0 : Cd := ⟨0, []⟩
structure OkC (l : List Cd) (i : Nat) : Prop where
 lo : 65 ≤ (l.getD i cd0).l.toNat
 hi : (l.getD i cd0).l.toNat ≤ 89
 rise : 0 < i → (l.getD (i - 1) cd0).l.toNat ≤ (l.getD i cd0).l.toNat
 args : ∀ a ∈ (l.getD i cd0).args, argOk a
structure RightC (l : List Cd) : Prop where
 ne : l ≠ []
 ok : ∀ i, i < l.length → OkC l i
instance (l : List Cd) (i : Nat) : Decidable (OkC l i) := decidable_of_iff (65 ≤ (l.getD i cd0).l.toNat ∧ (l.getD i cd0).l.toNat ≤ 89 ∧ (0 < i → (l.getD (i - 1) cd0).l.toNat ≤ (l.getD i cd0).l.toNat) ∧ ∀ a ∈ (l.getD i cd0).args, argOk a) ⟨fun ⟨a, b, c, d⟩ => ⟨a, b, c, d⟩, fun ⟨a, b, c, d⟩ => ⟨a, b, c, d⟩⟩
instance (l : List Cd) : Decidable (RightC l) := decidable_of_iff (l ≠ [] ∧ ∀ i, i < l.length → OkC l i) ⟨fun ⟨a, b⟩ => ⟨a, b⟩, fun ⟨a, b⟩ => ⟨a, b⟩⟩
theorem mem_getD {α : Type} {l : List α} {d x : α} (h : x ∈ l) : ∃ i, i < l.length ∧ l.getD i d = x := by
 obtain ⟨i, hi, rfl⟩ := List.getElem_of_mem h
 exact ⟨i, hi, by simp [hi]⟩
theorem RightC.lets {l : List Cd} (r : RightC l) : ∀ c ∈ l, 65 ≤ c.l.toNat ∧ c.l.toNat ≤ 89 := by
 intro c hc
 obtain ⟨i, hi, rfl⟩ := mem_getD (d := cd0) hc
 exact ⟨(r.ok i hi).lo, (r.ok i hi).hi⟩
theorem RightC.args {l : List Cd} (r : RightC l) : ∀ c ∈ l, ∀ a ∈ c.args, argOk a := by
 intro c hc
 obtain ⟨i, hi, rfl⟩ := mem_getD (d := cd0) hc
 exact (r.ok i hi).args
theorem RightC.mk' {l : List Cd} (ne : l ≠ []) (lets : ∀ c ∈ l, 65 ≤ c.l.toNat ∧ c.l.toNat ≤ 89) (args : ∀ c ∈ l, ∀ a ∈ c.args, argOk a) (rise : l.Pairwise (fun a b => a.l.toNat ≤ b.l.toNat)) : RightC l := by
 refine ⟨ne, fun i hi => ?_⟩
 have e : ∀ j, j < l.length → l.getD j cd0 ∈ l := fun j hj => by simp [hj]
 refine ⟨(lets _ (e i hi)).1, (lets _ (e i hi)).2, fun h0 => ?_, args _ (e i hi)⟩
 have := List.pairwise_iff_getElem.1 rise (i - 1) i (by omega) hi (by omega)
 simpa [hi, show i - 1 < l.length by omega] using this
theorem RightC.rise {l : List Cd} (r : RightC l) : l.Pairwise (fun a b => a.l.toNat ≤ b.l.toNat) := by
 rw [List.pairwise_iff_getElem]
 have key : ∀ d i (h : i + d < l.length), (l[i]'(by omega)).l.toNat ≤ (l[i + d]).l.toNat := by
  intro d
  induction d with
  | zero => intros; simp
  | succ d ih =>
    intro i h
    have h1 := ih i (by omega)
    have h2 := (r.ok (i + d + 1) (by omega)).rise (by omega)
    simp [show i + d < l.length by omega, show i + d + 1 < l.length by omega] at h2
    exact Nat.le_trans h1 h2
 intro i j hi hj hij
 have := key (j - i) i (by omega)
 simpa [show i + (j - i) = j by omega] using this
/-! Parts of a text between marks. -/
/-- A text that some cards print. -/
def ReadsC (s : Bs) (l : List Cd) : Prop := RightC l ∧ printB l = s
theorem RightC.both {l : List Cd} (r : RightC l) : ∀ c ∈ l, 65 ≤ c.l.toNat ∧ ∀ a ∈ c.args, argOk a := fun c hc => ⟨(r.lets c hc).1, r.args c hc⟩
theorem u8eq {c d : UInt8} : c = d ↔ c.toNat = d.toNat := UInt8.toNat_inj.symm
def escC (c : UInt8) : Bs := if c.toNat = 32 then [92, 115] else if c.toNat = 10 then [92, 110] else if c.toNat = 92 then [92, 92] else [c]
def escB (s : Bs) : Bs := s.flatMap escC
def unC (c : UInt8) : Option UInt8 := if c.toNat = 115 then some 32 else if c.toNat = 110 then some 10 else if c.toNat = 92 then some 92 else none
def unescB : Bs → Option Bs
 | [] => some []
 | c :: r => if c.toNat = 92 then (match r with
     | [] => none
     | d :: r' => match unC d with
       | none => none
       | some e => (unescB r').map (e :: ·))
   else if c.toNat = 32 ∨ c.toNat = 10 then none else (unescB r).map (c :: ·)
theorem unescB_eq (c : UInt8) (r : Bs) : unescB (c :: r) = if c.toNat = 92 then (match r with
      | [] => none
      | d :: r' => match unC d with
        | none => none
        | some e => (unescB r').map (e :: ·))
    else if c.toNat = 32 ∨ c.toNat = 10 then none else (unescB r).map (c :: ·) := by
 cases r <;> simp only [unescB]
theorem escB_cons (c : UInt8) (s : Bs) : escB (c :: s) = escC c ++ escB s := by simp [escB]
theorem escC_ok (c : UInt8) : (∀ d ∈ escC c, d.toNat ≠ 32 ∧ d.toNat ≠ 10) ∧ 1 ≤ (escC c).length ∧ (escC c).length ≤ 2 := by
 unfold escC
 split
 · exact ⟨by decide, by decide, by decide⟩
 · split
   · exact ⟨by decide, by decide, by decide⟩
   · split
     · exact ⟨by decide, by decide, by decide⟩
     · rename_i h1 h2 h3
       exact ⟨fun d hd => by rw [List.mem_singleton.1 hd]; exact ⟨h1, h2⟩, by simp, by simp⟩
theorem escB_ok (s : Bs) : ∀ d ∈ escB s, d.toNat ≠ 32 ∧ d.toNat ≠ 10 := by
 intro d hd
 obtain ⟨c, _, hc⟩ := List.mem_flatMap.1 hd
 exact (escC_ok c).1 d hc
theorem escB_len (s : Bs) : s.length ≤ (escB s).length ∧ (escB s).length ≤ 2 * s.length := by
 induction s with
 | nil => exact ⟨Nat.le_refl _, Nat.le_refl _⟩
 | cons c s ih =>
   have := escC_ok c
   rw [escB_cons, List.length_append, List.length_cons]; omega
theorem mem32 {a : Bs} (h : ∀ d ∈ a, d.toNat ≠ 32 ∧ d.toNat ≠ 10) : 32 ∉ a ∧ 10 ∉ a := ⟨fun e => (h _ e).1 rfl, fun e => (h _ e).2 rfl⟩
theorem argOk_iff {a : Bs} : argOk a ↔ a.length ≠ 0 ∧ ∀ d ∈ a, d.toNat ≠ 32 ∧ d.toNat ≠ 10 := by
 constructor
 · rintro ⟨h1, h2, h3⟩
   refine ⟨fun e => h1 (List.eq_nil_of_length_eq_zero e), fun d hd => ⟨fun e => h2 ?_, fun e => h3 ?_⟩⟩
   · have : d = 32 := u8eq.2 e
     exact this ▸ hd
   · have : d = 10 := u8eq.2 e
     exact this ▸ hd
 · rintro ⟨h1, h2⟩
   exact ⟨fun e => h1 (by simp [e]), mem32 h2⟩
theorem argOk_esc {s : Bs} (h : s ≠ []) : argOk (escB s) := by
 rw [argOk_iff]
 refine ⟨?_, escB_ok s⟩
 have := (escB_len s).1
 have := List.length_pos_iff.2 h
 omega
/-- A word: what may be a name. -/
def wordP (s : Bs) : Prop := (∀ c ∈ s, 32 < c.toNat ∧ c.toNat ≤ 126 ∧ c.toNat ≠ 92) ∧ 1 ≤ s.length ∧ s.length ≤ 12
instance (s : Bs) : Decidable (wordP s) := inferInstanceAs (Decidable (_ ∧ _ ∧ _))
theorem wordP_ok {s : Bs} (h : wordP s) : argOk s := argOk_iff.2 ⟨by have := h.2.1; omega, fun d hd => by have := h.1 d hd; omega⟩
theorem isN_ok {s : Bs} (h : s.length = 40) (k : ∀ c ∈ s, c ∈ hexD) : argOk s := argOk_iff.2 ⟨by omega, fun d hd => by
 have := k d hd
 revert this; revert d; intro d _ hm
 have key : ∀ d ∈ hexD, d.toNat ≠ 32 ∧ d.toNat ≠ 10 := by decide
 exact key d hm⟩
section
set_option maxRecDepth 100000
def isN (s : Bs) : Bool := decide (s.length = 40 ∧ ∀ c ∈ s, c ∈ hexD)
end
section
set_option maxRecDepth 100000
theorem unesc_len : ∀ (n : Nat) (s t : Bs), s.length ≤ n → unescB s = some t → t.length ≤ s.length := by
 intro n
 induction n with
 | zero =>
   intro s t hs h
   have : s = [] := List.eq_nil_of_length_eq_zero (by omega)
   subst this
   cases h; simp
 | succ n ih =>
   intro s t hs h
   cases s with
   | nil => cases h; simp
   | cons c r =>
     simp only [List.length_cons] at hs ⊢
     rw [unescB_eq] at h
     split at h
     · split at h
       · cases h
       · rename_i d r'
         simp only [List.length_cons] at hs ⊢
         split at h
         · cases h
         · cases e : unescB r' with
           | none => rw [e] at h; cases h
           | some u =>
             rw [e] at h
             cases h
             have := ih r' u (by omega) e
             simp only [List.length_cons]; omega
     · split at h
       · cases h
       · cases e : unescB r with
         | none => rw [e] at h; cases h
         | some u =>
           rw [e] at h
           cases h
           have := ih r u (by omega) e
           simp only [List.length_cons]; omega
theorem unescB_len {s t : Bs} (h : unescB s = some t) : t.length ≤ s.length := unesc_len _ s t (Nat.le_refl _) h
/-! Words that blanks part. -/
end
section
section
variable {H : Type} {enc : TypeId × Value → H} {P : Program} {w : World} {spare : Nat → Bool} {held : Bool} {fuel : Nat} {t e : TypeId} {cs : List Value} {x : DataW H × List MemPlace}
end
theorem wf_i64 {n : Int} (h : (Lit.int .i64 n).wf = true) : -9223372036854775808 ≤ n ∧ n ≤ 9223372036854775807 := by
 simp [Lit.wf] at h
 have e1 : IntKind.i64.min = -9223372036854775808 := by decide
 have e2 : IntKind.i64.max = 9223372036854775807 := by decide
 omega
theorem wf_u8 {n : Int} (h : (Lit.int .u8 n).wf = true) : 0 ≤ n ∧ n ≤ 255 := by
 simp [Lit.wf] at h
 have e1 : IntKind.u8.min = 0 := by decide
 have e2 : IntKind.u8.max = 255 := by decide
 omega
/-- A byte among the arguments. -/
theorem byte_of {n : Int} (h : (Lit.int .u8 n).wf = true) : ∃ c : UInt8, n = (c.toNat : Int) := by
 have := wf_u8 h
 refine ⟨UInt8.ofNat n.toNat, ?_⟩
 have e : (UInt8.ofNat n.toNat).toNat = n.toNat := by simp; omega
 rw [e]; omega
end
section
set_option maxRecDepth 100000
/-- A card in memory. -/
structure CdV where
 l : UInt8
 a : Option Addr
 c : Nat
 args : List Bs
def CdV.cells (q : CdV) : List Value := [vU q.l.toNat, .slice q.a q.args.length q.c]
/-- What some cards point at: it never turns. -/
def CdM (qs : List CdV) : HP := ⟨fun M _ => ∀ q ∈ qs, (SlI q.a (q.args.map vS)).at_ M Res.emp ∧ q.args.length ≤ q.c, fun le h q hq => ⟨(SlI q.a (q.args.map vS)).mono le (h q hq).1, (h q hq).2⟩⟩
theorem CdM.pers (qs : List CdV) : Pers (CdM qs) := fun e => e
instance {qs : List CdV} : PersC (CdM qs) := ⟨CdM.pers qs⟩
theorem get_field {α : Type} {f : α → List Value} {sz : Nat} (hf : ∀ x, (f x).length = sz) {l : List α} {m k : Nat} (hk : k < sz) (h : m < l.length) : (l.flatMap f)[m * sz + k]? = (f l[m])[k]? := by
 rw [← get_flat hf h, List.getElem?_take_of_lt hk, List.getElem?_drop]
end
section
set_option maxRecDepth 100000
def rdI (s : Bs) : Int := match readDec s with | some n => (n : Int) | none => -1
end
structure Tg where
 kind : UInt8
 name : Bs
 target : Bs
 value : Bs
 deriving DecidableEq, Repr
def tg0 : Tg := ⟨0, [], [], []⟩
structure Ck where
 base : Bs
 comment : Bs
 date : Int
 files : List (Bs × Bs)
 parents : List Bs
 tags : List Tg
 user : Bs
 deriving DecidableEq, Repr
structure OkT (own : Bool) (l : List Tg) (i : Nat) : Prop where
 kind : (l.getD i tg0).kind.toNat = 43 ∨ (l.getD i tg0).kind.toNat = 42 ∨ ((l.getD i tg0).kind.toNat = 45 ∧ (l.getD i tg0).value = [])
 name : wordP (l.getD i tg0).name
 val : (l.getD i tg0).value.length ≤ 12
 tgt : (own = true → (l.getD i tg0).target = [42]) ∧ (own = false → isN (l.getD i tg0).target = true)
 rise : 0 < i → (blt (l.getD (i - 1) tg0).name (l.getD i tg0).name = true ∨ (l.getD (i - 1) tg0).name = (l.getD i tg0).name) ∧ ((l.getD (i - 1) tg0).name = (l.getD i tg0).name → blt (l.getD (i - 1) tg0).target (l.getD i tg0).target = true)
structure RightT (own : Bool) (l : List Tg) : Prop where
 ok : ∀ i, i < l.length → OkT own l i
 len : l.length ≤ 12
structure OkF (whole : Bool) (l : List (Bs × Bs)) (i : Nat) : Prop where
 name : wordP (l.getD i ([], [])).1
 rise : 0 < i → blt (l.getD (i - 1) ([], [])).1 (l.getD i ([], [])).1 = true
 hash : isN (l.getD i ([], [])).2 = true ∨ (whole = false ∧ (l.getD i ([], [])).2 = [])
structure RightF (whole : Bool) (l : List (Bs × Bs)) : Prop where
 ok : ∀ i, i < l.length → OkF whole l i
 len : l.length ≤ 12
structure RightP (l : List Bs) (most : Int) : Prop where
 ok : ∀ i, i < l.length → isN (l.getD i []) = true ∧ l.getD i [] ∉ l.take i
 len : (l.length : Int) ≤ most
instance (own : Bool) (l : List Tg) (i : Nat) : Decidable (OkT own l i) := decidable_of_iff (((l.getD i tg0).kind.toNat = 43 ∨ (l.getD i tg0).kind.toNat = 42 ∨ ((l.getD i tg0).kind.toNat = 45 ∧ (l.getD i tg0).value = [])) ∧ wordP (l.getD i tg0).name ∧ (l.getD i tg0).value.length ≤ 12 ∧ ((own = true → (l.getD i tg0).target = [42]) ∧ (own = false → isN (l.getD i tg0).target = true)) ∧ (0 < i → (blt (l.getD (i - 1) tg0).name (l.getD i tg0).name = true ∨ (l.getD (i - 1) tg0).name = (l.getD i tg0).name) ∧ ((l.getD (i - 1) tg0).name = (l.getD i tg0).name → blt (l.getD (i - 1) tg0).target (l.getD i tg0).target = true))) ⟨fun ⟨a, b, c, d, e⟩ => ⟨a, b, c, d, e⟩, fun ⟨a, b, c, d, e⟩ => ⟨a, b, c, d, e⟩⟩
instance (own : Bool) (l : List Tg) : Decidable (RightT own l) := decidable_of_iff ((∀ i, i < l.length → OkT own l i) ∧ l.length ≤ 12) ⟨fun ⟨a, b⟩ => ⟨a, b⟩, fun ⟨a, b⟩ => ⟨a, b⟩⟩
instance (w : Bool) (l : List (Bs × Bs)) (i : Nat) : Decidable (OkF w l i) := decidable_of_iff (wordP (l.getD i ([], [])).1 ∧ (0 < i → blt (l.getD (i - 1) ([], [])).1 (l.getD i ([], [])).1 = true) ∧ (isN (l.getD i ([], [])).2 = true ∨ (w = false ∧ (l.getD i ([], [])).2 = []))) ⟨fun ⟨a, b, c⟩ => ⟨a, b, c⟩, fun ⟨a, b, c⟩ => ⟨a, b, c⟩⟩
instance (w : Bool) (l : List (Bs × Bs)) : Decidable (RightF w l) := decidable_of_iff ((∀ i, i < l.length → OkF w l i) ∧ l.length ≤ 12) ⟨fun ⟨a, b⟩ => ⟨a, b⟩, fun ⟨a, b⟩ => ⟨a, b⟩⟩
instance (l : List Bs) (m : Int) : Decidable (RightP l m) := decidable_of_iff ((∀ i, i < l.length → isN (l.getD i []) = true ∧ l.getD i [] ∉ l.take i) ∧ (l.length : Int) ≤ m) ⟨fun ⟨a, b⟩ => ⟨a, b⟩, fun ⟨a, b⟩ => ⟨a, b⟩⟩
structure RightK (c : Ck) : Prop where
 base : c.base = [] ∨ isN c.base = true
 comment : c.comment.length ≤ 40
 date : 0 ≤ c.date ∧ c.date ≤ 1073741824
 files : RightF (decide (c.base = [])) c.files
 parents : RightP c.parents 3
 tags : RightT true c.tags
 user : wordP c.user
instance (c : Ck) : Decidable (RightK c) := decidable_of_iff ((c.base = [] ∨ isN c.base = true) ∧ c.comment.length ≤ 40 ∧ (0 ≤ c.date ∧ c.date ≤ 1073741824) ∧ RightF (decide (c.base = [])) c.files ∧ RightP c.parents 3 ∧ RightT true c.tags ∧ wordP c.user) ⟨fun ⟨a, b, c, d, e, f, g⟩ => ⟨a, b, c, d, e, f, g⟩, fun ⟨a, b, c, d, e, f, g⟩ => ⟨a, b, c, d, e, f, g⟩⟩
def tgCard (t : Tg) : Cd := ⟨84, [t.kind :: t.name, t.target] ++ if t.value = [] then [] else [escB t.value]⟩
def flCard (f : Bs × Bs) : Cd := ⟨70, if f.2 = [] then [f.1] else [f.1, f.2]⟩
def bCards (b : Bs) : List Cd := if b = [] then [] else [⟨66, [b]⟩]
def pCards (l : List Bs) : List Cd := if l = [] then [] else [⟨80, l⟩]
def ckCards (c : Ck) : List Cd := bCards c.base ++ [⟨67, [46 :: escB c.comment]⟩, ⟨68, [decN c.date.toNat]⟩] ++ c.files.map flCard ++ pCards c.parents ++ (c.tags.map tgCard ++ [⟨85, [c.user]⟩])
def ckB (c : Ck) : Bs := printB (ckCards c)
/-! Right check-ins' cards are right. -/
theorem isN_argOk {s : Bs} (h : isN s = true) : argOk s := by
 have := of_decide_eq_true h
 exact isN_ok this.1 this.2
theorem decN_dig : ∀ (n : Nat), decN n ≠ [] ∧ ∀ c ∈ decN n, 48 ≤ c.toNat ∧ c.toNat ≤ 57 := by
 intro n
 induction n using Nat.strongRecOn with
 | _ n ih =>
   rw [decN]
   split
   · refine ⟨by simp, fun c hc => ?_⟩
     rw [List.mem_singleton.1 hc, dgt_toNat]; omega
   · refine ⟨by simp, fun c hc => ?_⟩
     rcases List.mem_append.1 hc with hc | hc
     · exact (ih (n / 10) (by omega)).2 c hc
     · rw [List.mem_singleton.1 hc, dgt_toNat]; omega
theorem decN_argOk (n : Nat) : argOk (decN n) := argOk_iff.2 ⟨fun e => (decN_dig n).1 (List.eq_nil_of_length_eq_zero e), fun d hd => by have := (decN_dig n).2 d hd; omega⟩
theorem argOk_cons {c : UInt8} {s : Bs} (hc : c.toNat ≠ 32 ∧ c.toNat ≠ 10) (h : ∀ d ∈ s, d.toNat ≠ 32 ∧ d.toNat ≠ 10) : argOk (c :: s) := argOk_iff.2 ⟨by simp, fun d hd => by
 rcases List.mem_cons.1 hd with rfl | hd
 · exact hc
 · exact h d hd⟩
theorem word_no {s : Bs} (h : wordP s) : ∀ d ∈ s, d.toNat ≠ 32 ∧ d.toNat ≠ 10 := fun d hd => by have := h.1 d hd; omega
theorem tgCard_ok {own : Bool} {l : List Tg} (h : RightT own l) : ∀ t ∈ l, ∀ a ∈ (tgCard t).args, argOk a := by
 intro t ht a ha
 obtain ⟨i, hi, rfl⟩ := mem_getD (d := tg0) ht
 obtain ⟨hk, o2, _, o4, _⟩ := h.ok i hi
 generalize l.getD i tg0 = t at hk o2 o4 ha
 have hn := word_no o2
 have ht2 : argOk t.target := by
  cases own with
  | true => rw [o4.1 rfl]; exact ⟨by simp, by decide, by decide⟩
  | false => exact isN_argOk (o4.2 rfl)
 simp only [tgCard, List.mem_append, List.mem_cons, List.not_mem_nil, or_false] at ha
 rcases ha with (rfl | rfl) | ha
 · exact argOk_cons (by omega) hn
 · exact ht2
 · split at ha
   · cases ha
   · rename_i hv
     rw [List.mem_singleton.1 ha]; exact argOk_esc hv
theorem pw_app {k : Nat} {l m : List Cd} (h1 : ∀ a ∈ l, a.l.toNat ≤ k) (h2 : ∀ b ∈ m, k ≤ b.l.toNat) (p1 : l.Pairwise (fun a b => a.l.toNat ≤ b.l.toNat)) (p2 : m.Pairwise (fun a b => a.l.toNat ≤ b.l.toNat)) : (l ++ m).Pairwise (fun a b => a.l.toNat ≤ b.l.toNat) := by
 rw [List.pairwise_append]
 exact ⟨p1, p2, fun a ha b hb => Nat.le_trans (h1 a ha) (h2 b hb)⟩
theorem pw_const {l : List Cd} {k : Nat} (h : ∀ a ∈ l, a.l.toNat = k) : l.Pairwise (fun a b => a.l.toNat ≤ b.l.toNat) := by
 rw [List.pairwise_iff_getElem]
 intro i j hi hj _
 rw [h _ (List.getElem_mem hi), h _ (List.getElem_mem hj)]
 exact Nat.le_refl _
theorem bCards_let (b : Bs) : ∀ a ∈ bCards b, a.l.toNat = 66 := by unfold bCards; split <;> simp
theorem pCards_let (l : List Bs) : ∀ a ∈ pCards l, a.l.toNat = 80 := by unfold pCards; split <;> simp
theorem fCards_let (l : List (Bs × Bs)) : ∀ a ∈ l.map flCard, a.l.toNat = 70 := by
 intro a ha; obtain ⟨f, _, rfl⟩ := List.mem_map.1 ha; rfl
theorem tCards_let (l : List Tg) : ∀ a ∈ l.map tgCard, a.l.toNat = 84 := by
 intro a ha; obtain ⟨f, _, rfl⟩ := List.mem_map.1 ha; rfl
theorem tu_right (l : List Tg) (u : Bs) : (∀ a ∈ l.map tgCard ++ [(⟨85, [u]⟩ : Cd)], 84 ≤ a.l.toNat ∧ a.l.toNat ≤ 85) ∧ (l.map tgCard ++ [(⟨85, [u]⟩ : Cd)]).Pairwise (fun a b => a.l.toNat ≤ b.l.toNat) := by
 have h1 : ∀ a ∈ [(⟨85, [u]⟩ : Cd)], a.l.toNat = 85 := by simp
 refine ⟨fun a ha => ?_, pw_app (k := 84) (fun a ha => by rw [tCards_let l a ha]; exact Nat.le_refl _) (fun b hb => by rw [h1 b hb]; decide) (pw_const (tCards_let l)) (pw_const h1)⟩
 rcases List.mem_append.1 ha with ha | ha
 · rw [tCards_let l a ha]; decide
 · rw [h1 a ha]; decide
theorem rightK_cards {c : Ck} (h : RightK c) : RightC (ckCards c) := by
 have htu := tu_right c.tags c.user
 have hcd : ∀ a ∈ [(⟨67, [46 :: escB c.comment]⟩ : Cd), ⟨68, [decN c.date.toNat]⟩], a.l.toNat = 67 ∨ a.l.toNat = 68 := by simp
 have hcdp : [(⟨67, [46 :: escB c.comment]⟩ : Cd), ⟨68, [decN c.date.toNat]⟩].Pairwise (fun a b => a.l.toNat ≤ b.l.toNat) := by simp
 refine RightC.mk' (by simp [ckCards]) ?_ ?_ ?_
 · intro a ha
   unfold ckCards at ha
   rw [List.mem_append] at ha
   rcases ha with ha | ha
   · rw [List.mem_append] at ha
     rcases ha with ha | ha
     · rw [List.mem_append] at ha
       rcases ha with ha | ha
       · rw [List.mem_append] at ha
         rcases ha with ha | ha
         · rw [bCards_let _ a ha]; decide
         · rcases hcd a ha with e | e <;> rw [e] <;> decide
       · rw [fCards_let _ a ha]; decide
     · rw [pCards_let _ a ha]; decide
   · have := htu.1 a ha; omega
 · intro a ha x hx
   unfold ckCards at ha
   rw [List.mem_append] at ha
   rcases ha with ha | ha
   · rw [List.mem_append] at ha
     rcases ha with ha | ha
     · rw [List.mem_append] at ha
       rcases ha with ha | ha
       · rw [List.mem_append] at ha
         rcases ha with ha | ha
         · unfold bCards at ha
           split at ha
           · cases ha
           · rename_i hb
             rw [List.mem_singleton.1 ha] at hx
             rw [List.mem_singleton.1 hx]
             exact isN_argOk (h.base.resolve_left hb)
         · simp only [List.mem_cons, List.not_mem_nil, or_false] at ha
           rcases ha with rfl | rfl
           · rw [List.mem_singleton.1 hx]; exact argOk_cons (by decide) (escB_ok _)
           · rw [List.mem_singleton.1 hx]; exact decN_argOk _
       · obtain ⟨f, hf, rfl⟩ := List.mem_map.1 ha
         obtain ⟨i, hi, rfl⟩ := mem_getD (d := ([], [])) hf
         obtain ⟨o1, _, o3⟩ := h.files.ok i hi
         generalize c.files.getD i ([], []) = f at o1 o3 hx
         unfold flCard at hx
         dsimp only at hx
         split at hx
         · rw [List.mem_singleton.1 hx]; exact wordP_ok o1
         · rename_i hf2
           simp only [List.mem_cons, List.not_mem_nil, or_false] at hx
           rcases hx with rfl | rfl
           · exact wordP_ok o1
           · exact isN_argOk (o3.resolve_right (fun e => hf2 e.2))
     · unfold pCards at ha
       split at ha
       · cases ha
       · rw [List.mem_singleton.1 ha] at hx
         obtain ⟨i, hi, rfl⟩ := mem_getD (d := []) hx
         exact isN_argOk (h.parents.ok i hi).1
   · rw [List.mem_append] at ha
     rcases ha with ha | ha
     · obtain ⟨t, ht, rfl⟩ := List.mem_map.1 ha
       exact tgCard_ok h.tags t ht x hx
     · rw [List.mem_singleton.1 ha] at hx
       rw [List.mem_singleton.1 hx]; exact wordP_ok h.user
 · unfold ckCards
   refine pw_app (k := 80) (fun a ha => ?_) (fun a ha => by have := htu.1 a ha; omega) ?_ htu.2
   · rw [List.mem_append] at ha
     rcases ha with ha | ha
     · rw [List.mem_append] at ha
       rcases ha with ha | ha
       · rw [List.mem_append] at ha
         rcases ha with ha | ha
         · rw [bCards_let _ a ha]; decide
         · rcases hcd a ha with e | e <;> rw [e] <;> decide
       · rw [fCards_let _ a ha]; decide
     · rw [pCards_let _ a ha]; exact Nat.le_refl _
   · refine pw_app (k := 70) (fun a ha => ?_) (fun a ha => by rw [pCards_let _ a ha]; decide) ?_ (pw_const (pCards_let _))
     · rw [List.mem_append] at ha
       rcases ha with ha | ha
       · rw [List.mem_append] at ha
         rcases ha with ha | ha
         · rw [bCards_let _ a ha]; decide
         · rcases hcd a ha with e | e <;> rw [e] <;> decide
       · rw [fCards_let _ a ha]; exact Nat.le_refl _
     · refine pw_app (k := 68) (fun a ha => ?_) (fun a ha => by rw [fCards_let _ a ha]; decide) ?_ (pw_const (fCards_let _))
       · rw [List.mem_append] at ha
         rcases ha with ha | ha
         · rw [bCards_let _ a ha]; decide
         · rcases hcd a ha with e | e <;> rw [e] <;> decide
       · exact pw_app (k := 66) (fun a ha => by rw [bCards_let _ a ha]; exact Nat.le_refl _) (fun a ha => by rcases hcd a ha with e | e <;> rw [e] <;> decide) (pw_const (bCards_let _)) hcdp
section
open Classical in
noncomputable def the {α : Type} (R : α → Prop) : Option α := if h : ∃ a, R a then some h.choose else none
def ReadsK (s : Bs) (c : Ck) : Prop := RightK c ∧ ckB c = s
theorem ReadsK.reads {s : Bs} {c : Ck} (h : ReadsK s c) : ReadsC s (ckCards c) := ⟨rightK_cards h.1, h.2⟩
/-! As the document reads. -/
def stepR (c : Ck) (x : Cd) : Option Ck :=
 if x.l = 66 ∧ x.args.length = 1 then some { c with base := x.args.getD 0 [] }
 else if x.l = 67 ∧ x.args.length = 1 ∧ ((x.args.getD 0 []).getD 0 0) = 46 then (unescB ((x.args.getD 0 []).drop 1)).map (fun t => { c with comment := t })
 else if x.l = 68 ∧ x.args.length = 1 then some { c with date := rdI (x.args.getD 0 []) }
 else if x.l = 70 ∧ x.args.length = 1 then some { c with files := c.files ++ [(x.args.getD 0 [], [])] }
 else if x.l = 70 ∧ x.args.length = 2 then some { c with files := c.files ++ [(x.args.getD 0 [], x.args.getD 1 [])] }
 else if x.l = 80 then some { c with parents := x.args }
 else if x.l = 84 then some c
 else if x.l = 85 ∧ x.args.length = 1 then some { c with user := x.args.getD 0 [] }
 else none
/-! Sizes. -/
/-! Control artifacts. -/
structure Ct where
 date : Int
 tags : List Tg
 user : Bs
 deriving DecidableEq, Repr
structure RightCt (c : Ct) : Prop where
 date : 0 ≤ c.date ∧ c.date ≤ 1073741824
 some : 0 < c.tags.length
 tags : RightT false c.tags
 user : wordP c.user
instance (c : Ct) : Decidable (RightCt c) := decidable_of_iff ((0 ≤ c.date ∧ c.date ≤ 1073741824) ∧ 0 < c.tags.length ∧ RightT false c.tags ∧ wordP c.user) ⟨fun ⟨a, b, c, d⟩ => ⟨a, b, c, d⟩, fun ⟨a, b, c, d⟩ => ⟨a, b, c, d⟩⟩
def ctCards (c : Ct) : List Cd := ⟨68, [decN c.date.toNat]⟩ :: (c.tags.map tgCard ++ [⟨85, [c.user]⟩])
def ctB (c : Ct) : Bs := printB (ctCards c)
theorem rightCt_cards {c : Ct} (h : RightCt c) : RightC (ctCards c) := by
 have htu := tu_right c.tags c.user
 have e : ctCards c = [⟨68, [decN c.date.toNat]⟩] ++ (c.tags.map tgCard ++ [⟨85, [c.user]⟩]) := rfl
 have h1 : ∀ a ∈ [(⟨68, [decN c.date.toNat]⟩ : Cd)], a.l.toNat = 68 := by simp
 refine RightC.mk' (by simp [ctCards]) ?_ ?_ ?_
 · intro a ha
   rw [e, List.mem_append] at ha
   rcases ha with ha | ha
   · rw [h1 a ha]; decide
   · have := htu.1 a ha; omega
 · intro a ha x hx
   rw [e, List.mem_append] at ha
   rcases ha with ha | ha
   · rw [List.mem_singleton.1 ha] at hx
     rw [List.mem_singleton.1 hx]; exact decN_argOk _
   · rw [List.mem_append] at ha
     rcases ha with ha | ha
     · obtain ⟨t, ht, rfl⟩ := List.mem_map.1 ha
       exact tgCard_ok h.tags t ht x hx
     · rw [List.mem_singleton.1 ha] at hx
       rw [List.mem_singleton.1 hx]; exact wordP_ok h.user
 · rw [e]
   exact pw_app (k := 68) (fun a ha => by rw [h1 a ha]; exact Nat.le_refl _) (fun a ha => by have := htu.1 a ha; omega) (pw_const h1) htu.2
def ReadsCt (s : Bs) (c : Ct) : Prop := RightCt c ∧ ctB c = s
theorem ReadsCt.reads {s : Bs} {c : Ct} (h : ReadsCt s c) : ReadsC s (ctCards c) := ⟨rightCt_cards h.1, h.2⟩
/-! Clusters. -/
structure RightCl (l : List Bs) : Prop where
 ok : ∀ i, i < l.length → isN (l.getD i []) = true ∧ (0 < i → blt (l.getD (i - 1) []) (l.getD i []) = true)
 len : 1 ≤ l.length ∧ l.length ≤ 12
instance (l : List Bs) : Decidable (RightCl l) := decidable_of_iff ((∀ i, i < l.length → isN (l.getD i []) = true ∧ (0 < i → blt (l.getD (i - 1) []) (l.getD i []) = true)) ∧ (1 ≤ l.length ∧ l.length ≤ 12)) ⟨fun ⟨a, b⟩ => ⟨a, b⟩, fun ⟨a, b⟩ => ⟨a, b⟩⟩
def clCard (n : Bs) : Cd := ⟨77, [n]⟩
def clCards (l : List Bs) : List Cd := l.map clCard
def clB (l : List Bs) : Bs := printB (clCards l)
theorem clCards_let (l : List Bs) : ∀ a ∈ clCards l, a.l.toNat = 77 := by
 intro a ha; obtain ⟨f, _, rfl⟩ := List.mem_map.1 ha; rfl
theorem rightCl_cards {l : List Bs} (h : RightCl l) : RightC (clCards l) := by
 refine RightC.mk' (fun e => ?_) (fun a ha => by rw [clCards_let l a ha]; decide) ?_ (pw_const (clCards_let l))
 · have := congrArg List.length e
   have h1 := h.len.1
   simp [clCards] at this
   simp [this] at h1
 · intro a ha x hx
   obtain ⟨n, hn, rfl⟩ := List.mem_map.1 ha
   rw [show (clCard n).args = [n] from rfl] at hx
   rw [List.mem_singleton.1 hx]
   obtain ⟨i, hi, rfl⟩ := mem_getD (d := []) hn
   exact isN_argOk (h.ok i hi).1
def ReadsCl (s : Bs) (l : List Bs) : Prop := RightCl l ∧ clB l = s
theorem ReadsCl.reads {s : Bs} {l : List Bs} (h : ReadsCl s l) : ReadsC s (clCards l) := ⟨rightCl_cards h.1, h.2⟩
end
section
set_option maxRecDepth 100000
/-- No greater than can be. -/
structure TgZ (l : List Tg) : Prop where
 n : l.length ≤ 1073741824
 z : ∀ t ∈ l, t.name.length ≤ 1099511627 ∧ t.target.length ≤ 1099511627 ∧ t.value.length ≤ 1099511627
section
variable {r : Option Nat} {P : Program} {n : Nat} {ops : Array Oper} {os : List Oper} {L : Loc} {Hs : List HP} {Q : Out} {c : Code}
end
end
section
section
variable {P : Program}
end
/-- A slice of bytes that is one's own, in a block that may bear a mark behind its cells. -/
def RowZAt (v : Value) (n : Nat) (xs : List Value) (e : TypeId) (M : Kn) (h : Res) : Prop :=
 ∃ g cap cur fz, v = .slice (some ⟨g, 0, none⟩) n cap ∧ n ≤ cap ∧ cap ≤ maxLen ∧ List.length cur = cap ∧ xs.length = n ∧ cur.take n = xs ∧ (fz = (0, 0) ∨ cap ≤ fz.1) ∧ h = Res.one g (.cells cur.toArray e fz)
def RowZ (e : TypeId) (v : Value) (n : Nat) (xs : List Value) : HP := ⟨RowZAt v n xs e, fun _ e => e⟩
theorem sla_rowz {e : TypeId} {k n c : Nat} {a : Option Addr} {xs : List Value} : SlA (RowZ e (.slice a n c) k xs) a xs := fun x => by
 obtain ⟨g, cap, cur, fz, h1, h2, h3, h4, h5, h6, h7, h8⟩ := x
 cases h1
 exact .inr ⟨g, 0, cur, e, fz, rfl, .inr (by rw [h8]; exact Res.one_same _ _), by rw [List.drop_zero, h5]; exact h6⟩
instance (priority := 1000) {e : TypeId} {k n c : Nat} {a : Option Addr} {xs : List Value} {r : List HP} : RdSl a xs (RowZ e (.slice a n c) k xs :: r) := ⟨⟨_, sla_rowz, .here⟩⟩
section
variable {r : Option Nat} {P : Program} {n : Nat} {ops : Array Oper} {os : List Oper} {L : Loc} {Hs : List HP} {Q : Out} {ty : TypeId} {d : Nat} {pos : String} {after : Array Edge}
end
end
section
set_option maxRecDepth 100000
class RowZC (v : Value) (e k : outParam Nat) (xs : outParam (List Value)) (Hs : List HP) (Rs : outParam (List HP)) : Prop where
 get : Pick (RowZ e v k xs) Hs Rs
instance (priority := 1000) {v : Value} {e k : Nat} {xs : List Value} {r : List HP} : RowZC v e k xs (RowZ e v k xs :: r) r := ⟨.here⟩
instance (priority := 100) {v : Value} {e k : Nat} {xs : List Value} {B : HP} {r s : List HP} [h : RowZC v e k xs r s] : RowZC v e k xs (B :: r) (B :: s) := ⟨.there h.get⟩
instance (priority := 900) {v : Value} {e k : Nat} {xs : List Value} {B B' C : List HP} [h : RowZC v e k xs B B'] : RowZC v e k xs (B ++ C) (B' ++ C) := ⟨pick_left h.get⟩
instance (priority := 800) {v : Value} {e k : Nat} {xs : List Value} {B C C' : List HP} [h : RowZC v e k xs C C'] : RowZC v e k xs (B ++ C) (B ++ C') := ⟨pick_right h.get⟩
section
variable {r : Option Nat} {P : Program} {n : Nat} {ops : Array Oper} {os : List Oper} {A : List HP} {L : Loc} {Hs : List HP} {Q : Out} {ty : TypeId} {d : Nat} {pos : String} {after : Array Edge}
end
end
structure CkY (N : Nat) (c : Ck) : Prop where
 base : c.base.length ≤ 1073741824
 comment : c.comment.length ≤ 1073741824
 user : c.user.length ≤ 1073741824
 fn : c.files.length ≤ N
 fz : ∀ f ∈ c.files, f.1.length ≤ 1073741824 ∧ f.2.length ≤ 1073741824
 pn : c.parents.length ≤ 1073741824
 pz : ∀ p ∈ c.parents, p.length ≤ 1073741824
 tags : TgZ c.tags
theorem CkY.step {N : Nat} {c c' : Ck} {x : Cd} (h : CkY N c) (hx : x.args.length ≤ 1073741824) (hz : ∀ a ∈ x.args, a.length ≤ 1073741824) (e : stepR c x = some c') : CkY (N + 1) c' := by
 obtain ⟨a1, a2, a3, a4, a5, a6, a7, a8⟩ := h
 have hd : ∀ i, (x.args.getD i []).length ≤ 1073741824 := fun i => by
  by_cases hi : i < x.args.length
  · exact hz _ (by simp [hi])
  · simp [hi]
 unfold stepR at e
 split at e
 · cases e; exact ⟨hd 0, a2, a3, by dsimp only; omega, a5, a6, a7, a8⟩
 split at e
 · cases u : unescB ((x.args.getD 0 []).drop 1) with
   | none => rw [u] at e; cases e
   | some t =>
     rw [u] at e; cases e
     have h1 := unescB_len u
     have h2 := hd 0
     rw [List.length_drop] at h1
     exact ⟨a1, by dsimp only; omega, a3, by dsimp only; omega, a5, a6, a7, a8⟩
 split at e
 · cases e; exact ⟨a1, a2, a3, by dsimp only; omega, a5, a6, a7, a8⟩
 split at e
 · cases e
   refine ⟨a1, a2, a3, by dsimp only; rw [List.length_append]; simp only [List.length_cons, List.length_nil]; omega, ?_, a6, a7, a8⟩
   intro f hf
   rcases List.mem_append.1 hf with hf | hf
   · exact a5 f hf
   · rw [List.mem_singleton.1 hf]; exact ⟨hd 0, Nat.zero_le _⟩
 split at e
 · cases e
   refine ⟨a1, a2, a3, by dsimp only; rw [List.length_append]; simp only [List.length_cons, List.length_nil]; omega, ?_, a6, a7, a8⟩
   intro f hf
   rcases List.mem_append.1 hf with hf | hf
   · exact a5 f hf
   · rw [List.mem_singleton.1 hf]; exact ⟨hd 0, hd 1⟩
 split at e
 · cases e; exact ⟨a1, a2, a3, by dsimp only; omega, a5, hx, hz, a8⟩
 split at e
 · cases e; exact ⟨a1, a2, a3, by omega, a5, a6, a7, a8⟩
 split at e
 · cases e; exact ⟨a1, a2, hd 0, by dsimp only; omega, a5, a6, a7, a8⟩
 · cases e
section
set_option maxRecDepth 100000
def withinI (n lo hi : Int) : Int := lo + n % (hi - lo + 1)
theorem withinI_in {n lo hi : Int} (h : lo ≤ hi) : lo ≤ withinI n lo hi ∧ withinI n lo hi ≤ hi := by
 have h1 := Int.emod_nonneg n (show hi - lo + 1 ≠ 0 by omega)
 have h2 := Int.emod_lt_of_pos n (show 0 < hi - lo + 1 by omega)
 unfold withinI; omega
theorem tmod_cases (n m : Int) (hm : 1 ≤ m) : (0 ≤ n.tmod m ∧ n.tmod m = n % m ∨ n.tmod m < 0 ∧ n.tmod m + m = n % m) ∧ -m < n.tmod m ∧ n.tmod m < m := by
 have e1 := Int.emod_nonneg n (show m ≠ 0 by omega)
 have e2 := Int.emod_lt_of_pos n (show 0 < m by omega)
 have hd := Int.emod_emod_of_dvd n (Int.dvd_refl m)
 rcases Int.lt_or_le n 0 with h | h
 · have h2 : n.tmod m = -((-n) % m) := by
     have : n = -(-n) := by omega
     conv => lhs; rw [this]
     rw [Int.neg_tmod, Int.tmod_eq_emod_of_nonneg (by omega)]
   have e3 := Int.emod_nonneg (-n) (show m ≠ 0 by omega)
   have e4 := Int.emod_lt_of_pos (-n) (show 0 < m by omega)
   have hs : (n % m + (-n) % m) % m = 0 := by
    rw [← Int.add_emod, Int.add_right_neg, Int.zero_emod]
   by_cases hz : (-n) % m = 0
   · have : n % m = 0 := by
       rw [hz, Int.add_zero, Int.emod_emod_of_dvd n (Int.dvd_refl m)] at hs; exact hs
     rw [h2, hz, this]; omega
   · have hsum : n % m + (-n) % m = m := by
       have hpos : 0 < n % m + (-n) % m := by omega
       have hlt : n % m + (-n) % m < m + m := by omega
       have hge : m ≤ n % m + (-n) % m := by
        apply Classical.byContradiction; intro hc
        rw [Int.emod_eq_of_lt (by omega) (by omega)] at hs
        omega
       have : (n % m + (-n) % m - m) % m = 0 := by rw [Int.sub_emod, hs]; simp
       rw [Int.emod_eq_of_lt (by omega) (by omega)] at this
       omega
     rw [h2]; omega
 · rw [Int.tmod_eq_emod_of_nonneg h]; omega
theorem zb21ret {G : Prop} (h : G := by exact fin_ret () (vs := [_]) rfl (.tmp rfl .nil) (by rw [hw]; exact congrArg vI (by omega)) trivial ent_nil) : G := h
theorem book_Within_sp (n lo hi : Int) (h1 : -1099511627776 ≤ lo) (h2 : lo ≤ hi) (h3 : hi ≤ 1099511627776) : SpF Tryz.prog 21 [vI n, vI lo, vI hi] (vI (withinI n lo hi)) := by
 have hc := tmod_cases n (hi - lo + 1) (by omega)
 have hw : withinI n lo hi = lo + n % (hi - lo + 1) := rfl
 refine Sp.body (n := 24) Tryz.call21 Tryz.func21 rfl rfl rfl ?_
 refine Qc (k:=Vv (k:=Wq (Qc (k:=Qv (k:=Qv (k:=Vv (k:=?_)))))))
 refine wo_pv (pv_remt rfl rfl (by omega)) rfl ?_
 refine Vv (k:=Wq (Za (k:=Qc (k:=Qv (k:=Wq (Zi (t:=fun h14 => ?_) (f:=fun h14 => ?_)))))))
 ·
  refine Zr (k:=Qv (k:=Qv (k:=Qv (k:=Vv (k:=Wq (Qc (k:=Vv (k:=?_))))))))
  refine Qv (k:=Vv (k:=Wq (Zt (k:=?_))))
  exact zb21ret
 ·
  refine Zk (k:=Ya (Qc (k:=Qv (k:=Qv (k:=Wq (Zt (k:=?_)))))))
  exact zb21ret
end
end Go.Proofs.YtibccdcemcgkeaaGreat
