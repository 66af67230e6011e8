/- Texts of this proof, put together: LawBlobSays, KeepOf. -/
import Derived.Test.YtibccdcemcgkeaaGreatQ16
set_option linter.unusedVariables false
set_option linter.unusedSimpArgs false
namespace Go.Proofs.YtibccdcemcgkeaaGreat
section
set_option maxRecDepth 100000
theorem zb9ret {G : Prop} (h : G := by exact fin_ret () (vs := [_]) (Cs := [Ce b4 4 [vB true]]) rfl (.cell1 (l := [vB true]) rfl (shows_ce (T := 4)) Tryz.underlying4 rfl rfl .nil) rfl trivial ent_pick) : G := h
theorem zb9join22 {G : Prop} (h : G := by
    first
    | exact to_inv ⟨102 :: t, say_full htl⟩ trivial ⟨rfl, rfl, rfl, rfl, rfl, rfl, trivial⟩ ent_pick
    | exact to_inv ⟨[], say0⟩ trivial ⟨rfl, rfl, rfl, rfl, rfl, rfl, trivial⟩ ent_pick
    | exact to_inv ⟨113 :: t, say1 htl⟩ trivial ⟨rfl, rfl, rfl, rfl, rfl, rfl, trivial⟩ ent_pick
    | exact to_inv ⟨100 :: (o ++ [48, 10, 48, 59]), say2 hol⟩ trivial ⟨rfl, rfl, rfl, rfl, rfl, rfl, trivial⟩ ent_pick
    | exact to_inv ⟨100 :: (x ++ [48, 10, 48, 59]), say3 hxl⟩ trivial ⟨rfl, rfl, rfl, rfl, rfl, rfl, trivial⟩ ent_pick
    | exact to_inv ⟨[100, 48], say4⟩ trivial ⟨rfl, rfl, rfl, rfl, rfl, rfl, trivial⟩ ent_pick) : G := h
set_option maxHeartbeats 8000000 in
theorem BlobSays_sp (kb : Int) (ka : Option Addr) (kc : Nat) (kl : List Int) (hkl : kl.length ≤ 9223372036854775807) (what : Int) : Sp1 Tryz.prog 9 [.agg #[vI kb, .slice ka kl.length kc], vI what] [SlI ka (kl.map vI)] (vB true) [] := by
 have i0 : BI 200 0 ⟨[], 0, false⟩ [] (newD 200) := bi_new (by decide) (by decide)
 have hL := keep_Long_sp (B := SlI ka (kl.map vI)) kc kb kl 3 hkl sla_sli
 have htl := longB_len kb kl 3
 generalize longB kb kl 3 = t at hL htl
 obtain ⟨x, hx⟩ : ∃ x, x = shaB t := ⟨_, rfl⟩
 obtain ⟨o, ho⟩ : ∃ o, o = shaB [111, 116, 104, 101, 114] := ⟨_, rfl⟩
 have hxl : x.length = 40 := by rw [hx]; exact shaB_len _
 have hol : o.length = 40 := by rw [ho]; exact shaB_len _
 have hS1 := hash_Sum_sp t (by omega)
 have hS2 := hash_Sum_sp [111, 116, 104, 101, 114] (by decide)
 rw [← hx] at hS1
 rw [← ho] at hS2
 have hW := book_Within_sp what 0 5 (by omega) (by omega) (by omega)
 generalize withinI what 0 5 = ww at hW
 refine Sp.body (n := 135) Tryz.call9 Tryz.func9 rfl rfl rfl ?_
 refine Qc (k:=Zx [_, _] (k:=fun b2 => Zc [.bool false] (k:=fun b4 => Wq (Qc (k:=?_)))))
 refine r_callX (disk_New_sp 200) rfl rfl rfl (fun d _ => ?_)
 refine Vv (k:=Wq (Qc (k:=Vv (k:=?_))))
 refine r_callX (store_Open_sp d (newD 200)) rfl rfl rfl (fun s _ => ?_)
 refine Vv (k:=Wq (Za (k:=Qc (k:=Vv (k:=?_)))))
 refine wo_pv (pv_peql_nil Tryz.underlying70 rfl rfl) rfl ?_
 refine Vv (k:=Gi 2 (t:=fun h23 => ?_) (f:=fun h23 => ?_))
 ·
  cases h23
  --done
 ·
  refine J0 (k:=I0 (k:=?_))
  refine wo_pv (pv_peql_nil Tryz.underlying72 rfl rfl) rfl ?_
  refine P0 (k:=Wq (Zi (t:=fun h26 => ?_) (f:=fun h26 => ?_)))
  ·
   cases h26
   --done
  ·
   refine Zk (k:=Ya (Qc (k:=Zm [_, _] (k:=?_))))
   refine r_call1 hL rfl rfl rfl ?_
   refine Vv (k:=Wq (Qc (k:=Vv (k:=?_))))
   refine r_callF hS1 rfl rfl rfl ?_
   refine Zc [vS []] (k:=fun b8 => Zo (k:=Wq (Qc (k:=?_))))
   refine r_callF hS2 rfl rfl rfl ?_
   refine Vv (k:=Wq (Za (k:=Qc (k:=Zd (k:=Qv (k:=Wq (Zi (t:=fun h34 => ?_) (f:=fun h34 => ?_))))))))
   ·
    refine Qc (k:=?_)
    refine r_call1 BlobRuns_sp rfl rfl rfl ?_
    refine Zo (k:=Wq (Zt (k:=Va ?_)))
    exact zb9ret
   ·
    have hxo : x ≠ o := by assumption
    rw [show openJ (newD 200) = ⟨[], 0, false⟩ from rfl, show openK (⟨[], 0, false⟩ : Jn).l = [] from rfl]
    refine Zk (k:=Ya (Qc (k:=Vv (k:=?_))))
    refine wo_pv (pv_cat rfl rfl (by simp only [List.length_singleton]; omega)) rfl ?_
    rw [List.singleton_append]
    refine Vv (k:=Wq ?_)
    refine p_cut (fun (v : { v : Bs // SayV x o t v }) => [(4, .pointer (some ⟨b4, 0, none⟩)), (6, .pointer (some ⟨s, 0, none⟩)), (7, vS t), (8, .pointer (some ⟨b8, 0, none⟩)), (9, vS o), (10, vS v.1)]) (fun (v : { v : Bs // SayV x o t v }) => [Ce b8 9 [vS x], Ce b4 4 [vB false], IsS s d ⟨[], 0, false⟩ [], IsD d (newD 200)]) rfl (fun v => ?_) ?_
    ·
     obtain ⟨v, hv⟩ := v
     dsimp only
     have hvl := hv.1
     obtain ⟨ja, da, i1, hC1⟩ := i0.sp (l := [⟨98 :: x, v, false⟩, ⟨[99], nob, false⟩]) 20 (fun q hq => by
      rcases List.mem_cons.1 hq with rfl | hq
      · exact ⟨by simp, by simp; omega, by simp; omega, fun e => by cases e⟩
      · rw [List.mem_singleton.1 hq]; exact ⟨by simp, by simp, by simp, fun e => by cases e⟩) (Nat.le_trans (textOf_two (by simp <;> omega) (by simp <;> omega) (by simp <;> omega) (by simp <;> omega)) (by simp <;> omega)) (by decide) (by decide)
     rw [show doR [] [(⟨98 :: x, v, false⟩ : Rw), ⟨[99], nob, false⟩] = k8s x v from rfl] at i1 hC1
     have hCx := blob_Content_sp s d ja (k8s x v) i1.txt x (by omega)
     have hCo := blob_Content_sp s d ja (k8s x v) i1.txt o (by omega)
     have hCk := blob_Check_sp s d ja (k8s x v) i1.txt i1.NamK (by have := i1.len; omega)
     have hDp := blob_Depth_sp s d ja (k8s x v) i1.txt o (by omega)
     have hDr := blob_Drop_sp s d ja (k8s x v) i1.txt i1.NamK (by have := i1.len; omega) o (by omega)
     have hgo : getB (k8s x v) (98 :: o) = [] := by rw [k8s_get, if_neg hxo]
     rw [say_ctn hv hxo] at hCx
     rw [show ctnB (k8s x v) o = none from no_ctn hgo 3] at hCo
     rw [say_check hv hxo hx.symm] at hCk
     rw [no_dep hgo] at hDp
     rw [say_drop hxo] at hDr
     have hnm := k8s_nms x v
     have hkl2 : (k8s x v).length ≤ 4398046511104 := by have := i1.len; omega
     obtain ⟨g, hg⟩ : ∃ g, g = decide (v = 102 :: t) := ⟨_, rfl⟩
     obtain ⟨y, hy⟩ : ∃ y : Option Bs, y = if v = 102 :: t then some t else none := ⟨_, rfl⟩
     have hyi : y.isSome = g := by rw [hy, hg]; by_cases e : v = 102 :: t <;> simp [e]
     have hyt : (y.getD [] = t) ↔ (g = true ∨ t = []) := by rw [hy, hg]; by_cases e : v = 102 :: t <;> simp [e, eq_comm]
     rw [← hy] at hCx
     rw [← hg] at hCk
     try dsimp only
     refine Za (k:=Qc (k:=Vv (k:=Zd (k:=?_))))
     refine wo_pv (pv_cat rfl rfl (by simp only [List.length_singleton]; omega)) rfl ?_
     rw [List.singleton_append]
     refine Vv (k:=Vx (Ps [_, _, .bool false]) (k:=Vx (Ps [_, _, .bool false]) (k:=Zv [_, _] (cs := [_, _, _, _, _, _]) (k:=fun b64 => ?_))))
     refine wo_ent' (ce_norm (b := b64) (T := 77) (l' := [(⟨98 :: x, v, false⟩ : Rw), ⟨[99], nob, false⟩].flatMap rowC) (by rfl) (by rfl)) ?_
     refine r_call1 (hC1 (Ce b64 77 ([(⟨98 :: x, v, false⟩ : Rw), ⟨[99], nob, false⟩].flatMap rowC)) _ s d 2 2 sla_ce rfl) rfl rfl rfl ?_
     refine Vv (k:=Wq (Zi (t:=fun h66 => ?_) (f:=fun h66 => ?_)))
     ·
      exact absurd rfl h66
      --done
     ·
      refine Zk (k:=Ya (Qc (k:=Vv (k:=Zd (k:=?_)))))
      refine r_call1 hCx rfl rfl rfl ?_
      refine Vv (k:=?_)
      refine wo_pv (pv_extract (v := vS (y.getD [])) rfl rfl) rfl ?_
      refine wo_pv (pv_extract (v := vB y.isSome) rfl rfl) rfl ?_
      rw [hyi]
      refine Qv (k:=Wq (Qc (k:=Qv (k:=?_))))
      refine wo_pv (pv_cat rfl rfl (by simp only [List.length_singleton]; omega)) rfl ?_
      rw [List.singleton_append]
      refine Vv (k:=?_)
      rw [← hg]
      refine Vv (k:=Wq (Qc (k:=Qv (k:=?_))))
      refine r_call1 hCo rfl rfl rfl ?_
      refine Vv (k:=?_)
      refine wo_pv (pv_extract (v := vS []) rfl rfl) rfl ?_
      refine wo_pv (pv_extract (v := vB false) rfl rfl) rfl ?_
      refine Qv (k:=Wq (Qc (k:=Zc [.int .i64 0] (k:=fun b16 => Zo (k:=Wq (Za (k:=Qc (k:=Vv (k:=?_)))))))))
      refine r_callX (blob_Names_sp s) rfl rfl rfl (fun x84 _ => ?_)
      refine Wq (Zb (k:=?_))
      refine p_rangeFuncB (fun pre => [Ce b16 3 [vI pre.length], Ce b8 9 [vS x], Ce b4 4 [vB false], IsS s d ja (k8s x v)]) (fun j pre => [Pu False]) (fun pre => [Ce b16 3 [vI pre.length], Ce b8 9 [vS x], Ce b4 4 [vB false]]) rfl (blob_Names_itB s d x84 ja (k8s x v) hkl2) rfl (fun _ => by rfl) rfl (fun pre => ?_) (fun pre => ?_) ?_ (fun l pre n hok => ?_) ?_ (fun j pre hs => ?_)
      · exact ent_pick
      · exact ent_pick
      · (refine ent_app ?_; exact ent_pick)
      ·
       obtain ⟨rr, hrr⟩ := hok
       rw [hnm] at hrr
       have hnx : n = x := List.mem_singleton.1 (by rw [hrr]; simp)
       have hpl : pre.length < 1 := by have := congrArg List.length hrr; simp at this; omega
       refine Zr (k:=Vv (k:=Wg (Zb (k:=Za (k:=Qc (k:=Vv (k:=Zd (k:=Vv (k:=Wq (Zi (t:=fun h88 => ?_) (f:=fun h88 => ?_)))))))))))
       ·
        exact absurd hnx h88
        --done
       ·
        refine Zk (k:=Ya (Zr (k:=Zd (k:=Vv (k:=Zo (k:=Wn (Yb ?_)))))))
        refine to_round ?_
        rw [List.length_append, List.length_singleton, Int.natCast_add]
        exact ent_pick
      ·
       rw [hnm]
       refine Yb (Ya (Qc (k:=Qv (k:=?_))))
       refine wo_pv (pv_beql Tryz.underlying4 rfl rfl) rfl ?_
       refine Vv (k:=Gi 3 (t:=fun h94 => ?_) (f:=fun h94 => ?_))
       ·
        refine J1 (k:=J1 (k:=J1 (k:=J1 (k:=J1 (k:=Gi 8 (t:=fun h99 => ?_) (f:=fun h99 => ?_))))))
        ·
         refine O1 (k:=O1 (k:=I1 (k:=P1 (k:=I1 (k:=?_)))))
         refine wo_pv (pv_beql Tryz.underlying4 rfl rfl) rfl ?_
         refine P1 (k:=Vv (k:=Gi 14 (t:=fun h105 => ?_) (f:=fun h105 => ?_)))
         ·
          refine J1 (k:=J1 (k:=P1 (k:=Vv (k:=Gi 18 (t:=fun h109 => ?_) (f:=fun h109 => ?_)))))
          ·
           refine I1 (k:=Zd (k:=J1 (k:=P1 (k:=Vv (k:=Gi 22 (t:=fun h113 => ?_) (f:=fun h113 => ?_))))))
           ·
            refine J1 (k:=I1 (k:=?_))
            refine r_call1 hCk rfl rfl rfl ?_
            refine J1 (k:=I1 (k:=?_))
            refine wo_pv (pv_beql Tryz.underlying4 rfl rfl) rfl ?_
            refine P1 (k:=Vv (k:=Gi 28 (t:=fun h119 => ?_) (f:=fun h119 => ?_)))
            ·
             refine J1 (k:=J1 (k:=I1 (k:=?_)))
             refine r_call1 hDp rfl rfl rfl ?_
             refine J1 (k:=P1 (k:=Vv (k:=Gi 34 (t:=fun h125 => ?_) (f:=fun h125 => ?_))))
             ·
              refine J1 (k:=J1 (k:=I1 (k:=?_)))
              refine r_callX hDr rfl rfl rfl (fun x128 _ => ?_)
              refine J1 (k:=J1 (k:=P1 (k:=Vv (k:=Gi 41 (t:=fun h132 => ?_) (f:=fun h132 => ?_)))))
              ·
               refine I1 (k:=?_)
               refine r_call1 BlobRuns_sp rfl rfl rfl ?_
               refine P1 (k:=Zo (k:=Wq (Zt (k:=?_))))
               exact zb9ret
              ·
               exact absurd rfl h132
               --done
             ·
              exact absurd rfl h125
              --done
            ·
             exact absurd rfl h119
             --done
           ·
            exact absurd rfl h113
            --done
          ·
           cases h109
           --done
         ·
          exact absurd (by simp [hyt, h99]) h105
          --done
        ·
         refine J0 (k:=J0 (k:=I1 (k:=P0 (k:=I1 (k:=?_)))))
         refine wo_pv (pv_beql Tryz.underlying4 rfl rfl) rfl ?_
         refine P1 (k:=Vv (k:=Gi 14 (t:=fun h105 => ?_) (f:=fun h105 => ?_)))
         ·
          refine J1 (k:=J1 (k:=P1 (k:=Vv (k:=Gi 18 (t:=fun h109 => ?_) (f:=fun h109 => ?_)))))
          ·
           refine I1 (k:=Zd (k:=J1 (k:=P1 (k:=Vv (k:=Gi 22 (t:=fun h113 => ?_) (f:=fun h113 => ?_))))))
           ·
            refine J1 (k:=I1 (k:=?_))
            refine r_call1 hCk rfl rfl rfl ?_
            refine J1 (k:=I1 (k:=?_))
            refine wo_pv (pv_beql Tryz.underlying4 rfl rfl) rfl ?_
            refine P1 (k:=Vv (k:=Gi 28 (t:=fun h119 => ?_) (f:=fun h119 => ?_)))
            ·
             refine J1 (k:=J1 (k:=I1 (k:=?_)))
             refine r_call1 hDp rfl rfl rfl ?_
             refine J1 (k:=P1 (k:=Vv (k:=Gi 34 (t:=fun h125 => ?_) (f:=fun h125 => ?_))))
             ·
              refine J1 (k:=J1 (k:=I1 (k:=?_)))
              refine r_callX hDr rfl rfl rfl (fun x128 _ => ?_)
              refine J1 (k:=J1 (k:=P1 (k:=Vv (k:=Gi 41 (t:=fun h132 => ?_) (f:=fun h132 => ?_)))))
              ·
               refine I1 (k:=?_)
               refine r_call1 BlobRuns_sp rfl rfl rfl ?_
               refine P1 (k:=Zo (k:=Wq (Zt (k:=?_))))
               exact zb9ret
              ·
               exact absurd rfl h132
               --done
             ·
              exact absurd rfl h125
              --done
            ·
             exact absurd rfl h119
             --done
           ·
            exact absurd rfl h113
            --done
          ·
           cases h109
           --done
         ·
          exact absurd (by simp [hyt, h99]) h105
          --done
       ·
        exact absurd rfl h94
        --done
      ·
       exact wc_no (fun s => by obtain ⟨_, _, _, _, a, _⟩ := s; exact a)
    ·
     refine Qc (k:=Vv (k:=?_))
     refine r_callF hW rfl rfl rfl ?_
     refine Wq (Zb (k:=Qc (k:=Qv (k:=Wq (Zi (t:=fun h40 => ?_) (f:=fun h40 => ?_))))))
     ·
      refine Zr (k:=Vv (k:=Wn (Yb ?_)))
      exact zb9join22
     ·
      refine Qc (k:=Qv (k:=Wq (Zi (t:=fun h42 => ?_) (f:=fun h42 => ?_))))
      ·
       refine Zr (k:=Vv (k:=?_))
       refine wo_pv (pv_cat rfl rfl (by simp only [List.length_singleton]; omega)) rfl ?_
       rw [List.singleton_append]
       refine Vv (k:=Wn (Yb ?_))
       exact zb9join22
      ·
       refine Qc (k:=Qv (k:=Wq (Zi (t:=fun h46 => ?_) (f:=fun h46 => ?_))))
       ·
        refine Zr (k:=Vv (k:=?_))
        refine wo_pv (pv_cat rfl rfl (by simp only [List.length_singleton]; omega)) rfl ?_
        rw [List.singleton_append]
        refine wo_pv (pv_cat rfl rfl (by simp; omega)) rfl ?_
        rw [List.cons_append]
        refine Vv (k:=Wn (Yb ?_))
        exact zb9join22
       ·
        refine Qc (k:=Qv (k:=Wq (Zi (t:=fun h51 => ?_) (f:=fun h51 => ?_))))
        ·
         refine Zr (k:=Zd (k:=?_))
         refine wo_pv (pv_cat rfl rfl (by simp only [List.length_singleton]; omega)) rfl ?_
         rw [List.singleton_append]
         refine wo_pv (pv_cat rfl rfl (by simp; omega)) rfl ?_
         rw [List.cons_append]
         refine Vv (k:=Wn (Yb ?_))
         exact zb9join22
        ·
         refine Qc (k:=Qv (k:=Wq (Zi (t:=fun h56 => ?_) (f:=fun h56 => ?_))))
         ·
          refine Zr (k:=Vv (k:=Wn (Yb ?_)))
          exact zb9join22
         ·
          refine Zk (k:=Yb ?_)
          exact zb9join22
end
/-- A list of whole numbers in memory. -/
structure IntsV where
 a : Option Addr
 c : Nat
 l : List Int
def IntsV.cell (x : IntsV) : Value := .slice x.a x.l.length x.c
def IntsV.ok (w : World) (x : IntsV) : Prop := x.l.length ≤ 9223372036854775807 ∧ At w (SlI x.a (x.l.map vI))
theorem ints_of {H : Type} {enc : TypeId × Value → H} {w : World} {spare : Nat → Bool} {held : Bool} {fuel : Nat} {cs : List Value} {x : DataW H × List MemPlace}
    (h : DataW.trod enc Tryz.prog w 0 spare held fuel 37 cs = some x) : ∃ q : IntsV, cs = [q.cell] ∧ q.ok w := by
 have ei : Tryz.prog.cellsOf 3 = 1 := by kernel_rfl
 obtain ⟨a, k, l, g, b, s, _⟩ := od_ints Tryz.underlying37 Tryz.underlying3 (by rw [ei]; decide) h
 exact ⟨⟨a, k, l⟩, g, b, s⟩
theorem keepText_of {H : Type} {enc : TypeId × Value → H} {w : World} {spare : Nat → Bool} {held : Bool} {fuel : Nat} {cs : List Value} {x : DataW H × List MemPlace}
    (h : DataW.trod enc Tryz.prog w 0 spare held fuel 39 cs = some x) : ∃ (b : Int) (q : IntsV), cs = [vI b, q.cell] ∧ q.ok w := by
 have hl := od_len Tryz.underlying39 h
 have e2 : Tryz.prog.cellsOf 39 = 2 := by kernel_rfl
 have ei : Tryz.prog.cellsOf 3 = 1 := by kernel_rfl
 have es : Tryz.prog.cellsOf 37 = 1 := by kernel_rfl
 rw [e2] at hl
 obtain ⟨m0, y0, f0⟩ := od_field Tryz.underlying39 h 0 3 0 1 rfl ei
 obtain ⟨m1, y1, f1⟩ := od_field Tryz.underlying39 h 1 37 1 1 rfl es
 match cs, hl with
 | [c0, c1], _ =>
   simp only [List.drop_zero, List.drop_succ_cons, List.take_succ_cons, List.take_zero] at f0 f1
   obtain ⟨n0, g0, _, _⟩ := DataW.trod_int Tryz.underlying3 f0
   obtain ⟨q, g1, hq⟩ := ints_of f1
   cases g0; cases g1
   exact ⟨n0, q, rfl, hq⟩
end Go.Proofs.YtibccdcemcgkeaaGreat
