/- Texts of this proof, put together: LawBlobPlays, KeepOf, AsksB. -/
import Derived.Test.YtibccdcemcgkeaaGreatQ18
set_option linter.unusedVariables false
set_option linter.unusedSimpArgs false
namespace Go.Proofs.YtibccdcemcgkeaaGreat
section
set_option maxRecDepth 100000
/-- An ask, as it lies in memory. -/
structure AskB where
 kind : Int
 which : Int
 base : Int
 seed : Int
 oa : Option Addr
 oc : Nat
 ops : List Int
def AskB.cells (q : AskB) : List Value := [vI q.kind, vI q.which, vI q.base, vI q.seed, .slice q.oa q.ops.length q.oc]
/-- What some asks point at: it never turns. -/
def AskBM (qs : List AskB) : HP := ⟨fun M _ => ∀ q ∈ qs, (SlI q.oa (q.ops.map vI)).at_ M Res.emp, fun le h q hq => (SlI q.oa (q.ops.map vI)).mono le (h q hq)⟩
theorem AskBM.pers (qs : List AskB) : Pers (AskBM qs) := fun e => e
instance {qs : List AskB} : PersC (AskBM qs) := ⟨AskBM.pers qs⟩
theorem ent_askB {qs : List AskB} {q : AskB} {Hs : List HP} (h : q ∈ qs) (hp : Has (AskBM qs) Hs) : Ent Hs (SlI q.oa (q.ops.map vI) :: Hs) := ⟨fun {M g} s => by
 obtain ⟨h1, _, a⟩ := hp.sat s
 exact ⟨Res.emp, g, Res.emp_dj _, rfl, a q h, s⟩⟩
theorem zb12next0 {G : Prop} (h : G := by
    first
    | exact to_inv ⟨(j + 1, ⟨p, pq, J, K, D, H, ns, na, nc⟩), by dsimp only; omega, by dsimp only; omega, ok2⟩ (by dsimp only; omega) ⟨rfl, rfl, rfl, rfl, rfl, rfl, rfl, trivial⟩ ent_pick
    | exact to_inv ⟨(j + 1, ⟨p, pq, J, K, D, H, ns, na, nc⟩), by dsimp only; omega, by dsimp only; omega, ok.up (by omega)⟩ (by dsimp only; omega) ⟨rfl, rfl, rfl, rfl, rfl, rfl, rfl, trivial⟩ ent_pick) : G := h
theorem zb12join42 {G : Prop} (h : G := by
    first
    | (have i2' : SB.Ok ⟨p + 1, pq, ja, doR K [⟨98 :: x, rv, false⟩], da, mput H x (vS t), ns ++ [x], a206, c206⟩ (j + 1) := SB.Ok.put ok hxn hx.symm htl hr i2
       refine to_inv ⟨_, i2'⟩ trivial ⟨rfl, rfl, rfl, rfl, rfl, sl_eq (by simp), rfl, trivial⟩ ?_
       dsimp only
       simp only [List.length_append, List.length_cons, List.length_nil, Nat.zero_add, List.map_append, List.map_cons, List.map_nil]
       exact ent_pick)
    | (have i1' : SB.Ok ⟨p, pq + 1, ja, doR K (dropB K x), da, mdel H x, ns, na, nc⟩ (j + 1) := SB.Ok.drop ok x i1
       exact to_inv ⟨_, i1'⟩ trivial ⟨rfl, rfl, rfl, rfl, rfl, rfl, rfl, trivial⟩ ent_pick)) : G := h
theorem zb12join38 {G : Prop} (h : G := by exact to_inv () trivial ⟨rfl, rfl, rfl, rfl, rfl, rfl, rfl, rfl, rfl, rfl, trivial⟩ ent_pick) : G := h
theorem zb12join25 {G : Prop} (h : G := by
    first
    | exact to_inv ⟨ns[w], Nat.le_of_eq (okn _ (List.getElem_mem hwl))⟩ trivial ⟨rfl, rfl, rfl, rfl, rfl, rfl, rfl, rfl, rfl, rfl, trivial⟩ ent_pick
    | exact to_inv ⟨[], Nat.zero_le _⟩ trivial ⟨rfl, rfl, rfl, rfl, rfl, rfl, rfl, rfl, rfl, rfl, trivial⟩ ent_pick) : G := h
theorem zb12ret {G : Prop} (h : G := by exact fin_ret () (vs := [_]) (Cs := [Ce b2 4 [vB true]]) rfl (.cell1 (l := [vB true]) rfl (shows_ce (T := 4)) Tryz.underlying4 rfl rfl .nil) rfl trivial ent_pick) : G := h
set_option maxHeartbeats 8000000 in
theorem BlobPlays_sp (a : Option Addr) (ac : Nat) (qs : List AskB) (hq : qs.length ≤ 9223372036854775807) (hqs : ∀ q ∈ qs, q.ops.length ≤ 9223372036854775807) :
    Sp1 Tryz.prog 12 [.slice a qs.length ac] [SlI a (qs.flatMap AskB.cells), AskBM qs] (vB true) [] := by
 have i0 : BI 1500 0 ⟨[], 0, false⟩ [] (newD 1500) := bi_new (by decide) (by decide)
 have i00 : SB.Ok ⟨0, 0, ⟨[], 0, false⟩, [], newD 1500, [], [], none, 0⟩ 0 := ⟨Nat.le_refl _, i0, hb_nil, Nat.le_refl _, (fun y h => by cases h), Nat.le_refl _⟩
 refine Sp.body (n := 277) Tryz.call12 Tryz.func12 rfl rfl rfl ?_
 refine Qc (k:=Zc [.bool false] (k:=fun b2 => Wq (Qc (k:=?_))))
 refine r_callX (disk_New_sp 1500) rfl rfl rfl (fun d _ => ?_)
 refine Vv (k:=Wq (Qc (k:=Vv (k:=?_))))
 refine r_callX (store_Open_sp d (newD 1500)) rfl rfl rfl (fun s _ => ?_)
 refine Zc [.pointer none] (k:=fun b4 => Zo (k:=Wq (Za (k:=Qc (k:=Vv (k:=?_))))))
 refine wo_pv (pv_peql_nil Tryz.underlying70 rfl rfl) rfl ?_
 refine Vv (k:=Gi 2 (t:=fun h36 => ?_) (f:=fun h36 => ?_))
 ·
  cases h36
  --done
 ·
  refine I0 (k:=Zd (k:=I0 (k:=?_)))
  refine wo_pv (pv_peql_nil Tryz.underlying72 rfl rfl) rfl ?_
  refine P0 (k:=Wq (Zi (t:=fun h39 => ?_) (f:=fun h39 => ?_)))
  ·
   cases h39
   --done
  ·
   refine Zk (k:=Ya (Za (k:=?_)))
   rw [show openJ (newD 1500) = ⟨[], 0, false⟩ from rfl, show openK (⟨[], 0, false⟩ : Jn).l = [] from rfl]
   refine Zr (k:=?_)
   refine r_mkmap rfl (fun b40 => ?_)
   refine Zc [.map none] (k:=fun b5 => Zo (k:=Wq (Qc (k:=Vv (k:=Wq (Za (k:=Qc (k:=Vv (k:=Wq ?_)))))))))
   refine Zb (k:=?_)
   refine p_loop (fun (i : { x : Nat × SB // x.1 ≤ qs.length ∧ x.1 ≤ 16 ∧ x.2.Ok x.1 }) => [(0, .slice a qs.length ac), (2, .pointer (some ⟨b2, 0, none⟩)), (3, .pointer (some ⟨d, 0, none⟩)), (4, .pointer (some ⟨b4, 0, none⟩)), (5, .pointer (some ⟨b5, 0, none⟩)), (6, .slice i.1.2.na i.1.2.ns.length i.1.2.nc), (7, vI i.1.1)]) (fun (i : { x : Nat × SB // x.1 ≤ qs.length ∧ x.1 ≤ 16 ∧ x.2.Ok x.1 }) => [MapS b40 i.1.2.H, IsS s d i.1.2.J i.1.2.K, IsD d i.1.2.D, Row 9 1 (.slice i.1.2.na i.1.2.ns.length i.1.2.nc) i.1.2.ns.length (i.1.2.ns.map vS), Ce b5 93 [.map (some b40)], Ce b4 72 [.pointer (some ⟨s, 0, none⟩)], Ce b2 4 [vB false], SlI a (qs.flatMap AskB.cells), AskBM qs]) (fun (i : { x : Nat × SB // x.1 ≤ qs.length ∧ x.1 ≤ 16 ∧ x.2.Ok x.1 }) => 16 - i.1.1) rfl (⟨(0, ⟨0, 0, ⟨[], 0, false⟩, [], newD 1500, [], [], none, 0⟩), Nat.zero_le _, Nat.zero_le _, i00⟩) ?_ ?_ (fun i => ?_)
   · exact ⟨rfl, rfl, rfl, rfl, rfl, rfl, rfl, trivial⟩
   ·
    dsimp only
    simp only [List.length_nil, List.map_nil]
    exact (row_nil (e := 9) (sz := 1)).trans ent_pick
   obtain ⟨⟨j, st⟩, hj, hj16, ok⟩ := i
   dsimp only at hj hj16 ok
   dsimp only
   try dsimp only
   refine Za (k:=Qc (k:=Qv (k:=Qv (k:=Vv (k:=Gi 4 (t:=fun h45 => ?_) (f:=fun h45 => ?_))))))
   ·
    refine J1 (k:=J1 (k:=P1 (k:=Wq (Zi (t:=fun h48 => ?_) (f:=fun h48 => ?_)))))
    ·
     refine Zk (k:=Ya (Za (k:=Zb (k:=Za (k:=?_)))))
     have hjl : j < qs.length := by omega
     have hqj := hqs _ (List.getElem_mem hjl)
     have hmem : qs[j] ∈ qs := List.getElem_mem hjl
     obtain ⟨q, hqq⟩ : ∃ q, q = qs[j] := ⟨_, rfl⟩
     have hget := get_flat (f := AskB.cells) (sz := 5) (fun _ => rfl) hjl
     rw [← hqq] at hqj hmem hget
     have hcl5 : q.cells.length = 5 := rfl
     obtain ⟨p, pq, J, K, D, H, ns, na, nc⟩ := st
     have okp := ok.pq
     have okb := ok.bi
     have okh := ok.hb
     have okl := ok.hl
     have okn := ok.nl
     have okm := ok.nn
     dsimp only at okp okb okh okl okn okm ⊢
     have hkl := okb.len
     have hwr := wrote_le p pq (by omega)
     refine Zr (k:=Qv (k:=Ye 5 (k:=?_)))
     refine r_eloada (sz := 5) Tryz.underlying95 rfl ti95 rfl rfl (by rw [flat_len (f := AskB.cells) (sz := 5) (fun _ => rfl)]; omega) rfl hget rfl ?_
     refine Zc [.int .i64 0, .int .i64 0, .int .i64 0, .int .i64 0, .slice none 0 0] (k:=fun b8 => Zp (k:=Wq ?_))
     refine p_cut (fun (y : { y : SB // y.Ok (j + 1) }) => [(0, .slice a qs.length ac), (2, .pointer (some ⟨b2, 0, none⟩)), (3, .pointer (some ⟨d, 0, none⟩)), (4, .pointer (some ⟨b4, 0, none⟩)), (5, .pointer (some ⟨b5, 0, none⟩)), (6, .slice y.1.na y.1.ns.length y.1.nc), (7, vI j)]) (fun (y : { y : SB // y.Ok (j + 1) }) => [MapS b40 y.1.H, IsS s d y.1.J y.1.K, IsD d y.1.D, Row 9 1 (.slice y.1.na y.1.ns.length y.1.nc) y.1.ns.length (y.1.ns.map vS), Ce b5 93 [.map (some b40)], Ce b4 72 [.pointer (some ⟨s, 0, none⟩)], Ce b2 4 [vB false], SlI a (qs.flatMap AskB.cells), AskBM qs]) rfl (fun y => ?_) ?_
     ·
      clear hkl hwr okp okb okh okl okn okm
      obtain ⟨⟨p, pq, J, K, D, H, ns, na, nc⟩, ok2⟩ := y
      have okb := ok2.bi
      have okh := ok2.hb
      have okl := ok2.hl
      have okp := ok2.pq
      dsimp only at okb okh okl okp ⊢
      have hkl := okb.len
      have hwr := wrote_le p pq (by omega)
      have hkl2 : K.length ≤ 4398046511104 := by omega
      have hrkl := rowsK_len K
      have hck := blob_Check_sp s d J K okb.txt okb.NamK (by omega)
      rw [okh.check] at hck
      have hcnt := okh.count
      try dsimp only
      refine Qc (k:=Zc [.slice none 0 0] (k:=fun b22 => Wq (Za (k:=Qc (k:=Zd (k:=?_))))))
      refine r_callX (store_All_sp s) rfl rfl rfl (fun x208 _ => ?_)
      refine Wq (Zb (k:=?_))
      refine p_rangeFunc (fun pre => [DropH b22 (rowsP pre), MapS b40 H, IsD d D, Row 9 1 (.slice na ns.length nc) ns.length (ns.map vS), Ce b5 93 [.map (some b40)], Ce b4 72 [.pointer (some ⟨s, 0, none⟩)], Ce b2 4 [vB false], SlI a (qs.flatMap AskB.cells), AskBM qs]) (fun j pre => [Pu False]) rfl (store_From_it x208.1 x208.2 s d J K [] (by omega)) rfl (fun _ => by rfl) rfl ?_ (fun l pre x1 hok => ?_) ?_ (fun j pre hs => ?_)
      · (refine ent_app ?_; rw [show rowsP [] = [] from rfl]; refine ent_ex (none, 0) ?_; refine ent_al ?_; exact ent_step row_nil ent_pick)
      ·
       obtain ⟨rr, hrr⟩ := hok
       have hpl : pre.length < (fromS K []).length := by rw [hrr, List.length_append, List.length_cons]; omega
       rw [fromS_nil_len] at hpl
       obtain ⟨k1, v1⟩ := x1
       obtain ⟨u1, hu1, hu2⟩ := okb.txt (k1, v1) (mem_of_mlook (fromS_mem (p := []) (x := (k1, v1)) (by rw [hrr]; simp)).2.2)
       dsimp only at hu1
       subst hu1
       refine wc_front (DropH b22 (rowsP pre)) ?_
       refine wc_exi fun ac => wc_al ?_
       obtain ⟨ra, rc⟩ := ac
       have hrpl : (rowsP pre).length = pre.length := by simp [rowsP]
       dsimp only
       refine Qc (k:=Vv (k:=Wq (Zr (k:=Vv (k:=Wg (Zb (k:=Zr (k:=Zd (k:=Qv (k:=?_))))))))))
       refine Vx (Ps [_, _, .bool false]) (k:=Zv [_] (cs := [_, _, _]) (k:=fun b215 => ?_))
       refine r_append1 (sz := 3) (bytes := 40) Tryz.underlying81 ti77 rfl rfl rfl rfl rfl rfl rfl (by rfl) (by rfl) (by omega) (by simp only [maxLen]; omega) rfl (fun a216 c216 => ?_)
       refine Zo (k:=Wn (Yb ?_))
       refine to_round ?_
       rw [rowsP_snoc]
       refine ent_ex (a216, c216) ?_
       refine ent_al ?_
       simp only [List.length_append, List.length_cons, List.length_nil, Nat.zero_add, List.flatMap_append]
       exact ent_step (row_norm (by rfl) (by rfl)) ent_pick
      ·
       skip
       refine Yb (Ya (Za (k:=?_)))
       rw [show rowsP (fromS K []) = rowsK K from rfl]
       refine wc_front (DropH b22 (rowsK K)) ?_
       refine wc_exi fun ac => wc_al ?_
       obtain ⟨ra, rc⟩ := ac
       dsimp only
       refine Zr (k:=Zc [.int .i64 0] (k:=fun b25 => Zo (k:=Wq (Za (k:=Qc (k:=Zd (k:=?_)))))))
       refine r_callX (blob_Names_sp s) rfl rfl rfl (fun x218 _ => ?_)
       refine Wq (Zb (k:=?_))
       refine p_rangeFuncB (fun pre => [Ce b25 3 [vI pre.length], Ce b22 81 [.slice ra (rowsK K).length rc], Row 77 3 (.slice ra (rowsK K).length rc) (rowsK K).length ((rowsK K).flatMap rowC), MapS b40 H, IsD d D, Row 9 1 (.slice na ns.length nc) ns.length (ns.map vS), Ce b5 93 [.map (some b40)], Ce b4 72 [.pointer (some ⟨s, 0, none⟩)], Ce b2 4 [vB false], SlI a (qs.flatMap AskB.cells), AskBM qs, IsS s d J K]) (fun j pre => [Pu False]) (fun pre => [Ce b25 3 [vI pre.length], Ce b22 81 [.slice ra (rowsK K).length rc], Row 77 3 (.slice ra (rowsK K).length rc) (rowsK K).length ((rowsK K).flatMap rowC), MapS b40 H, IsD d D, Row 9 1 (.slice na ns.length nc) ns.length (ns.map vS), Ce b5 93 [.map (some b40)], Ce b4 72 [.pointer (some ⟨s, 0, none⟩)], Ce b2 4 [vB false], SlI a (qs.flatMap AskB.cells), AskBM qs]) rfl (blob_Names_itB s d x218 J K hkl2) rfl (fun _ => by rfl) rfl (fun pre => ?_) (fun pre => ?_) ?_ (fun l pre n hok => ?_) ?_ (fun j pre hs => ?_)
       · exact ent_pick
       · exact ent_pick
       · (refine ent_app ?_; exact ent_pick)
       ·
        obtain ⟨rr, hrr⟩ := hok
        have hmn : n ∈ nmsB K := by rw [hrr]; simp
        have hnl := okb.nam _ (nms_mem.1 hmn)
        rw [List.length_cons] at hnl
        have hpl : pre.length < (nmsB K).length := by rw [hrr]; simp
        obtain ⟨u, kd, g1, g2, g3, g4, g5⟩ := okh.of (okh.nms.1 hmn)
        have hCn := blob_Content_sp s d J K okb.txt n (by omega)
        rw [show ctnB K n = some u from g5.ctn 3 g4] at hCn
        have hRC := ref5_Content_sp (B := Row 77 3 (.slice ra (rowsK K).length rc) (rowsK K).length ((rowsK K).flatMap rowC)) (rowsK K).length rc (rowsK K) sla_row rfl (by omega) (rowsK_val okb.txt) n (by omega)
        rw [g5.dpL getL_rows 3 g4] at hRC
        have hDn := blob_Depth_sp s d J K okb.txt n (by omega)
        rw [g5.dep (by omega)] at hDn
        have hRD := ref5_Depth_sp (B := Row 77 3 (.slice ra (rowsK K).length rc) (rowsK K).length ((rowsK K).flatMap rowC)) (rowsK K).length rc (rowsK K) sla_row rfl (by omega) n (by omega) (kd : Int) (by rw [g5.depL getL_rows 4 0 (by omega), Nat.zero_add])
        refine Zr (k:=Vv (k:=Wg (Zb (k:=Qc (k:=Zd (k:=Vv (k:=?_)))))))
        refine r_call1 hCn rfl rfl rfl ?_
        refine Vv (k:=?_)
        refine wo_pv (pv_extract (v := vS u) rfl rfl) rfl ?_
        refine wo_pv (pv_extract (v := vB true) rfl rfl) rfl ?_
        refine Qv (k:=Wq (Qc (k:=Zd (k:=Vv (k:=?_)))))
        refine r_call1 hRC rfl rfl rfl ?_
        refine Vv (k:=?_)
        refine wo_pv (pv_extract (v := vS u) rfl rfl) rfl ?_
        refine wo_pv (pv_extract (v := vB true) rfl rfl) rfl ?_
        refine Qv (k:=Wq (Za (k:=Za (k:=Dw [MapS b40 H, Ce b5 93 [.map (some b40)], Ce b4 72 [.pointer (some ⟨s, 0, none⟩)], Ce b22 81 [.slice ra (rowsK K).length rc]] (k:=?_)))))
        refine Dv 0 (k:=Dv 1 (k:=Dv 2 (k:=Gd 2 (t:=fun h234 => ?_) (f:=fun h234 => ?_))))
        ·
         cases h234
         --done
        ·
         refine Di 3 (t:=U0 (h:=Uv)) (k:=Di 4 (t:=U0 (h:=Uv)) (k:=DP0 5 (k:=Dv 6 (k:=Gd 6 (t:=fun h238 => ?_) (f:=fun h238 => ?_)))))
         ·
          cases h238
          --done
         ·
          refine Di 7 (t:=U0 (h:=Uv)) (k:=Di 8 (t:=U0 (h:=Ul)) (k:=Di 9 (t:=U0 (h:=Uv)) (k:=?_)))
          refine d_first 10 rfl rfl rfl (by kernel_rfl) (by kernel_rfl) (tl_in (b := false) rfl (tl_lookup (v := vS u) Tryz.underlying93 Tryz.underlying9 ti9 rfl rfl rfl (by simp only [g1]; rfl))) ?_
          refine Di 11 (t:=U0 (h:=Uv)) (k:=DP0 12 (k:=Dv 13 (k:=Gd 13 (t:=fun h245 => ?_) (f:=fun h245 => ?_))))
          ·
           exact absurd rfl h245
           --done
          ·
           refine Di 14 (t:=U0 (h:=Uv)) (k:=Di 15 (t:=U0 (h:=Uv)) (k:=Di 16 (t:=U0 (h:=Uv)) (k:=DP0 17 (k:=Dv 18 (k:=Gd 18 (t:=fun h250 => ?_) (f:=fun h250 => ?_))))))
           ·
            exact absurd rfl h250
            --done
           ·
            refine Di 19 (t:=U0 (h:=Ul)) (k:=Di 20 (t:=U0 (h:=Uv)) (k:=Di 22 (t:=U0 (h:=Ul)) (k:=Di 23 (t:=U0 (h:=Uv)) (k:=Dn 21 (k:=?_)))))
            refine an_in (b := false) rfl ?_
            refine an_call1 hDn rfl rfl rfl ?_
            refine Dn 24 (k:=?_)
            refine an_in (b := false) rfl ?_
            refine an_call1 hRD rfl rfl rfl ?_
            refine Di 25 (t:=U0 (h:=Uv)) (k:=DP0 26 (k:=Dv 27 (k:=Gd 27 (t:=fun h259 => ?_) (f:=fun h259 => ?_))))
            ·
             exact absurd rfl h259
             --done
            ·
             refine Di 28 (t:=U0 (h:=Ul)) (k:=Di 29 (t:=U0 (h:=Uv)) (k:=Dn 30 (k:=?_)))
             refine an_in (b := false) rfl ?_
             refine an_call1 hDn rfl rfl rfl ?_
             refine Di 31 (t:=U0 (h:=Uv)) (k:=DP0 32 (k:=Dd (k:=Ya (Zi (t:=fun h264 => ?_) (f:=fun h264 => ?_)))))
             ·
              exfalso; omega
              --done
             ·
              refine Zk (k:=Ya (Zr (k:=Zd (k:=Vv (k:=Zo (k:=Wn (Yb ?_)))))))
              refine to_round ?_
              rw [List.length_append, List.length_singleton, Int.natCast_add]
              exact ent_pick
       ·
        skip
        refine Yb (Ya (Qc (k:=Zd (k:=Zd (k:=?_)))))
        refine r_mlen Tryz.underlying93 rfl rfl ?_
        refine Qv (k:=Gi 4 (t:=fun h271 => ?_) (f:=fun h271 => ?_))
        ·
         exfalso; omega
         --done
        ·
         refine I0 (k:=Zd (k:=I0 (k:=?_)))
         refine r_call1 hck rfl rfl rfl ?_
         refine J0 (k:=P0 (k:=Wq (Zi (t:=fun h275 => ?_) (f:=fun h275 => ?_))))
         ·
          cases h275
          --done
         ·
          refine Zk (k:=Yb (Ya (Zr (k:=Qv (k:=Vv (k:=Wn ?_))))))
          exact zb12next0
       ·
        exact wc_no (fun s => by obtain ⟨_, _, _, _, a, _⟩ := s; exact a)
      ·
       exact wc_no (fun s => by obtain ⟨_, _, _, _, a, _⟩ := s; exact a)
     ·
      refine Qc (k:=Qx 0 3 (k:=Qv (k:=Gi 3 (t:=fun h58 => ?_) (f:=fun h58 => ?_))))
      ·
       refine J1 (k:=J1 (k:=J1 (k:=P1 (k:=Wq (Zi (t:=fun h62 => ?_) (f:=fun h62 => ?_))))))
       ·
        refine Za (k:=?_)
        obtain ⟨w, hw, hwl⟩ : ∃ m : Nat, withinI q.which 0 ((ns.length : Int) - 1) = (m : Int) ∧ m < ns.length := by
         have := withinI_in (n := q.which) (lo := 0) (hi := (ns.length : Int) - 1) (by omega)
         exact ⟨(withinI q.which 0 ((ns.length : Int) - 1)).toNat, by omega, by omega⟩
        have hW := book_Within_sp q.which 0 ((ns.length : Int) - 1) (by omega) (by omega) (by omega)
        rw [hw] at hW
        obtain ⟨x, hx⟩ : ∃ x, x = ns[w] := ⟨_, rfl⟩
        have hxl : x.length = 40 := okn x (by rw [hx]; exact List.getElem_mem hwl)
        obtain ⟨hd1, hd2, hd3⟩ := dropB_ok okh okb.nam (x := x) (by omega)
        have hdt := textOf_many hd2
        have hdw := wrote_drop p pq
        have hdm := wrote_le p (pq + 1) (by omega)
        obtain ⟨ja, da, i1, hC1⟩ := okb.sp (l := dropB K x) (13 * (p + 1)) hd1 (by omega) (by omega) (by decide)
        have hDr := blob_Drop_sp s d J K okb.txt okb.NamK (by omega) x (by omega)
        have hdd := (okh.dropped x).2
        have hin : (mlook H x).isSome = true ↔ x ∈ H.map (·.1) := mlook_isSome
        refine Zr (k:=Vv (k:=Qx 1 3 (k:=Qv (k:=Vv (k:=?_)))))
        refine r_callF hW rfl rfl rfl ?_
        refine Ye 1 (k:=?_)
        refine r_eload Tryz.underlying9 rfl rfl ((get_map (m := w) (by omega)).trans (by rw [← hx])) rfl ?_
        refine Vv (k:=Wq (Qc (k:=Zd (k:=Vv (k:=?_)))))
        refine r_callX hDr rfl rfl rfl (fun x74 _ => ?_)
        refine Vv (k:=Wq (Qc (k:=Zd (k:=Vv (k:=?_)))))
        refine r_lookup (v := .tuple #[(mlook H x).getD (vS []), vB (mlook H x).isSome]) Tryz.underlying93 Tryz.underlying9 ti9 rfl rfl rfl rfl rfl ?_
        refine Vv (k:=?_)
        refine wo_pv (pv_extract (v := (mlook H x).getD (vS [])) rfl rfl) rfl ?_
        refine wo_pv (pv_extract (v := vB (mlook H x).isSome) rfl rfl) rfl ?_
        refine Qv (k:=Wq (Za (k:=Qc (k:=Qv (k:=Qv (k:=?_))))))
        refine wo_pv (pv_bneq Tryz.underlying4 rfl rfl) rfl ?_
        refine Vv (k:=Gi 5 (t:=fun h86 => ?_) (f:=fun h86 => ?_))
        ·
         exfalso
         revert h86
         cases hms : (mlook H x).isSome <;> simp_all
         --done
        ·
         refine I0 (k:=Zd (k:=J0 (k:=I0 (k:=?_))))
         refine r_call1 (hC1 (Row 77 3 (.slice x74.1 (dropB K x).length x74.2) (dropB K x).length ((dropB K x).flatMap rowC)) _ s d (dropB K x).length x74.2 sla_row rfl) rfl rfl rfl ?_
         refine J0 (k:=P0 (k:=Wq (Zi (t:=fun h91 => ?_) (f:=fun h91 => ?_))))
         ·
          exact absurd rfl h91
          --done
         ·
          refine Zk (k:=Ya (Zr (k:=Zd (k:=Vv (k:=?_)))))
          refine r_delete Tryz.underlying93 Tryz.underlying9 rfl rfl rfl ?_
          refine Wn ?_
          exact zb12join42
       ·
        refine Za (k:=?_)
        refine wc_ent' (ent_askB hmem HasC.get) ?_
        obtain ⟨t, ht⟩ : ∃ t, t = longB q.seed q.ops q.which := ⟨_, rfl⟩
        have hL := keep_Long_sp (B := SlI q.oa (q.ops.map vI)) q.oc q.seed q.ops q.which hqj sla_sli
        have htl := longB_len q.seed q.ops q.which
        rw [← ht] at hL htl
        obtain ⟨x, hx⟩ : ∃ x, x = shaB t := ⟨_, rfl⟩
        have hxl : x.length = 40 := by rw [hx]; exact shaB_len _
        have hS := hash_Sum_sp t (by omega)
        rw [← hx] at hS
        refine Zr (k:=Vf 3 39 (k:=Zm [_, _] (k:=Qx 1 3 (k:=?_))))
        refine r_call1 hL rfl rfl rfl ?_
        refine Vv (k:=Wq (Qc (k:=Vv (k:=?_))))
        refine r_callF hS rfl rfl rfl ?_
        refine Vv (k:=Wq (Za (k:=Qc (k:=Zd (k:=Vv (k:=?_))))))
        refine r_lookup (v := .tuple #[(mlook H x).getD (vS []), vB (mlook H x).isSome]) Tryz.underlying93 Tryz.underlying9 ti9 rfl rfl rfl rfl rfl ?_
        refine Vv (k:=?_)
        refine wo_pv (pv_extract (v := (mlook H x).getD (vS [])) rfl rfl) rfl ?_
        refine wo_pv (pv_extract (v := vB (mlook H x).isSome) rfl rfl) rfl ?_
        refine Qv (k:=Wq (Qc (k:=Vv (k:=Wq (Zi (t:=fun h107 => ?_) (f:=fun h107 => ?_))))))
        ·
         refine Ze (k:=Xa (Xi (Xb (Ya (Zr (k:=Qv (k:=Vv (k:=Wn ?_))))))))
         exact zb12next0
        ·
         have hxn : x ∉ H.map (·.1) := fun h => by
          have := mlook_isSome.2 h
          simp_all
         refine Zk (k:=Ya (Qc (k:=Vv (k:=Wq ?_))))
         refine p_cut (fun (bs : { b : Bs // b.length ≤ 40 }) => [(0, .slice a qs.length ac), (2, .pointer (some ⟨b2, 0, none⟩)), (3, .pointer (some ⟨d, 0, none⟩)), (4, .pointer (some ⟨b4, 0, none⟩)), (5, .pointer (some ⟨b5, 0, none⟩)), (6, .slice na ns.length nc), (7, vI j), (13, vS t), (14, vS x), (17, vS bs.1)]) (fun (bs : { b : Bs // b.length ≤ 40 }) => [MapS b40 H, IsS s d J K, IsD d D, Row 9 1 (.slice na ns.length nc) ns.length (ns.map vS), Ce b5 93 [.map (some b40)], Ce b4 72 [.pointer (some ⟨s, 0, none⟩)], Ce b2 4 [vB false], SlI a (qs.flatMap AskB.cells), AskBM qs]) rfl (fun bs => ?_) ?_
         ·
          obtain ⟨base, hbl⟩ := bs
          dsimp only
          obtain ⟨rv, hr⟩ := okh.row hxn (t := t) base
          obtain ⟨hrl, hrl0⟩ := hr.len
          have hR := blob_Row_sp s d J K okb.txt x t base (by omega) (by omega) (by omega)
          rw [hr.row] at hR
          change Sp1 _ _ _ _ (.agg #[vS (98 :: x), vS rv, .bool false]) _ at hR
          have hwp := wrote_put p pq
          have hwm := wrote_le (p + 1) pq (by omega)
          obtain ⟨ja, da, i2, hC2⟩ := okb.sp (l := [⟨98 :: x, rv, false⟩]) 12 (fun q hq => by rw [List.mem_singleton.1 hq]; exact ⟨by simp, by simp; omega, by simp; omega, fun e => by cases e⟩) (Nat.le_trans (textOf_one (by simp <;> omega) (by simp <;> omega)) (by simp <;> omega)) (by omega) (by decide)
          try dsimp only
          refine Qc (k:=Zc [.slice none 0 0] (k:=fun b18 => Wq (Za (k:=Qc (k:=Zd (k:=?_))))))
          refine r_callX (store_All_sp s) rfl rfl rfl (fun x121 _ => ?_)
          refine Wq (Zb (k:=?_))
          refine p_rangeFunc (fun pre => [DropH b18 (rowsP pre), MapS b40 H, IsD d D, Row 9 1 (.slice na ns.length nc) ns.length (ns.map vS), Ce b5 93 [.map (some b40)], Ce b4 72 [.pointer (some ⟨s, 0, none⟩)], Ce b2 4 [vB false], SlI a (qs.flatMap AskB.cells), AskBM qs]) (fun j pre => [Pu False]) rfl (store_From_it x121.1 x121.2 s d J K [] (by omega)) rfl (fun _ => by rfl) rfl ?_ (fun l pre x1 hok => ?_) ?_ (fun j pre hs => ?_)
          · (refine ent_app ?_; rw [show rowsP [] = [] from rfl]; refine ent_ex (none, 0) ?_; refine ent_al ?_; exact ent_step row_nil ent_pick)
          ·
           obtain ⟨rr, hrr⟩ := hok
           have hpl : pre.length < (fromS K []).length := by rw [hrr, List.length_append, List.length_cons]; omega
           rw [fromS_nil_len] at hpl
           obtain ⟨k1, v1⟩ := x1
           obtain ⟨u1, hu1, hu2⟩ := okb.txt (k1, v1) (mem_of_mlook (fromS_mem (p := []) (x := (k1, v1)) (by rw [hrr]; simp)).2.2)
           dsimp only at hu1
           subst hu1
           refine wc_front (DropH b18 (rowsP pre)) ?_
           refine wc_exi fun ac => wc_al ?_
           obtain ⟨ra, rc⟩ := ac
           have hrpl : (rowsP pre).length = pre.length := by simp [rowsP]
           dsimp only
           refine Qc (k:=Vv (k:=Wq (Zr (k:=Vv (k:=Wg (Zb (k:=Zr (k:=Zd (k:=Qv (k:=?_))))))))))
           refine Vx (Ps [_, _, .bool false]) (k:=Zv [_] (cs := [_, _, _]) (k:=fun b128 => ?_))
           refine r_append1 (sz := 3) (bytes := 40) Tryz.underlying81 ti77 rfl rfl rfl rfl rfl rfl rfl (by rfl) (by rfl) (by omega) (by simp only [maxLen]; omega) rfl (fun a129 c129 => ?_)
           refine Zo (k:=Wn (Yb ?_))
           refine to_round ?_
           rw [rowsP_snoc]
           refine ent_ex (a129, c129) ?_
           refine ent_al ?_
           simp only [List.length_append, List.length_cons, List.length_nil, Nat.zero_add, List.flatMap_append]
           exact ent_step (row_norm (by rfl) (by rfl)) ent_pick
          ·
           skip
           refine Yb (Ya (Za (k:=?_)))
           rw [show rowsP (fromS K []) = rowsK K from rfl]
           have hrkl := rowsK_len K
           refine wc_front (DropH b18 (rowsK K)) ?_
           refine wc_exi fun ac => wc_al ?_
           obtain ⟨ra, rc⟩ := ac
           dsimp only
           refine Zr (k:=Zd (k:=Qv (k:=Vv (k:=?_))))
           refine r_call1 hR rfl rfl rfl ?_
           refine Zc [vS [], vS [], .bool false] (k:=fun b21 => Zp (k:=Wq (Za (k:=Qc (k:=Qx 0 9 (k:=Vv (k:=?_)))))))
           refine wo_pv (pv_cat rfl rfl (by simp only [List.length_singleton]; omega)) rfl ?_
           rw [List.singleton_append]
           refine Qv (k:=Gi 5 (t:=fun h140 => ?_) (f:=fun h140 => ?_))
           ·
            exact absurd rfl h140
            --done
           ·
            refine I0 (k:=Vf 2 4 (k:=I0 (k:=Zd (k:=P0 (k:=Vv (k:=Gi 9 (t:=fun h144 => ?_) (f:=fun h144 => ?_)))))))
            ·
             cases h144
             --done
            ·
             refine I0 (k:=Vf 1 9 (k:=I0 (k:=Zd (k:=J0 (k:=J0 (k:=P0 (k:=Wq (Zi (t:=fun h149 => ?_) (f:=fun h149 => ?_)))))))))
             ·
              exfalso; omega
              --done
             ·
              refine Zk (k:=Ya ?_)
              refine p_cut (fun (_ : Unit) => [(0, .slice a qs.length ac), (2, .pointer (some ⟨b2, 0, none⟩)), (3, .pointer (some ⟨d, 0, none⟩)), (4, .pointer (some ⟨b4, 0, none⟩)), (5, .pointer (some ⟨b5, 0, none⟩)), (6, .slice na ns.length nc), (7, vI j), (13, vS t), (14, vS x), (21, .pointer (some ⟨b21, 0, none⟩))]) (fun (_ : Unit) => [Ce b21 77 [vS (98 :: x), vS rv, .bool false], MapS b40 H, IsS s d J K, IsD d D, Row 9 1 (.slice na ns.length nc) ns.length (ns.map vS), Ce b5 93 [.map (some b40)], Ce b4 72 [.pointer (some ⟨s, 0, none⟩)], Ce b2 4 [vB false], SlI a (qs.flatMap AskB.cells), AskBM qs]) rfl (fun _ => ?_) ?_
              ·
               try dsimp only
               refine Za (k:=Qc (k:=Zd (k:=Zm [_, _, _] (k:=Zv [_] (cs := [_, _, _]) (k:=fun b197 => ?_)))))
               refine wo_ent' (ce_norm (b := b197) (T := 77) (l' := [(⟨98 :: x, rv, false⟩ : Rw)].flatMap rowC) (by rfl) (by rfl)) ?_
               refine r_call1 (hC2 (Ce b197 77 ([(⟨98 :: x, rv, false⟩ : Rw)].flatMap rowC)) _ s d 1 1 sla_ce rfl) rfl rfl rfl ?_
               refine Vv (k:=Wq (Zi (t:=fun h199 => ?_) (f:=fun h199 => ?_)))
               ·
                exact absurd rfl h199
                --done
               ·
                refine Zk (k:=Ya (Qc (k:=Zd (k:=Qv (k:=?_)))))
                refine r_mapUpdate Tryz.underlying93 Tryz.underlying9 rfl rfl rfl ?_
                refine Wq (Zr (k:=Qv (k:=Zv [_] (cs := [_]) (k:=fun b205 => ?_))))
                refine r_append1 (sz := 1) (bytes := 16) Tryz.underlying27 ti9 rfl rfl rfl rfl rfl rfl rfl (by rfl) (by rfl) (by omega) (by simp only [maxLen]; omega) rfl (fun a206 c206 => ?_)
                refine Vv (k:=Wn ?_)
                exact zb12join42
              ·
               refine Qc (k:=Qx 1 9 (k:=?_))
               refine wo_pv (pv_indexm (m := 0) Tryz.underlying9 rfl rfl rfl (by omega)) rfl ?_
               refine Vv (k:=Wq (Zi (t:=fun h153 => ?_) (f:=fun h153 => ?_)))
               ·
                obtain ⟨src, kd, g1, g2, g3, g4, g5, g6, g7⟩ : ∃ src k, Ch K k base src ∧ k < 3 ∧ src.length ≤ 300 ∧ base.length = 40 ∧ base ≠ x ∧ rv = 100 :: (base ++ makeB src t) ∧ rv.length < t.length := by
                 rcases hr.kind with h | h
                 · rw [h] at h153; simp at h153
                 · exact h
                have hrv41 : 41 ≤ rv.length := by rw [g6]; simp; omega
                have hrvb : (rv.drop 1).take 40 = base := by rw [g6, List.drop_succ_cons, List.drop_zero, ← g4, List.take_left]
                have hdp := ref5_Depth_sp (B := Row 77 3 (.slice ra (rowsK K).length rc) (rowsK K).length ((rowsK K).flatMap rowC)) (rowsK K).length rc (rowsK K) sla_row rfl (by omega) base (by omega) (kd : Int) (by rw [g1.depL getL_rows 4 0 (by omega), Nat.zero_add])
                refine Qc (k:=Qx 1 9 (k:=Qv (k:=Vv (k:=Gi 4 (t:=fun h158 => ?_) (f:=fun h158 => ?_)))))
                ·
                 exfalso; omega
                 --done
                ·
                 refine I0 (k:=Vf 1 9 (k:=I0 (k:=Zd (k:=I0 (k:=?_)))))
                 refine wo_pv (pv_slice_inm (m := 1) (o := 41) Tryz.underlying9 rfl rfl rfl rfl rfl (by omega) (by omega)) rfl ?_
                 refine J0 (k:=J0 (k:=P0 (k:=Vv (k:=Gi 11 (t:=fun h165 => ?_) (f:=fun h165 => ?_)))))
                 ·
                  exact absurd hrvb h165
                  --done
                 ·
                  refine J0 (k:=J0 (k:=J0 (k:=P0 (k:=Vv (k:=Gi 16 (t:=fun h170 => ?_) (f:=fun h170 => ?_))))))
                  ·
                   exact absurd h170 g5
                   --done
                  ·
                   refine I0 (k:=Zd (k:=J0 (k:=I0 (k:=?_))))
                   refine r_call1 hdp rfl rfl rfl ?_
                   refine J0 (k:=P0 (k:=Vv (k:=Gi 22 (t:=fun h176 => ?_) (f:=fun h176 => ?_))))
                   ·
                    exfalso; omega
                    --done
                   ·
                    refine I0 (k:=Zd (k:=J0 (k:=I0 (k:=?_))))
                    refine r_call1 hdp rfl rfl rfl ?_
                    refine J0 (k:=P0 (k:=Vv (k:=Gi 28 (t:=fun h182 => ?_) (f:=fun h182 => ?_))))
                    ·
                     exfalso; omega
                     --done
                    ·
                     refine I0 (k:=Vf 1 9 (k:=I0 (k:=Zd (k:=J0 (k:=J0 (k:=J0 (k:=J0 (k:=?_))))))))
                     refine P0 (k:=Wq (Zi (t:=fun h189 => ?_) (f:=fun h189 => ?_)))
                     ·
                      exfalso; omega
                      --done
                     ·
                      refine Zk (k:=?_)
                      exact zb12join38
               ·
                have hfull : rv = 102 :: t := by
                 rcases hr.kind with h | ⟨_, _, _, _, _, _, _, h, _⟩
                 · exact h
                 · rw [h] at h153; simp at h153
                refine Qc (k:=Qx 1 9 (k:=Vv (k:=?_)))
                refine wo_pv (pv_cat rfl rfl (by simp only [List.length_singleton]; omega)) rfl ?_
                rw [List.singleton_append]
                refine Vv (k:=Wq (Zi (t:=fun h194 => ?_) (f:=fun h194 => ?_)))
                ·
                 exact absurd hfull h194
                 --done
                ·
                 refine Zk (k:=?_)
                 exact zb12join38
          ·
           exact wc_no (fun s => by obtain ⟨_, _, _, _, a, _⟩ := s; exact a)
         ·
          refine Qc (k:=Qv (k:=Vv (k:=Wq (Zi (t:=fun h110 => ?_) (f:=fun h110 => ?_)))))
          ·
           obtain ⟨w, hw, hwl⟩ : ∃ m : Nat, withinI q.base 0 ((ns.length : Int) - 1) = (m : Int) ∧ m < ns.length := by
            have := withinI_in (n := q.base) (lo := 0) (hi := (ns.length : Int) - 1) (by omega)
            exact ⟨(withinI q.base 0 ((ns.length : Int) - 1)).toNat, by omega, by omega⟩
           have hW := book_Within_sp q.base 0 ((ns.length : Int) - 1) (by omega) (by omega) (by omega)
           rw [hw] at hW
           refine Zr (k:=Vv (k:=Qx 2 3 (k:=Qv (k:=Vv (k:=?_)))))
           refine r_callF hW rfl rfl rfl ?_
           refine Ye 1 (k:=?_)
           refine r_eload Tryz.underlying9 rfl rfl (get_map (m := w) (by omega)) rfl ?_
           refine Vv (k:=Wn ?_)
           exact zb12join25
          ·
           refine Zk (k:=?_)
           exact zb12join25
      ·
       refine O0 (k:=O0 (k:=O0 (k:=P0 (k:=Wq (Z0 (k:=Za (k:=?_)))))))
       refine wc_ent' (ent_askB hmem HasC.get) ?_
       obtain ⟨t, ht⟩ : ∃ t, t = longB q.seed q.ops q.which := ⟨_, rfl⟩
       have hL := keep_Long_sp (B := SlI q.oa (q.ops.map vI)) q.oc q.seed q.ops q.which hqj sla_sli
       have htl := longB_len q.seed q.ops q.which
       rw [← ht] at hL htl
       obtain ⟨x, hx⟩ : ∃ x, x = shaB t := ⟨_, rfl⟩
       have hxl : x.length = 40 := by rw [hx]; exact shaB_len _
       have hS := hash_Sum_sp t (by omega)
       rw [← hx] at hS
       refine Zr (k:=Vf 3 39 (k:=Zm [_, _] (k:=Qx 1 3 (k:=?_))))
       refine r_call1 hL rfl rfl rfl ?_
       refine Vv (k:=Wq (Qc (k:=Vv (k:=?_))))
       refine r_callF hS rfl rfl rfl ?_
       refine Vv (k:=Wq (Za (k:=Qc (k:=Zd (k:=Vv (k:=?_))))))
       refine r_lookup (v := .tuple #[(mlook H x).getD (vS []), vB (mlook H x).isSome]) Tryz.underlying93 Tryz.underlying9 ti9 rfl rfl rfl rfl rfl ?_
       refine Vv (k:=?_)
       refine wo_pv (pv_extract (v := (mlook H x).getD (vS [])) rfl rfl) rfl ?_
       refine wo_pv (pv_extract (v := vB (mlook H x).isSome) rfl rfl) rfl ?_
       refine Qv (k:=Wq (Qc (k:=Vv (k:=Wq (Zi (t:=fun h107 => ?_) (f:=fun h107 => ?_))))))
       ·
        refine Ze (k:=Xa (Xi (Xb (Ya (Zr (k:=Qv (k:=Vv (k:=Wn ?_))))))))
        exact zb12next0
       ·
        have hxn : x ∉ H.map (·.1) := fun h => by
         have := mlook_isSome.2 h
         simp_all
        refine Zk (k:=Ya (Qc (k:=Vv (k:=Wq ?_))))
        refine p_cut (fun (bs : { b : Bs // b.length ≤ 40 }) => [(0, .slice a qs.length ac), (2, .pointer (some ⟨b2, 0, none⟩)), (3, .pointer (some ⟨d, 0, none⟩)), (4, .pointer (some ⟨b4, 0, none⟩)), (5, .pointer (some ⟨b5, 0, none⟩)), (6, .slice na ns.length nc), (7, vI j), (13, vS t), (14, vS x), (17, vS bs.1)]) (fun (bs : { b : Bs // b.length ≤ 40 }) => [MapS b40 H, IsS s d J K, IsD d D, Row 9 1 (.slice na ns.length nc) ns.length (ns.map vS), Ce b5 93 [.map (some b40)], Ce b4 72 [.pointer (some ⟨s, 0, none⟩)], Ce b2 4 [vB false], SlI a (qs.flatMap AskB.cells), AskBM qs]) rfl (fun bs => ?_) ?_
        ·
         obtain ⟨base, hbl⟩ := bs
         dsimp only
         obtain ⟨rv, hr⟩ := okh.row hxn (t := t) base
         obtain ⟨hrl, hrl0⟩ := hr.len
         have hR := blob_Row_sp s d J K okb.txt x t base (by omega) (by omega) (by omega)
         rw [hr.row] at hR
         change Sp1 _ _ _ _ (.agg #[vS (98 :: x), vS rv, .bool false]) _ at hR
         have hwp := wrote_put p pq
         have hwm := wrote_le (p + 1) pq (by omega)
         obtain ⟨ja, da, i2, hC2⟩ := okb.sp (l := [⟨98 :: x, rv, false⟩]) 12 (fun q hq => by rw [List.mem_singleton.1 hq]; exact ⟨by simp, by simp; omega, by simp; omega, fun e => by cases e⟩) (Nat.le_trans (textOf_one (by simp <;> omega) (by simp <;> omega)) (by simp <;> omega)) (by omega) (by decide)
         try dsimp only
         refine Qc (k:=Zc [.slice none 0 0] (k:=fun b18 => Wq (Za (k:=Qc (k:=Zd (k:=?_))))))
         refine r_callX (store_All_sp s) rfl rfl rfl (fun x121 _ => ?_)
         refine Wq (Zb (k:=?_))
         refine p_rangeFunc (fun pre => [DropH b18 (rowsP pre), MapS b40 H, IsD d D, Row 9 1 (.slice na ns.length nc) ns.length (ns.map vS), Ce b5 93 [.map (some b40)], Ce b4 72 [.pointer (some ⟨s, 0, none⟩)], Ce b2 4 [vB false], SlI a (qs.flatMap AskB.cells), AskBM qs]) (fun j pre => [Pu False]) rfl (store_From_it x121.1 x121.2 s d J K [] (by omega)) rfl (fun _ => by rfl) rfl ?_ (fun l pre x1 hok => ?_) ?_ (fun j pre hs => ?_)
         · (refine ent_app ?_; rw [show rowsP [] = [] from rfl]; refine ent_ex (none, 0) ?_; refine ent_al ?_; exact ent_step row_nil ent_pick)
         ·
          obtain ⟨rr, hrr⟩ := hok
          have hpl : pre.length < (fromS K []).length := by rw [hrr, List.length_append, List.length_cons]; omega
          rw [fromS_nil_len] at hpl
          obtain ⟨k1, v1⟩ := x1
          obtain ⟨u1, hu1, hu2⟩ := okb.txt (k1, v1) (mem_of_mlook (fromS_mem (p := []) (x := (k1, v1)) (by rw [hrr]; simp)).2.2)
          dsimp only at hu1
          subst hu1
          refine wc_front (DropH b18 (rowsP pre)) ?_
          refine wc_exi fun ac => wc_al ?_
          obtain ⟨ra, rc⟩ := ac
          have hrpl : (rowsP pre).length = pre.length := by simp [rowsP]
          dsimp only
          refine Qc (k:=Vv (k:=Wq (Zr (k:=Vv (k:=Wg (Zb (k:=Zr (k:=Zd (k:=Qv (k:=?_))))))))))
          refine Vx (Ps [_, _, .bool false]) (k:=Zv [_] (cs := [_, _, _]) (k:=fun b128 => ?_))
          refine r_append1 (sz := 3) (bytes := 40) Tryz.underlying81 ti77 rfl rfl rfl rfl rfl rfl rfl (by rfl) (by rfl) (by omega) (by simp only [maxLen]; omega) rfl (fun a129 c129 => ?_)
          refine Zo (k:=Wn (Yb ?_))
          refine to_round ?_
          rw [rowsP_snoc]
          refine ent_ex (a129, c129) ?_
          refine ent_al ?_
          simp only [List.length_append, List.length_cons, List.length_nil, Nat.zero_add, List.flatMap_append]
          exact ent_step (row_norm (by rfl) (by rfl)) ent_pick
         ·
          skip
          refine Yb (Ya (Za (k:=?_)))
          rw [show rowsP (fromS K []) = rowsK K from rfl]
          have hrkl := rowsK_len K
          refine wc_front (DropH b18 (rowsK K)) ?_
          refine wc_exi fun ac => wc_al ?_
          obtain ⟨ra, rc⟩ := ac
          dsimp only
          refine Zr (k:=Zd (k:=Qv (k:=Vv (k:=?_))))
          refine r_call1 hR rfl rfl rfl ?_
          refine Zc [vS [], vS [], .bool false] (k:=fun b21 => Zp (k:=Wq (Za (k:=Qc (k:=Qx 0 9 (k:=Vv (k:=?_)))))))
          refine wo_pv (pv_cat rfl rfl (by simp only [List.length_singleton]; omega)) rfl ?_
          rw [List.singleton_append]
          refine Qv (k:=Gi 5 (t:=fun h140 => ?_) (f:=fun h140 => ?_))
          ·
           exact absurd rfl h140
           --done
          ·
           refine I0 (k:=Vf 2 4 (k:=I0 (k:=Zd (k:=P0 (k:=Vv (k:=Gi 9 (t:=fun h144 => ?_) (f:=fun h144 => ?_)))))))
           ·
            cases h144
            --done
           ·
            refine I0 (k:=Vf 1 9 (k:=I0 (k:=Zd (k:=J0 (k:=J0 (k:=P0 (k:=Wq (Zi (t:=fun h149 => ?_) (f:=fun h149 => ?_)))))))))
            ·
             exfalso; omega
             --done
            ·
             refine Zk (k:=Ya ?_)
             refine p_cut (fun (_ : Unit) => [(0, .slice a qs.length ac), (2, .pointer (some ⟨b2, 0, none⟩)), (3, .pointer (some ⟨d, 0, none⟩)), (4, .pointer (some ⟨b4, 0, none⟩)), (5, .pointer (some ⟨b5, 0, none⟩)), (6, .slice na ns.length nc), (7, vI j), (13, vS t), (14, vS x), (21, .pointer (some ⟨b21, 0, none⟩))]) (fun (_ : Unit) => [Ce b21 77 [vS (98 :: x), vS rv, .bool false], MapS b40 H, IsS s d J K, IsD d D, Row 9 1 (.slice na ns.length nc) ns.length (ns.map vS), Ce b5 93 [.map (some b40)], Ce b4 72 [.pointer (some ⟨s, 0, none⟩)], Ce b2 4 [vB false], SlI a (qs.flatMap AskB.cells), AskBM qs]) rfl (fun _ => ?_) ?_
             ·
              try dsimp only
              refine Za (k:=Qc (k:=Zd (k:=Zm [_, _, _] (k:=Zv [_] (cs := [_, _, _]) (k:=fun b197 => ?_)))))
              refine wo_ent' (ce_norm (b := b197) (T := 77) (l' := [(⟨98 :: x, rv, false⟩ : Rw)].flatMap rowC) (by rfl) (by rfl)) ?_
              refine r_call1 (hC2 (Ce b197 77 ([(⟨98 :: x, rv, false⟩ : Rw)].flatMap rowC)) _ s d 1 1 sla_ce rfl) rfl rfl rfl ?_
              refine Vv (k:=Wq (Zi (t:=fun h199 => ?_) (f:=fun h199 => ?_)))
              ·
               exact absurd rfl h199
               --done
              ·
               refine Zk (k:=Ya (Qc (k:=Zd (k:=Qv (k:=?_)))))
               refine r_mapUpdate Tryz.underlying93 Tryz.underlying9 rfl rfl rfl ?_
               refine Wq (Zr (k:=Qv (k:=Zv [_] (cs := [_]) (k:=fun b205 => ?_))))
               refine r_append1 (sz := 1) (bytes := 16) Tryz.underlying27 ti9 rfl rfl rfl rfl rfl rfl rfl (by rfl) (by rfl) (by omega) (by simp only [maxLen]; omega) rfl (fun a206 c206 => ?_)
               refine Vv (k:=Wn ?_)
               exact zb12join42
             ·
              refine Qc (k:=Qx 1 9 (k:=?_))
              refine wo_pv (pv_indexm (m := 0) Tryz.underlying9 rfl rfl rfl (by omega)) rfl ?_
              refine Vv (k:=Wq (Zi (t:=fun h153 => ?_) (f:=fun h153 => ?_)))
              ·
               obtain ⟨src, kd, g1, g2, g3, g4, g5, g6, g7⟩ : ∃ src k, Ch K k base src ∧ k < 3 ∧ src.length ≤ 300 ∧ base.length = 40 ∧ base ≠ x ∧ rv = 100 :: (base ++ makeB src t) ∧ rv.length < t.length := by
                rcases hr.kind with h | h
                · rw [h] at h153; simp at h153
                · exact h
               have hrv41 : 41 ≤ rv.length := by rw [g6]; simp; omega
               have hrvb : (rv.drop 1).take 40 = base := by rw [g6, List.drop_succ_cons, List.drop_zero, ← g4, List.take_left]
               have hdp := ref5_Depth_sp (B := Row 77 3 (.slice ra (rowsK K).length rc) (rowsK K).length ((rowsK K).flatMap rowC)) (rowsK K).length rc (rowsK K) sla_row rfl (by omega) base (by omega) (kd : Int) (by rw [g1.depL getL_rows 4 0 (by omega), Nat.zero_add])
               refine Qc (k:=Qx 1 9 (k:=Qv (k:=Vv (k:=Gi 4 (t:=fun h158 => ?_) (f:=fun h158 => ?_)))))
               ·
                exfalso; omega
                --done
               ·
                refine I0 (k:=Vf 1 9 (k:=I0 (k:=Zd (k:=I0 (k:=?_)))))
                refine wo_pv (pv_slice_inm (m := 1) (o := 41) Tryz.underlying9 rfl rfl rfl rfl rfl (by omega) (by omega)) rfl ?_
                refine J0 (k:=J0 (k:=P0 (k:=Vv (k:=Gi 11 (t:=fun h165 => ?_) (f:=fun h165 => ?_)))))
                ·
                 exact absurd hrvb h165
                 --done
                ·
                 refine J0 (k:=J0 (k:=J0 (k:=P0 (k:=Vv (k:=Gi 16 (t:=fun h170 => ?_) (f:=fun h170 => ?_))))))
                 ·
                  exact absurd h170 g5
                  --done
                 ·
                  refine I0 (k:=Zd (k:=J0 (k:=I0 (k:=?_))))
                  refine r_call1 hdp rfl rfl rfl ?_
                  refine J0 (k:=P0 (k:=Vv (k:=Gi 22 (t:=fun h176 => ?_) (f:=fun h176 => ?_))))
                  ·
                   exfalso; omega
                   --done
                  ·
                   refine I0 (k:=Zd (k:=J0 (k:=I0 (k:=?_))))
                   refine r_call1 hdp rfl rfl rfl ?_
                   refine J0 (k:=P0 (k:=Vv (k:=Gi 28 (t:=fun h182 => ?_) (f:=fun h182 => ?_))))
                   ·
                    exfalso; omega
                    --done
                   ·
                    refine I0 (k:=Vf 1 9 (k:=I0 (k:=Zd (k:=J0 (k:=J0 (k:=J0 (k:=J0 (k:=?_))))))))
                    refine P0 (k:=Wq (Zi (t:=fun h189 => ?_) (f:=fun h189 => ?_)))
                    ·
                     exfalso; omega
                     --done
                    ·
                     refine Zk (k:=?_)
                     exact zb12join38
              ·
               have hfull : rv = 102 :: t := by
                rcases hr.kind with h | ⟨_, _, _, _, _, _, _, h, _⟩
                · exact h
                · rw [h] at h153; simp at h153
               refine Qc (k:=Qx 1 9 (k:=Vv (k:=?_)))
               refine wo_pv (pv_cat rfl rfl (by simp only [List.length_singleton]; omega)) rfl ?_
               rw [List.singleton_append]
               refine Vv (k:=Wq (Zi (t:=fun h194 => ?_) (f:=fun h194 => ?_)))
               ·
                exact absurd hfull h194
                --done
               ·
                refine Zk (k:=?_)
                exact zb12join38
         ·
          exact wc_no (fun s => by obtain ⟨_, _, _, _, a, _⟩ := s; exact a)
        ·
         refine Qc (k:=Qv (k:=Vv (k:=Wq (Zi (t:=fun h110 => ?_) (f:=fun h110 => ?_)))))
         ·
          obtain ⟨w, hw, hwl⟩ : ∃ m : Nat, withinI q.base 0 ((ns.length : Int) - 1) = (m : Int) ∧ m < ns.length := by
           have := withinI_in (n := q.base) (lo := 0) (hi := (ns.length : Int) - 1) (by omega)
           exact ⟨(withinI q.base 0 ((ns.length : Int) - 1)).toNat, by omega, by omega⟩
          have hW := book_Within_sp q.base 0 ((ns.length : Int) - 1) (by omega) (by omega) (by omega)
          rw [hw] at hW
          refine Zr (k:=Vv (k:=Qx 2 3 (k:=Qv (k:=Vv (k:=?_)))))
          refine r_callF hW rfl rfl rfl ?_
          refine Ye 1 (k:=?_)
          refine r_eload Tryz.underlying9 rfl rfl (get_map (m := w) (by omega)) rfl ?_
          refine Vv (k:=Wn ?_)
          exact zb12join25
         ·
          refine Zk (k:=?_)
          exact zb12join25
    ·
     refine Ze (k:=Xa (Xi (Xb (Ya (Qc (k:=?_))))))
     refine r_call1 BlobRuns_sp rfl rfl rfl ?_
     refine Zo (k:=Wq (Zt (k:=?_)))
     exact zb12ret
   ·
    refine O0 (k:=O0 (k:=P0 (k:=Wq (Z0 (k:=Ze (k:=Xa (Xi (Xb (Ya (Qc (k:=?_)))))))))))
    refine r_call1 BlobRuns_sp rfl rfl rfl ?_
    refine Zo (k:=Wq (Zt (k:=?_)))
    exact zb12ret
end
/-- A list of whole numbers in memory. -/
structure IntsV where
 a : Option Addr
 c : Nat
 l : List Int
def IntsV.cell (x : IntsV) : Value := .slice x.a x.l.length x.c
def IntsV.ok (w : World) (x : IntsV) : Prop := x.l.length ≤ 9223372036854775807 ∧ At w (SlI x.a (x.l.map vI))
theorem ints_of {H : Type} {enc : TypeId × Value → H} {w : World} {spare : Nat → Bool} {held : Bool} {fuel : Nat} {cs : List Value} {x : DataW H × List MemPlace}
    (h : DataW.trod enc Tryz.prog w 0 spare held fuel 37 cs = some x) : ∃ q : IntsV, cs = [q.cell] ∧ q.ok w := by
 have ei : Tryz.prog.cellsOf 3 = 1 := by kernel_rfl
 obtain ⟨a, k, l, g, b, s, _⟩ := od_ints Tryz.underlying37 Tryz.underlying3 (by rw [ei]; decide) h
 exact ⟨⟨a, k, l⟩, g, b, s⟩
theorem keepText_of {H : Type} {enc : TypeId × Value → H} {w : World} {spare : Nat → Bool} {held : Bool} {fuel : Nat} {cs : List Value} {x : DataW H × List MemPlace}
    (h : DataW.trod enc Tryz.prog w 0 spare held fuel 39 cs = some x) : ∃ (b : Int) (q : IntsV), cs = [vI b, q.cell] ∧ q.ok w := by
 have hl := od_len Tryz.underlying39 h
 have e2 : Tryz.prog.cellsOf 39 = 2 := by kernel_rfl
 have ei : Tryz.prog.cellsOf 3 = 1 := by kernel_rfl
 have es : Tryz.prog.cellsOf 37 = 1 := by kernel_rfl
 rw [e2] at hl
 obtain ⟨m0, y0, f0⟩ := od_field Tryz.underlying39 h 0 3 0 1 rfl ei
 obtain ⟨m1, y1, f1⟩ := od_field Tryz.underlying39 h 1 37 1 1 rfl es
 match cs, hl with
 | [c0, c1], _ =>
   simp only [List.drop_zero, List.drop_succ_cons, List.take_succ_cons, List.take_zero] at f0 f1
   obtain ⟨n0, g0, _, _⟩ := DataW.trod_int Tryz.underlying3 f0
   obtain ⟨q, g1, hq⟩ := ints_of f1
   cases g0; cases g1
   exact ⟨n0, q, rfl, hq⟩
theorem ask8_of {H : Type} {enc : TypeId × Value → H} {w : World} {spare : Nat → Bool} {held : Bool} {fuel : Nat} {cs : List Value} {x : DataW H × List MemPlace}
    (h : DataW.trod enc Tryz.prog w 0 spare held fuel 95 cs = some x) : ∃ q : AskB, cs = q.cells ∧ q.ops.length ≤ 9223372036854775807 ∧ At w (SlI q.oa (q.ops.map vI)) := by
 have hl := od_len Tryz.underlying95 h
 have e5 : Tryz.prog.cellsOf 95 = 5 := by kernel_rfl
 have ei : Tryz.prog.cellsOf 3 = 1 := by kernel_rfl
 have et : Tryz.prog.cellsOf 39 = 2 := by kernel_rfl
 rw [e5] at hl
 obtain ⟨m0, y0, f0⟩ := od_field Tryz.underlying95 h 0 3 0 1 rfl ei
 obtain ⟨m1, y1, f1⟩ := od_field Tryz.underlying95 h 1 3 1 1 rfl ei
 obtain ⟨m2, y2, f2⟩ := od_field Tryz.underlying95 h 2 3 2 1 rfl ei
 obtain ⟨m3, y3, f3⟩ := od_field Tryz.underlying95 h 3 39 3 2 rfl et
 match cs, hl with
 | [c0, c1, c2, c3, c4], _ =>
   simp only [List.drop_zero, List.drop_succ_cons, List.take_succ_cons, List.take_zero] at f0 f1 f2 f3
   obtain ⟨n0, g0, _, _⟩ := DataW.trod_int Tryz.underlying3 f0
   obtain ⟨n1, g1, _, _⟩ := DataW.trod_int Tryz.underlying3 f1
   obtain ⟨n2, g2, _, _⟩ := DataW.trod_int Tryz.underlying3 f2
   obtain ⟨b, q, g3, h3⟩ := keepText_of f3
   cases g0; cases g1; cases g2; cases g3
   exact ⟨⟨n0, n1, n2, b, q.a, q.c, q.l⟩, rfl, h3.1, h3.2⟩
theorem asks8_of {H : Type} {enc : TypeId × Value → H} {w : World} {spare : Nat → Bool} {held : Bool} {fuel : Nat} {cs : List Value} {x : DataW H × List MemPlace}
    (h : DataW.trod enc Tryz.prog w 0 spare held fuel 92 cs = some x) : ∃ (a : Option Addr) (c : Nat) (qs : List AskB), cs = [.slice a qs.length c] ∧ qs.length ≤ 9223372036854775807 ∧ At w (SlI a (qs.flatMap AskB.cells)) ∧ At w (AskBM qs) ∧ ∀ q ∈ qs, q.ops.length ≤ 9223372036854775807 := by
 have e5 : Tryz.prog.cellsOf 95 = 5 := by kernel_rfl
 obtain ⟨a, c, qs, h1, h2, h3, h4⟩ := od_list AskB.cells (fun q => q.ops.length ≤ 9223372036854775807 ∧ At w (SlI q.oa (q.ops.map vI))) Tryz.underlying92 (by rw [e5]; decide) (fun _ hy => by
  obtain ⟨q, g1, g2, g3⟩ := ask8_of hy
  exact ⟨q, g1, g2, g3⟩) h
 exact ⟨a, c, qs, h1, h2, h3, fun q hq => (h4 q hq).2, fun q hq => (h4 q hq).1⟩
end Go.Proofs.YtibccdcemcgkeaaGreat
