/- Texts of this proof, put together: SCk, SCk2. -/
import Derived.Test.YtdnoacgopfcpbaaGreatQ11
set_option linter.unusedVariables false
set_option linter.unusedSimpArgs false
namespace Go.Proofs.YtdnoacgopfcpbaaGreat
section
set_option maxRecDepth 100000
def tgCells (t : Tg) : List Value := [vU t.kind.toNat, vS t.name, vS t.target, vS t.value]
def flCells (f : Bs × Bs) : List Value := [vS f.1, vS f.2]
theorem tgget {l : List Tg} {j : Nat} (h : j < l.length) : (l.flatMap tgCells)[4 * j + 1]? = some (vS (l.getD j tg0).name) ∧ (l.flatMap tgCells)[4 * j + 2]? = some (vS (l.getD j tg0).target) := by
 have hg : l.getD j tg0 = l[j] := by simp [h]
 rw [hg]
 constructor
 · have := get_field (f := tgCells) (sz := 4) (fun _ => rfl) (k := 1) (by decide) h; rw [Nat.mul_comm]; exact this
 · have := get_field (f := tgCells) (sz := 4) (fun _ => rfl) (k := 2) (by decide) h; rw [Nat.mul_comm]; exact this
theorem flget {l : List (Bs × Bs)} {j : Nat} (h : j < l.length) : (l.flatMap flCells)[2 * j]? = some (vS (l.getD j ([], [])).1) := by
 have hg : l.getD j ([], []) = l[j] := by simp [h]
 rw [hg]
 have := get_field (f := flCells) (sz := 2) (fun _ => rfl) (k := 0) (by decide) h; rw [Nat.mul_comm]; exact this
/-- The order among neighbours, as it is asked. -/
theorem rise_bad {own : Bool} {l : List Tg} {j : Nat} (o : OkT own l j) (h0 : 0 < j) : (!(blt (l.getD (j - 1) tg0).name (l.getD j tg0).name || decide ((l.getD (j - 1) tg0).name = (l.getD j tg0).name))) = false ∧ ((l.getD (j - 1) tg0).name = (l.getD j tg0).name → (!(blt (l.getD (j - 1) tg0).target (l.getD j tg0).target)) = false) := by
 obtain ⟨h1, h2⟩ := o.rise h0
 constructor
 · rcases h1 with h1 | h1
   · rw [h1]; rfl
   · rw [decide_eq_true h1, Bool.or_true]; rfl
 · intro e; rw [h2 e]; rfl
theorem zb211ret12 {G : Prop} (h : G := by
    have hn : ¬ OkT own l j := fun o => by
     obtain ⟨_, o2, o3, ⟨o4, o5⟩, _⟩ := o
     rw [hg] at o2 o3 o4 o5
     first
     | omega
     | exact h51 (of_decide_eq_true (o5 (by simpa using h45)))
     | (cases own <;> simp_all [isN]; done)
    refine fin_ret () (vs := [_]) (Cs := []) rfl (.tmp rfl .nil) (by rw [hbad hn]; rfl) trivial ent_pick) : G := h
theorem zb211ret14 {G : Prop} (h : G := by
    have hn : ¬ OkT own l j := fun o => by
     have h0 : 0 < j := by omega
     obtain ⟨r1, r2⟩ := rise_bad o h0
     rw [hg] at r1 r2
     simp_all
    refine fin_ret () (vs := [_]) (Cs := []) rfl (.tmp rfl .nil) (by rw [hbad hn]; rfl) trivial ent_pick) : G := h
theorem zb211next0 {G : Prop} (h : G := by
    have hokj : OkT own l j := by
     refine ⟨by rw [hg]; exact hkind, by rw [hg]; exact Classical.not_not.1 h28, by rw [hg]; omega, ?_, ?_⟩
     · rw [hg]
       cases own <;> simp_all [isN]
     · intro h0
       rw [hg]
       first
       | (exfalso; omega)
       | (have e1 : blt (l.getD (j - 1) tg0).name t.name = true ∨ (l.getD (j - 1) tg0).name = t.name := by
            cases hb1 : blt (l.getD (j - 1) tg0).name t.name with
            | true => exact .inl rfl
            | false =>
              rw [hb1, Bool.false_or] at h64
              exact .inr (by simpa using h64)
          first
          | exact ⟨e1, fun e => absurd e h74⟩
          | exact ⟨e1, fun _ => by simpa using h86⟩)
    refine to_inv ⟨j + 1, by omega, fun i hi => ?_⟩ (by dsimp only; omega) ⟨rfl, rfl, rfl, rfl, rfl, trivial⟩ ent_pick
    by_cases he : i = j
    · rw [he]; exact hokj
    · exact hok i (by omega)) : G := h
theorem zb211join11 {G : Prop} (h : G := by
    first
    | exact to_inv ⟨(), .inl (by omega)⟩ trivial ⟨rfl, rfl, rfl, rfl, rfl, rfl, rfl, trivial⟩ ent_pick
    | exact to_inv ⟨(), .inr (.inl (by omega))⟩ trivial ⟨rfl, rfl, rfl, rfl, rfl, rfl, rfl, trivial⟩ ent_pick
    | exact to_inv ⟨(), .inr (.inr ⟨by omega, by simpa using h23⟩)⟩ trivial ⟨rfl, rfl, rfl, rfl, rfl, rfl, rfl, trivial⟩ ent_pick) : G := h
theorem zb211ret10 {G : Prop} (h : G := by
    have hn : ¬ OkT own l j := fun o => by
     have := o.kind
     rw [hg] at this
     rcases this with h | h | h
     · omega
     · omega
     · exact absurd h.2 (by simpa using h23)
    refine fin_ret () (vs := [_]) (Cs := []) rfl (.tmp rfl .nil) (by rw [hbad hn]; rfl) trivial ent_pick) : G := h
theorem zb211ret5 {G : Prop} (h : G := by
    have hn : ¬ OkT own l j := fun o => by
     have := o.kind
     rw [hg] at this
     omega
    refine fin_ret () (vs := [_]) (Cs := []) rfl (.tmp rfl .nil) (by rw [hbad hn]; rfl) trivial ent_pick) : G := h
set_option maxHeartbeats 2000000 in
theorem checkin_RightTags_sp {B : HP} {a : Option Addr} (own : Bool) (n cap : Nat) (l : List Tg) (sh : SlA B a (l.flatMap tgCells)) (hn : l.length = n) (hb : n ≤ 1073741824) (hz : ∀ t ∈ l, t.name.length ≤ 1099511627776 ∧ t.target.length ≤ 1099511627776 ∧ t.value.length ≤ 1099511627776) :
    Sp1 Tryz.prog 211 [vB own, .slice a n cap] [B] (vB (decide (RightT own l))) [B] := by
 subst hn
 haveI : RdSl a (l.flatMap tgCells) [B] := ⟨⟨B, sh, .here⟩⟩
 refine Sp.body (n := 91) Tryz.call211 Tryz.func211 rfl rfl rfl ?_
 refine Qc (k:=Vv (k:=Wq (Za (k:=Qc (k:=Qv (k:=Vv (k:=Wq (Zb (k:=?_)))))))))
 refine p_loop (fun (i : { j : Nat // j ≤ l.length ∧ ∀ i, i < j → OkT own l i }) => [(0, vB own), (1, .slice a l.length cap), (7, .slice a l.length cap), (8, vI l.length), (9, vI i.1)]) (fun (i : { j : Nat // j ≤ l.length ∧ ∀ i, i < j → OkT own l i }) => [B]) (fun (i : { j : Nat // j ≤ l.length ∧ ∀ i, i < j → OkT own l i }) => l.length - i.1) rfl (⟨0, Nat.zero_le _, fun i h => by omega⟩) ?_ ?_ (fun i => ?_)
 · exact ⟨rfl, rfl, rfl, rfl, rfl, trivial⟩
 ·
  exact ent_pick
 obtain ⟨j, hj, hok⟩ := i
 dsimp only
 try dsimp only
 refine Qc (k:=Vv (k:=Wq (Za (k:=Zi (t:=fun h10 => ?_) (f:=fun h10 => ?_)))))
 ·
  refine Zk (k:=Ya (Za (k:=Zb (k:=Za (k:=?_)))))
  have hjl : j < l.length := by omega
  have hg : l.getD j tg0 = l[j] := by simp [hjl]
  have hzj := hz l[j] (List.getElem_mem hjl)
  obtain ⟨t, ht⟩ : ∃ t, t = l[j] := ⟨_, rfl⟩
  rw [← ht] at hzj hg
  have hfl : (l.flatMap tgCells).length = l.length * 4 := flat_len (f := tgCells) (sz := 4) (fun _ => rfl) l
  have hbad : ∀ (h : ¬ OkT own l j), decide (RightT own l) = false := fun h => decide_eq_false (fun r => h (r.ok j hjl))
  refine Zr (k:=Vv (k:=Ye 4 (k:=?_)))
  refine r_eloada (vs := [_, _, _, _]) (sz := 4) Tryz.underlying60 rfl ti60 rfl rfl (by rw [flat_len (sz := 4) (fun _ => rfl)]; omega) rfl (by refine get_flat (fun x => ?_) ?_ <;> first | rfl | omega) rfl ?_
  rw [← ht]
  refine Zc [.int .u8 0, vS [], vS [], vS []] (k:=fun b6 => Vv (k:=Zp (k:=Wq ?_)))
  refine p_cut (fun (u : { u : Unit // t.kind.toNat = 43 ∨ t.kind.toNat = 42 ∨ (t.kind.toNat = 45 ∧ t.value = []) }) => [(0, vB own), (1, .slice a l.length cap), (5, vI j), (6, .pointer (some ⟨b6, 0, none⟩)), (7, .slice a l.length cap), (8, vI l.length), (9, vI j)]) (fun (u : { u : Unit // t.kind.toNat = 43 ∨ t.kind.toNat = 42 ∨ (t.kind.toNat = 45 ∧ t.value = []) }) => [Ce b6 60 [vU (t.kind.toNat : Int), vS t.name, vS t.target, vS t.value], B]) rfl (fun u => ?_) ?_
  ·
   obtain ⟨u, hkind⟩ := u
   try dsimp only
   refine Za (k:=Qc (k:=Qx 1 9 (k:=?_)))
   refine r_callF (escape_Word_sp t.name (by omega)) rfl rfl rfl ?_
   refine Qv (k:=Gi 4 (t:=fun h28 => ?_) (f:=fun h28 => ?_))
   ·
    refine O1 (k:=O1 (k:=O1 (k:=O1 (k:=P1 (k:=Vv (k:=O1 (k:=O1 (k:=Ou (k:=Ou (k:=Ou (k:=O1 (k:=?_))))))))))))
    refine P1 (k:=Vv (k:=O1 (k:=O1 (k:=O1 (k:=Ou (k:=Ou (k:=Ou (k:=Ou (k:=O1 (k:=P1 (k:=Wq ?_)))))))))))
    refine Z1 (k:=Qc (k:=Vv (k:=Wq (Zt (k:=Va (Vb (Va (Vi (Vb (Va ?_))))))))))
    exact zb211ret12
   ·
    refine I0 (k:=Vf 3 9 (k:=I0 (k:=Zd (k:=J0 (k:=J0 (k:=P0 (k:=Vv (k:=Gi 10 (t:=fun h34 => ?_) (f:=fun h34 => ?_)))))))))
    ·
     refine O1 (k:=O1 (k:=Ou (k:=Ou (k:=Ou (k:=O1 (k:=P1 (k:=Vv (k:=O1 (k:=O1 (k:=O1 (k:=Ou (k:=?_))))))))))))
     refine Ou (k:=Ou (k:=Ou (k:=O1 (k:=P1 (k:=Wq (Z1 (k:=Qc (k:=Vv (k:=Wq (Zt (k:=?_)))))))))))
     refine Va (Vb (Va (Vi (Vb (Va ?_)))))
     exact zb211ret12
    ·
     refine J0 (k:=J0 (k:=Gi 12 (t:=fun h36 => ?_) (f:=fun h36 => ?_)))
     ·
      refine I1 (k:=Vf 2 9 (k:=I1 (k:=Zd (k:=J1 (k:=I0 (k:=P1 (k:=P0 (k:=Vv (k:=Gi 18 (t:=fun h42 => ?_) (f:=fun h42 => ?_))))))))))
      ·
       refine O1 (k:=O1 (k:=O1 (k:=Ou (k:=Ou (k:=Ou (k:=Ou (k:=O1 (k:=P1 (k:=Wq (Z1 (k:=Za (k:=?_))))))))))))
       refine Zr (k:=Vv (k:=Wq (Zt (k:=Va (Vb (Va (Vi (Vb (Va ?_)))))))))
       exact zb211ret12
      ·
       refine J0 (k:=J0 (k:=J0 (k:=Gi 21 (t:=fun h45 => ?_) (f:=fun h45 => ?_))))
       ·
        refine I1 (k:=Vf 2 9 (k:=I1 (k:=Zd (k:=I1 (k:=?_)))))
        refine r_callF (hash_Is_sp t.target (by omega)) rfl rfl rfl ?_
        refine J1 (k:=I0 (k:=P1 (k:=P0 (k:=Wq (Zi (t:=fun h51 => ?_) (f:=fun h51 => ?_))))))
        ·
         refine Qc (k:=Vv (k:=Wq (Zt (k:=Va (Vb (Va (Vi (Vb (Va ?_)))))))))
         exact zb211ret12
        ·
         refine Zk (k:=Ya (Za (k:=Dw [Ce b6 60 [vU (t.kind.toNat : Int), vS t.name, vS t.target, vS t.value], B] (k:=?_))))
         refine Dv 0 (k:=Dv 1 (k:=Dv 2 (k:=Gd 2 (t:=fun h54 => ?_) (f:=fun h54 => ?_))))
         ·
          refine Di 3 (t:=U1 (h:=Uv)) (k:=Di 4 (t:=U1 (h:=Uv)) (k:=Di 5 (t:=U1 (h:=Uv)) (k:=?_)))
          refine d_first 6 rfl rfl rfl (by kernel_rfl) (by kernel_rfl) (tl_in (b := true) rfl (tl_elemAddr (sz := 4) (m := j - 1) (kk := 4 * (j - 1)) Tryz.underlying28 ti60 rfl rfl rfl (by omega) (by omega) (by omega) (Nat.mul_comm _ _))) ?_
          refine d_first 7 rfl rfl rfl (by kernel_rfl) (by kernel_rfl) (tl_in (b := true) rfl (tl_efield (kk := 4 * (j - 1) + 1) Tryz.underlying60 rfl ti9 rfl rfl rfl rfl (by omega))) ?_
          refine d_first 8 rfl rfl rfl (by kernel_rfl) (by kernel_rfl) (tl_in (b := true) rfl (tl_eload Tryz.underlying9 rfl rfl (tgget (j := j - 1) (by omega)).1)) ?_
          refine Di 9 (t:=U1 (h:=Uf 1 9)) (k:=Di 10 (t:=U1 (h:=Ul)) (k:=Di 11 (t:=U1 (h:=Uv)) (k:=Di 12 (t:=U1 (h:=Uv)) (k:=Gd 12 (t:=fun h64 => ?_) (f:=fun h64 => ?_)))))
          ·
           refine D1 13 (k:=D1 14 (k:=D1 15 (k:=D1 16 (k:=D1 17 (k:=D1 18 (k:=D1 19 (k:=D1 20 (k:=D1 21 (k:=D1 22 (k:=Di 23 (t:=Uu) (k:=Di 24 (t:=Uu) (k:=?_))))))))))))
           refine Di 25 (t:=Uu) (k:=Di 26 (t:=Uu) (k:=Di 27 (t:=Uu) (k:=Di 28 (t:=Uu) (k:=Di 29 (t:=Uu) (k:=Di 30 (t:=Uu) (k:=Di 31 (t:=Uu) (k:=D1 32 (k:=Di 33 (t:=U1 (h:=UP1)) (k:=DP1 34 (k:=Dd (k:=Ya ?_)))))))))))
           refine Z1 (k:=Qc (k:=Vv (k:=Wq (Zt (k:=Vb (Va (Vi (Vb (Va ?_)))))))))
           exact zb211ret14
          ·
           refine Di 13 (t:=U0 (h:=Uv)) (k:=Di 14 (t:=U0 (h:=Uv)) (k:=Di 15 (t:=U0 (h:=Uv)) (k:=?_)))
           refine d_first 16 rfl rfl rfl (by kernel_rfl) (by kernel_rfl) (tl_in (b := false) rfl (tl_elemAddr (sz := 4) (m := j - 1) (kk := 4 * (j - 1)) Tryz.underlying28 ti60 rfl rfl rfl (by omega) (by omega) (by omega) (Nat.mul_comm _ _))) ?_
           refine d_first 17 rfl rfl rfl (by kernel_rfl) (by kernel_rfl) (tl_in (b := false) rfl (tl_efield (kk := 4 * (j - 1) + 1) Tryz.underlying60 rfl ti9 rfl rfl rfl rfl (by omega))) ?_
           refine d_first 18 rfl rfl rfl (by kernel_rfl) (by kernel_rfl) (tl_in (b := false) rfl (tl_eload Tryz.underlying9 rfl rfl (tgget (j := j - 1) (by omega)).1)) ?_
           refine Di 19 (t:=U0 (h:=Uf 1 9)) (k:=Di 20 (t:=U0 (h:=Ul)) (k:=Di 21 (t:=U0 (h:=Uv)) (k:=Di 22 (t:=U0 (h:=Uv)) (k:=Gd 22 (t:=fun h74 => ?_) (f:=fun h74 => ?_)))))
           ·
            refine Di 23 (t:=U1 (h:=Uv)) (k:=Di 24 (t:=U1 (h:=Uv)) (k:=Di 25 (t:=U1 (h:=Uv)) (k:=?_)))
            refine d_first 26 rfl rfl rfl (by kernel_rfl) (by kernel_rfl) (tl_in (b := true) rfl (tl_elemAddr (sz := 4) (m := j - 1) (kk := 4 * (j - 1)) Tryz.underlying28 ti60 rfl rfl rfl (by omega) (by omega) (by omega) (Nat.mul_comm _ _))) ?_
            refine d_first 27 rfl rfl rfl (by kernel_rfl) (by kernel_rfl) (tl_in (b := true) rfl (tl_efield (kk := 4 * (j - 1) + 2) Tryz.underlying60 rfl ti9 rfl rfl rfl rfl (by omega))) ?_
            refine d_first 28 rfl rfl rfl (by kernel_rfl) (by kernel_rfl) (tl_in (b := true) rfl (tl_eload Tryz.underlying9 rfl rfl (tgget (j := j - 1) (by omega)).2)) ?_
            refine Di 29 (t:=U1 (h:=Uf 2 9)) (k:=Di 30 (t:=U1 (h:=Ul)) (k:=Di 31 (t:=U1 (h:=Uv)) (k:=Di 32 (t:=U0 (h:=UP1)) (k:=Di 33 (t:=U1 (h:=UP0)) (k:=DP1 34 (k:=Dd (k:=Ya (Zi (t:=fun h86 => ?_) (f:=fun h86 => ?_)))))))))
            ·
             refine Qc (k:=Vv (k:=Wq (Zt (k:=Vb (Va (Vi (Vb (Va ?_))))))))
             exact zb211ret14
            ·
             refine Zk (k:=Yb (Ya (Zr (k:=Qv (k:=Wn ?_)))))
             exact zb211next0
           ·
            refine D0 23 (k:=D0 24 (k:=D0 25 (k:=D0 26 (k:=D0 27 (k:=D0 28 (k:=D0 29 (k:=D0 30 (k:=D0 31 (k:=Di 32 (t:=U0 (h:=UP0)) (k:=Di 33 (t:=U1 (h:=UP0)) (k:=DP1 34 (k:=?_))))))))))))
            refine Dd (k:=Ya (Z0 (k:=Zk (k:=Yb (Ya (Zr (k:=Qv (k:=Wn ?_))))))))
            exact zb211next0
         ·
          refine D0 3 (k:=D0 4 (k:=D0 5 (k:=D0 6 (k:=D0 7 (k:=D0 8 (k:=D0 9 (k:=D0 10 (k:=D0 11 (k:=D0 12 (k:=Di 13 (t:=Uu) (k:=Di 14 (t:=Uu) (k:=?_))))))))))))
          refine Di 15 (t:=Uu) (k:=Di 16 (t:=Uu) (k:=Di 17 (t:=Uu) (k:=Di 18 (t:=Uu) (k:=Di 19 (t:=Uu) (k:=Di 20 (t:=Uu) (k:=Di 21 (t:=Uu) (k:=Di 22 (t:=Uu) (k:=Di 23 (t:=Uu) (k:=Di 24 (t:=Uu) (k:=Di 25 (t:=Uu) (k:=Di 26 (t:=Uu) (k:=?_))))))))))))
          refine Di 27 (t:=Uu) (k:=Di 28 (t:=Uu) (k:=Di 29 (t:=Uu) (k:=Di 30 (t:=Uu) (k:=Di 31 (t:=Uu) (k:=Di 32 (t:=Uu) (k:=D0 33 (k:=DP0 34 (k:=Dd (k:=Ya (Z0 (k:=Zk (k:=?_))))))))))))
          refine Yb (Ya (Zr (k:=Qv (k:=Wn ?_))))
          exact zb211next0
       ·
        refine O0 (k:=O0 (k:=O0 (k:=O0 (k:=I0 (k:=P0 (k:=P0 (k:=Wq (Z0 (k:=Zk (k:=Ya (Za (k:=?_))))))))))))
        refine Dw [Ce b6 60 [vU (t.kind.toNat : Int), vS t.name, vS t.target, vS t.value], B] (k:=?_)
        refine Dv 0 (k:=Dv 1 (k:=Dv 2 (k:=Gd 2 (t:=fun h54 => ?_) (f:=fun h54 => ?_))))
        ·
         refine Di 3 (t:=U1 (h:=Uv)) (k:=Di 4 (t:=U1 (h:=Uv)) (k:=Di 5 (t:=U1 (h:=Uv)) (k:=?_)))
         refine d_first 6 rfl rfl rfl (by kernel_rfl) (by kernel_rfl) (tl_in (b := true) rfl (tl_elemAddr (sz := 4) (m := j - 1) (kk := 4 * (j - 1)) Tryz.underlying28 ti60 rfl rfl rfl (by omega) (by omega) (by omega) (Nat.mul_comm _ _))) ?_
         refine d_first 7 rfl rfl rfl (by kernel_rfl) (by kernel_rfl) (tl_in (b := true) rfl (tl_efield (kk := 4 * (j - 1) + 1) Tryz.underlying60 rfl ti9 rfl rfl rfl rfl (by omega))) ?_
         refine d_first 8 rfl rfl rfl (by kernel_rfl) (by kernel_rfl) (tl_in (b := true) rfl (tl_eload Tryz.underlying9 rfl rfl (tgget (j := j - 1) (by omega)).1)) ?_
         refine Di 9 (t:=U1 (h:=Uf 1 9)) (k:=Di 10 (t:=U1 (h:=Ul)) (k:=Di 11 (t:=U1 (h:=Uv)) (k:=Di 12 (t:=U1 (h:=Uv)) (k:=Gd 12 (t:=fun h64 => ?_) (f:=fun h64 => ?_)))))
         ·
          refine D1 13 (k:=D1 14 (k:=D1 15 (k:=D1 16 (k:=D1 17 (k:=D1 18 (k:=D1 19 (k:=D1 20 (k:=D1 21 (k:=D1 22 (k:=Di 23 (t:=Uu) (k:=Di 24 (t:=Uu) (k:=?_))))))))))))
          refine Di 25 (t:=Uu) (k:=Di 26 (t:=Uu) (k:=Di 27 (t:=Uu) (k:=Di 28 (t:=Uu) (k:=Di 29 (t:=Uu) (k:=Di 30 (t:=Uu) (k:=Di 31 (t:=Uu) (k:=D1 32 (k:=Di 33 (t:=U1 (h:=UP1)) (k:=DP1 34 (k:=Dd (k:=Ya ?_)))))))))))
          refine Z1 (k:=Qc (k:=Vv (k:=Wq (Zt (k:=Vb (Va (Vi (Vb (Va ?_)))))))))
          exact zb211ret14
         ·
          refine Di 13 (t:=U0 (h:=Uv)) (k:=Di 14 (t:=U0 (h:=Uv)) (k:=Di 15 (t:=U0 (h:=Uv)) (k:=?_)))
          refine d_first 16 rfl rfl rfl (by kernel_rfl) (by kernel_rfl) (tl_in (b := false) rfl (tl_elemAddr (sz := 4) (m := j - 1) (kk := 4 * (j - 1)) Tryz.underlying28 ti60 rfl rfl rfl (by omega) (by omega) (by omega) (Nat.mul_comm _ _))) ?_
          refine d_first 17 rfl rfl rfl (by kernel_rfl) (by kernel_rfl) (tl_in (b := false) rfl (tl_efield (kk := 4 * (j - 1) + 1) Tryz.underlying60 rfl ti9 rfl rfl rfl rfl (by omega))) ?_
          refine d_first 18 rfl rfl rfl (by kernel_rfl) (by kernel_rfl) (tl_in (b := false) rfl (tl_eload Tryz.underlying9 rfl rfl (tgget (j := j - 1) (by omega)).1)) ?_
          refine Di 19 (t:=U0 (h:=Uf 1 9)) (k:=Di 20 (t:=U0 (h:=Ul)) (k:=Di 21 (t:=U0 (h:=Uv)) (k:=Di 22 (t:=U0 (h:=Uv)) (k:=Gd 22 (t:=fun h74 => ?_) (f:=fun h74 => ?_)))))
          ·
           refine Di 23 (t:=U1 (h:=Uv)) (k:=Di 24 (t:=U1 (h:=Uv)) (k:=Di 25 (t:=U1 (h:=Uv)) (k:=?_)))
           refine d_first 26 rfl rfl rfl (by kernel_rfl) (by kernel_rfl) (tl_in (b := true) rfl (tl_elemAddr (sz := 4) (m := j - 1) (kk := 4 * (j - 1)) Tryz.underlying28 ti60 rfl rfl rfl (by omega) (by omega) (by omega) (Nat.mul_comm _ _))) ?_
           refine d_first 27 rfl rfl rfl (by kernel_rfl) (by kernel_rfl) (tl_in (b := true) rfl (tl_efield (kk := 4 * (j - 1) + 2) Tryz.underlying60 rfl ti9 rfl rfl rfl rfl (by omega))) ?_
           refine d_first 28 rfl rfl rfl (by kernel_rfl) (by kernel_rfl) (tl_in (b := true) rfl (tl_eload Tryz.underlying9 rfl rfl (tgget (j := j - 1) (by omega)).2)) ?_
           refine Di 29 (t:=U1 (h:=Uf 2 9)) (k:=Di 30 (t:=U1 (h:=Ul)) (k:=Di 31 (t:=U1 (h:=Uv)) (k:=Di 32 (t:=U0 (h:=UP1)) (k:=Di 33 (t:=U1 (h:=UP0)) (k:=DP1 34 (k:=Dd (k:=Ya (Zi (t:=fun h86 => ?_) (f:=fun h86 => ?_)))))))))
           ·
            refine Qc (k:=Vv (k:=Wq (Zt (k:=Vb (Va (Vi (Vb (Va ?_))))))))
            exact zb211ret14
           ·
            refine Zk (k:=Yb (Ya (Zr (k:=Qv (k:=Wn ?_)))))
            exact zb211next0
          ·
           refine D0 23 (k:=D0 24 (k:=D0 25 (k:=D0 26 (k:=D0 27 (k:=D0 28 (k:=D0 29 (k:=D0 30 (k:=D0 31 (k:=Di 32 (t:=U0 (h:=UP0)) (k:=Di 33 (t:=U1 (h:=UP0)) (k:=DP1 34 (k:=?_))))))))))))
           refine Dd (k:=Ya (Z0 (k:=Zk (k:=Yb (Ya (Zr (k:=Qv (k:=Wn ?_))))))))
           exact zb211next0
        ·
         refine D0 3 (k:=D0 4 (k:=D0 5 (k:=D0 6 (k:=D0 7 (k:=D0 8 (k:=D0 9 (k:=D0 10 (k:=D0 11 (k:=D0 12 (k:=Di 13 (t:=Uu) (k:=Di 14 (t:=Uu) (k:=?_))))))))))))
         refine Di 15 (t:=Uu) (k:=Di 16 (t:=Uu) (k:=Di 17 (t:=Uu) (k:=Di 18 (t:=Uu) (k:=Di 19 (t:=Uu) (k:=Di 20 (t:=Uu) (k:=Di 21 (t:=Uu) (k:=Di 22 (t:=Uu) (k:=Di 23 (t:=Uu) (k:=Di 24 (t:=Uu) (k:=Di 25 (t:=Uu) (k:=Di 26 (t:=Uu) (k:=?_))))))))))))
         refine Di 27 (t:=Uu) (k:=Di 28 (t:=Uu) (k:=Di 29 (t:=Uu) (k:=Di 30 (t:=Uu) (k:=Di 31 (t:=Uu) (k:=Di 32 (t:=Uu) (k:=D0 33 (k:=DP0 34 (k:=Dd (k:=Ya (Z0 (k:=Zk (k:=?_))))))))))))
         refine Yb (Ya (Zr (k:=Qv (k:=Wn ?_))))
         exact zb211next0
     ·
      refine O0 (k:=O0 (k:=O0 (k:=I0 (k:=P0 (k:=P0 (k:=Vv (k:=J0 (k:=J0 (k:=I0 (k:=?_))))))))))
      refine Vv (k:=Gi 21 (t:=fun h45 => ?_) (f:=fun h45 => ?_))
      ·
       refine I1 (k:=Vf 2 9 (k:=I1 (k:=Zd (k:=I1 (k:=?_)))))
       refine r_callF (hash_Is_sp t.target (by omega)) rfl rfl rfl ?_
       refine J1 (k:=I0 (k:=P1 (k:=P0 (k:=Wq (Zi (t:=fun h51 => ?_) (f:=fun h51 => ?_))))))
       ·
        refine Qc (k:=Vv (k:=Wq (Zt (k:=Va (Vb (Va (Vi (Vb (Va ?_)))))))))
        exact zb211ret12
       ·
        refine Zk (k:=Ya (Za (k:=Dw [Ce b6 60 [vU (t.kind.toNat : Int), vS t.name, vS t.target, vS t.value], B] (k:=?_))))
        refine Dv 0 (k:=Dv 1 (k:=Dv 2 (k:=Gd 2 (t:=fun h54 => ?_) (f:=fun h54 => ?_))))
        ·
         refine Di 3 (t:=U1 (h:=Uv)) (k:=Di 4 (t:=U1 (h:=Uv)) (k:=Di 5 (t:=U1 (h:=Uv)) (k:=?_)))
         refine d_first 6 rfl rfl rfl (by kernel_rfl) (by kernel_rfl) (tl_in (b := true) rfl (tl_elemAddr (sz := 4) (m := j - 1) (kk := 4 * (j - 1)) Tryz.underlying28 ti60 rfl rfl rfl (by omega) (by omega) (by omega) (Nat.mul_comm _ _))) ?_
         refine d_first 7 rfl rfl rfl (by kernel_rfl) (by kernel_rfl) (tl_in (b := true) rfl (tl_efield (kk := 4 * (j - 1) + 1) Tryz.underlying60 rfl ti9 rfl rfl rfl rfl (by omega))) ?_
         refine d_first 8 rfl rfl rfl (by kernel_rfl) (by kernel_rfl) (tl_in (b := true) rfl (tl_eload Tryz.underlying9 rfl rfl (tgget (j := j - 1) (by omega)).1)) ?_
         refine Di 9 (t:=U1 (h:=Uf 1 9)) (k:=Di 10 (t:=U1 (h:=Ul)) (k:=Di 11 (t:=U1 (h:=Uv)) (k:=Di 12 (t:=U1 (h:=Uv)) (k:=Gd 12 (t:=fun h64 => ?_) (f:=fun h64 => ?_)))))
         ·
          refine D1 13 (k:=D1 14 (k:=D1 15 (k:=D1 16 (k:=D1 17 (k:=D1 18 (k:=D1 19 (k:=D1 20 (k:=D1 21 (k:=D1 22 (k:=Di 23 (t:=Uu) (k:=Di 24 (t:=Uu) (k:=?_))))))))))))
          refine Di 25 (t:=Uu) (k:=Di 26 (t:=Uu) (k:=Di 27 (t:=Uu) (k:=Di 28 (t:=Uu) (k:=Di 29 (t:=Uu) (k:=Di 30 (t:=Uu) (k:=Di 31 (t:=Uu) (k:=D1 32 (k:=Di 33 (t:=U1 (h:=UP1)) (k:=DP1 34 (k:=Dd (k:=Ya ?_)))))))))))
          refine Z1 (k:=Qc (k:=Vv (k:=Wq (Zt (k:=Vb (Va (Vi (Vb (Va ?_)))))))))
          exact zb211ret14
         ·
          refine Di 13 (t:=U0 (h:=Uv)) (k:=Di 14 (t:=U0 (h:=Uv)) (k:=Di 15 (t:=U0 (h:=Uv)) (k:=?_)))
          refine d_first 16 rfl rfl rfl (by kernel_rfl) (by kernel_rfl) (tl_in (b := false) rfl (tl_elemAddr (sz := 4) (m := j - 1) (kk := 4 * (j - 1)) Tryz.underlying28 ti60 rfl rfl rfl (by omega) (by omega) (by omega) (Nat.mul_comm _ _))) ?_
          refine d_first 17 rfl rfl rfl (by kernel_rfl) (by kernel_rfl) (tl_in (b := false) rfl (tl_efield (kk := 4 * (j - 1) + 1) Tryz.underlying60 rfl ti9 rfl rfl rfl rfl (by omega))) ?_
          refine d_first 18 rfl rfl rfl (by kernel_rfl) (by kernel_rfl) (tl_in (b := false) rfl (tl_eload Tryz.underlying9 rfl rfl (tgget (j := j - 1) (by omega)).1)) ?_
          refine Di 19 (t:=U0 (h:=Uf 1 9)) (k:=Di 20 (t:=U0 (h:=Ul)) (k:=Di 21 (t:=U0 (h:=Uv)) (k:=Di 22 (t:=U0 (h:=Uv)) (k:=Gd 22 (t:=fun h74 => ?_) (f:=fun h74 => ?_)))))
          ·
           refine Di 23 (t:=U1 (h:=Uv)) (k:=Di 24 (t:=U1 (h:=Uv)) (k:=Di 25 (t:=U1 (h:=Uv)) (k:=?_)))
           refine d_first 26 rfl rfl rfl (by kernel_rfl) (by kernel_rfl) (tl_in (b := true) rfl (tl_elemAddr (sz := 4) (m := j - 1) (kk := 4 * (j - 1)) Tryz.underlying28 ti60 rfl rfl rfl (by omega) (by omega) (by omega) (Nat.mul_comm _ _))) ?_
           refine d_first 27 rfl rfl rfl (by kernel_rfl) (by kernel_rfl) (tl_in (b := true) rfl (tl_efield (kk := 4 * (j - 1) + 2) Tryz.underlying60 rfl ti9 rfl rfl rfl rfl (by omega))) ?_
           refine d_first 28 rfl rfl rfl (by kernel_rfl) (by kernel_rfl) (tl_in (b := true) rfl (tl_eload Tryz.underlying9 rfl rfl (tgget (j := j - 1) (by omega)).2)) ?_
           refine Di 29 (t:=U1 (h:=Uf 2 9)) (k:=Di 30 (t:=U1 (h:=Ul)) (k:=Di 31 (t:=U1 (h:=Uv)) (k:=Di 32 (t:=U0 (h:=UP1)) (k:=Di 33 (t:=U1 (h:=UP0)) (k:=DP1 34 (k:=Dd (k:=Ya (Zi (t:=fun h86 => ?_) (f:=fun h86 => ?_)))))))))
           ·
            refine Qc (k:=Vv (k:=Wq (Zt (k:=Vb (Va (Vi (Vb (Va ?_))))))))
            exact zb211ret14
           ·
            refine Zk (k:=Yb (Ya (Zr (k:=Qv (k:=Wn ?_)))))
            exact zb211next0
          ·
           refine D0 23 (k:=D0 24 (k:=D0 25 (k:=D0 26 (k:=D0 27 (k:=D0 28 (k:=D0 29 (k:=D0 30 (k:=D0 31 (k:=Di 32 (t:=U0 (h:=UP0)) (k:=Di 33 (t:=U1 (h:=UP0)) (k:=DP1 34 (k:=?_))))))))))))
           refine Dd (k:=Ya (Z0 (k:=Zk (k:=Yb (Ya (Zr (k:=Qv (k:=Wn ?_))))))))
           exact zb211next0
        ·
         refine D0 3 (k:=D0 4 (k:=D0 5 (k:=D0 6 (k:=D0 7 (k:=D0 8 (k:=D0 9 (k:=D0 10 (k:=D0 11 (k:=D0 12 (k:=Di 13 (t:=Uu) (k:=Di 14 (t:=Uu) (k:=?_))))))))))))
         refine Di 15 (t:=Uu) (k:=Di 16 (t:=Uu) (k:=Di 17 (t:=Uu) (k:=Di 18 (t:=Uu) (k:=Di 19 (t:=Uu) (k:=Di 20 (t:=Uu) (k:=Di 21 (t:=Uu) (k:=Di 22 (t:=Uu) (k:=Di 23 (t:=Uu) (k:=Di 24 (t:=Uu) (k:=Di 25 (t:=Uu) (k:=Di 26 (t:=Uu) (k:=?_))))))))))))
         refine Di 27 (t:=Uu) (k:=Di 28 (t:=Uu) (k:=Di 29 (t:=Uu) (k:=Di 30 (t:=Uu) (k:=Di 31 (t:=Uu) (k:=Di 32 (t:=Uu) (k:=D0 33 (k:=DP0 34 (k:=Dd (k:=Ya (Z0 (k:=Zk (k:=?_))))))))))))
         refine Yb (Ya (Zr (k:=Qv (k:=Wn ?_))))
         exact zb211next0
      ·
       refine O0 (k:=O0 (k:=O0 (k:=O0 (k:=I0 (k:=P0 (k:=P0 (k:=Wq (Z0 (k:=Zk (k:=Ya (Za (k:=?_))))))))))))
       refine Dw [Ce b6 60 [vU (t.kind.toNat : Int), vS t.name, vS t.target, vS t.value], B] (k:=?_)
       refine Dv 0 (k:=Dv 1 (k:=Dv 2 (k:=Gd 2 (t:=fun h54 => ?_) (f:=fun h54 => ?_))))
       ·
        refine Di 3 (t:=U1 (h:=Uv)) (k:=Di 4 (t:=U1 (h:=Uv)) (k:=Di 5 (t:=U1 (h:=Uv)) (k:=?_)))
        refine d_first 6 rfl rfl rfl (by kernel_rfl) (by kernel_rfl) (tl_in (b := true) rfl (tl_elemAddr (sz := 4) (m := j - 1) (kk := 4 * (j - 1)) Tryz.underlying28 ti60 rfl rfl rfl (by omega) (by omega) (by omega) (Nat.mul_comm _ _))) ?_
        refine d_first 7 rfl rfl rfl (by kernel_rfl) (by kernel_rfl) (tl_in (b := true) rfl (tl_efield (kk := 4 * (j - 1) + 1) Tryz.underlying60 rfl ti9 rfl rfl rfl rfl (by omega))) ?_
        refine d_first 8 rfl rfl rfl (by kernel_rfl) (by kernel_rfl) (tl_in (b := true) rfl (tl_eload Tryz.underlying9 rfl rfl (tgget (j := j - 1) (by omega)).1)) ?_
        refine Di 9 (t:=U1 (h:=Uf 1 9)) (k:=Di 10 (t:=U1 (h:=Ul)) (k:=Di 11 (t:=U1 (h:=Uv)) (k:=Di 12 (t:=U1 (h:=Uv)) (k:=Gd 12 (t:=fun h64 => ?_) (f:=fun h64 => ?_)))))
        ·
         refine D1 13 (k:=D1 14 (k:=D1 15 (k:=D1 16 (k:=D1 17 (k:=D1 18 (k:=D1 19 (k:=D1 20 (k:=D1 21 (k:=D1 22 (k:=Di 23 (t:=Uu) (k:=Di 24 (t:=Uu) (k:=?_))))))))))))
         refine Di 25 (t:=Uu) (k:=Di 26 (t:=Uu) (k:=Di 27 (t:=Uu) (k:=Di 28 (t:=Uu) (k:=Di 29 (t:=Uu) (k:=Di 30 (t:=Uu) (k:=Di 31 (t:=Uu) (k:=D1 32 (k:=Di 33 (t:=U1 (h:=UP1)) (k:=DP1 34 (k:=Dd (k:=Ya ?_)))))))))))
         refine Z1 (k:=Qc (k:=Vv (k:=Wq (Zt (k:=Vb (Va (Vi (Vb (Va ?_)))))))))
         exact zb211ret14
        ·
         refine Di 13 (t:=U0 (h:=Uv)) (k:=Di 14 (t:=U0 (h:=Uv)) (k:=Di 15 (t:=U0 (h:=Uv)) (k:=?_)))
         refine d_first 16 rfl rfl rfl (by kernel_rfl) (by kernel_rfl) (tl_in (b := false) rfl (tl_elemAddr (sz := 4) (m := j - 1) (kk := 4 * (j - 1)) Tryz.underlying28 ti60 rfl rfl rfl (by omega) (by omega) (by omega) (Nat.mul_comm _ _))) ?_
         refine d_first 17 rfl rfl rfl (by kernel_rfl) (by kernel_rfl) (tl_in (b := false) rfl (tl_efield (kk := 4 * (j - 1) + 1) Tryz.underlying60 rfl ti9 rfl rfl rfl rfl (by omega))) ?_
         refine d_first 18 rfl rfl rfl (by kernel_rfl) (by kernel_rfl) (tl_in (b := false) rfl (tl_eload Tryz.underlying9 rfl rfl (tgget (j := j - 1) (by omega)).1)) ?_
         refine Di 19 (t:=U0 (h:=Uf 1 9)) (k:=Di 20 (t:=U0 (h:=Ul)) (k:=Di 21 (t:=U0 (h:=Uv)) (k:=Di 22 (t:=U0 (h:=Uv)) (k:=Gd 22 (t:=fun h74 => ?_) (f:=fun h74 => ?_)))))
         ·
          refine Di 23 (t:=U1 (h:=Uv)) (k:=Di 24 (t:=U1 (h:=Uv)) (k:=Di 25 (t:=U1 (h:=Uv)) (k:=?_)))
          refine d_first 26 rfl rfl rfl (by kernel_rfl) (by kernel_rfl) (tl_in (b := true) rfl (tl_elemAddr (sz := 4) (m := j - 1) (kk := 4 * (j - 1)) Tryz.underlying28 ti60 rfl rfl rfl (by omega) (by omega) (by omega) (Nat.mul_comm _ _))) ?_
          refine d_first 27 rfl rfl rfl (by kernel_rfl) (by kernel_rfl) (tl_in (b := true) rfl (tl_efield (kk := 4 * (j - 1) + 2) Tryz.underlying60 rfl ti9 rfl rfl rfl rfl (by omega))) ?_
          refine d_first 28 rfl rfl rfl (by kernel_rfl) (by kernel_rfl) (tl_in (b := true) rfl (tl_eload Tryz.underlying9 rfl rfl (tgget (j := j - 1) (by omega)).2)) ?_
          refine Di 29 (t:=U1 (h:=Uf 2 9)) (k:=Di 30 (t:=U1 (h:=Ul)) (k:=Di 31 (t:=U1 (h:=Uv)) (k:=Di 32 (t:=U0 (h:=UP1)) (k:=Di 33 (t:=U1 (h:=UP0)) (k:=DP1 34 (k:=Dd (k:=Ya (Zi (t:=fun h86 => ?_) (f:=fun h86 => ?_)))))))))
          ·
           refine Qc (k:=Vv (k:=Wq (Zt (k:=Vb (Va (Vi (Vb (Va ?_))))))))
           exact zb211ret14
          ·
           refine Zk (k:=Yb (Ya (Zr (k:=Qv (k:=Wn ?_)))))
           exact zb211next0
         ·
          refine D0 23 (k:=D0 24 (k:=D0 25 (k:=D0 26 (k:=D0 27 (k:=D0 28 (k:=D0 29 (k:=D0 30 (k:=D0 31 (k:=Di 32 (t:=U0 (h:=UP0)) (k:=Di 33 (t:=U1 (h:=UP0)) (k:=DP1 34 (k:=?_))))))))))))
          refine Dd (k:=Ya (Z0 (k:=Zk (k:=Yb (Ya (Zr (k:=Qv (k:=Wn ?_))))))))
          exact zb211next0
       ·
        refine D0 3 (k:=D0 4 (k:=D0 5 (k:=D0 6 (k:=D0 7 (k:=D0 8 (k:=D0 9 (k:=D0 10 (k:=D0 11 (k:=D0 12 (k:=Di 13 (t:=Uu) (k:=Di 14 (t:=Uu) (k:=?_))))))))))))
        refine Di 15 (t:=Uu) (k:=Di 16 (t:=Uu) (k:=Di 17 (t:=Uu) (k:=Di 18 (t:=Uu) (k:=Di 19 (t:=Uu) (k:=Di 20 (t:=Uu) (k:=Di 21 (t:=Uu) (k:=Di 22 (t:=Uu) (k:=Di 23 (t:=Uu) (k:=Di 24 (t:=Uu) (k:=Di 25 (t:=Uu) (k:=Di 26 (t:=Uu) (k:=?_))))))))))))
        refine Di 27 (t:=Uu) (k:=Di 28 (t:=Uu) (k:=Di 29 (t:=Uu) (k:=Di 30 (t:=Uu) (k:=Di 31 (t:=Uu) (k:=Di 32 (t:=Uu) (k:=D0 33 (k:=DP0 34 (k:=Dd (k:=Ya (Z0 (k:=Zk (k:=?_))))))))))))
        refine Yb (Ya (Zr (k:=Qv (k:=Wn ?_))))
        exact zb211next0
  ·
   refine Qc (k:=Qx 0 5 (k:=Wq (Zb (k:=Za (k:=Qc (k:=Qv (k:=Wq ?_)))))))
   refine Zi (t:=fun h16 => ?_) (f:=fun h16 => ?_)
   ·
    refine Zk (k:=Ya (Zi (t:=fun h16 => ?_) (f:=fun h16 => ?_)))
    ·
     refine Zk (k:=Yb ?_)
     exact zb211join11
    ·
     refine Qc (k:=Qv (k:=Wq (Zi (t:=fun h19 => ?_) (f:=fun h19 => ?_))))
     ·
      refine Qc (k:=Qx 3 9 (k:=Vv (k:=Wq (Zi (t:=fun h23 => ?_) (f:=fun h23 => ?_)))))
      ·
       refine Qc (k:=Vv (k:=Wq (Zt (k:=Vb (Vi (Vb (Va (Vi (Vb (Va ?_))))))))))
       exact zb211ret10
      ·
       refine Zk (k:=Yb ?_)
       exact zb211join11
     ·
      refine Qc (k:=Vv (k:=Wq (Zt (k:=Vb (Vi (Vb (Va (Vi (Vb (Va ?_))))))))))
      exact zb211ret5
   ·
    refine Zr (k:=Qv (k:=Wq (Zi (t:=fun h16 => ?_) (f:=fun h16 => ?_))))
    ·
     refine Zk (k:=Yb ?_)
     exact zb211join11
    ·
     refine Qc (k:=Qv (k:=Wq (Zi (t:=fun h19 => ?_) (f:=fun h19 => ?_))))
     ·
      refine Qc (k:=Qx 3 9 (k:=Vv (k:=Wq (Zi (t:=fun h23 => ?_) (f:=fun h23 => ?_)))))
      ·
       refine Qc (k:=Vv (k:=Wq (Zt (k:=Vb (Vi (Vb (Va (Vi (Vb (Va ?_))))))))))
       exact zb211ret10
      ·
       refine Zk (k:=Yb ?_)
       exact zb211join11
     ·
      refine Qc (k:=Vv (k:=Wq (Zt (k:=Vb (Vi (Vb (Va (Vi (Vb (Va ?_))))))))))
      exact zb211ret5
 ·
  refine Ze (k:=Xa (Xi (Xb (Ya (Qc (k:=Qv (k:=Qv (k:=Wq ?_))))))))
  refine Zt (k:=?_)
  refine fin_ret () (vs := [_]) (Cs := []) rfl (.tmp rfl .nil) ?_ trivial ent_pick
  show vB _ = vB _
  congr 1
  refine decide_eq_decide.2 ⟨fun h => ⟨fun i hi => hok i (by omega), by omega⟩, fun h => ?_⟩
  have := h.len
  omega
end
section
set_option maxRecDepth 100000
theorem isN_fold (s : Bs) : (s.length = 40 ∧ ∀ c ∈ s, c ∈ hexD) = (isN s = true) := propext (by rw [isN, decide_eq_true_iff])
theorem zb209ret5 {G : Prop} (h : G := by
    have hn : ¬ OkF whole l j := fun o => by
     obtain ⟨o1, o2, o3⟩ := o
     rw [hg] at o1 o2 o3
     try simp only [isN_fold] at *
     have h0 : j = 0 ∨ 0 < j := by omega
     clear hz hzj hfl hok hbad
     rcases h0 with h0 | h0
     · cases whole <;> simp_all
     · have o2' := o2 h0
       cases whole <;> simp_all
    refine fin_ret () (vs := [_]) (Cs := []) rfl (.tmp rfl .nil) (by rw [hbad hn]; rfl) trivial ent_pick) : G := h
theorem zb209next0 {G : Prop} (h : G := by
    have hokj : OkF whole l j := by
     refine ⟨by rw [hg]; exact Classical.not_not.1 h18, fun h0 => ?_, ?_⟩
     · rw [hg]
       first
       | (exfalso; omega)
       | (clear hz hzj hfl hok hbad; simp_all; done)
     · rw [hg]
       try simp only [isN_fold] at *
       clear hz hzj hfl hok hbad
       cases whole <;> simp_all
    refine to_inv ⟨j + 1, by omega, fun i hi => ?_⟩ (by dsimp only; omega) ⟨rfl, rfl, rfl, rfl, rfl, trivial⟩ ent_pick
    by_cases he : i = j
    · rw [he]; exact hokj
    · exact hok i (by omega)) : G := h
set_option maxHeartbeats 2000000 in
theorem checkin_files_sp {B : HP} {a : Option Addr} (whole : Bool) (n cap : Nat) (l : List (Bs × Bs)) (sh : SlA B a (l.flatMap flCells)) (hn : l.length = n) (hb : n ≤ 1073741824) (hz : ∀ t ∈ l, t.1.length ≤ 1099511627776 ∧ t.2.length ≤ 1099511627776) :
    Sp1 Tryz.prog 209 [.slice a n cap, vB whole] [B] (vB (decide (RightF whole l))) [B] := by
 subst hn
 haveI : RdSl a (l.flatMap flCells) [B] := ⟨⟨B, sh, .here⟩⟩
 refine Sp.body (n := 51) Tryz.call209 Tryz.func209 rfl rfl rfl ?_
 refine Qc (k:=Vv (k:=Wq (Za (k:=Qc (k:=Qv (k:=Vv (k:=Wq (Zb (k:=?_)))))))))
 refine p_loop (fun (i : { j : Nat // j ≤ l.length ∧ ∀ i, i < j → OkF whole l i }) => [(0, .slice a l.length cap), (1, vB whole), (7, .slice a l.length cap), (8, vI l.length), (9, vI i.1)]) (fun (i : { j : Nat // j ≤ l.length ∧ ∀ i, i < j → OkF whole l i }) => [B]) (fun (i : { j : Nat // j ≤ l.length ∧ ∀ i, i < j → OkF whole l i }) => l.length - i.1) rfl (⟨0, Nat.zero_le _, fun i h => by omega⟩) ?_ ?_ (fun i => ?_)
 · exact ⟨rfl, rfl, rfl, rfl, rfl, trivial⟩
 ·
  exact ent_pick
 obtain ⟨j, hj, hok⟩ := i
 dsimp only
 try dsimp only
 refine Qc (k:=Vv (k:=Wq (Za (k:=Zi (t:=fun h10 => ?_) (f:=fun h10 => ?_)))))
 ·
  refine Zk (k:=Ya (Za (k:=Zb (k:=Za (k:=?_)))))
  have hjl : j < l.length := by omega
  have hg : l.getD j ([], []) = l[j] := by simp [hjl]
  have hzj := hz l[j] (List.getElem_mem hjl)
  obtain ⟨t, ht⟩ : ∃ t, t = l[j] := ⟨_, rfl⟩
  rw [← ht] at hzj hg
  have hfl : (l.flatMap flCells).length = l.length * 2 := flat_len (f := flCells) (sz := 2) (fun _ => rfl) l
  have hbad : ∀ (h : ¬ OkF whole l j), decide (RightF whole l) = false := fun h => decide_eq_false (fun r => h (r.ok j hjl))
  refine Zr (k:=Vv (k:=Ye 2 (k:=?_)))
  refine r_eloada (vs := [_, _]) (sz := 2) Tryz.underlying25 rfl ti25 rfl rfl (by rw [flat_len (sz := 2) (fun _ => rfl)]; omega) rfl (by refine get_flat (fun x => ?_) ?_ <;> first | rfl | omega) rfl ?_
  rw [← ht]
  refine Zc [vS [], vS []] (k:=fun b6 => Vv (k:=Zp (k:=Wq (Za (k:=Dw [Ce b6 25 [vS t.1, vS t.2], B] (k:=?_))))))
  refine Di 0 (t:=Uf 0 9) (k:=Di 1 (t:=Ul) (k:=Dn 2 (k:=?_)))
  refine an_callF (escape_Word_sp t.1 (by omega)) rfl rfl rfl ?_
  refine Dv 3 (k:=Dv 4 (k:=Gd 4 (t:=fun h18 => ?_) (f:=fun h18 => ?_)))
  ·
   refine D1 5 (k:=D1 6 (k:=D1 7 (k:=Di 8 (t:=Uu) (k:=Di 9 (t:=Uu) (k:=Di 10 (t:=Uu) (k:=Di 11 (t:=Uu) (k:=Di 12 (t:=Uu) (k:=Di 13 (t:=Uu) (k:=Di 14 (t:=Uu) (k:=Di 15 (t:=Uu) (k:=Di 16 (t:=Uu) (k:=?_))))))))))))
   refine D1 17 (k:=DP1 18 (k:=Dv 19 (k:=D1 20 (k:=D1 21 (k:=D1 22 (k:=D1 23 (k:=D1 24 (k:=Di 25 (t:=Uu) (k:=Di 26 (t:=Uu) (k:=Di 27 (t:=Uu) (k:=Di 28 (t:=Uu) (k:=?_))))))))))))
   refine Di 29 (t:=Uu) (k:=Di 30 (t:=Uu) (k:=D1 31 (k:=DP1 32 (k:=Dd (k:=Ya (Z1 (k:=Qc (k:=Vv (k:=Wq (Zt (k:=?_)))))))))))
   refine Vb (Va (Vi (Vb (Va ?_))))
   exact zb209ret5
  ·
   refine Di 5 (t:=U0 (h:=Uv)) (k:=Di 6 (t:=U0 (h:=Uv)) (k:=Di 7 (t:=U0 (h:=Uv)) (k:=Gd 7 (t:=fun h21 => ?_) (f:=fun h21 => ?_))))
   ·
    refine Di 8 (t:=U1 (h:=Uv)) (k:=Di 9 (t:=U1 (h:=Uv)) (k:=Di 10 (t:=U1 (h:=Uv)) (k:=?_)))
    refine d_first 11 rfl rfl rfl (by kernel_rfl) (by kernel_rfl) (tl_in (b := true) rfl (tl_elemAddr (sz := 2) (m := j - 1) (kk := 2 * (j - 1)) Tryz.underlying26 ti25 rfl rfl rfl (by omega) (by omega) (by omega) (Nat.mul_comm _ _))) ?_
    refine d_first 12 rfl rfl rfl (by kernel_rfl) (by kernel_rfl) (tl_in (b := true) rfl (tl_efield (kk := 2 * (j - 1)) Tryz.underlying25 rfl ti9 rfl rfl rfl rfl (by omega))) ?_
    refine d_first 13 rfl rfl rfl (by kernel_rfl) (by kernel_rfl) (tl_in (b := true) rfl (tl_eload Tryz.underlying9 rfl rfl (flget (j := j - 1) (by omega)))) ?_
    refine Di 14 (t:=U1 (h:=Uf 0 9)) (k:=Di 15 (t:=U1 (h:=Ul)) (k:=Di 16 (t:=U1 (h:=Uv)) (k:=Di 17 (t:=U0 (h:=UP1)) (k:=DP0 18 (k:=Dv 19 (k:=Gd 19 (t:=fun h33 => ?_) (f:=fun h33 => ?_)))))))
    ·
     refine D1 20 (k:=D1 21 (k:=D1 22 (k:=D1 23 (k:=D1 24 (k:=Di 25 (t:=Uu) (k:=Di 26 (t:=Uu) (k:=Di 27 (t:=Uu) (k:=Di 28 (t:=Uu) (k:=Di 29 (t:=Uu) (k:=Di 30 (t:=Uu) (k:=D1 31 (k:=?_))))))))))))
     refine DP1 32 (k:=Dd (k:=Ya (Z1 (k:=Qc (k:=Vv (k:=Wq (Zt (k:=Vb (Va (Vi ?_))))))))))
     refine Vb (Va ?_)
     exact zb209ret5
    ·
     refine Di 20 (t:=U0 (h:=Uf 1 9)) (k:=Di 21 (t:=U0 (h:=Ul)) (k:=Dn 22 (k:=?_)))
     refine an_in (b := false) rfl ?_
     refine an_callF (hash_Is_sp t.2 (by omega)) rfl rfl rfl ?_
     refine Di 23 (t:=U0 (h:=Uv)) (k:=Di 24 (t:=U0 (h:=Uv)) (k:=Gd 24 (t:=fun h38 => ?_) (f:=fun h38 => ?_)))
     ·
      refine Di 25 (t:=U1 (h:=Uv)) (k:=Di 26 (t:=U1 (h:=Uv)) (k:=Gd 26 (t:=fun h40 => ?_) (f:=fun h40 => ?_)))
      ·
       refine D1 27 (k:=D1 28 (k:=D1 29 (k:=Di 30 (t:=U1 (h:=UP1)) (k:=Di 31 (t:=U0 (h:=UP1)) (k:=DP0 32 (k:=Dd (k:=Ya (Z1 (k:=Qc (k:=Vv (k:=?_)))))))))))
       refine Wq (Zt (k:=Vb (Va (Vi (Vb (Va ?_))))))
       exact zb209ret5
      ·
       refine Di 27 (t:=U0 (h:=Uf 1 9)) (k:=Di 28 (t:=U0 (h:=Ul)) (k:=Di 29 (t:=U0 (h:=Uv)) (k:=Di 30 (t:=U1 (h:=UP0)) (k:=Di 31 (t:=U0 (h:=UP1)) (k:=DP0 32 (k:=Dd (k:=Ya (Zi (t:=fun h46 => ?_) (f:=fun h46 => ?_)))))))))
       ·
        refine Qc (k:=Vv (k:=Wq (Zt (k:=Vb (Va (Vi (Vb (Va ?_))))))))
        exact zb209ret5
       ·
        refine Zk (k:=Yb (Ya (Zr (k:=Qv (k:=Wn ?_)))))
        exact zb209next0
     ·
      refine D0 25 (k:=D0 26 (k:=Di 27 (t:=Uu) (k:=Di 28 (t:=Uu) (k:=Di 29 (t:=Uu) (k:=D0 30 (k:=Di 31 (t:=U0 (h:=UP0)) (k:=DP0 32 (k:=Dd (k:=Ya (Z0 (k:=Zk (k:=?_))))))))))))
      refine Yb (Ya (Zr (k:=Qv (k:=Wn ?_))))
      exact zb209next0
   ·
    refine D0 8 (k:=D0 9 (k:=D0 10 (k:=D0 11 (k:=D0 12 (k:=D0 13 (k:=D0 14 (k:=D0 15 (k:=D0 16 (k:=Di 17 (t:=U0 (h:=UP0)) (k:=DP0 18 (k:=Dv 19 (k:=?_))))))))))))
    refine Di 20 (t:=U0 (h:=Uf 1 9)) (k:=Di 21 (t:=U0 (h:=Ul)) (k:=Dn 22 (k:=?_)))
    refine an_in (b := false) rfl ?_
    refine an_callF (hash_Is_sp t.2 (by omega)) rfl rfl rfl ?_
    refine Di 23 (t:=U0 (h:=Uv)) (k:=Di 24 (t:=U0 (h:=Uv)) (k:=Gd 24 (t:=fun h38 => ?_) (f:=fun h38 => ?_)))
    ·
     refine Di 25 (t:=U1 (h:=Uv)) (k:=Di 26 (t:=U1 (h:=Uv)) (k:=Gd 26 (t:=fun h40 => ?_) (f:=fun h40 => ?_)))
     ·
      refine D1 27 (k:=D1 28 (k:=D1 29 (k:=Di 30 (t:=U1 (h:=UP1)) (k:=Di 31 (t:=U0 (h:=UP1)) (k:=DP0 32 (k:=Dd (k:=Ya (Z1 (k:=Qc (k:=Vv (k:=?_)))))))))))
      refine Wq (Zt (k:=Vb (Va (Vi (Vb (Va ?_))))))
      exact zb209ret5
     ·
      refine Di 27 (t:=U0 (h:=Uf 1 9)) (k:=Di 28 (t:=U0 (h:=Ul)) (k:=Di 29 (t:=U0 (h:=Uv)) (k:=Di 30 (t:=U1 (h:=UP0)) (k:=Di 31 (t:=U0 (h:=UP1)) (k:=DP0 32 (k:=Dd (k:=Ya (Zi (t:=fun h46 => ?_) (f:=fun h46 => ?_)))))))))
      ·
       refine Qc (k:=Vv (k:=Wq (Zt (k:=Vb (Va (Vi (Vb (Va ?_))))))))
       exact zb209ret5
      ·
       refine Zk (k:=Yb (Ya (Zr (k:=Qv (k:=Wn ?_)))))
       exact zb209next0
    ·
     refine D0 25 (k:=D0 26 (k:=Di 27 (t:=Uu) (k:=Di 28 (t:=Uu) (k:=Di 29 (t:=Uu) (k:=D0 30 (k:=Di 31 (t:=U0 (h:=UP0)) (k:=DP0 32 (k:=Dd (k:=Ya (Z0 (k:=Zk (k:=?_))))))))))))
     refine Yb (Ya (Zr (k:=Qv (k:=Wn ?_))))
     exact zb209next0
 ·
  refine Ze (k:=Xa (Xi (Xb (Ya (Qc (k:=Qv (k:=Qv (k:=Wq ?_))))))))
  refine Zt (k:=?_)
  refine fin_ret () (vs := [_]) (Cs := []) rfl (.tmp rfl .nil) ?_ trivial ent_pick
  show vB _ = vB _
  congr 1
  refine decide_eq_decide.2 ⟨fun h => ⟨fun i hi => hok i (by omega), by omega⟩, fun h => ?_⟩
  have := h.len
  omega
theorem zb210ret5 {G : Prop} (h : G := by
    have hn : ¬ (isN (l.getD j []) = true ∧ l.getD j [] ∉ l.take j) := fun ⟨o1, o2⟩ => by
     rw [← ht] at o1 o2
     try simp only [isN_fold] at *
     simp_all
    refine fin_ret () (vs := [_]) (Cs := []) rfl (.tmp rfl .nil) (by rw [hbad hn]; rfl) trivial ent_pick) : G := h
theorem checkin_names_sp {B : HP} {a : Option Addr} (most : Int) (n cap : Nat) (l : List Bs) (sh : SlA B a (l.map vS)) (hn : l.length = n) (hcap : n ≤ cap) (hb : n ≤ 1073741824) (hz : ∀ t ∈ l, t.length ≤ 1099511627776) :
    Sp1 Tryz.prog 210 [.slice a n cap, vI most] [B] (vB (decide (RightP l most))) [B] := by
 subst hn
 haveI : RdSl a (l.map vS) [B] := ⟨⟨B, sh, .here⟩⟩
 refine Sp.body (n := 29) Tryz.call210 Tryz.func210 rfl rfl rfl ?_
 refine Qc (k:=Vv (k:=Wq (Za (k:=Qc (k:=Qv (k:=Vv (k:=Wq (Zb (k:=?_)))))))))
 refine p_loop (fun (i : { j : Nat // j ≤ l.length ∧ ∀ i, i < j → isN (l.getD i []) = true ∧ l.getD i [] ∉ l.take i }) => [(0, .slice a l.length cap), (1, vI most), (7, .slice a l.length cap), (8, vI l.length), (9, vI i.1)]) (fun (i : { j : Nat // j ≤ l.length ∧ ∀ i, i < j → isN (l.getD i []) = true ∧ l.getD i [] ∉ l.take i }) => [B]) (fun (i : { j : Nat // j ≤ l.length ∧ ∀ i, i < j → isN (l.getD i []) = true ∧ l.getD i [] ∉ l.take i }) => l.length - i.1) rfl (⟨0, Nat.zero_le _, fun i h => by omega⟩) ?_ ?_ (fun i => ?_)
 · exact ⟨rfl, rfl, rfl, rfl, rfl, trivial⟩
 ·
  exact ent_pick
 obtain ⟨j, hj, hok⟩ := i
 dsimp only
 try dsimp only
 refine Qc (k:=Vv (k:=Wq (Za (k:=Zi (t:=fun h10 => ?_) (f:=fun h10 => ?_)))))
 ·
  refine Zk (k:=Ya (Za (k:=Zb (k:=Za (k:=?_)))))
  have hjl : j < l.length := by omega
  have hg : l.getD j [] = l[j] := by simp [hjl]
  have hzj := hz l[j] (List.getElem_mem hjl)
  obtain ⟨t, ht⟩ : ∃ t, t = l.getD j [] := ⟨_, rfl⟩
  rw [← hg, ← ht] at hzj
  have hbad : ∀ (h : ¬ (isN (l.getD j []) = true ∧ l.getD j [] ∉ l.take j)), decide (RightP l most) = false := fun h => decide_eq_false (fun r => h (r.ok j hjl))
  refine Zr (k:=Vv (k:=Ye 1 (k:=Yl (hv:=by exact get_mapD [] hjl) (k:=?_))))
  rw [← ht]
  refine Qv (k:=Wq (Qc (k:=Vv (k:=?_))))
  refine r_callF (hash_Is_sp t (by omega)) rfl rfl rfl ?_
  refine Qv (k:=Gi 3 (t:=fun h17 => ?_) (f:=fun h17 => ?_))
  ·
   refine O1 (k:=O1 (k:=O1 (k:=O1 (k:=O1 (k:=P1 (k:=Wq (Z1 (k:=Qc (k:=Vv (k:=Wq ?_))))))))))
   refine Zt (k:=Vb (Va (Vi (Vb (Va ?_)))))
   exact zb210ret5
  ·
   refine J0 (k:=J0 (k:=I0 (k:=?_)))
   refine wo_pv (pv_slslice_tom (m := j) Tryz.underlying27 ti9 rfl rfl rfl (by omega)) rfl ?_
   refine J0 (k:=I0 (k:=?_))
   refine r_call1 (slices_Contains_sp (B := B) (a := a) j cap (l.take j) t (by rw [List.map_take]; exact sla_take sh j) (by rw [List.length_take]; omega) (by omega)) rfl rfl rfl ?_
   refine P0 (k:=Wq (Zi (t:=fun h23 => ?_) (f:=fun h23 => ?_)))
   ·
    refine Qc (k:=Vv (k:=Wq (Zt (k:=Vb (Va (Vi (Vb (Va ?_))))))))
    exact zb210ret5
   ·
    refine Zk (k:=Yb (Ya (Zr (k:=Qv (k:=Wn ?_)))))
    refine to_inv ⟨j + 1, by omega, fun i hi => ?_⟩ (by dsimp only; omega) ⟨rfl, rfl, rfl, rfl, rfl, trivial⟩ ent_pick
    by_cases he : i = j
    · subst he
      rw [← ht]
      try simp only [isN_fold] at *
      simp_all
    · exact hok i (by omega)
 ·
  refine Ze (k:=Xa (Xi (Xb (Ya (Qc (k:=Qv (k:=Qv (k:=Vv (k:=?_)))))))))
  refine Wq (Zt (k:=?_))
  refine fin_ret () (vs := [_]) (Cs := []) rfl (.tmp rfl .nil) ?_ trivial ent_pick
  show vB _ = vB _
  congr 1
  refine decide_eq_decide.2 ⟨fun h => ⟨fun i hi => hok i (by omega), h⟩, fun h => h.len⟩
theorem zb208ret {G : Prop} (h : G := by
    refine fin_ret () (vs := [_]) (Cs := []) rfl (.tmp rfl .nil) ?_ trivial ent_nil
    show vB _ = vB _
    congr 1
    first
    | exact decide_eq_decide.2 (by constructor <;> intro h <;> omega)
    | exact (decide_eq_false (by omega)).symm) : G := h
theorem checkin_dated_sp (n : Int) : SpF Tryz.prog 208 [vI n] (vB (decide (0 ≤ n ∧ n ≤ 1073741824))) := by
 refine Sp.body (n := 9) Tryz.call208 Tryz.func208 rfl rfl rfl ?_
 refine Qc (k:=Vv (k:=Wq (Qc (k:=Qv (k:=Vv (k:=Gi 2 (t:=fun h5 => ?_) (f:=fun h5 => ?_)))))))
 ·
  refine J1 (k:=J1 (k:=P1 (k:=Vv (k:=Wq (Zt (k:=?_))))))
  exact zb208ret
 ·
  refine O0 (k:=O0 (k:=P0 (k:=Vv (k:=Wq (Zt (k:=?_))))))
  exact zb208ret
end
end Go.Proofs.YtdnoacgopfcpbaaGreat
