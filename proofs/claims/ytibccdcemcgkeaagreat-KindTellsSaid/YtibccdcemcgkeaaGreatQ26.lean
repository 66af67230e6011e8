/- Texts of this proof, put together: SKeep, PKeep2, SKeep2, SKeep3. -/
import Derived.Test.YtibccdcemcgkeaaGreatQ25
set_option linter.unusedVariables false
set_option linter.unusedSimpArgs false
namespace Go.Proofs.YtibccdcemcgkeaaGreat
section
set_option maxRecDepth 100000
theorem keep_words_sp : Sp Tryz.prog 73 [] [] (X := Nat) (fun b => .slice (some ⟨b, 0, none⟩) 6 6) (fun _ => True) (fun b => [Ce b 9 (wordsL.map vS)]) := by
 refine Sp.body (n := 2) Tryz.call73 Tryz.func73 rfl rfl rfl ?_
 refine Qc (k:=Vv (k:=Wq (Qc (k:=Zv [_, _, _, _, _, _] (cs := [_, _, _, _, _, _]) (k:=fun b1 => Vv (k:=Wq (Zt (k:=?_))))))))
 exact fin_ret b1 (vs := [_]) (Cs := []) rfl (.tmp rfl .nil) rfl trivial (ent_step (ce_norm (by rfl) (by rfl)) ent_nil)
theorem keep_pick_sp {B : HP} {a : Option Addr} (c : Nat) (l : List Int) (i : Int) (hi : 0 ≤ i) (hl : l.length ≤ 9223372036854775807) (sh : SlA B a (l.map vI)) :
    Sp1 Tryz.prog 81 [.slice a l.length c, vI i] [B] (vI (pickI l i)) [B] := by
 haveI : RdSl a (l.map vI) [B] := ⟨⟨B, sh, .here⟩⟩
 refine Sp.body (n := 15) Tryz.call81 Tryz.func81 rfl rfl rfl ?_
 refine Qc (k:=Vv (k:=Wq (Za (k:=Qc (k:=Qv (k:=Vv (k:=Wq (Zi (t:=fun h7 => ?_) (f:=fun h7 => ?_)))))))))
 ·
  refine Qc (k:=Vv (k:=Wq (Zt (k:=Va ?_))))
  rw [pickI, if_pos (by omega)]
  exact fin_ret () (vs := [_]) (Cs := []) rfl (.tmp rfl .nil) rfl trivial ent_pick
 ·
  refine Zk (k:=Ya (Za (k:=?_)))
  have hm1 := Int.emod_nonneg i (show (l.length : Int) ≠ 0 by omega)
  have hm2 := Int.emod_lt_of_pos i (show 0 < (l.length : Int) by omega)
  have hpk : pickI l i = l.getD (i % (l.length : Int)).toNat 0 := if_neg (by omega)
  rw [hpk]
  generalize hk : (i % (l.length : Int)).toNat = k
  have hik : i % (l.length : Int) = (k : Int) := by omega
  refine Zr (k:=Qv (k:=Qv (k:=Vv (k:=?_))))
  rw [hik]
  refine Ye 1 (k:=Yl (hv:=by exact get_mapD 0 (m := k) (by omega)) (k:=Vv (k:=Wq (Zt (k:=?_)))))
  exact fin_ret () (vs := [_]) (Cs := []) rfl (.tmp rfl .nil) rfl trivial ent_pick
theorem zb28ret7 {G : Prop} (h : G := by
    have he : textB b l = textF b (l.take j) [] := textF_stop l [] j hj hs (fun h => by omega)
    rw [he]
    exact fin_ret () (vs := [_]) (Cs := []) rfl (.tmp rfl .nil) rfl trivial ent_pick) : G := h
set_option maxHeartbeats 1000000 in
theorem keep_Text_sp {B : HP} {a : Option Addr} (c : Nat) (b : Int) (l : List Int) (hl : l.length ≤ 9223372036854775807) (sh : SlA B a (l.map vI)) :
    Sp1 Tryz.prog 28 [.agg #[vI b, .slice a l.length c]] [B] (vS (textB b l)) [B] := by
 haveI : RdSl a (l.map vI) [B] := ⟨⟨B, sh, .here⟩⟩
 refine Sp.body (n := 38) Tryz.call28 Tryz.func28 rfl rfl rfl ?_
 refine Qc (k:=Zx [_, _] (k:=fun b1 => Vv (k:=Wq (Qc (k:=Zv [_, _, _, _, _, _, _, _] (cs := [_, _, _, _, _, _, _, _]) (k:=fun b6 => Vv (k:=Wq (Qc (k:=?_)))))))))
 refine Vv (k:=Wq (Za (k:=Qc (k:=Vv (k:=Wq (Zb (k:=?_)))))))
 refine p_loop (fun (i : { j : Nat // j ≤ l.length ∧ ∀ i, i < j → (textF b (l.take i) []).length < 170 }) => [(1, .pointer (some ⟨b1, 0, none⟩)), (3, .slice (some ⟨b6, 0, none⟩) 8 8), (4, vS (textF b (l.take i.1) [])), (5, vI i.1)]) (fun (i : { j : Nat // j ≤ l.length ∧ ∀ i, i < j → (textF b (l.take i) []).length < 170 }) => [Ce b6 9 (piecesL.map vS), Ce b1 39 [vI b, .slice a l.length c], B]) (fun (i : { j : Nat // j ≤ l.length ∧ ∀ i, i < j → (textF b (l.take i) []).length < 170 }) => l.length - i.1) rfl (⟨0, Nat.zero_le _, fun i h => by omega⟩) ?_ ?_ (fun i => ?_)
 · exact ⟨rfl, rfl, rfl, rfl, trivial⟩
 ·
  exact ent_step (ce_norm (by rfl) (by rfl)) ent_pick
 obtain ⟨j, hj, hs⟩ := i
 dsimp only
 have hz := (textF_ok b (l.take j) [] (Nat.zero_le _) (by simp)).1
 try dsimp only
 refine Za (k:=Qc (k:=Vv (k:=Qx 1 37 (k:=Qv (k:=Vv (k:=Gi 5 (t:=fun h12 => ?_) (f:=fun h12 => ?_)))))))
 ·
  refine J1 (k:=J1 (k:=J1 (k:=P1 (k:=Wq (Zi (t:=fun h16 => ?_) (f:=fun h16 => ?_))))))
  ·
   refine Zk (k:=Ya (Za (k:=Zb (k:=?_))))
   have hjl : j < l.length := by omega
   obtain ⟨out, hout⟩ : ∃ out, out = textF b (l.take j) [] := ⟨_, rfl⟩
   rw [← hout] at hz h16 ⊢
   have hst : textF b (l.take (j + 1)) [] = out ++ pieceI b (l.getD j 0) := by
    rw [hout]
    refine textF_take l [] j hjl (fun i hi => ?_)
    by_cases e : i = j
    · rw [e, ← hout]; omega
    · exact hs i (by omega)
   have hw := withinI_in (n := IntKind.i64.wrap (l.getD j 0 + bits .and .i64 b 1)) (show (0 : Int) ≤ 7 by omega)
   have hpl := pieceI_len b (l.getD j 0)
   have hpe : pieceI b (l.getD j 0) = piecesL.getD (withinI (IntKind.i64.wrap (l.getD j 0 + bits .and .i64 b 1)) 0 7).toNat [] := rfl
   generalize hk : (withinI (IntKind.i64.wrap (l.getD j 0 + bits .and .i64 b 1)) 0 7).toNat = k at hpe
   have hwk : withinI (IntKind.i64.wrap (l.getD j 0 + bits .and .i64 b 1)) 0 7 = (k : Int) := by omega
   have hpn : piecesL.length = 8 := rfl
   have hk8 : k < piecesL.length := by omega
   refine Dw [Ce b6 9 (piecesL.map vS), Ce b1 39 [vI b, .slice a l.length c], B] (k:=?_)
   refine Dv 0 (k:=Dv 1 (k:=Di 2 (t:=Uf 1 37) (k:=Di 3 (t:=Ul) (k:=Dv 4 (k:=?_)))))
   refine d_first 5 rfl rfl rfl (by kernel_rfl) (by kernel_rfl) (tl_elemAddr (sz := 1) Tryz.underlying37 ti3 rfl rfl rfl rfl (by omega) (by first | (rw [List.length_map]; omega) | (rw [flat_len (sz := 1) (fun _ => rfl)]; omega) | (simp; omega)) (Nat.mul_one _)) ?_
   refine d_first 6 rfl rfl rfl (by kernel_rfl) (by kernel_rfl) (tl_eload Tryz.underlying3 rfl rfl (get_mapD 0 hjl)) ?_
   refine Di 7 (t:=Uf 0 3) (k:=Di 8 (t:=Ul) (k:=?_))
   refine d_first 9 rfl rfl rfl (by kernel_rfl) (by kernel_rfl) (tl_pv (pv_and rfl rfl)) ?_
   refine d_first 10 rfl rfl rfl (by kernel_rfl) (by kernel_rfl) (tl_pv (pv_addw rfl rfl)) ?_
   refine Dv 11 (k:=Dv 12 (k:=Dv 13 (k:=Dn 14 (k:=?_))))
   refine an_callF (book_Within_sp _ 0 7 (by omega) (by omega) (by omega)) rfl rfl rfl ?_
   rw [hwk]
   refine d_first 15 rfl rfl rfl (by kernel_rfl) (by kernel_rfl) (tl_elemAddr (sz := 1) Tryz.underlying27 ti9 rfl rfl rfl rfl (by omega) (by first | (rw [List.length_map]; omega) | (rw [flat_len (sz := 1) (fun _ => rfl)]; omega) | (simp; omega)) (Nat.mul_one _)) ?_
   refine d_first 16 rfl rfl rfl (by kernel_rfl) (by kernel_rfl) (tl_eload Tryz.underlying9 rfl rfl (get_mapD [] hk8)) ?_
   refine d_first 17 rfl rfl rfl (by kernel_rfl) (by kernel_rfl) (tl_pv (pv_cat rfl rfl (by rw [← hpe]; omega))) ?_
   refine Dv 18 (k:=Dd (k:=Yb (Ya (Zr (k:=Qv (k:=Vv (k:=Wn ?_)))))))
   refine to_inv ⟨j + 1, by omega, fun i hi => ?_⟩ (by dsimp only; omega) ⟨rfl, rfl, vS_eq (by dsimp only; rw [hst, hpe]), rfl, trivial⟩ ent_pick
   by_cases e : i = j
   · rw [e, ← hout]; omega
   · exact hs i (by omega)
  ·
   refine Ze (k:=Xa (Xi (Xb (Ya (Qc (k:=Qv (k:=Wq (Zt (k:=?_)))))))))
   exact zb28ret7
 ·
  refine O0 (k:=O0 (k:=O0 (k:=P0 (k:=Wq (Z0 (k:=Ze (k:=Xa (Xi (Xb (Ya (Za (k:=?_))))))))))))
  refine Zr (k:=Qv (k:=Wq (Zt (k:=?_))))
  exact zb28ret7
theorem take_minl (t : Bs) (m : Nat) : t.take (min t.length m) = t.take m := by
 by_cases h : t.length ≤ m
 · rw [Nat.min_eq_left h, List.take_length, List.take_of_length_le h]
 · rw [Nat.min_eq_right (by omega)]
theorem keep_Long_sp {B : HP} {a : Option Addr} (c : Nat) (b : Int) (l : List Int) (n : Int) (hl : l.length ≤ 9223372036854775807) (sh : SlA B a (l.map vI)) :
    Sp1 Tryz.prog 43 [.agg #[vI b, .slice a l.length c], vI n] [B] (vS (longB b l n)) [B] := by
 have hT := keep_Text_sp c b l hl sh
 have hz := textB_len b l
 have hw := withinI_in (n := n) (show (0 : Int) ≤ 2 by omega)
 have hlb : longB b l n = beginL.getD (withinI n 0 2).toNat [] ++ (textB b l).take 160 := rfl
 have hbl : (beginL.getD (withinI n 0 2).toNat []).length ≤ 90 := by
  have h1 : ∀ p ∈ beginL, p.length ≤ 90 := by decide
  by_cases h : (withinI n 0 2).toNat < beginL.length
  · exact h1 _ (by simp [h])
  · simp [h]
 generalize hk : (withinI n 0 2).toNat = k at hlb hbl
 have hwk : withinI n 0 2 = (k : Int) := by omega
 have hbn : beginL.length = 3 := rfl
 have hk3 : k < beginL.length := by omega
 refine Sp.body (n := 21) Tryz.call43 Tryz.func43 rfl rfl rfl ?_
 refine Qc (k:=Zx [_, _] (k:=fun b2 => Vv (k:=Wq (Qc (k:=Zv [_, _, _] (cs := [_, _, _]) (k:=fun b7 => Vv (k:=Wq (Qc (k:=?_)))))))))
 refine Zm [_, _] (k:=?_)
 refine r_call1 hT rfl rfl rfl ?_
 refine Vv (k:=Wq (Za (k:=?_)))
 refine wc_ent' (Gs := [Ce b7 9 (beginL.map vS), B]) (ent_step (ce_norm (by rfl) (by rfl)) ent_pick) ?_
 refine Dw [Ce b7 9 (beginL.map vS)] (k:=?_)
 refine Dv 0 (k:=Dv 1 (k:=Dv 5 (k:=Dv 6 (k:=Dv 7 (k:=Dv 8 (k:=?_))))))
 refine d_first 9 rfl rfl rfl (by kernel_rfl) (by kernel_rfl) (tl_pv (pv_slice_tom (m := min (textB b l).length 160) Tryz.underlying9 rfl rfl (by omega) (by omega))) ?_
 refine Dn 2 (k:=?_)
 refine an_callF (book_Within_sp n 0 2 (by omega) (by omega) (by omega)) rfl rfl rfl ?_
 rw [hwk]
 refine d_first 3 rfl rfl rfl (by kernel_rfl) (by kernel_rfl) (tl_elemAddr (sz := 1) Tryz.underlying27 ti9 rfl rfl rfl rfl (by omega) (by first | (rw [List.length_map]; omega) | (rw [flat_len (sz := 1) (fun _ => rfl)]; omega) | (simp; omega)) (Nat.mul_one _)) ?_
 refine d_first 4 rfl rfl rfl (by kernel_rfl) (by kernel_rfl) (tl_eload Tryz.underlying9 rfl rfl (get_mapD [] hk3)) ?_
 refine d_first 10 rfl rfl rfl (by kernel_rfl) (by kernel_rfl) (tl_pv (pv_cat rfl rfl (by rw [List.length_take]; omega))) ?_
 refine Dv 11 (k:=Dd (k:=Ya (Zt (k:=?_))))
 rw [hlb, ← take_minl]
 exact fin_ret () (vs := [_]) (Cs := []) rfl (.tmp rfl .nil) rfl trivial ent_pick
theorem keep_Content_sp (n : Int) : SpF Tryz.prog 57 [vI n] (vS (contB n)) := by
 have hw := withinI_in (n := n) (show (0 : Int) ≤ 15 by omega)
 have hc : contB n = longB 0 [withinI n 0 15, withinI n 0 15 / 2, withinI n 0 15 / 4] (withinI n 0 15 % 3) := rfl
 rw [hc]
 refine Sp.body (n := 16) Tryz.call57 Tryz.func57 rfl rfl rfl ?_
 refine Qc (k:=Vv (k:=Wq (Qc (k:=Vv (k:=?_)))))
 refine r_callF (book_Within_sp n 0 15 (by omega) (by omega) (by omega)) rfl rfl rfl ?_
 clear hc
 generalize withinI n 0 15 = k at hw ⊢
 refine Vv (k:=Wq (Qc (k:=Qv (k:=Qv (k:=Vv (k:=Zv [_, _, _] (cs := [_, _, _]) (k:=fun b11 => Vx (Ps [.int .i64 0, _]) (k:=Vv (k:=?_)))))))))
 refine Vv (k:=?_)
 refine r_call1 (keep_Long_sp (B := Ce b11 3 [vI k, vI (k / 2), vI (k / 4)]) (a := some ⟨b11, 0, none⟩) 3 0 [k, k / 2, k / 4] (k % 3) (by simp) sla_ce) rfl rfl rfl ?_
 refine Vv (k:=Wq (Zt (k:=?_)))
 exact fin_ret () (vs := [_]) (Cs := []) rfl (.tmp rfl .nil) rfl trivial ent_nil
theorem keep_Name_sp (n : Int) : SpF Tryz.prog 31 [vI n] (vS (nameB n)) := by
 have hz := contB_len n
 refine Sp.body (n := 6) Tryz.call31 Tryz.func31 rfl rfl rfl ?_
 refine Qc (k:=Vv (k:=Wq (Qc (k:=Vv (k:=?_)))))
 refine r_callF (keep_Content_sp n) rfl rfl rfl ?_
 refine r_callF (ref1_Sum_sp (contB n) (by omega)) rfl rfl rfl ?_
 refine Vv (k:=Wq (Zt (k:=?_)))
 exact fin_ret () (vs := [_]) (Cs := []) rfl (.tmp rfl .nil) rfl trivial ent_nil
end
def kindC : Bs := [43, 42, 45, 42]
def tvalL : List Bs := ["".toUTF8.data.toList, "trunk".toUTF8.data.toList, "b one".toUTF8.data.toList, "x".toUTF8.data.toList]
theorem isN_name (n : Int) : isN (nameB n) = true := decide_eq_true ⟨shaB_len _, shaB_mem _⟩
/-- Where a tag of the keeper's points to. -/
abbrev TgtOk (own : Bool) (t : Bs) : Prop := (own = true → t = [42]) ∧ (own = false → ∃ n, t = nameB n)
structure KTag (own : Bool) (t : Tg) : Prop where
 kind : t.kind.toNat = 43 ∨ t.kind.toNat = 42 ∨ (t.kind.toNat = 45 ∧ t.value = [])
 val : t.value.length ≤ 12
 tgt : TgtOk own t.target
structure KTags (own : Bool) (j : Nat) (l : List Tg) : Prop where
 len : l.length ≤ 3
 tag : ∀ t ∈ l, KTag own t
 name : ∀ t ∈ l, ∃ i, i < j ∧ t.name = wordsL.getD i []
 rise : l.Pairwise (fun x y => blt x.name y.name = true)
theorem words_rise : ∀ i j, i < j → j < 6 → blt (wordsL.getD i []) (wordsL.getD j []) = true := by
 have : ∀ i : Fin 6, ∀ j : Fin 6, i.1 < j.1 → blt (wordsL.getD i.1 []) (wordsL.getD j.1 []) = true := by decide
 exact fun i j h1 h2 => this ⟨i, by omega⟩ ⟨j, h2⟩ h1
theorem words_ok : ∀ i, i < 6 → wordP (wordsL.getD i []) ∧ (wordsL.getD i []).length ≤ 10 := by
 have : ∀ i : Fin 6, wordP (wordsL.getD i.1 []) ∧ (wordsL.getD i.1 []).length ≤ 10 := by decide
 exact fun i h => this ⟨i, h⟩
theorem KTags.snoc {own : Bool} {j : Nat} {l : List Tg} {t : Tg} (h : KTags own j l) (hj : j < 6) (hl : l.length ≤ 2) (hk : KTag own t) (hn : t.name = wordsL.getD j []) : KTags own (j + 1) (l ++ [t]) := by
 obtain ⟨h1, h2, h3, h4⟩ := h
 refine ⟨by simp; omega, ?_, ?_, ?_⟩
 · intro x hx
   rcases List.mem_append.1 hx with e | e
   · exact h2 x e
   · rw [List.mem_singleton.1 e]; exact hk
 · intro x hx
   rcases List.mem_append.1 hx with e | e
   · obtain ⟨i, hi, e2⟩ := h3 x e
     exact ⟨i, by omega, e2⟩
   · rw [List.mem_singleton.1 e]; exact ⟨j, by omega, hn⟩
 · rw [List.pairwise_append]
   refine ⟨h4, by simp, fun a ha b hb => ?_⟩
   rw [List.mem_singleton.1 hb, hn]
   obtain ⟨i, hi, e2⟩ := h3 a ha
   rw [e2]
   exact words_rise i j hi hj
theorem KTags.more {own : Bool} {j : Nat} {l : List Tg} (h : KTags own j l) : KTags own (j + 1) l := ⟨h.len, h.tag, fun t ht => by obtain ⟨i, hi, e⟩ := h.name t ht; exact ⟨i, by omega, e⟩, h.rise⟩
theorem blt_irr (a : Bs) : blt a a = false := by
 rw [blt_eq, decide_eq_false_iff_not]; exact List.lt_irrefl a
theorem KTags.right {own : Bool} {l : List Tg} (h : KTags own 6 l) : RightT own l := by
 refine ⟨fun i hi => ?_, by have := h.len; omega⟩
 have e : l.getD i tg0 = l[i] := by simp [hi]
 have hm : l[i] ∈ l := List.getElem_mem hi
 have hk := h.tag _ hm
 obtain ⟨w, hw, hn⟩ := h.name _ hm
 refine ⟨by rw [e]; exact hk.kind, by rw [e, hn]; exact (words_ok w hw).1, by rw [e]; exact hk.val, by rw [e]; exact ⟨hk.tgt.1, fun o => by obtain ⟨n, e⟩ := hk.tgt.2 o; rw [e]; exact isN_name n⟩, fun h0 => ?_⟩
 have e2 : l.getD (i - 1) tg0 = l[i - 1] := by simp [show i - 1 < l.length by omega]
 have hr := List.pairwise_iff_getElem.1 h.rise (i - 1) i (by omega) hi (by omega)
 rw [e, e2]
 exact ⟨.inl hr, fun e3 => by rw [e3, blt_irr] at hr; cases hr⟩
theorem KTags.z {own : Bool} {j : Nat} {l : List Tg} (h : KTags own j l) (hj : j ≤ 6) : TgZ l := ⟨by have := h.len; omega, fun t ht => by
 obtain ⟨w, hw, hn⟩ := h.name t ht
 have h1 := (words_ok w (by omega)).2
 have h2 := (h.tag t ht).val
 have h3 : t.target.length ≤ 40 := by
  cases own with
  | true => rw [(h.tag t ht).tgt.1 rfl]; simp
  | false => obtain ⟨n, e⟩ := (h.tag t ht).tgt.2 rfl; rw [e]; exact isN_40 (isN_name n)
 rw [hn]; omega⟩
theorem kindC_ok : ∀ m, m < 4 → (kindC.getD m 0).toNat = 43 ∨ (kindC.getD m 0).toNat = 42 ∨ (kindC.getD m 0).toNat = 45 := by
 have : ∀ m : Fin 4, (kindC.getD m.1 0).toNat = 43 ∨ (kindC.getD m.1 0).toNat = 42 ∨ (kindC.getD m.1 0).toNat = 45 := by decide
 exact fun m h => this ⟨m, h⟩
theorem tvalL_len : ∀ m, (tvalL.getD m []).length ≤ 12 := by
 have : ∀ p ∈ tvalL, p.length ≤ 12 := by decide
 intro m
 by_cases h : m < tvalL.length
 · exact this _ (by simp [h])
 · simp [h]
section
set_option maxRecDepth 100000
theorem zb74next0 {G : Prop} (h : G := by
    first
    | exact to_inv ⟨(((oa, oc), out), j + 1), by dsimp only; omega, hK.more⟩ (by dsimp only; omega) ⟨rfl, rfl, rfl, rfl, rfl, rfl, rfl, trivial⟩ ent_pick
    | (have hsn := hK.snoc (t := ⟨kd, w, tg, tv⟩) hj6 (by omega) ⟨by dsimp only; rcases hkd with h | h | h; exact .inl h; exact .inr (.inl h); exact .inr (.inr ⟨h, htv2 h⟩), htv1, htg⟩ hw
       have hql2 : (out ++ [(⟨kd, w, tg, tv⟩ : Tg)]).length = out.length + 1 := by simp
       refine to_inv ⟨(((a61, c61), out ++ [⟨kd, w, tg, tv⟩]), j + 1), by dsimp only; omega, hsn⟩ (by dsimp only; omega) ⟨rfl, rfl, rfl, sl_eq hql2.symm, rfl, rfl, rfl, trivial⟩ ?_
       dsimp only
       rw [hql2]
       exact ent_step (row_norm (by rfl) (by rw [fm_snoc]; rfl)) ent_pick)) : G := h
theorem zb74join14 {G : Prop} (h : G := by
    first
    | exact to_inv ⟨tvalL.getD v [], tvalL_len v, fun h => by omega⟩ trivial ⟨rfl, rfl, rfl, rfl, rfl, rfl, rfl, rfl, rfl, rfl, trivial⟩ ent_pick
    | exact to_inv ⟨[], Nat.zero_le _, fun h => rfl⟩ trivial ⟨rfl, rfl, rfl, rfl, rfl, rfl, rfl, rfl, rfl, rfl, trivial⟩ ent_pick) : G := h
theorem zb74join12 {G : Prop} (h : G := by
    first
    | (have ho : own = false := by simpa using h41
       have htg : TgtOk own (nameB (pickI vals j)) := ⟨(fun h => by rw [ho] at h; cases h), fun _ => ⟨_, rfl⟩⟩
       exact to_inv ⟨nameB (pickI vals j), htg⟩ trivial ⟨rfl, rfl, rfl, rfl, rfl, rfl, rfl, rfl, rfl, rfl, trivial⟩ ent_pick)
    | (have ho : own = true := by simpa using h41
       have htg : TgtOk own [42] := ⟨fun _ => rfl, (fun h => by rw [ho] at h; cases h)⟩
       exact to_inv ⟨[42], htg⟩ trivial ⟨rfl, rfl, rfl, rfl, rfl, rfl, rfl, rfl, rfl, rfl, trivial⟩ ent_pick)) : G := h
theorem zb74join8 {G : Prop} (h : G := by
    first
    | exact to_inv ⟨withinI (tags.getD j 0) 0 7, hwi⟩ trivial ⟨rfl, rfl, rfl, rfl, rfl, rfl, rfl, rfl, rfl, rfl, trivial⟩ ent_pick
    | exact to_inv ⟨0, by omega, by omega⟩ trivial ⟨rfl, rfl, rfl, rfl, rfl, rfl, rfl, rfl, rfl, rfl, trivial⟩ ent_pick) : G := h
set_option maxHeartbeats 2000000 in
theorem keep_tagOps_sp {Bt Bv : HP} {ta va : Option Addr} (tc vc : Nat) (tags vals : List Int) (own : Bool) (ht : tags.length ≤ 9223372036854775807) (hv : vals.length ≤ 9223372036854775807) (sht : SlA Bt ta (tags.map vI)) (shv : SlA Bv va (vals.map vI)) :
    Sp Tryz.prog 74 [.slice ta tags.length tc, .slice va vals.length vc, vB own] [Bt, Bv] (X := (Option Addr × Nat) × List Tg) tagV (fun x => KTags own 6 x.2) (fun x => [tagH x, Bt, Bv]) := by
 haveI : RdSl ta (tags.map vI) [Bt, Bv] := ⟨⟨Bt, sht, .here⟩⟩
 refine Sp.body (n := 64) Tryz.call74 Tryz.func74 rfl rfl rfl ?_
 refine Qc (k:=Vv (k:=Wq (Qc (k:=Vv (k:=Wq (Za (k:=Qc (k:=?_))))))))
 refine r_callX keep_words_sp rfl rfl rfl (fun x12 _ => ?_)
 refine Qv (k:=Wq (Zb (k:=?_)))
 refine p_loop (fun (i : { x : ((Option Addr × Nat) × List Tg) × Nat // x.2 ≤ 6 ∧ KTags own x.2 x.1.2 }) => [(0, .slice ta tags.length tc), (1, .slice va vals.length vc), (2, vB own), (7, .slice i.1.1.1.1 (i.1.1.2).length i.1.1.1.2), (12, .slice (some ⟨x12, 0, none⟩) 6 6), (13, vI 6), (14, vI i.1.2)]) (fun (i : { x : ((Option Addr × Nat) × List Tg) × Nat // x.2 ≤ 6 ∧ KTags own x.2 x.1.2 }) => [Row 66 4 (.slice i.1.1.1.1 (i.1.1.2).length i.1.1.1.2) (i.1.1.2).length ((i.1.1.2).flatMap tgCells), Ce x12 9 (wordsL.map vS), Bt, Bv]) (fun (i : { x : ((Option Addr × Nat) × List Tg) × Nat // x.2 ≤ 6 ∧ KTags own x.2 x.1.2 }) => 6 - i.1.2) rfl (⟨(((none, 0), []), 0), Nat.zero_le _, ⟨Nat.zero_le _, (fun _ h => by cases h), (fun _ h => by cases h), .nil⟩⟩) ?_ ?_ (fun i => ?_)
 · exact ⟨rfl, rfl, rfl, rfl, rfl, rfl, rfl, trivial⟩
 ·
  exact (row_nil (e := 66) (sz := 4)).trans (show Ent _ [Row 66 4 (.slice none 0 0) 0 [], Ce x12 9 (wordsL.map vS), Bt, Bv] from ent_pick)
 obtain ⟨⟨⟨⟨oa, oc⟩, out⟩, j⟩, hj, hK⟩ := i
 dsimp only at hj hK ⊢
 have hol := hK.len
 try dsimp only
 refine Qc (k:=Vv (k:=Wq (Za (k:=Zi (t:=fun h15 => ?_) (f:=fun h15 => ?_)))))
 ·
  refine Zk (k:=Ya (Za (k:=Zb (k:=Za (k:=?_)))))
  have hj6 : j < 6 := by omega
  have hwl : wordsL.length = 6 := rfl
  obtain ⟨w, hw⟩ : ∃ w, w = wordsL.getD j [] := ⟨_, rfl⟩
  have hwz := (words_ok j hj6).2
  rw [← hw] at hwz
  refine Zr (k:=Vv (k:=Ye 1 (k:=Yl (hv:=by exact get_mapD [] (m := j) (by omega)) (k:=?_))))
  rw [← hw]
  refine Qv (k:=Wq (Qc (k:=Vv (k:=Wq ?_))))
  refine p_cut (fun (i : { n : Int // 0 ≤ n ∧ n ≤ 7 }) => [(0, .slice ta tags.length tc), (1, .slice va vals.length vc), (2, vB own), (7, .slice oa (out).length oc), (8, vI j), (9, vS w), (10, vI i.1), (12, .slice (some ⟨x12, 0, none⟩) 6 6), (13, vI 6), (14, vI j)]) (fun (i : { n : Int // 0 ≤ n ∧ n ≤ 7 }) => [Row 66 4 (.slice oa (out).length oc) (out).length ((out).flatMap tgCells), Ce x12 9 (wordsL.map vS), Bt, Bv]) rfl (fun i => ?_) ?_
  ·
   obtain ⟨n, hn0, hn7⟩ := i
   dsimp only
   try dsimp only
   refine Za (k:=Qc (k:=Qv (k:=Vv (k:=Gi 2 (t:=fun h30 => ?_) (f:=fun h30 => ?_)))))
   ·
    refine O1 (k:=O1 (k:=O1 (k:=P1 (k:=Wq (Z1 (k:=Ze (k:=Xa (Xb (Ya (Zr (k:=Vv (k:=?_))))))))))))
    refine Vv (k:=Wn ?_)
    exact zb74next0
   ·
    refine J0 (k:=J0 (k:=J0 (k:=P0 (k:=Wq (Zi (t:=fun h34 => ?_) (f:=fun h34 => ?_))))))
    ·
     refine Ze (k:=Xa (Xb (Ya (Zr (k:=Qv (k:=Wn ?_))))))
     exact zb74next0
    ·
     refine Zk (k:=Ya (Za (k:=?_)))
     obtain ⟨m, hm⟩ : ∃ m : Nat, n = 4 + (m : Int) := ⟨(n - 4).toNat, by omega⟩
     have hm4 : m < 4 := by omega
     have hkd := kindC_ok m hm4
     refine Zr (k:=Qv (k:=?_))
     refine wo_pv (pv_indexm (m := m) Tryz.underlying9 rfl rfl (by omega) (show m < 4 from hm4)) rfl ?_
     change wo _ _ _ _ _ ((37, vU ((kindC.getD m 0).toNat : Int)) :: _) _ _
     generalize kindC.getD m 0 = kd at hkd ⊢
     refine Vv (k:=Vx (Ps [_, _, _, vS []]) (k:=Zc [.int .u8 0, vS [], vS [], vS []] (k:=fun b11 => Zp (k:=Wq ?_))))
     refine p_cut (fun (tg : { tg : Bs // TgtOk own tg }) => [(0, .slice ta tags.length tc), (1, .slice va vals.length vc), (2, vB own), (7, .slice oa (out).length oc), (8, vI j), (9, vS w), (11, .pointer (some ⟨b11, 0, none⟩)), (12, .slice (some ⟨x12, 0, none⟩) 6 6), (13, vI 6), (14, vI j)]) (fun (tg : { tg : Bs // TgtOk own tg }) => [Ce b11 66 [vU (kd.toNat : Int), vS w, vS tg.1, vS []], Row 66 4 (.slice oa (out).length oc) (out).length ((out).flatMap tgCells), Ce x12 9 (wordsL.map vS), Bt, Bv]) rfl (fun tg => ?_) ?_
     ·
      obtain ⟨tg, htg⟩ := tg
      dsimp only
      try dsimp only
      refine p_cut (fun (tv : { tv : Bs // tv.length ≤ 12 ∧ (kd.toNat = 45 → tv = []) }) => [(0, .slice ta tags.length tc), (1, .slice va vals.length vc), (2, vB own), (7, .slice oa (out).length oc), (8, vI j), (9, vS w), (11, .pointer (some ⟨b11, 0, none⟩)), (12, .slice (some ⟨x12, 0, none⟩) 6 6), (13, vI 6), (14, vI j)]) (fun (tv : { tv : Bs // tv.length ≤ 12 ∧ (kd.toNat = 45 → tv = []) }) => [Ce b11 66 [vU (kd.toNat : Int), vS w, vS tg, vS tv.1], Row 66 4 (.slice oa (out).length oc) (out).length ((out).flatMap tgCells), Ce x12 9 (wordsL.map vS), Bt, Bv]) rfl (fun tv => ?_) ?_
      ·
       obtain ⟨tv, htv1, htv2⟩ := tv
       dsimp only
       try dsimp only
       refine Zr (k:=Vv (k:=Zm [_, _, _, _] (k:=Zv [_] (cs := [_, _, _, _]) (k:=fun b60 => ?_))))
       refine r_append1 (sz := 4) (bytes := 56) Tryz.underlying28 ti66 rfl rfl rfl rfl rfl rfl rfl (by rfl) (by rfl) (by omega) (by simp only [maxLen]; omega) rfl (fun a61 c61 => ?_)
       refine Vv (k:=Wn (Yb (Ya (Zr (k:=Qv (k:=Wn ?_))))))
       exact zb74next0
      ·
       refine Qc (k:=Qx 0 5 (k:=Vv (k:=Wq (Zi (t:=fun h49 => ?_) (f:=fun h49 => ?_)))))
       ·
        refine Zr (k:=Zv [_, _, _, _] (cs := [_, _, _, _]) (k:=fun b50 => ?_))
        refine wo_ent' (Gs := [Ce b50 9 (tvalL.map vS), Ce b11 66 [vU (kd.toNat : Int), vS w, vS tg, vS []], Row 66 4 (.slice oa (out).length oc) (out).length ((out).flatMap tgCells), Ce x12 9 (wordsL.map vS), Bt, Bv]) (ent_step (ce_norm (by rfl) (by rfl)) ent_pick) ?_
        refine Qv (k:=?_)
        refine r_call1 (keep_pick_sp vc vals j (by omega) hv shv) rfl rfl rfl ?_
        refine r_callF (book_Within_sp (pickI vals j) 0 3 (by omega) (by omega) (by omega)) rfl rfl rfl ?_
        have hwi := withinI_in (n := pickI vals j) (show (0 : Int) ≤ 3 by omega)
        obtain ⟨v, hv4⟩ : ∃ v : Nat, withinI (pickI vals j) 0 3 = (v : Int) := ⟨(withinI (pickI vals j) 0 3).toNat, by omega⟩
        have hvl : tvalL.length = 4 := rfl
        rw [hv4]
        refine Ye 1 (k:=Yl (hv:=by exact get_mapD [] (m := v) (by omega)) (k:=Vf 3 9 (k:=Zo (k:=Wn ?_))))
        exact zb74join14
       ·
        refine Zk (k:=?_)
        exact zb74join14
     ·
      refine Qc (k:=Qv (k:=Wq (Zi (t:=fun h41 => ?_) (f:=fun h41 => ?_))))
      ·
       refine Zr (k:=Qv (k:=?_))
       refine r_call1 (keep_pick_sp vc vals j (by omega) hv shv) rfl rfl rfl ?_
       refine r_callF (keep_Name_sp _) rfl rfl rfl ?_
       refine Vf 2 9 (k:=Zo (k:=Wn ?_))
       exact zb74join12
      ·
       refine Zk (k:=?_)
       exact zb74join12
  ·
   refine Qc (k:=Qv (k:=Qv (k:=Wq (Zi (t:=fun h22 => ?_) (f:=fun h22 => ?_)))))
   ·
    refine Zr (k:=Qv (k:=Ye 1 (k:=Yl (hv:=by exact get_mapD 0 (m := j) (by omega)) (k:=?_))))
    refine r_callF (book_Within_sp (tags.getD j 0) 0 7 (by omega) (by omega) (by omega)) rfl rfl rfl ?_
    have hwi := withinI_in (n := tags.getD j 0) (show (0 : Int) ≤ 7 by omega)
    refine Vv (k:=Wn ?_)
    exact zb74join8
   ·
    refine Zk (k:=?_)
    exact zb74join8
 ·
  refine Ze (k:=Xa (Xi (Xb (Ya (Qc (k:=Qv (k:=Wq (Zt (k:=?_)))))))))
  have hj6 : j = 6 := by omega
  subst hj6
  exact fin_ret ((oa, oc), out) (vs := [_]) (Cs := []) rfl (.tmp rfl .nil) rfl hK ent_pick
end
section
set_option maxRecDepth 100000
abbrev usersL : List Bs := ["me".toUTF8.data.toList, "you".toUTF8.data.toList]
theorem users_ok : ∀ k, k < 2 → wordP (usersL.getD k []) ∧ (usersL.getD k []).length ≤ 3 := by
 have : ∀ i : Fin 2, wordP (usersL.getD i.1 []) ∧ (usersL.getD i.1 []).length ≤ 3 := by decide
 exact fun i h => this ⟨i, h⟩
/-- A control of the keeper. -/
structure KCt (c : Ct) : Prop where
 right : RightCt c
 tgt : ∀ t ∈ c.tags, ∃ n, t.target = nameB n
 z : TgZ c.tags
theorem KTags.ct {d : Int} {w : Bs} {ts : List Tg} (h : KTags false 6 ts) (hd : 0 ≤ d ∧ d ≤ 9) (hw : wordP w) (h0 : 0 < ts.length) : KCt ⟨d, ts, w⟩ :=
 ⟨⟨by dsimp only; omega, h0, h.right, hw⟩, fun t ht => (h.tag t ht).tgt.2 rfl, h.z (Nat.le_refl _)⟩
theorem KTags.one (n : Int) : KTags false 6 [⟨43, "a".toUTF8.data.toList, nameB n, []⟩] := by
 refine ⟨by simp, ?_, ?_, List.pairwise_singleton _ _⟩
 · intro t ht
   rw [List.mem_singleton.1 ht]
   exact ⟨.inl rfl, Nat.zero_le _, ⟨(fun h => by cases h), fun _ => ⟨n, rfl⟩⟩⟩
 · intro t ht
   rw [List.mem_singleton.1 ht]
   exact ⟨0, by omega, rfl⟩
theorem zb29ret {G : Prop} (h : G := by
    first
    | exact fin_ret ((oa, oc), ⟨withinI d 0 9, ts, usersL.getD ui []⟩) (vs := [_]) (Cs := [Ce b2 54 [vI (withinI d 0 9), .slice oa ts.length oc, vS (usersL.getD ui [])]]) rfl (.cell (l := [vI (withinI d 0 9), .slice oa ts.length oc, vS (usersL.getD ui [])]) (us := [vI (withinI d 0 9), .slice oa ts.length oc, vS (usersL.getD ui [])]) rfl (shows_ce (T := 54)) Tryz.underlying54 rfl ti54 (by exact Nat.le_of_ble_eq_true rfl) rfl .nil) rfl hKc ent_pick
    | exact fin_ret ((some ⟨b28, 0, none⟩, 1), ⟨withinI d 0 9, [⟨43, "a".toUTF8.data.toList, nameB (pickI vals 0), []⟩], usersL.getD ui []⟩) (vs := [_]) (Cs := [Ce b2 54 [vI (withinI d 0 9), .slice (some ⟨b28, 0, none⟩) 1 1, vS (usersL.getD ui [])]]) rfl (.cell (l := [vI (withinI d 0 9), .slice (some ⟨b28, 0, none⟩) 1 1, vS (usersL.getD ui [])]) (us := [vI (withinI d 0 9), .slice (some ⟨b28, 0, none⟩) 1 1, vS (usersL.getD ui [])]) rfl (shows_ce (T := 54)) Tryz.underlying54 rfl ti54 (by exact Nat.le_of_ble_eq_true rfl) rfl .nil) rfl hKc ent_pick) : G := h
theorem zb29join2 {G : Prop} (h : G := by exact to_inv ⟨(b3, x17), hx17⟩ trivial ⟨rfl, rfl, rfl, trivial⟩ ent_pick) : G := h
set_option maxHeartbeats 4000000 in
theorem keep_Control_sp {Bt Bv : HP} {ta va : Option Addr} (d u : Int) (tc vc : Nat) (tags vals : List Int) (ht : tags.length ≤ 9223372036854775807) (hv : vals.length ≤ 9223372036854775807) (sht : SlA Bt ta (tags.map vI)) (shv : SlA Bv va (vals.map vI)) :
    Sp Tryz.prog 29 [.agg #[vI d, vI u, .slice ta tags.length tc, .slice va vals.length vc]] [Bt, Bv] (X := (Option Addr × Nat) × Ct) (fun x => .agg (ctVals x.1.1 x.1.2 x.2).toArray) (fun x => KCt x.2) (fun x => ctH x ++ [Bt, Bv]) := by
 have hTO := keep_tagOps_sp tc vc tags vals false ht hv sht shv
 have hw1 := withinI_in (n := d) (show (0 : Int) ≤ 9 by omega)
 have hw2 := withinI_in (n := u) (show (0 : Int) ≤ 1 by omega)
 obtain ⟨ui, hui⟩ : ∃ k : Nat, withinI u 0 1 = (k : Int) := ⟨(withinI u 0 1).toNat, by omega⟩
 have hu2 : ui < 2 := by omega
 have hul : usersL.length = 2 := rfl
 have huo := users_ok ui hu2
 refine Sp.body (n := 31) Tryz.call29 Tryz.func29 rfl rfl rfl ?_
 refine Qc (k:=Zx [_, _, _, _] (k:=fun b1 => Zc [.int .i64 0, .slice none 0 0, vS []] (k:=fun b2 => Wq ?_)))
 refine p_cut (fun (i : { x : Nat × (Option Addr × Nat) × List Tg // KTags false 6 x.2.2 }) => [(1, .pointer (some ⟨b1, 0, none⟩)), (2, .pointer (some ⟨b2, 0, none⟩)), (3, .pointer (some ⟨i.1.1, 0, none⟩))]) (fun (i : { x : Nat × (Option Addr × Nat) × List Tg // KTags false 6 x.2.2 }) => [Ce i.1.1 54 [vI (withinI d 0 9), .slice i.1.2.1.1 i.1.2.2.length i.1.2.1.2, vS (usersL.getD ui [])], Row 66 4 (.slice i.1.2.1.1 i.1.2.2.length i.1.2.1.2) i.1.2.2.length (i.1.2.2.flatMap tgCells), Ce b2 54 [vI 0, .slice none 0 0, vS []], Ce b1 43 [vI d, vI u, .slice ta tags.length tc, .slice va vals.length vc], Bt, Bv]) rfl (fun i => ?_) ?_
 ·
  obtain ⟨⟨b3, ⟨oa, oc⟩, ts⟩, hts⟩ := i
  dsimp only at hts ⊢
  try dsimp only
  refine Za (k:=Qc (k:=Qx 1 28 (k:=Qv (k:=Wq (Zi (t:=fun h22 => ?_) (f:=fun h22 => ?_))))))
  ·
   have hKc : KCt ⟨withinI d 0 9, [⟨43, "a".toUTF8.data.toList, nameB (pickI vals 0), []⟩], usersL.getD ui []⟩ := (KTags.one _).ct hw1 huo.1 (by simp)
   refine Zr (k:=Qx 3 37 (k:=?_))
   refine r_call1 (keep_pick_sp vc vals 0 (by omega) hv shv) rfl rfl rfl ?_
   refine r_callF (keep_Name_sp _) rfl rfl rfl ?_
   refine Vx (Ps [_, _, _, vS []]) (k:=Zv [_] (cs := [_, _, _, _]) (k:=fun b28 => Vf 1 28 (k:=Zo (k:=?_))))
   refine wo_ent' (ent_row (k := 1) (cap := 1) (sz := 4) (e := 66) (g := b28) (xs := ([⟨43, "a".toUTF8.data.toList, nameB (pickI vals 0), []⟩] : List Tg).flatMap tgCells) (cur := [vU 43, vS [97], vS (nameB (pickI vals 0)), vS []]) (Nat.le_refl _) (by simp [maxLen]) rfl rfl rfl) ?_
   refine Wq (Qc (k:=Zm [_, _, _] (k:=Zp (k:=Wq (Zt (k:=?_))))))
   exact zb29ret
  ·
   have hKc : KCt ⟨withinI d 0 9, ts, usersL.getD ui []⟩ := hts.ct hw1 huo.1 (by omega)
   refine Zk (k:=Ya (Qc (k:=Zm [_, _, _] (k:=Zp (k:=Wq (Zt (k:=?_)))))))
   exact zb29ret
 ·
  refine Dw [Ce b1 43 [vI d, vI u, .slice ta tags.length tc, .slice va vals.length vc]] (k:=?_)
  refine Di 0 (t:=Uf 0 3) (k:=Di 1 (t:=Ul) (k:=Di 4 (t:=Uf 1 3) (k:=Di 5 (t:=Ul) (k:=Di 9 (t:=Uf 2 37) (k:=Di 10 (t:=Ul) (k:=Di 11 (t:=Uf 3 37) (k:=Di 12 (t:=Ul) (k:=?_))))))))
  refine d_next3 2 3 15 (by kernel_rfl) rfl rfl rfl ?_ ?_ ?_
  ·
   refine an_callF (book_Within_sp d 0 9 (by omega) (by omega) (by omega)) rfl rfl rfl ?_
   refine d_next3 3 6 15 (by kernel_rfl) rfl rfl rfl ?_ ?_ ?_
   ·
    refine Nl [_, _] (cs := [_, _]) (k:=fun b7 => ?_)
    refine d_next2 6 15 (by kernel_rfl) rfl rfl ?_ ?_
    ·
     refine an_callF (book_Within_sp u 0 1 (by omega) (by omega) (by omega)) rfl rfl rfl ?_
     rw [hui]
     refine d_next3 7 13 15 (by kernel_rfl) rfl rfl rfl ?_ ?_ ?_
     ·
      refine Ne 1 ui (k:=?_)
      refine d_next3 8 13 15 (by kernel_rfl) rfl rfl rfl ?_ ?_ ?_
      ·
       refine Nm (hv:=by exact get_mapD (f := vS) [] (l := usersL) (m := ui) hu2) (k:=?_)
       refine d_next2 13 15 (by kernel_rfl) rfl rfl ?_ ?_
       ·
        refine an_callX hTO rfl rfl rfl (fun x17 hx17 => ?_)
        refine Di 14 (t:=Ux (Ps [_, _, _])) (k:=Dn 15 (k:=Nc [.int .i64 0, .slice none 0 0, vS []] (k:=fun b3 => Dn 16 (k:=Na (k:=Dd (k:=?_))))))
        exact zb29join2
       ·
        refine Nc [.int .i64 0, .slice none 0 0, vS []] (k:=fun b3 => Dn 13 (k:=?_))
        refine an_callX hTO rfl rfl rfl (fun x17 hx17 => ?_)
        refine Di 14 (t:=Ux (Ps [_, _, _])) (k:=Dn 16 (k:=Na (k:=Dd (k:=?_))))
        exact zb29join2
      ·
       refine an_callX hTO rfl rfl rfl (fun x17 hx17 => ?_)
       refine d_next2 8 15 (by kernel_rfl) rfl rfl ?_ ?_
       ·
        refine Nm (hv:=by exact get_mapD (f := vS) [] (l := usersL) (m := ui) hu2) (k:=Di 14 (t:=Ux (Ps [_, _, _])) (k:=Dn 15 (k:=Nc [.int .i64 0, .slice none 0 0, vS []] (k:=fun b3 => Dn 16 (k:=Na (k:=Dd (k:=?_)))))))
        exact zb29join2
       ·
        refine Nc [.int .i64 0, .slice none 0 0, vS []] (k:=fun b3 => Dn 8 (k:=Nm (hv:=by exact get_mapD (f := vS) [] (l := usersL) (m := ui) hu2) (k:=Di 14 (t:=Ux (Ps [_, _, _])) (k:=Dn 16 (k:=Na (k:=Dd (k:=?_)))))))
        exact zb29join2
      ·
       refine Nc [.int .i64 0, .slice none 0 0, vS []] (k:=fun b3 => ?_)
       refine d_next2 8 13 (by kernel_rfl) rfl rfl ?_ ?_
       ·
        refine Nm (hv:=by exact get_mapD (f := vS) [] (l := usersL) (m := ui) hu2) (k:=Dn 13 (k:=?_))
        refine an_callX hTO rfl rfl rfl (fun x17 hx17 => ?_)
        refine Di 14 (t:=Ux (Ps [_, _, _])) (k:=Dn 16 (k:=Na (k:=Dd (k:=?_))))
        exact zb29join2
       ·
        refine an_callX hTO rfl rfl rfl (fun x17 hx17 => ?_)
        refine Dn 8 (k:=Nm (hv:=by exact get_mapD (f := vS) [] (l := usersL) (m := ui) hu2) (k:=Di 14 (t:=Ux (Ps [_, _, _])) (k:=Dn 16 (k:=Na (k:=Dd (k:=?_))))))
        exact zb29join2
     ·
      refine an_callX hTO rfl rfl rfl (fun x17 hx17 => ?_)
      refine d_next2 7 15 (by kernel_rfl) rfl rfl ?_ ?_
      ·
       refine Ne 1 ui (k:=?_)
       refine d_next2 8 15 (by kernel_rfl) rfl rfl ?_ ?_
       ·
        refine Nm (hv:=by exact get_mapD (f := vS) [] (l := usersL) (m := ui) hu2) (k:=Di 14 (t:=Ux (Ps [_, _, _])) (k:=Dn 15 (k:=Nc [.int .i64 0, .slice none 0 0, vS []] (k:=fun b3 => Dn 16 (k:=Na (k:=Dd (k:=?_)))))))
        exact zb29join2
       ·
        refine Nc [.int .i64 0, .slice none 0 0, vS []] (k:=fun b3 => Dn 8 (k:=Nm (hv:=by exact get_mapD (f := vS) [] (l := usersL) (m := ui) hu2) (k:=Di 14 (t:=Ux (Ps [_, _, _])) (k:=Dn 16 (k:=Na (k:=Dd (k:=?_)))))))
        exact zb29join2
      ·
       refine Nc [.int .i64 0, .slice none 0 0, vS []] (k:=fun b3 => Dn 7 (k:=Ne 1 ui (k:=Dn 8 (k:=Nm (hv:=by exact get_mapD (f := vS) [] (l := usersL) (m := ui) hu2) (k:=Di 14 (t:=Ux (Ps [_, _, _])) (k:=Dn 16 (k:=Na (k:=Dd (k:=?_)))))))))
       exact zb29join2
     ·
      refine Nc [.int .i64 0, .slice none 0 0, vS []] (k:=fun b3 => ?_)
      refine d_next2 7 13 (by kernel_rfl) rfl rfl ?_ ?_
      ·
       refine Ne 1 ui (k:=?_)
       refine d_next2 8 13 (by kernel_rfl) rfl rfl ?_ ?_
       ·
        refine Nm (hv:=by exact get_mapD (f := vS) [] (l := usersL) (m := ui) hu2) (k:=Dn 13 (k:=?_))
        refine an_callX hTO rfl rfl rfl (fun x17 hx17 => ?_)
        refine Di 14 (t:=Ux (Ps [_, _, _])) (k:=Dn 16 (k:=Na (k:=Dd (k:=?_))))
        exact zb29join2
       ·
        refine an_callX hTO rfl rfl rfl (fun x17 hx17 => ?_)
        refine Dn 8 (k:=Nm (hv:=by exact get_mapD (f := vS) [] (l := usersL) (m := ui) hu2) (k:=Di 14 (t:=Ux (Ps [_, _, _])) (k:=Dn 16 (k:=Na (k:=Dd (k:=?_))))))
        exact zb29join2
      ·
       refine an_callX hTO rfl rfl rfl (fun x17 hx17 => ?_)
       refine Dn 7 (k:=Ne 1 ui (k:=Dn 8 (k:=Nm (hv:=by exact get_mapD (f := vS) [] (l := usersL) (m := ui) hu2) (k:=Di 14 (t:=Ux (Ps [_, _, _])) (k:=Dn 16 (k:=Na (k:=Dd (k:=?_))))))))
       exact zb29join2
    ·
     refine Nc [.int .i64 0, .slice none 0 0, vS []] (k:=fun b3 => Dn 6 (k:=?_))
     refine an_callF (book_Within_sp u 0 1 (by omega) (by omega) (by omega)) rfl rfl rfl ?_
     rw [hui]
     refine d_next2 7 13 (by kernel_rfl) rfl rfl ?_ ?_
     ·
      refine Ne 1 ui (k:=?_)
      refine d_next2 8 13 (by kernel_rfl) rfl rfl ?_ ?_
      ·
       refine Nm (hv:=by exact get_mapD (f := vS) [] (l := usersL) (m := ui) hu2) (k:=Dn 13 (k:=?_))
       refine an_callX hTO rfl rfl rfl (fun x17 hx17 => ?_)
       refine Di 14 (t:=Ux (Ps [_, _, _])) (k:=Dn 16 (k:=Na (k:=Dd (k:=?_))))
       exact zb29join2
      ·
       refine an_callX hTO rfl rfl rfl (fun x17 hx17 => ?_)
       refine Dn 8 (k:=Nm (hv:=by exact get_mapD (f := vS) [] (l := usersL) (m := ui) hu2) (k:=Di 14 (t:=Ux (Ps [_, _, _])) (k:=Dn 16 (k:=Na (k:=Dd (k:=?_))))))
       exact zb29join2
     ·
      refine an_callX hTO rfl rfl rfl (fun x17 hx17 => ?_)
      refine Dn 7 (k:=Ne 1 ui (k:=Dn 8 (k:=Nm (hv:=by exact get_mapD (f := vS) [] (l := usersL) (m := ui) hu2) (k:=Di 14 (t:=Ux (Ps [_, _, _])) (k:=Dn 16 (k:=Na (k:=Dd (k:=?_))))))))
      exact zb29join2
   ·
    refine an_callF (book_Within_sp u 0 1 (by omega) (by omega) (by omega)) rfl rfl rfl ?_
    rw [hui]
    refine d_next3 3 13 15 (by kernel_rfl) rfl rfl rfl ?_ ?_ ?_
    ·
     refine Nl [_, _] (cs := [_, _]) (k:=fun b7 => ?_)
     refine d_next3 7 13 15 (by kernel_rfl) rfl rfl rfl ?_ ?_ ?_
     ·
      refine Ne 1 ui (k:=?_)
      refine d_next3 8 13 15 (by kernel_rfl) rfl rfl rfl ?_ ?_ ?_
      ·
       refine Nm (hv:=by exact get_mapD (f := vS) [] (l := usersL) (m := ui) hu2) (k:=?_)
       refine d_next2 13 15 (by kernel_rfl) rfl rfl ?_ ?_
       ·
        refine an_callX hTO rfl rfl rfl (fun x17 hx17 => ?_)
        refine Di 14 (t:=Ux (Ps [_, _, _])) (k:=Dn 15 (k:=Nc [.int .i64 0, .slice none 0 0, vS []] (k:=fun b3 => Dn 16 (k:=Na (k:=Dd (k:=?_))))))
        exact zb29join2
       ·
        refine Nc [.int .i64 0, .slice none 0 0, vS []] (k:=fun b3 => Dn 13 (k:=?_))
        refine an_callX hTO rfl rfl rfl (fun x17 hx17 => ?_)
        refine Di 14 (t:=Ux (Ps [_, _, _])) (k:=Dn 16 (k:=Na (k:=Dd (k:=?_))))
        exact zb29join2
      ·
       refine an_callX hTO rfl rfl rfl (fun x17 hx17 => ?_)
       refine d_next2 8 15 (by kernel_rfl) rfl rfl ?_ ?_
       ·
        refine Nm (hv:=by exact get_mapD (f := vS) [] (l := usersL) (m := ui) hu2) (k:=Di 14 (t:=Ux (Ps [_, _, _])) (k:=Dn 15 (k:=Nc [.int .i64 0, .slice none 0 0, vS []] (k:=fun b3 => Dn 16 (k:=Na (k:=Dd (k:=?_)))))))
        exact zb29join2
       ·
        refine Nc [.int .i64 0, .slice none 0 0, vS []] (k:=fun b3 => Dn 8 (k:=Nm (hv:=by exact get_mapD (f := vS) [] (l := usersL) (m := ui) hu2) (k:=Di 14 (t:=Ux (Ps [_, _, _])) (k:=Dn 16 (k:=Na (k:=Dd (k:=?_)))))))
        exact zb29join2
      ·
       refine Nc [.int .i64 0, .slice none 0 0, vS []] (k:=fun b3 => ?_)
       refine d_next2 8 13 (by kernel_rfl) rfl rfl ?_ ?_
       ·
        refine Nm (hv:=by exact get_mapD (f := vS) [] (l := usersL) (m := ui) hu2) (k:=Dn 13 (k:=?_))
        refine an_callX hTO rfl rfl rfl (fun x17 hx17 => ?_)
        refine Di 14 (t:=Ux (Ps [_, _, _])) (k:=Dn 16 (k:=Na (k:=Dd (k:=?_))))
        exact zb29join2
       ·
        refine an_callX hTO rfl rfl rfl (fun x17 hx17 => ?_)
        refine Dn 8 (k:=Nm (hv:=by exact get_mapD (f := vS) [] (l := usersL) (m := ui) hu2) (k:=Di 14 (t:=Ux (Ps [_, _, _])) (k:=Dn 16 (k:=Na (k:=Dd (k:=?_))))))
        exact zb29join2
     ·
      refine an_callX hTO rfl rfl rfl (fun x17 hx17 => ?_)
      refine d_next2 7 15 (by kernel_rfl) rfl rfl ?_ ?_
      ·
       refine Ne 1 ui (k:=?_)
       refine d_next2 8 15 (by kernel_rfl) rfl rfl ?_ ?_
       ·
        refine Nm (hv:=by exact get_mapD (f := vS) [] (l := usersL) (m := ui) hu2) (k:=Di 14 (t:=Ux (Ps [_, _, _])) (k:=Dn 15 (k:=Nc [.int .i64 0, .slice none 0 0, vS []] (k:=fun b3 => Dn 16 (k:=Na (k:=Dd (k:=?_)))))))
        exact zb29join2
       ·
        refine Nc [.int .i64 0, .slice none 0 0, vS []] (k:=fun b3 => Dn 8 (k:=Nm (hv:=by exact get_mapD (f := vS) [] (l := usersL) (m := ui) hu2) (k:=Di 14 (t:=Ux (Ps [_, _, _])) (k:=Dn 16 (k:=Na (k:=Dd (k:=?_)))))))
        exact zb29join2
      ·
       refine Nc [.int .i64 0, .slice none 0 0, vS []] (k:=fun b3 => Dn 7 (k:=Ne 1 ui (k:=Dn 8 (k:=Nm (hv:=by exact get_mapD (f := vS) [] (l := usersL) (m := ui) hu2) (k:=Di 14 (t:=Ux (Ps [_, _, _])) (k:=Dn 16 (k:=Na (k:=Dd (k:=?_)))))))))
       exact zb29join2
     ·
      refine Nc [.int .i64 0, .slice none 0 0, vS []] (k:=fun b3 => ?_)
      refine d_next2 7 13 (by kernel_rfl) rfl rfl ?_ ?_
      ·
       refine Ne 1 ui (k:=?_)
       refine d_next2 8 13 (by kernel_rfl) rfl rfl ?_ ?_
       ·
        refine Nm (hv:=by exact get_mapD (f := vS) [] (l := usersL) (m := ui) hu2) (k:=Dn 13 (k:=?_))
        refine an_callX hTO rfl rfl rfl (fun x17 hx17 => ?_)
        refine Di 14 (t:=Ux (Ps [_, _, _])) (k:=Dn 16 (k:=Na (k:=Dd (k:=?_))))
        exact zb29join2
       ·
        refine an_callX hTO rfl rfl rfl (fun x17 hx17 => ?_)
        refine Dn 8 (k:=Nm (hv:=by exact get_mapD (f := vS) [] (l := usersL) (m := ui) hu2) (k:=Di 14 (t:=Ux (Ps [_, _, _])) (k:=Dn 16 (k:=Na (k:=Dd (k:=?_))))))
        exact zb29join2
      ·
       refine an_callX hTO rfl rfl rfl (fun x17 hx17 => ?_)
       refine Dn 7 (k:=Ne 1 ui (k:=Dn 8 (k:=Nm (hv:=by exact get_mapD (f := vS) [] (l := usersL) (m := ui) hu2) (k:=Di 14 (t:=Ux (Ps [_, _, _])) (k:=Dn 16 (k:=Na (k:=Dd (k:=?_))))))))
       exact zb29join2
    ·
     refine an_callX hTO rfl rfl rfl (fun x17 hx17 => ?_)
     refine d_next2 3 15 (by kernel_rfl) rfl rfl ?_ ?_
     ·
      refine Nl [_, _] (cs := [_, _]) (k:=fun b7 => ?_)
      refine d_next2 7 15 (by kernel_rfl) rfl rfl ?_ ?_
      ·
       refine Ne 1 ui (k:=?_)
       refine d_next2 8 15 (by kernel_rfl) rfl rfl ?_ ?_
       ·
        refine Nm (hv:=by exact get_mapD (f := vS) [] (l := usersL) (m := ui) hu2) (k:=Di 14 (t:=Ux (Ps [_, _, _])) (k:=Dn 15 (k:=Nc [.int .i64 0, .slice none 0 0, vS []] (k:=fun b3 => Dn 16 (k:=Na (k:=Dd (k:=?_)))))))
        exact zb29join2
       ·
        refine Nc [.int .i64 0, .slice none 0 0, vS []] (k:=fun b3 => Dn 8 (k:=Nm (hv:=by exact get_mapD (f := vS) [] (l := usersL) (m := ui) hu2) (k:=Di 14 (t:=Ux (Ps [_, _, _])) (k:=Dn 16 (k:=Na (k:=Dd (k:=?_)))))))
        exact zb29join2
      ·
       refine Nc [.int .i64 0, .slice none 0 0, vS []] (k:=fun b3 => Dn 7 (k:=Ne 1 ui (k:=Dn 8 (k:=Nm (hv:=by exact get_mapD (f := vS) [] (l := usersL) (m := ui) hu2) (k:=Di 14 (t:=Ux (Ps [_, _, _])) (k:=Dn 16 (k:=Na (k:=Dd (k:=?_)))))))))
       exact zb29join2
     ·
      refine Nc [.int .i64 0, .slice none 0 0, vS []] (k:=fun b3 => Dn 3 (k:=Nl [_, _] (cs := [_, _]) (k:=fun b7 => Dn 7 (k:=Ne 1 ui (k:=Dn 8 (k:=Nm (hv:=by exact get_mapD (f := vS) [] (l := usersL) (m := ui) hu2) (k:=Di 14 (t:=Ux (Ps [_, _, _])) (k:=Dn 16 (k:=Na (k:=Dd (k:=?_)))))))))))
      exact zb29join2
    ·
     refine Nc [.int .i64 0, .slice none 0 0, vS []] (k:=fun b3 => ?_)
     refine d_next2 3 13 (by kernel_rfl) rfl rfl ?_ ?_
     ·
      refine Nl [_, _] (cs := [_, _]) (k:=fun b7 => ?_)
      refine d_next2 7 13 (by kernel_rfl) rfl rfl ?_ ?_
      ·
       refine Ne 1 ui (k:=?_)
       refine d_next2 8 13 (by kernel_rfl) rfl rfl ?_ ?_
       ·
        refine Nm (hv:=by exact get_mapD (f := vS) [] (l := usersL) (m := ui) hu2) (k:=Dn 13 (k:=?_))
        refine an_callX hTO rfl rfl rfl (fun x17 hx17 => ?_)
        refine Di 14 (t:=Ux (Ps [_, _, _])) (k:=Dn 16 (k:=Na (k:=Dd (k:=?_))))
        exact zb29join2
       ·
        refine an_callX hTO rfl rfl rfl (fun x17 hx17 => ?_)
        refine Dn 8 (k:=Nm (hv:=by exact get_mapD (f := vS) [] (l := usersL) (m := ui) hu2) (k:=Di 14 (t:=Ux (Ps [_, _, _])) (k:=Dn 16 (k:=Na (k:=Dd (k:=?_))))))
        exact zb29join2
      ·
       refine an_callX hTO rfl rfl rfl (fun x17 hx17 => ?_)
       refine Dn 7 (k:=Ne 1 ui (k:=Dn 8 (k:=Nm (hv:=by exact get_mapD (f := vS) [] (l := usersL) (m := ui) hu2) (k:=Di 14 (t:=Ux (Ps [_, _, _])) (k:=Dn 16 (k:=Na (k:=Dd (k:=?_))))))))
       exact zb29join2
     ·
      refine an_callX hTO rfl rfl rfl (fun x17 hx17 => ?_)
      refine Dn 3 (k:=Nl [_, _] (cs := [_, _]) (k:=fun b7 => Dn 7 (k:=Ne 1 ui (k:=Dn 8 (k:=Nm (hv:=by exact get_mapD (f := vS) [] (l := usersL) (m := ui) hu2) (k:=Di 14 (t:=Ux (Ps [_, _, _])) (k:=Dn 16 (k:=Na (k:=Dd (k:=?_))))))))))
      exact zb29join2
   ·
    refine Nc [.int .i64 0, .slice none 0 0, vS []] (k:=fun b3 => ?_)
    refine d_next2 3 6 (by kernel_rfl) rfl rfl ?_ ?_
    ·
     refine Nl [_, _] (cs := [_, _]) (k:=fun b7 => Dn 6 (k:=?_))
     refine an_callF (book_Within_sp u 0 1 (by omega) (by omega) (by omega)) rfl rfl rfl ?_
     rw [hui]
     refine d_next2 7 13 (by kernel_rfl) rfl rfl ?_ ?_
     ·
      refine Ne 1 ui (k:=?_)
      refine d_next2 8 13 (by kernel_rfl) rfl rfl ?_ ?_
      ·
       refine Nm (hv:=by exact get_mapD (f := vS) [] (l := usersL) (m := ui) hu2) (k:=Dn 13 (k:=?_))
       refine an_callX hTO rfl rfl rfl (fun x17 hx17 => ?_)
       refine Di 14 (t:=Ux (Ps [_, _, _])) (k:=Dn 16 (k:=Na (k:=Dd (k:=?_))))
       exact zb29join2
      ·
       refine an_callX hTO rfl rfl rfl (fun x17 hx17 => ?_)
       refine Dn 8 (k:=Nm (hv:=by exact get_mapD (f := vS) [] (l := usersL) (m := ui) hu2) (k:=Di 14 (t:=Ux (Ps [_, _, _])) (k:=Dn 16 (k:=Na (k:=Dd (k:=?_))))))
       exact zb29join2
     ·
      refine an_callX hTO rfl rfl rfl (fun x17 hx17 => ?_)
      refine Dn 7 (k:=Ne 1 ui (k:=Dn 8 (k:=Nm (hv:=by exact get_mapD (f := vS) [] (l := usersL) (m := ui) hu2) (k:=Di 14 (t:=Ux (Ps [_, _, _])) (k:=Dn 16 (k:=Na (k:=Dd (k:=?_))))))))
      exact zb29join2
    ·
     refine an_callF (book_Within_sp u 0 1 (by omega) (by omega) (by omega)) rfl rfl rfl ?_
     rw [hui]
     refine d_next2 3 13 (by kernel_rfl) rfl rfl ?_ ?_
     ·
      refine Nl [_, _] (cs := [_, _]) (k:=fun b7 => ?_)
      refine d_next2 7 13 (by kernel_rfl) rfl rfl ?_ ?_
      ·
       refine Ne 1 ui (k:=?_)
       refine d_next2 8 13 (by kernel_rfl) rfl rfl ?_ ?_
       ·
        refine Nm (hv:=by exact get_mapD (f := vS) [] (l := usersL) (m := ui) hu2) (k:=Dn 13 (k:=?_))
        refine an_callX hTO rfl rfl rfl (fun x17 hx17 => ?_)
        refine Di 14 (t:=Ux (Ps [_, _, _])) (k:=Dn 16 (k:=Na (k:=Dd (k:=?_))))
        exact zb29join2
       ·
        refine an_callX hTO rfl rfl rfl (fun x17 hx17 => ?_)
        refine Dn 8 (k:=Nm (hv:=by exact get_mapD (f := vS) [] (l := usersL) (m := ui) hu2) (k:=Di 14 (t:=Ux (Ps [_, _, _])) (k:=Dn 16 (k:=Na (k:=Dd (k:=?_))))))
        exact zb29join2
      ·
       refine an_callX hTO rfl rfl rfl (fun x17 hx17 => ?_)
       refine Dn 7 (k:=Ne 1 ui (k:=Dn 8 (k:=Nm (hv:=by exact get_mapD (f := vS) [] (l := usersL) (m := ui) hu2) (k:=Di 14 (t:=Ux (Ps [_, _, _])) (k:=Dn 16 (k:=Na (k:=Dd (k:=?_))))))))
       exact zb29join2
     ·
      refine an_callX hTO rfl rfl rfl (fun x17 hx17 => ?_)
      refine Dn 3 (k:=Nl [_, _] (cs := [_, _]) (k:=fun b7 => Dn 7 (k:=Ne 1 ui (k:=Dn 8 (k:=Nm (hv:=by exact get_mapD (f := vS) [] (l := usersL) (m := ui) hu2) (k:=Di 14 (t:=Ux (Ps [_, _, _])) (k:=Dn 16 (k:=Na (k:=Dd (k:=?_))))))))))
      exact zb29join2
  ·
   refine Nl [_, _] (cs := [_, _]) (k:=fun b7 => ?_)
   refine d_next2 2 15 (by kernel_rfl) rfl rfl ?_ ?_
   ·
    refine an_callF (book_Within_sp d 0 9 (by omega) (by omega) (by omega)) rfl rfl rfl ?_
    refine d_next2 6 15 (by kernel_rfl) rfl rfl ?_ ?_
    ·
     refine an_callF (book_Within_sp u 0 1 (by omega) (by omega) (by omega)) rfl rfl rfl ?_
     rw [hui]
     refine d_next3 7 13 15 (by kernel_rfl) rfl rfl rfl ?_ ?_ ?_
     ·
      refine Ne 1 ui (k:=?_)
      refine d_next3 8 13 15 (by kernel_rfl) rfl rfl rfl ?_ ?_ ?_
      ·
       refine Nm (hv:=by exact get_mapD (f := vS) [] (l := usersL) (m := ui) hu2) (k:=?_)
       refine d_next2 13 15 (by kernel_rfl) rfl rfl ?_ ?_
       ·
        refine an_callX hTO rfl rfl rfl (fun x17 hx17 => ?_)
        refine Di 14 (t:=Ux (Ps [_, _, _])) (k:=Dn 15 (k:=Nc [.int .i64 0, .slice none 0 0, vS []] (k:=fun b3 => Dn 16 (k:=Na (k:=Dd (k:=?_))))))
        exact zb29join2
       ·
        refine Nc [.int .i64 0, .slice none 0 0, vS []] (k:=fun b3 => Dn 13 (k:=?_))
        refine an_callX hTO rfl rfl rfl (fun x17 hx17 => ?_)
        refine Di 14 (t:=Ux (Ps [_, _, _])) (k:=Dn 16 (k:=Na (k:=Dd (k:=?_))))
        exact zb29join2
      ·
       refine an_callX hTO rfl rfl rfl (fun x17 hx17 => ?_)
       refine d_next2 8 15 (by kernel_rfl) rfl rfl ?_ ?_
       ·
        refine Nm (hv:=by exact get_mapD (f := vS) [] (l := usersL) (m := ui) hu2) (k:=Di 14 (t:=Ux (Ps [_, _, _])) (k:=Dn 15 (k:=Nc [.int .i64 0, .slice none 0 0, vS []] (k:=fun b3 => Dn 16 (k:=Na (k:=Dd (k:=?_)))))))
        exact zb29join2
       ·
        refine Nc [.int .i64 0, .slice none 0 0, vS []] (k:=fun b3 => Dn 8 (k:=Nm (hv:=by exact get_mapD (f := vS) [] (l := usersL) (m := ui) hu2) (k:=Di 14 (t:=Ux (Ps [_, _, _])) (k:=Dn 16 (k:=Na (k:=Dd (k:=?_)))))))
        exact zb29join2
      ·
       refine Nc [.int .i64 0, .slice none 0 0, vS []] (k:=fun b3 => ?_)
       refine d_next2 8 13 (by kernel_rfl) rfl rfl ?_ ?_
       ·
        refine Nm (hv:=by exact get_mapD (f := vS) [] (l := usersL) (m := ui) hu2) (k:=Dn 13 (k:=?_))
        refine an_callX hTO rfl rfl rfl (fun x17 hx17 => ?_)
        refine Di 14 (t:=Ux (Ps [_, _, _])) (k:=Dn 16 (k:=Na (k:=Dd (k:=?_))))
        exact zb29join2
       ·
        refine an_callX hTO rfl rfl rfl (fun x17 hx17 => ?_)
        refine Dn 8 (k:=Nm (hv:=by exact get_mapD (f := vS) [] (l := usersL) (m := ui) hu2) (k:=Di 14 (t:=Ux (Ps [_, _, _])) (k:=Dn 16 (k:=Na (k:=Dd (k:=?_))))))
        exact zb29join2
     ·
      refine an_callX hTO rfl rfl rfl (fun x17 hx17 => ?_)
      refine d_next2 7 15 (by kernel_rfl) rfl rfl ?_ ?_
      ·
       refine Ne 1 ui (k:=?_)
       refine d_next2 8 15 (by kernel_rfl) rfl rfl ?_ ?_
       ·
        refine Nm (hv:=by exact get_mapD (f := vS) [] (l := usersL) (m := ui) hu2) (k:=Di 14 (t:=Ux (Ps [_, _, _])) (k:=Dn 15 (k:=Nc [.int .i64 0, .slice none 0 0, vS []] (k:=fun b3 => Dn 16 (k:=Na (k:=Dd (k:=?_)))))))
        exact zb29join2
       ·
        refine Nc [.int .i64 0, .slice none 0 0, vS []] (k:=fun b3 => Dn 8 (k:=Nm (hv:=by exact get_mapD (f := vS) [] (l := usersL) (m := ui) hu2) (k:=Di 14 (t:=Ux (Ps [_, _, _])) (k:=Dn 16 (k:=Na (k:=Dd (k:=?_)))))))
        exact zb29join2
      ·
       refine Nc [.int .i64 0, .slice none 0 0, vS []] (k:=fun b3 => Dn 7 (k:=Ne 1 ui (k:=Dn 8 (k:=Nm (hv:=by exact get_mapD (f := vS) [] (l := usersL) (m := ui) hu2) (k:=Di 14 (t:=Ux (Ps [_, _, _])) (k:=Dn 16 (k:=Na (k:=Dd (k:=?_)))))))))
       exact zb29join2
     ·
      refine Nc [.int .i64 0, .slice none 0 0, vS []] (k:=fun b3 => ?_)
      refine d_next2 7 13 (by kernel_rfl) rfl rfl ?_ ?_
      ·
       refine Ne 1 ui (k:=?_)
       refine d_next2 8 13 (by kernel_rfl) rfl rfl ?_ ?_
       ·
        refine Nm (hv:=by exact get_mapD (f := vS) [] (l := usersL) (m := ui) hu2) (k:=Dn 13 (k:=?_))
        refine an_callX hTO rfl rfl rfl (fun x17 hx17 => ?_)
        refine Di 14 (t:=Ux (Ps [_, _, _])) (k:=Dn 16 (k:=Na (k:=Dd (k:=?_))))
        exact zb29join2
       ·
        refine an_callX hTO rfl rfl rfl (fun x17 hx17 => ?_)
        refine Dn 8 (k:=Nm (hv:=by exact get_mapD (f := vS) [] (l := usersL) (m := ui) hu2) (k:=Di 14 (t:=Ux (Ps [_, _, _])) (k:=Dn 16 (k:=Na (k:=Dd (k:=?_))))))
        exact zb29join2
      ·
       refine an_callX hTO rfl rfl rfl (fun x17 hx17 => ?_)
       refine Dn 7 (k:=Ne 1 ui (k:=Dn 8 (k:=Nm (hv:=by exact get_mapD (f := vS) [] (l := usersL) (m := ui) hu2) (k:=Di 14 (t:=Ux (Ps [_, _, _])) (k:=Dn 16 (k:=Na (k:=Dd (k:=?_))))))))
       exact zb29join2
    ·
     refine Nc [.int .i64 0, .slice none 0 0, vS []] (k:=fun b3 => Dn 6 (k:=?_))
     refine an_callF (book_Within_sp u 0 1 (by omega) (by omega) (by omega)) rfl rfl rfl ?_
     rw [hui]
     refine d_next2 7 13 (by kernel_rfl) rfl rfl ?_ ?_
     ·
      refine Ne 1 ui (k:=?_)
      refine d_next2 8 13 (by kernel_rfl) rfl rfl ?_ ?_
      ·
       refine Nm (hv:=by exact get_mapD (f := vS) [] (l := usersL) (m := ui) hu2) (k:=Dn 13 (k:=?_))
       refine an_callX hTO rfl rfl rfl (fun x17 hx17 => ?_)
       refine Di 14 (t:=Ux (Ps [_, _, _])) (k:=Dn 16 (k:=Na (k:=Dd (k:=?_))))
       exact zb29join2
      ·
       refine an_callX hTO rfl rfl rfl (fun x17 hx17 => ?_)
       refine Dn 8 (k:=Nm (hv:=by exact get_mapD (f := vS) [] (l := usersL) (m := ui) hu2) (k:=Di 14 (t:=Ux (Ps [_, _, _])) (k:=Dn 16 (k:=Na (k:=Dd (k:=?_))))))
       exact zb29join2
     ·
      refine an_callX hTO rfl rfl rfl (fun x17 hx17 => ?_)
      refine Dn 7 (k:=Ne 1 ui (k:=Dn 8 (k:=Nm (hv:=by exact get_mapD (f := vS) [] (l := usersL) (m := ui) hu2) (k:=Di 14 (t:=Ux (Ps [_, _, _])) (k:=Dn 16 (k:=Na (k:=Dd (k:=?_))))))))
      exact zb29join2
   ·
    refine Nc [.int .i64 0, .slice none 0 0, vS []] (k:=fun b3 => Dn 2 (k:=?_))
    refine an_callF (book_Within_sp d 0 9 (by omega) (by omega) (by omega)) rfl rfl rfl ?_
    refine Dn 6 (k:=?_)
    refine an_callF (book_Within_sp u 0 1 (by omega) (by omega) (by omega)) rfl rfl rfl ?_
    rw [hui]
    refine d_next2 7 13 (by kernel_rfl) rfl rfl ?_ ?_
    ·
     refine Ne 1 ui (k:=?_)
     refine d_next2 8 13 (by kernel_rfl) rfl rfl ?_ ?_
     ·
      refine Nm (hv:=by exact get_mapD (f := vS) [] (l := usersL) (m := ui) hu2) (k:=Dn 13 (k:=?_))
      refine an_callX hTO rfl rfl rfl (fun x17 hx17 => ?_)
      refine Di 14 (t:=Ux (Ps [_, _, _])) (k:=Dn 16 (k:=Na (k:=Dd (k:=?_))))
      exact zb29join2
     ·
      refine an_callX hTO rfl rfl rfl (fun x17 hx17 => ?_)
      refine Dn 8 (k:=Nm (hv:=by exact get_mapD (f := vS) [] (l := usersL) (m := ui) hu2) (k:=Di 14 (t:=Ux (Ps [_, _, _])) (k:=Dn 16 (k:=Na (k:=Dd (k:=?_))))))
      exact zb29join2
    ·
     refine an_callX hTO rfl rfl rfl (fun x17 hx17 => ?_)
     refine Dn 7 (k:=Ne 1 ui (k:=Dn 8 (k:=Nm (hv:=by exact get_mapD (f := vS) [] (l := usersL) (m := ui) hu2) (k:=Di 14 (t:=Ux (Ps [_, _, _])) (k:=Dn 16 (k:=Na (k:=Dd (k:=?_))))))))
     exact zb29join2
  ·
   refine Nc [.int .i64 0, .slice none 0 0, vS []] (k:=fun b3 => ?_)
   refine d_next2 2 3 (by kernel_rfl) rfl rfl ?_ ?_
   ·
    refine an_callF (book_Within_sp d 0 9 (by omega) (by omega) (by omega)) rfl rfl rfl ?_
    refine d_next2 3 6 (by kernel_rfl) rfl rfl ?_ ?_
    ·
     refine Nl [_, _] (cs := [_, _]) (k:=fun b7 => Dn 6 (k:=?_))
     refine an_callF (book_Within_sp u 0 1 (by omega) (by omega) (by omega)) rfl rfl rfl ?_
     rw [hui]
     refine d_next2 7 13 (by kernel_rfl) rfl rfl ?_ ?_
     ·
      refine Ne 1 ui (k:=?_)
      refine d_next2 8 13 (by kernel_rfl) rfl rfl ?_ ?_
      ·
       refine Nm (hv:=by exact get_mapD (f := vS) [] (l := usersL) (m := ui) hu2) (k:=Dn 13 (k:=?_))
       refine an_callX hTO rfl rfl rfl (fun x17 hx17 => ?_)
       refine Di 14 (t:=Ux (Ps [_, _, _])) (k:=Dn 16 (k:=Na (k:=Dd (k:=?_))))
       exact zb29join2
      ·
       refine an_callX hTO rfl rfl rfl (fun x17 hx17 => ?_)
       refine Dn 8 (k:=Nm (hv:=by exact get_mapD (f := vS) [] (l := usersL) (m := ui) hu2) (k:=Di 14 (t:=Ux (Ps [_, _, _])) (k:=Dn 16 (k:=Na (k:=Dd (k:=?_))))))
       exact zb29join2
     ·
      refine an_callX hTO rfl rfl rfl (fun x17 hx17 => ?_)
      refine Dn 7 (k:=Ne 1 ui (k:=Dn 8 (k:=Nm (hv:=by exact get_mapD (f := vS) [] (l := usersL) (m := ui) hu2) (k:=Di 14 (t:=Ux (Ps [_, _, _])) (k:=Dn 16 (k:=Na (k:=Dd (k:=?_))))))))
      exact zb29join2
    ·
     refine an_callF (book_Within_sp u 0 1 (by omega) (by omega) (by omega)) rfl rfl rfl ?_
     rw [hui]
     refine d_next2 3 13 (by kernel_rfl) rfl rfl ?_ ?_
     ·
      refine Nl [_, _] (cs := [_, _]) (k:=fun b7 => ?_)
      refine d_next2 7 13 (by kernel_rfl) rfl rfl ?_ ?_
      ·
       refine Ne 1 ui (k:=?_)
       refine d_next2 8 13 (by kernel_rfl) rfl rfl ?_ ?_
       ·
        refine Nm (hv:=by exact get_mapD (f := vS) [] (l := usersL) (m := ui) hu2) (k:=Dn 13 (k:=?_))
        refine an_callX hTO rfl rfl rfl (fun x17 hx17 => ?_)
        refine Di 14 (t:=Ux (Ps [_, _, _])) (k:=Dn 16 (k:=Na (k:=Dd (k:=?_))))
        exact zb29join2
       ·
        refine an_callX hTO rfl rfl rfl (fun x17 hx17 => ?_)
        refine Dn 8 (k:=Nm (hv:=by exact get_mapD (f := vS) [] (l := usersL) (m := ui) hu2) (k:=Di 14 (t:=Ux (Ps [_, _, _])) (k:=Dn 16 (k:=Na (k:=Dd (k:=?_))))))
        exact zb29join2
      ·
       refine an_callX hTO rfl rfl rfl (fun x17 hx17 => ?_)
       refine Dn 7 (k:=Ne 1 ui (k:=Dn 8 (k:=Nm (hv:=by exact get_mapD (f := vS) [] (l := usersL) (m := ui) hu2) (k:=Di 14 (t:=Ux (Ps [_, _, _])) (k:=Dn 16 (k:=Na (k:=Dd (k:=?_))))))))
       exact zb29join2
     ·
      refine an_callX hTO rfl rfl rfl (fun x17 hx17 => ?_)
      refine Dn 3 (k:=Nl [_, _] (cs := [_, _]) (k:=fun b7 => Dn 7 (k:=Ne 1 ui (k:=Dn 8 (k:=Nm (hv:=by exact get_mapD (f := vS) [] (l := usersL) (m := ui) hu2) (k:=Di 14 (t:=Ux (Ps [_, _, _])) (k:=Dn 16 (k:=Na (k:=Dd (k:=?_))))))))))
      exact zb29join2
   ·
    refine Nl [_, _] (cs := [_, _]) (k:=fun b7 => Dn 2 (k:=?_))
    refine an_callF (book_Within_sp d 0 9 (by omega) (by omega) (by omega)) rfl rfl rfl ?_
    refine Dn 6 (k:=?_)
    refine an_callF (book_Within_sp u 0 1 (by omega) (by omega) (by omega)) rfl rfl rfl ?_
    rw [hui]
    refine d_next2 7 13 (by kernel_rfl) rfl rfl ?_ ?_
    ·
     refine Ne 1 ui (k:=?_)
     refine d_next2 8 13 (by kernel_rfl) rfl rfl ?_ ?_
     ·
      refine Nm (hv:=by exact get_mapD (f := vS) [] (l := usersL) (m := ui) hu2) (k:=Dn 13 (k:=?_))
      refine an_callX hTO rfl rfl rfl (fun x17 hx17 => ?_)
      refine Di 14 (t:=Ux (Ps [_, _, _])) (k:=Dn 16 (k:=Na (k:=Dd (k:=?_))))
      exact zb29join2
     ·
      refine an_callX hTO rfl rfl rfl (fun x17 hx17 => ?_)
      refine Dn 8 (k:=Nm (hv:=by exact get_mapD (f := vS) [] (l := usersL) (m := ui) hu2) (k:=Di 14 (t:=Ux (Ps [_, _, _])) (k:=Dn 16 (k:=Na (k:=Dd (k:=?_))))))
      exact zb29join2
    ·
     refine an_callX hTO rfl rfl rfl (fun x17 hx17 => ?_)
     refine Dn 7 (k:=Ne 1 ui (k:=Dn 8 (k:=Nm (hv:=by exact get_mapD (f := vS) [] (l := usersL) (m := ui) hu2) (k:=Di 14 (t:=Ux (Ps [_, _, _])) (k:=Dn 16 (k:=Na (k:=Dd (k:=?_))))))))
     exact zb29join2
end
end Go.Proofs.YtibccdcemcgkeaaGreat
