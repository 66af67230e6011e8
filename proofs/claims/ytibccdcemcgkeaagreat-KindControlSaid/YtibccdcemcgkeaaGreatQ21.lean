/- Texts of this proof, put together: SBook, PKeep, SKeep, PKeep2, SKeep2. -/
import Derived.Test.YtibccdcemcgkeaaGreatQ08
import Derived.Test.YtibccdcemcgkeaaGreatQ20
import Derived.Test.YtibccdcemcgkeaaGreatQ19
set_option linter.unusedVariables false
set_option linter.unusedSimpArgs false
section
set_option maxRecDepth 100000
namespace Go.Proofs.YtibccdcemcgkeaaGreat
def withinI (n lo hi : Int) : Int := lo + n % (hi - lo + 1)
theorem withinI_in {n lo hi : Int} (h : lo ≤ hi) : lo ≤ withinI n lo hi ∧ withinI n lo hi ≤ hi := by
 have h1 := Int.emod_nonneg n (show hi - lo + 1 ≠ 0 by omega)
 have h2 := Int.emod_lt_of_pos n (show 0 < hi - lo + 1 by omega)
 unfold withinI; omega
theorem tmod_cases (n m : Int) (hm : 1 ≤ m) : (0 ≤ n.tmod m ∧ n.tmod m = n % m ∨ n.tmod m < 0 ∧ n.tmod m + m = n % m) ∧ -m < n.tmod m ∧ n.tmod m < m := by
 have e1 := Int.emod_nonneg n (show m ≠ 0 by omega)
 have e2 := Int.emod_lt_of_pos n (show 0 < m by omega)
 have hd := Int.emod_emod_of_dvd n (Int.dvd_refl m)
 rcases Int.lt_or_le n 0 with h | h
 · have h2 : n.tmod m = -((-n) % m) := by
     have : n = -(-n) := by omega
     conv => lhs; rw [this]
     rw [Int.neg_tmod, Int.tmod_eq_emod_of_nonneg (by omega)]
   have e3 := Int.emod_nonneg (-n) (show m ≠ 0 by omega)
   have e4 := Int.emod_lt_of_pos (-n) (show 0 < m by omega)
   have hs : (n % m + (-n) % m) % m = 0 := by
    rw [← Int.add_emod, Int.add_right_neg, Int.zero_emod]
   by_cases hz : (-n) % m = 0
   · have : n % m = 0 := by
       rw [hz, Int.add_zero, Int.emod_emod_of_dvd n (Int.dvd_refl m)] at hs; exact hs
     rw [h2, hz, this]; omega
   · have hsum : n % m + (-n) % m = m := by
       have hpos : 0 < n % m + (-n) % m := by omega
       have hlt : n % m + (-n) % m < m + m := by omega
       have hge : m ≤ n % m + (-n) % m := by
        apply Classical.byContradiction; intro hc
        rw [Int.emod_eq_of_lt (by omega) (by omega)] at hs
        omega
       have : (n % m + (-n) % m - m) % m = 0 := by rw [Int.sub_emod, hs]; simp
       rw [Int.emod_eq_of_lt (by omega) (by omega)] at this
       omega
     rw [h2]; omega
 · rw [Int.tmod_eq_emod_of_nonneg h]; omega
theorem book_Within_sp (n lo hi : Int) (h1 : -1099511627776 ≤ lo) (h2 : lo ≤ hi) (h3 : hi ≤ 1099511627776) : SpF Tryz.prog 21 [vI n, vI lo, vI hi] (vI (withinI n lo hi)) := by
 have hc := tmod_cases n (hi - lo + 1) (by omega)
 have hw : withinI n lo hi = lo + n % (hi - lo + 1) := rfl
 refine Sp.body (n := 24) Tryz.call21 Tryz.func21 rfl rfl rfl ?_
 refine Za (k:=Zr (k:=Vv (k:=Wq (Za (k:=Zr (k:=Vv (k:=Vv (k:=Vv (k:=Vv (k:=Vv (k:=?_)))))))))))
 refine wo_pv (pv_remt rfl rfl (by omega)) rfl ?_
 refine Vv (k:=Wq (Za (k:=Za (k:=Zr (k:=Vv (k:=Vv (k:=Wq (Zi (t:=fun h14 => ?_) (f:=fun h14 => ?_)))))))))
 ·
  refine Zr (k:=Vv (k:=Vv (k:=Vv (k:=Vv (k:=Vv (k:=Vv (k:=Vv (k:=Wq (Za (k:=Zr (k:=Vv (k:=?_))))))))))))
  refine Vv (k:=Vv (k:=Vv (k:=Wq (Zt (k:=?_)))))
  exact fin_ret () (vs := [_]) rfl (.tmp rfl .nil) (by rw [hw]; exact congrArg vI (by omega)) trivial ent_nil
 ·
  refine Zk (k:=Ya (Za (k:=Zr (k:=Vv (k:=Vv (k:=Vv (k:=Vv (k:=Wq (Zt (k:=?_))))))))))
  exact fin_ret () (vs := [_]) rfl (.tmp rfl .nil) (by rw [hw]; exact congrArg vI (by omega)) trivial ent_nil
end Go.Proofs.YtibccdcemcgkeaaGreat
end
section
namespace Go.Proofs.YtibccdcemcgkeaaGreat
def pickI (l : List Int) (i : Int) : Int := if l.length = 0 then 0 else l.getD (i % (l.length : Int)).toNat 0
def piecesL : List Bs := ["line one\n".toUTF8.data.toList, "the second line is longer\n".toUTF8.data.toList, "x".toUTF8.data.toList, "0;".toUTF8.data.toList, "abcabcabc".toUTF8.data.toList, "\n".toUTF8.data.toList, "3:xyz".toUTF8.data.toList, "tail of it all".toUTF8.data.toList]
def beginL : List Bs := ["".toUTF8.data.toList, "a common beginning of some texts, long enough for deltas between these; ".toUTF8.data.toList, "another beginning, of other texts, as long as the first one is, or a bit longer; ".toUTF8.data.toList]
def wordsL : List Bs := ["a".toUTF8.data.toList, "branch".toUTF8.data.toList, "c.txt".toUTF8.data.toList, "d/e".toUTF8.data.toList, "rel-1".toUTF8.data.toList, "zz".toUTF8.data.toList]
def pieceI (b x : Int) : Bs := piecesL.getD (withinI (IntKind.i64.wrap (x + bits .and .i64 b 1)) 0 7).toNat []
def textF (b : Int) : List Int → Bs → Bs
 | [], out => out
 | x :: r, out => if out.length < 170 then textF b r (out ++ pieceI b x) else out
def textB (b : Int) (l : List Int) : Bs := textF b l []
def longB (b : Int) (l : List Int) (n : Int) : Bs := beginL.getD (withinI n 0 2).toNat [] ++ (textB b l).take 160
def contB (n : Int) : Bs := longB 0 [withinI n 0 15, withinI n 0 15 / 2, withinI n 0 15 / 4] (withinI n 0 15 % 3)
def nameB (n : Int) : Bs := shaB (contB n)
theorem textF_take {b : Int} (l : List Int) : ∀ (out : Bs) (j : Nat), j < l.length → (∀ i, i ≤ j → (textF b (l.take i) out).length < 170) → textF b (l.take (j + 1)) out = textF b (l.take j) out ++ pieceI b (l.getD j 0) := by
 induction l with
 | nil => intro out j h; simp at h
 | cons x r ih =>
   intro out j h hs
   have h0 := hs 0 (Nat.zero_le _)
   simp only [List.take_zero, textF] at h0
   cases j with
   | zero => simp [textF, h0]
   | succ j =>
     simp only [List.take_succ_cons, textF, h0, if_true, List.getD_cons_succ]
     refine ih (out ++ pieceI b x) j (by simpa using h) (fun i hi => ?_)
     have := hs (i + 1) (by omega)
     simp only [List.take_succ_cons, textF, h0, if_true] at this
     exact this
theorem textF_stop {b : Int} (l : List Int) : ∀ (out : Bs) (j : Nat), j ≤ l.length → (∀ i, i < j → (textF b (l.take i) out).length < 170) → (j < l.length → 170 ≤ (textF b (l.take j) out).length) → textF b l out = textF b (l.take j) out := by
 induction l with
 | nil => intro out j h _ _; simp
 | cons x r ih =>
   intro out j h hs he
   cases j with
   | zero =>
     have := he (by simp)
     simp only [List.take_zero, textF] at this ⊢
     rw [if_neg (by omega)]
   | succ j =>
     have h0 := hs 0 (by omega)
     simp only [List.take_zero, textF] at h0
     simp only [List.take_succ_cons, textF, h0, if_true]
     refine ih (out ++ pieceI b x) j (by simpa using h) (fun i hi => ?_) (fun hj => ?_)
     · have := hs (i + 1) (by omega)
       simp only [List.take_succ_cons, textF, h0, if_true] at this
       exact this
     · have := he (by simp; omega)
       simp only [List.take_succ_cons, textF, h0, if_true] at this
       exact this
theorem pieceI_len (b x : Int) : (pieceI b x).length ≤ 26 := by
 unfold pieceI
 have : ∀ p ∈ piecesL, p.length ≤ 26 := by decide
 by_cases h : (withinI (IntKind.i64.wrap (x + bits .and .i64 b 1)) 0 7).toNat < piecesL.length
 · exact this _ (by simp [h])
 · simp [h]
theorem pieceI_noZ (b x : Int) : (90 : UInt8) ∉ pieceI b x := by
 unfold pieceI
 have : ∀ p ∈ piecesL, (90 : UInt8) ∉ p := by decide
 by_cases h : (withinI (IntKind.i64.wrap (x + bits .and .i64 b 1)) 0 7).toNat < piecesL.length
 · exact this _ (by simp [h])
 · simp [h]
theorem textF_ok (b : Int) (l : List Int) : ∀ out : Bs, out.length ≤ 195 → (90 : UInt8) ∉ out → (textF b l out).length ≤ 195 ∧ (90 : UInt8) ∉ textF b l out := by
 induction l with
 | nil => intro out h1 h2; exact ⟨h1, h2⟩
 | cons x r ih =>
   intro out h1 h2
   simp only [textF]
   split
   · refine ih _ ?_ ?_
     · rw [List.length_append]; have := pieceI_len b x; omega
     · rw [List.mem_append]; exact fun h => h.elim h2 (pieceI_noZ b x)
   · exact ⟨h1, h2⟩
theorem textB_len (b : Int) (l : List Int) : (textB b l).length ≤ 195 := (textF_ok b l [] (Nat.zero_le _) (by simp)).1
theorem longB_len (b : Int) (l : List Int) (n : Int) : (longB b l n).length ≤ 300 := by
 unfold longB
 have h1 : ∀ p ∈ beginL, p.length ≤ 90 := by decide
 have h2 : (beginL.getD (withinI n 0 2).toNat []).length ≤ 90 := by
  by_cases h : (withinI n 0 2).toNat < beginL.length
  · exact h1 _ (by simp [h])
  · simp [h]
 rw [List.length_append, List.length_take]; omega
theorem contB_len (n : Int) : (contB n).length ≤ 300 := longB_len _ _ _
end Go.Proofs.YtibccdcemcgkeaaGreat
end
section
set_option maxRecDepth 100000
namespace Go.Proofs.YtibccdcemcgkeaaGreat
theorem keep_words_sp : Sp Tryz.prog 73 [] [] (X := Nat) (fun b => .slice (some ⟨b, 0, none⟩) 6 6) (fun _ => True) (fun b => [Ce b 9 (wordsL.map vS)]) := by
 refine Sp.body (n := 2) Tryz.call73 Tryz.func73 rfl rfl rfl ?_
 refine Za (k:=Zr (k:=Vv (k:=Wq (Za (k:=Zr (k:=Zv [_, _, _, _, _, _] (cs := [_, _, _, _, _, _]) (k:=fun b1 => Vv (k:=Wq (Zt (k:=?_))))))))))
 exact fin_ret b1 (vs := [_]) (Cs := []) rfl (.tmp rfl .nil) rfl trivial (ent_step (ce_norm (by rfl) (by rfl)) ent_nil)
theorem keep_pick_sp {B : HP} {a : Option Addr} (c : Nat) (l : List Int) (i : Int) (hi : 0 ≤ i) (hl : l.length ≤ 9223372036854775807) (sh : SlA B a (l.map vI)) :
    Sp1 Tryz.prog 81 [.slice a l.length c, vI i] [B] (vI (pickI l i)) [B] := by
 haveI : RdSl a (l.map vI) [B] := ⟨⟨B, sh, .here⟩⟩
 refine Sp.body (n := 15) Tryz.call81 Tryz.func81 rfl rfl rfl ?_
 refine Za (k:=Zr (k:=Vv (k:=Wq (Za (k:=Za (k:=Zr (k:=Vv (k:=Vv (k:=Vv (k:=Wq (Zi (t:=fun h7 => ?_) (f:=fun h7 => ?_))))))))))))
 ·
  refine Za (k:=Zr (k:=Vv (k:=Wq (Zt (k:=Va ?_)))))
  rw [pickI, if_pos (by omega)]
  exact fin_ret () (vs := [_]) (Cs := []) rfl (.tmp rfl .nil) rfl trivial ent_pick
 ·
  refine Zk (k:=Ya (Za (k:=?_)))
  have hm1 := Int.emod_nonneg i (show (l.length : Int) ≠ 0 by omega)
  have hm2 := Int.emod_lt_of_pos i (show 0 < (l.length : Int) by omega)
  have hpk : pickI l i = l.getD (i % (l.length : Int)).toNat 0 := if_neg (by omega)
  rw [hpk]
  generalize hk : (i % (l.length : Int)).toNat = k
  have hik : i % (l.length : Int) = (k : Int) := by omega
  refine Zr (k:=Vv (k:=Vv (k:=Vv (k:=Vv (k:=Vv (k:=?_))))))
  rw [hik]
  refine Ye 1 (k:=?_)
  refine r_eload Tryz.underlying3 rfl rfl (get_mapD 0 (m := k) (by omega)) rfl ?_
  refine Vv (k:=Wq (Zt (k:=?_)))
  exact fin_ret () (vs := [_]) (Cs := []) rfl (.tmp rfl .nil) rfl trivial ent_pick
set_option maxHeartbeats 1000000 in
theorem keep_Text_sp {B : HP} {a : Option Addr} (c : Nat) (b : Int) (l : List Int) (hl : l.length ≤ 9223372036854775807) (sh : SlA B a (l.map vI)) :
    Sp1 Tryz.prog 28 [.agg #[vI b, .slice a l.length c]] [B] (vS (textB b l)) [B] := by
 haveI : RdSl a (l.map vI) [B] := ⟨⟨B, sh, .here⟩⟩
 refine Sp.body (n := 38) Tryz.call28 Tryz.func28 rfl rfl rfl ?_
 refine Za (k:=Zr (k:=Zx [_, _] (k:=fun b1 => Vv (k:=Wq (Za (k:=Zr (k:=Zv [_, _, _, _, _, _, _, _] (cs := [_, _, _, _, _, _, _, _]) (k:=fun b6 => Vv (k:=Wq (Za (k:=Zr (k:=?_))))))))))))
 refine Vv (k:=Wq (Za (k:=Za (k:=Zr (k:=Vv (k:=Wq (Zb (k:=?_))))))))
 refine p_loop (fun (i : { j : Nat // j ≤ l.length ∧ ∀ i, i < j → (textF b (l.take i) []).length < 170 }) => [(1, .pointer (some ⟨b1, 0, none⟩)), (3, .slice (some ⟨b6, 0, none⟩) 8 8), (4, vS (textF b (l.take i.1) [])), (5, vI i.1)]) (fun (i : { j : Nat // j ≤ l.length ∧ ∀ i, i < j → (textF b (l.take i) []).length < 170 }) => [Ce b6 9 (piecesL.map vS), Ce b1 39 [vI b, .slice a l.length c], B]) (fun (i : { j : Nat // j ≤ l.length ∧ ∀ i, i < j → (textF b (l.take i) []).length < 170 }) => l.length - i.1) rfl (⟨0, Nat.zero_le _, fun i h => by omega⟩) ?_ ?_ (fun i => ?_)
 · exact ⟨rfl, rfl, rfl, rfl, trivial⟩
 ·
  exact ent_step (ce_norm (by rfl) (by rfl)) ent_pick
 obtain ⟨j, hj, hs⟩ := i
 dsimp only
 have hz := (textF_ok b (l.take j) [] (Nat.zero_le _) (by simp)).1
 try dsimp only
 refine Za (k:=Za (k:=Zr (k:=Vv (k:=Vf 1 37 (k:=Zd (k:=Vv (k:=Vv (k:=Vv (k:=Gi 5 (t:=fun h12 => ?_) (f:=fun h12 => ?_))))))))))
 ·
  refine I1 (k:=Vv (k:=I1 (k:=Vv (k:=I1 (k:=Vv (k:=P1 (k:=Wq (Zi (t:=fun h16 => ?_) (f:=fun h16 => ?_)))))))))
  ·
   refine Zk (k:=Ya (Za (k:=Zb (k:=?_))))
   have hjl : j < l.length := by omega
   obtain ⟨out, hout⟩ : ∃ out, out = textF b (l.take j) [] := ⟨_, rfl⟩
   rw [← hout] at hz h16 ⊢
   have hst : textF b (l.take (j + 1)) [] = out ++ pieceI b (l.getD j 0) := by
    rw [hout]
    refine textF_take l [] j hjl (fun i hi => ?_)
    by_cases e : i = j
    · rw [e, ← hout]; omega
    · exact hs i (by omega)
   have hw := withinI_in (n := IntKind.i64.wrap (l.getD j 0 + bits .and .i64 b 1)) (show (0 : Int) ≤ 7 by omega)
   have hpl := pieceI_len b (l.getD j 0)
   have hpe : pieceI b (l.getD j 0) = piecesL.getD (withinI (IntKind.i64.wrap (l.getD j 0 + bits .and .i64 b 1)) 0 7).toNat [] := rfl
   generalize hk : (withinI (IntKind.i64.wrap (l.getD j 0 + bits .and .i64 b 1)) 0 7).toNat = k at hpe
   have hwk : withinI (IntKind.i64.wrap (l.getD j 0 + bits .and .i64 b 1)) 0 7 = (k : Int) := by omega
   have hpn : piecesL.length = 8 := rfl
   have hk8 : k < piecesL.length := by omega
   refine Dw [Ce b6 9 (piecesL.map vS), Ce b1 39 [vI b, .slice a l.length c], B] (k:=?_)
   refine Di 0 (t:=Uv) (k:=Di 1 (t:=Uv) (k:=Di 2 (t:=Uf 1 37) (k:=Di 3 (t:=Ul) (k:=Di 4 (t:=Uv) (k:=?_)))))
   refine d_first 5 rfl rfl rfl (by kernel_rfl) (by kernel_rfl) (tl_elemAddr (sz := 1) Tryz.underlying37 ti3 rfl rfl rfl rfl (by omega) (by first | (rw [List.length_map]; omega) | (rw [flat_len (sz := 1) (fun _ => rfl)]; omega) | (simp; omega)) (Nat.mul_one _)) ?_
   refine d_first 6 rfl rfl rfl (by kernel_rfl) (by kernel_rfl) (tl_eload Tryz.underlying3 rfl rfl (get_mapD 0 hjl)) ?_
   refine Di 7 (t:=Uf 0 3) (k:=Di 8 (t:=Ul) (k:=?_))
   refine d_first 9 rfl rfl rfl (by kernel_rfl) (by kernel_rfl) (tl_pv (pv_and rfl rfl)) ?_
   refine d_first 10 rfl rfl rfl (by kernel_rfl) (by kernel_rfl) (tl_pv (pv_addw rfl rfl)) ?_
   refine Di 11 (t:=Uv) (k:=Di 12 (t:=Uv) (k:=Di 13 (t:=Uv) (k:=Dn 14 (k:=?_))))
   refine an_callF (book_Within_sp _ 0 7 (by omega) (by omega) (by omega)) rfl rfl rfl ?_
   rw [hwk]
   refine d_first 15 rfl rfl rfl (by kernel_rfl) (by kernel_rfl) (tl_elemAddr (sz := 1) Tryz.underlying27 ti9 rfl rfl rfl rfl (by omega) (by first | (rw [List.length_map]; omega) | (rw [flat_len (sz := 1) (fun _ => rfl)]; omega) | (simp; omega)) (Nat.mul_one _)) ?_
   refine d_first 16 rfl rfl rfl (by kernel_rfl) (by kernel_rfl) (tl_eload Tryz.underlying9 rfl rfl (get_mapD [] hk8)) ?_
   refine d_first 17 rfl rfl rfl (by kernel_rfl) (by kernel_rfl) (tl_pv (pv_cat rfl rfl (by rw [← hpe]; omega))) ?_
   refine Di 18 (t:=Uv) (k:=Dd (k:=Yb (Ya (Zr (k:=Vv (k:=Vv (k:=Vv (k:=Wn ?_))))))))
   refine to_inv ⟨j + 1, by omega, fun i hi => ?_⟩ (by dsimp only; omega) ⟨rfl, rfl, vS_eq (by dsimp only; rw [hst, hpe]), rfl, trivial⟩ ent_pick
   by_cases e : i = j
   · rw [e, ← hout]; omega
   · exact hs i (by omega)
  ·
   refine Ze (k:=Xa (Xi (Xb (Ya (Za (k:=Zr (k:=Vv (k:=Vv (k:=Wq (Zt (k:=?_)))))))))))
   have he : textB b l = textF b (l.take j) [] := textF_stop l [] j hj hs (fun h => by omega)
   rw [he]
   exact fin_ret () (vs := [_]) (Cs := []) rfl (.tmp rfl .nil) rfl trivial ent_pick
 ·
  refine O0 (k:=O0 (k:=O0 (k:=P0 (k:=Wq (Z0 (k:=Ze (k:=Xa (Xi (Xb (Ya (Za (k:=?_))))))))))))
  refine Zr (k:=Vv (k:=Vv (k:=Wq (Zt (k:=?_)))))
  have he : textB b l = textF b (l.take j) [] := textF_stop l [] j hj hs (fun h => by omega)
  rw [he]
  exact fin_ret () (vs := [_]) (Cs := []) rfl (.tmp rfl .nil) rfl trivial ent_pick
theorem take_minl (t : Bs) (m : Nat) : t.take (min t.length m) = t.take m := by
 by_cases h : t.length ≤ m
 · rw [Nat.min_eq_left h, List.take_length, List.take_of_length_le h]
 · rw [Nat.min_eq_right (by omega)]
theorem keep_Long_sp {B : HP} {a : Option Addr} (c : Nat) (b : Int) (l : List Int) (n : Int) (hl : l.length ≤ 9223372036854775807) (sh : SlA B a (l.map vI)) :
    Sp1 Tryz.prog 43 [.agg #[vI b, .slice a l.length c], vI n] [B] (vS (longB b l n)) [B] := by
 have hT := keep_Text_sp c b l hl sh
 have hz := textB_len b l
 have hw := withinI_in (n := n) (show (0 : Int) ≤ 2 by omega)
 have hlb : longB b l n = beginL.getD (withinI n 0 2).toNat [] ++ (textB b l).take 160 := rfl
 have hbl : (beginL.getD (withinI n 0 2).toNat []).length ≤ 90 := by
  have h1 : ∀ p ∈ beginL, p.length ≤ 90 := by decide
  by_cases h : (withinI n 0 2).toNat < beginL.length
  · exact h1 _ (by simp [h])
  · simp [h]
 generalize hk : (withinI n 0 2).toNat = k at hlb hbl
 have hwk : withinI n 0 2 = (k : Int) := by omega
 have hbn : beginL.length = 3 := rfl
 have hk3 : k < beginL.length := by omega
 refine Sp.body (n := 21) Tryz.call43 Tryz.func43 rfl rfl rfl ?_
 refine Za (k:=Zr (k:=Zx [_, _] (k:=fun b2 => Vv (k:=Wq (Za (k:=Zr (k:=Zv [_, _, _] (cs := [_, _, _]) (k:=fun b7 => Vv (k:=Wq (Za (k:=Zr (k:=?_))))))))))))
 refine Zm [_, _] (k:=?_)
 refine r_call1 hT rfl rfl rfl ?_
 refine Vv (k:=Wq (Za (k:=?_)))
 refine wc_ent' (Gs := [Ce b7 9 (beginL.map vS), B]) (ent_step (ce_norm (by rfl) (by rfl)) ent_pick) ?_
 refine Dw [Ce b7 9 (beginL.map vS)] (k:=?_)
 refine Di 0 (t:=Uv) (k:=Di 1 (t:=Uv) (k:=Di 5 (t:=Uv) (k:=Di 6 (t:=Uv) (k:=Di 7 (t:=Uv) (k:=Di 8 (t:=Uv) (k:=?_))))))
 refine d_first 9 rfl rfl rfl (by kernel_rfl) (by kernel_rfl) (tl_pv (pv_slice_tom (m := min (textB b l).length 160) Tryz.underlying9 rfl rfl (by omega) (by omega))) ?_
 refine Dn 2 (k:=?_)
 refine an_callF (book_Within_sp n 0 2 (by omega) (by omega) (by omega)) rfl rfl rfl ?_
 rw [hwk]
 refine d_first 3 rfl rfl rfl (by kernel_rfl) (by kernel_rfl) (tl_elemAddr (sz := 1) Tryz.underlying27 ti9 rfl rfl rfl rfl (by omega) (by first | (rw [List.length_map]; omega) | (rw [flat_len (sz := 1) (fun _ => rfl)]; omega) | (simp; omega)) (Nat.mul_one _)) ?_
 refine d_first 4 rfl rfl rfl (by kernel_rfl) (by kernel_rfl) (tl_eload Tryz.underlying9 rfl rfl (get_mapD [] hk3)) ?_
 refine d_first 10 rfl rfl rfl (by kernel_rfl) (by kernel_rfl) (tl_pv (pv_cat rfl rfl (by rw [List.length_take]; omega))) ?_
 refine Di 11 (t:=Uv) (k:=Dd (k:=Ya (Zt (k:=?_))))
 rw [hlb, ← take_minl]
 exact fin_ret () (vs := [_]) (Cs := []) rfl (.tmp rfl .nil) rfl trivial ent_pick
theorem keep_Content_sp (n : Int) : SpF Tryz.prog 57 [vI n] (vS (contB n)) := by
 have hw := withinI_in (n := n) (show (0 : Int) ≤ 15 by omega)
 have hc : contB n = longB 0 [withinI n 0 15, withinI n 0 15 / 2, withinI n 0 15 / 4] (withinI n 0 15 % 3) := rfl
 rw [hc]
 refine Sp.body (n := 16) Tryz.call57 Tryz.func57 rfl rfl rfl ?_
 refine Za (k:=Zr (k:=Vv (k:=Wq (Za (k:=Zr (k:=Vv (k:=?_)))))))
 refine r_callF (book_Within_sp n 0 15 (by omega) (by omega) (by omega)) rfl rfl rfl ?_
 clear hc
 generalize withinI n 0 15 = k at hw ⊢
 refine Vv (k:=Wq (Za (k:=Zr (k:=Vv (k:=Vv (k:=Vv (k:=Vv (k:=Vv (k:=Zv [_, _, _] (cs := [_, _, _]) (k:=fun b11 => Vx (Ps [.int .i64 0, _]) (k:=Vv (k:=?_))))))))))))
 refine Vv (k:=?_)
 refine r_call1 (keep_Long_sp (B := Ce b11 3 [vI k, vI (k / 2), vI (k / 4)]) (a := some ⟨b11, 0, none⟩) 3 0 [k, k / 2, k / 4] (k % 3) (by simp) sla_ce) rfl rfl rfl ?_
 refine Vv (k:=Wq (Zt (k:=?_)))
 exact fin_ret () (vs := [_]) (Cs := []) rfl (.tmp rfl .nil) rfl trivial ent_nil
theorem keep_Name_sp (n : Int) : SpF Tryz.prog 31 [vI n] (vS (nameB n)) := by
 have hz := contB_len n
 refine Sp.body (n := 6) Tryz.call31 Tryz.func31 rfl rfl rfl ?_
 refine Za (k:=Zr (k:=Vv (k:=Wq (Za (k:=Zr (k:=Vv (k:=?_)))))))
 refine r_callF (keep_Content_sp n) rfl rfl rfl ?_
 refine r_callF (ref1_Sum_sp (contB n) (by omega)) rfl rfl rfl ?_
 refine Vv (k:=Wq (Zt (k:=?_)))
 exact fin_ret () (vs := [_]) (Cs := []) rfl (.tmp rfl .nil) rfl trivial ent_nil
end Go.Proofs.YtibccdcemcgkeaaGreat
end
section
namespace Go.Proofs.YtibccdcemcgkeaaGreat
def kindC : Bs := [43, 42, 45, 42]
def tvalL : List Bs := ["".toUTF8.data.toList, "trunk".toUTF8.data.toList, "b one".toUTF8.data.toList, "x".toUTF8.data.toList]
theorem isN_name (n : Int) : isN (nameB n) = true := decide_eq_true ⟨shaB_len _, shaB_mem _⟩
/-- Where a tag of the keeper's points to. -/
abbrev TgtOk (own : Bool) (t : Bs) : Prop := (own = true → t = [42]) ∧ (own = false → ∃ n, t = nameB n)
structure KTag (own : Bool) (t : Tg) : Prop where
 kind : t.kind.toNat = 43 ∨ t.kind.toNat = 42 ∨ (t.kind.toNat = 45 ∧ t.value = [])
 val : t.value.length ≤ 12
 tgt : TgtOk own t.target
structure KTags (own : Bool) (j : Nat) (l : List Tg) : Prop where
 len : l.length ≤ 3
 tag : ∀ t ∈ l, KTag own t
 name : ∀ t ∈ l, ∃ i, i < j ∧ t.name = wordsL.getD i []
 rise : l.Pairwise (fun x y => blt x.name y.name = true)
theorem words_rise : ∀ i j, i < j → j < 6 → blt (wordsL.getD i []) (wordsL.getD j []) = true := by
 have : ∀ i : Fin 6, ∀ j : Fin 6, i.1 < j.1 → blt (wordsL.getD i.1 []) (wordsL.getD j.1 []) = true := by decide
 exact fun i j h1 h2 => this ⟨i, by omega⟩ ⟨j, h2⟩ h1
theorem words_ok : ∀ i, i < 6 → wordP (wordsL.getD i []) ∧ (wordsL.getD i []).length ≤ 10 := by
 have : ∀ i : Fin 6, wordP (wordsL.getD i.1 []) ∧ (wordsL.getD i.1 []).length ≤ 10 := by decide
 exact fun i h => this ⟨i, h⟩
theorem KTags.snoc {own : Bool} {j : Nat} {l : List Tg} {t : Tg} (h : KTags own j l) (hj : j < 6) (hl : l.length ≤ 2) (hk : KTag own t) (hn : t.name = wordsL.getD j []) : KTags own (j + 1) (l ++ [t]) := by
 obtain ⟨h1, h2, h3, h4⟩ := h
 refine ⟨by simp; omega, ?_, ?_, ?_⟩
 · intro x hx
   rcases List.mem_append.1 hx with e | e
   · exact h2 x e
   · rw [List.mem_singleton.1 e]; exact hk
 · intro x hx
   rcases List.mem_append.1 hx with e | e
   · obtain ⟨i, hi, e2⟩ := h3 x e
     exact ⟨i, by omega, e2⟩
   · rw [List.mem_singleton.1 e]; exact ⟨j, by omega, hn⟩
 · rw [List.pairwise_append]
   refine ⟨h4, by simp, fun a ha b hb => ?_⟩
   rw [List.mem_singleton.1 hb, hn]
   obtain ⟨i, hi, e2⟩ := h3 a ha
   rw [e2]
   exact words_rise i j hi hj
theorem KTags.more {own : Bool} {j : Nat} {l : List Tg} (h : KTags own j l) : KTags own (j + 1) l := ⟨h.len, h.tag, fun t ht => by obtain ⟨i, hi, e⟩ := h.name t ht; exact ⟨i, by omega, e⟩, h.rise⟩
theorem blt_irr (a : Bs) : blt a a = false := by
 rw [blt_eq, decide_eq_false_iff_not]; exact List.lt_irrefl a
theorem KTags.right {own : Bool} {l : List Tg} (h : KTags own 6 l) : RightT own l := by
 refine ⟨fun i hi => ?_, by have := h.len; omega⟩
 have e : l.getD i tg0 = l[i] := by simp [hi]
 have hm : l[i] ∈ l := List.getElem_mem hi
 have hk := h.tag _ hm
 obtain ⟨w, hw, hn⟩ := h.name _ hm
 refine ⟨by rw [e]; exact hk.kind, by rw [e, hn]; exact (words_ok w hw).1, by rw [e]; exact hk.val, by rw [e]; exact ⟨hk.tgt.1, fun o => by obtain ⟨n, e⟩ := hk.tgt.2 o; rw [e]; exact isN_name n⟩, fun h0 => ?_⟩
 have e2 : l.getD (i - 1) tg0 = l[i - 1] := by simp [show i - 1 < l.length by omega]
 have hr := List.pairwise_iff_getElem.1 h.rise (i - 1) i (by omega) hi (by omega)
 rw [e, e2]
 exact ⟨.inl hr, fun e3 => by rw [e3, blt_irr] at hr; cases hr⟩
theorem KTags.z {own : Bool} {j : Nat} {l : List Tg} (h : KTags own j l) (hj : j ≤ 6) : TgZ l := ⟨by have := h.len; omega, fun t ht => by
 obtain ⟨w, hw, hn⟩ := h.name t ht
 have h1 := (words_ok w (by omega)).2
 have h2 := (h.tag t ht).val
 have h3 : t.target.length ≤ 40 := by
  cases own with
  | true => rw [(h.tag t ht).tgt.1 rfl]; simp
  | false => obtain ⟨n, e⟩ := (h.tag t ht).tgt.2 rfl; rw [e]; exact isN_40 (isN_name n)
 rw [hn]; omega⟩
theorem kindC_ok : ∀ m, m < 4 → (kindC.getD m 0).toNat = 43 ∨ (kindC.getD m 0).toNat = 42 ∨ (kindC.getD m 0).toNat = 45 := by
 have : ∀ m : Fin 4, (kindC.getD m.1 0).toNat = 43 ∨ (kindC.getD m.1 0).toNat = 42 ∨ (kindC.getD m.1 0).toNat = 45 := by decide
 exact fun m h => this ⟨m, h⟩
theorem tvalL_len : ∀ m, (tvalL.getD m []).length ≤ 12 := by
 have : ∀ p ∈ tvalL, p.length ≤ 12 := by decide
 intro m
 by_cases h : m < tvalL.length
 · exact this _ (by simp [h])
 · simp [h]
end Go.Proofs.YtibccdcemcgkeaaGreat
end
section
set_option maxRecDepth 100000
namespace Go.Proofs.YtibccdcemcgkeaaGreat
set_option maxHeartbeats 2000000 in
theorem keep_tagOps_sp {Bt Bv : HP} {ta va : Option Addr} (tc vc : Nat) (tags vals : List Int) (own : Bool) (ht : tags.length ≤ 9223372036854775807) (hv : vals.length ≤ 9223372036854775807) (sht : SlA Bt ta (tags.map vI)) (shv : SlA Bv va (vals.map vI)) :
    Sp Tryz.prog 74 [.slice ta tags.length tc, .slice va vals.length vc, vB own] [Bt, Bv] (X := (Option Addr × Nat) × List Tg) tagV (fun x => KTags own 6 x.2) (fun x => [tagH x, Bt, Bv]) := by
 haveI : RdSl ta (tags.map vI) [Bt, Bv] := ⟨⟨Bt, sht, .here⟩⟩
 refine Sp.body (n := 64) Tryz.call74 Tryz.func74 rfl rfl rfl ?_
 refine Za (k:=Zr (k:=Vv (k:=Wq (Za (k:=Zr (k:=Vv (k:=Wq (Za (k:=Za (k:=Zr (k:=?_)))))))))))
 refine r_callX keep_words_sp rfl rfl rfl (fun x12 _ => ?_)
 refine Vv (k:=Vv (k:=Wq (Zb (k:=?_))))
 refine p_loop (fun (i : { x : ((Option Addr × Nat) × List Tg) × Nat // x.2 ≤ 6 ∧ KTags own x.2 x.1.2 }) => [(0, .slice ta tags.length tc), (1, .slice va vals.length vc), (2, vB own), (7, .slice i.1.1.1.1 (i.1.1.2).length i.1.1.1.2), (12, .slice (some ⟨x12, 0, none⟩) 6 6), (13, vI 6), (14, vI i.1.2)]) (fun (i : { x : ((Option Addr × Nat) × List Tg) × Nat // x.2 ≤ 6 ∧ KTags own x.2 x.1.2 }) => [Row 66 4 (.slice i.1.1.1.1 (i.1.1.2).length i.1.1.1.2) (i.1.1.2).length ((i.1.1.2).flatMap tgCells), Ce x12 9 (wordsL.map vS), Bt, Bv]) (fun (i : { x : ((Option Addr × Nat) × List Tg) × Nat // x.2 ≤ 6 ∧ KTags own x.2 x.1.2 }) => 6 - i.1.2) rfl (⟨(((none, 0), []), 0), Nat.zero_le _, ⟨Nat.zero_le _, (fun _ h => by cases h), (fun _ h => by cases h), .nil⟩⟩) ?_ ?_ (fun i => ?_)
 · exact ⟨rfl, rfl, rfl, rfl, rfl, rfl, rfl, trivial⟩
 ·
  exact (row_nil (e := 66) (sz := 4)).trans (show Ent _ [Row 66 4 (.slice none 0 0) 0 [], Ce x12 9 (wordsL.map vS), Bt, Bv] from ent_pick)
 obtain ⟨⟨⟨⟨oa, oc⟩, out⟩, j⟩, hj, hK⟩ := i
 dsimp only at hj hK ⊢
 have hol := hK.len
 try dsimp only
 refine Za (k:=Zr (k:=Vv (k:=Wq (Za (k:=Zi (t:=fun h15 => ?_) (f:=fun h15 => ?_))))))
 ·
  refine Zk (k:=Ya (Za (k:=Zb (k:=Za (k:=?_)))))
  have hj6 : j < 6 := by omega
  have hwl : wordsL.length = 6 := rfl
  obtain ⟨w, hw⟩ : ∃ w, w = wordsL.getD j [] := ⟨_, rfl⟩
  have hwz := (words_ok j hj6).2
  rw [← hw] at hwz
  refine Zr (k:=Vv (k:=Ye 1 (k:=?_)))
  refine r_eload Tryz.underlying9 rfl rfl (get_mapD [] (m := j) (by omega)) rfl ?_
  rw [← hw]
  refine Vv (k:=Vv (k:=Wq (Za (k:=Zr (k:=Vv (k:=Wq ?_))))))
  refine p_cut (fun (i : { n : Int // 0 ≤ n ∧ n ≤ 7 }) => [(0, .slice ta tags.length tc), (1, .slice va vals.length vc), (2, vB own), (7, .slice oa (out).length oc), (8, vI j), (9, vS w), (10, vI i.1), (12, .slice (some ⟨x12, 0, none⟩) 6 6), (13, vI 6), (14, vI j)]) (fun (i : { n : Int // 0 ≤ n ∧ n ≤ 7 }) => [Row 66 4 (.slice oa (out).length oc) (out).length ((out).flatMap tgCells), Ce x12 9 (wordsL.map vS), Bt, Bv]) rfl (fun i => ?_) ?_
  ·
   obtain ⟨n, hn0, hn7⟩ := i
   dsimp only
   try dsimp only
   refine Za (k:=Za (k:=Zr (k:=Vv (k:=Vv (k:=Vv (k:=Gi 2 (t:=fun h30 => ?_) (f:=fun h30 => ?_)))))))
   ·
    refine O1 (k:=O1 (k:=O1 (k:=P1 (k:=Wq (Z1 (k:=Ze (k:=Xa (Xb (Ya (Zr (k:=Vv (k:=?_))))))))))))
    refine Vv (k:=Wn ?_)
    first
    | exact to_inv ⟨(((oa, oc), out), j + 1), by dsimp only; omega, hK.more⟩ (by dsimp only; omega) ⟨rfl, rfl, rfl, rfl, rfl, rfl, rfl, trivial⟩ ent_pick
    | (have hsn := hK.snoc (t := ⟨kd, w, tg, tv⟩) hj6 (by omega) ⟨by dsimp only; rcases hkd with h | h | h; exact .inl h; exact .inr (.inl h); exact .inr (.inr ⟨h, htv2 h⟩), htv1, htg⟩ hw
       have hql2 : (out ++ [(⟨kd, w, tg, tv⟩ : Tg)]).length = out.length + 1 := by simp
       refine to_inv ⟨(((a61, c61), out ++ [⟨kd, w, tg, tv⟩]), j + 1), by dsimp only; omega, hsn⟩ (by dsimp only; omega) ⟨rfl, rfl, rfl, sl_eq hql2.symm, rfl, rfl, rfl, trivial⟩ ?_
       dsimp only
       rw [hql2]
       exact ent_step (row_norm (by rfl) (by rw [fm_snoc]; rfl)) ent_pick)
   ·
    refine I0 (k:=Vv (k:=I0 (k:=Vv (k:=I0 (k:=Vv (k:=P0 (k:=Wq (Zi (t:=fun h34 => ?_) (f:=fun h34 => ?_)))))))))
    ·
     refine Ze (k:=Xa (Xb (Ya (Zr (k:=Vv (k:=Vv (k:=Wn ?_)))))))
     first
     | exact to_inv ⟨(((oa, oc), out), j + 1), by dsimp only; omega, hK.more⟩ (by dsimp only; omega) ⟨rfl, rfl, rfl, rfl, rfl, rfl, rfl, trivial⟩ ent_pick
     | (have hsn := hK.snoc (t := ⟨kd, w, tg, tv⟩) hj6 (by omega) ⟨by dsimp only; rcases hkd with h | h | h; exact .inl h; exact .inr (.inl h); exact .inr (.inr ⟨h, htv2 h⟩), htv1, htg⟩ hw
        have hql2 : (out ++ [(⟨kd, w, tg, tv⟩ : Tg)]).length = out.length + 1 := by simp
        refine to_inv ⟨(((a61, c61), out ++ [⟨kd, w, tg, tv⟩]), j + 1), by dsimp only; omega, hsn⟩ (by dsimp only; omega) ⟨rfl, rfl, rfl, sl_eq hql2.symm, rfl, rfl, rfl, trivial⟩ ?_
        dsimp only
        rw [hql2]
        exact ent_step (row_norm (by rfl) (by rw [fm_snoc]; rfl)) ent_pick)
    ·
     refine Zk (k:=Ya (Za (k:=?_)))
     obtain ⟨m, hm⟩ : ∃ m : Nat, n = 4 + (m : Int) := ⟨(n - 4).toNat, by omega⟩
     have hm4 : m < 4 := by omega
     have hkd := kindC_ok m hm4
     refine Zr (k:=Vv (k:=Vv (k:=?_)))
     refine wo_pv (pv_indexm (m := m) Tryz.underlying9 rfl rfl (by omega) (show m < 4 from hm4)) rfl ?_
     change wo _ _ _ _ _ ((37, vU ((kindC.getD m 0).toNat : Int)) :: _) _ _
     generalize kindC.getD m 0 = kd at hkd ⊢
     refine Vv (k:=Vx (Ps [_, _, _, vS []]) (k:=Zc [.int .u8 0, vS [], vS [], vS []] (k:=fun b11 => Zp (k:=Wq ?_))))
     refine p_cut (fun (tg : { tg : Bs // TgtOk own tg }) => [(0, .slice ta tags.length tc), (1, .slice va vals.length vc), (2, vB own), (7, .slice oa (out).length oc), (8, vI j), (9, vS w), (11, .pointer (some ⟨b11, 0, none⟩)), (12, .slice (some ⟨x12, 0, none⟩) 6 6), (13, vI 6), (14, vI j)]) (fun (tg : { tg : Bs // TgtOk own tg }) => [Ce b11 66 [vU (kd.toNat : Int), vS w, vS tg.1, vS []], Row 66 4 (.slice oa (out).length oc) (out).length ((out).flatMap tgCells), Ce x12 9 (wordsL.map vS), Bt, Bv]) rfl (fun tg => ?_) ?_
     ·
      obtain ⟨tg, htg⟩ := tg
      dsimp only
      try dsimp only
      refine p_cut (fun (tv : { tv : Bs // tv.length ≤ 12 ∧ (kd.toNat = 45 → tv = []) }) => [(0, .slice ta tags.length tc), (1, .slice va vals.length vc), (2, vB own), (7, .slice oa (out).length oc), (8, vI j), (9, vS w), (11, .pointer (some ⟨b11, 0, none⟩)), (12, .slice (some ⟨x12, 0, none⟩) 6 6), (13, vI 6), (14, vI j)]) (fun (tv : { tv : Bs // tv.length ≤ 12 ∧ (kd.toNat = 45 → tv = []) }) => [Ce b11 66 [vU (kd.toNat : Int), vS w, vS tg, vS tv.1], Row 66 4 (.slice oa (out).length oc) (out).length ((out).flatMap tgCells), Ce x12 9 (wordsL.map vS), Bt, Bv]) rfl (fun tv => ?_) ?_
      ·
       obtain ⟨tv, htv1, htv2⟩ := tv
       dsimp only
       try dsimp only
       refine Zr (k:=Vv (k:=Zm [_, _, _, _] (k:=Zv [_] (cs := [_, _, _, _]) (k:=fun b60 => ?_))))
       refine r_append1 (sz := 4) (bytes := 56) Tryz.underlying28 ti66 rfl rfl rfl rfl rfl rfl rfl (by rfl) (by rfl) (by omega) (by simp only [maxLen]; omega) rfl (fun a61 c61 => ?_)
       refine Vv (k:=Wn (Yb (Ya (Zr (k:=Vv (k:=Vv (k:=Wn ?_)))))))
       first
       | exact to_inv ⟨(((oa, oc), out), j + 1), by dsimp only; omega, hK.more⟩ (by dsimp only; omega) ⟨rfl, rfl, rfl, rfl, rfl, rfl, rfl, trivial⟩ ent_pick
       | (have hsn := hK.snoc (t := ⟨kd, w, tg, tv⟩) hj6 (by omega) ⟨by dsimp only; rcases hkd with h | h | h; exact .inl h; exact .inr (.inl h); exact .inr (.inr ⟨h, htv2 h⟩), htv1, htg⟩ hw
          have hql2 : (out ++ [(⟨kd, w, tg, tv⟩ : Tg)]).length = out.length + 1 := by simp
          refine to_inv ⟨(((a61, c61), out ++ [⟨kd, w, tg, tv⟩]), j + 1), by dsimp only; omega, hsn⟩ (by dsimp only; omega) ⟨rfl, rfl, rfl, sl_eq hql2.symm, rfl, rfl, rfl, trivial⟩ ?_
          dsimp only
          rw [hql2]
          exact ent_step (row_norm (by rfl) (by rw [fm_snoc]; rfl)) ent_pick)
      ·
       refine Za (k:=Zr (k:=Vf 0 5 (k:=Zd (k:=Vv (k:=Wq (Zi (t:=fun h49 => ?_) (f:=fun h49 => ?_)))))))
       ·
        refine Zr (k:=Zv [_, _, _, _] (cs := [_, _, _, _]) (k:=fun b50 => ?_))
        refine wo_ent' (Gs := [Ce b50 9 (tvalL.map vS), Ce b11 66 [vU (kd.toNat : Int), vS w, vS tg, vS []], Row 66 4 (.slice oa (out).length oc) (out).length ((out).flatMap tgCells), Ce x12 9 (wordsL.map vS), Bt, Bv]) (ent_step (ce_norm (by rfl) (by rfl)) ent_pick) ?_
        refine Vv (k:=Vv (k:=?_))
        refine r_call1 (keep_pick_sp vc vals j (by omega) hv shv) rfl rfl rfl ?_
        refine r_callF (book_Within_sp (pickI vals j) 0 3 (by omega) (by omega) (by omega)) rfl rfl rfl ?_
        have hwi := withinI_in (n := pickI vals j) (show (0 : Int) ≤ 3 by omega)
        obtain ⟨v, hv4⟩ : ∃ v : Nat, withinI (pickI vals j) 0 3 = (v : Int) := ⟨(withinI (pickI vals j) 0 3).toNat, by omega⟩
        have hvl : tvalL.length = 4 := rfl
        rw [hv4]
        refine Ye 1 (k:=?_)
        refine r_eload Tryz.underlying9 rfl rfl (get_mapD [] (m := v) (by omega)) rfl ?_
        refine Vf 3 9 (k:=Zo (k:=Wn ?_))
        first
        | exact to_inv ⟨tvalL.getD v [], tvalL_len v, fun h => by omega⟩ trivial ⟨rfl, rfl, rfl, rfl, rfl, rfl, rfl, rfl, rfl, rfl, trivial⟩ ent_pick
        | exact to_inv ⟨[], Nat.zero_le _, fun h => rfl⟩ trivial ⟨rfl, rfl, rfl, rfl, rfl, rfl, rfl, rfl, rfl, rfl, trivial⟩ ent_pick
       ·
        refine Zk (k:=?_)
        first
        | exact to_inv ⟨tvalL.getD v [], tvalL_len v, fun h => by omega⟩ trivial ⟨rfl, rfl, rfl, rfl, rfl, rfl, rfl, rfl, rfl, rfl, trivial⟩ ent_pick
        | exact to_inv ⟨[], Nat.zero_le _, fun h => rfl⟩ trivial ⟨rfl, rfl, rfl, rfl, rfl, rfl, rfl, rfl, rfl, rfl, trivial⟩ ent_pick
     ·
      refine Za (k:=Zr (k:=Vv (k:=Vv (k:=Wq (Zi (t:=fun h41 => ?_) (f:=fun h41 => ?_))))))
      ·
       refine Zr (k:=Vv (k:=Vv (k:=?_)))
       refine r_call1 (keep_pick_sp vc vals j (by omega) hv shv) rfl rfl rfl ?_
       refine r_callF (keep_Name_sp _) rfl rfl rfl ?_
       refine Vf 2 9 (k:=Zo (k:=Wn ?_))
       first
       | (have ho : own = false := by simpa using h41
          have htg : TgtOk own (nameB (pickI vals j)) := ⟨(fun h => by rw [ho] at h; cases h), fun _ => ⟨_, rfl⟩⟩
          exact to_inv ⟨nameB (pickI vals j), htg⟩ trivial ⟨rfl, rfl, rfl, rfl, rfl, rfl, rfl, rfl, rfl, rfl, trivial⟩ ent_pick)
       | (have ho : own = true := by simpa using h41
          have htg : TgtOk own [42] := ⟨fun _ => rfl, (fun h => by rw [ho] at h; cases h)⟩
          exact to_inv ⟨[42], htg⟩ trivial ⟨rfl, rfl, rfl, rfl, rfl, rfl, rfl, rfl, rfl, rfl, trivial⟩ ent_pick)
      ·
       refine Zk (k:=?_)
       first
       | (have ho : own = false := by simpa using h41
          have htg : TgtOk own (nameB (pickI vals j)) := ⟨(fun h => by rw [ho] at h; cases h), fun _ => ⟨_, rfl⟩⟩
          exact to_inv ⟨nameB (pickI vals j), htg⟩ trivial ⟨rfl, rfl, rfl, rfl, rfl, rfl, rfl, rfl, rfl, rfl, trivial⟩ ent_pick)
       | (have ho : own = true := by simpa using h41
          have htg : TgtOk own [42] := ⟨fun _ => rfl, (fun h => by rw [ho] at h; cases h)⟩
          exact to_inv ⟨[42], htg⟩ trivial ⟨rfl, rfl, rfl, rfl, rfl, rfl, rfl, rfl, rfl, rfl, trivial⟩ ent_pick)
  ·
   refine Za (k:=Zr (k:=Vv (k:=Vv (k:=Vv (k:=Vv (k:=Wq (Zi (t:=fun h22 => ?_) (f:=fun h22 => ?_))))))))
   ·
    refine Zr (k:=Vv (k:=Vv (k:=Ye 1 (k:=?_))))
    refine r_eload Tryz.underlying3 rfl rfl (get_mapD 0 (m := j) (by omega)) rfl ?_
    refine r_callF (book_Within_sp (tags.getD j 0) 0 7 (by omega) (by omega) (by omega)) rfl rfl rfl ?_
    have hwi := withinI_in (n := tags.getD j 0) (show (0 : Int) ≤ 7 by omega)
    refine Vv (k:=Wn ?_)
    first
    | exact to_inv ⟨withinI (tags.getD j 0) 0 7, hwi⟩ trivial ⟨rfl, rfl, rfl, rfl, rfl, rfl, rfl, rfl, rfl, rfl, trivial⟩ ent_pick
    | exact to_inv ⟨0, by omega, by omega⟩ trivial ⟨rfl, rfl, rfl, rfl, rfl, rfl, rfl, rfl, rfl, rfl, trivial⟩ ent_pick
   ·
    refine Zk (k:=?_)
    first
    | exact to_inv ⟨withinI (tags.getD j 0) 0 7, hwi⟩ trivial ⟨rfl, rfl, rfl, rfl, rfl, rfl, rfl, rfl, rfl, rfl, trivial⟩ ent_pick
    | exact to_inv ⟨0, by omega, by omega⟩ trivial ⟨rfl, rfl, rfl, rfl, rfl, rfl, rfl, rfl, rfl, rfl, trivial⟩ ent_pick
 ·
  refine Ze (k:=Xa (Xi (Xb (Ya (Za (k:=Zr (k:=Vv (k:=Vv (k:=Wq (Zt (k:=?_)))))))))))
  have hj6 : j = 6 := by omega
  subst hj6
  exact fin_ret ((oa, oc), out) (vs := [_]) (Cs := []) rfl (.tmp rfl .nil) rfl hK ent_pick
end Go.Proofs.YtibccdcemcgkeaaGreat
end
