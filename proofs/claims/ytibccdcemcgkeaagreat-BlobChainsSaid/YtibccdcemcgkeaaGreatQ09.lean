/- Texts of this proof, put together: SJour, SJour2, SJour3, SStore0, PDig. -/
import Derived.Laws.BitsLemmas
import Derived.Test.YtibccdcemcgkeaaGreatQ08
set_option linter.unusedVariables false
set_option linter.unusedSimpArgs false
namespace Go.Proofs.YtibccdcemcgkeaaGreat
section
set_option maxRecDepth 100000
theorem journal_Pieces_sp (s : List UInt8) (h : s.length ≤ 4398046511104) : Sp Tryz.prog 139 [vS s] [] (X := Option Addr × Nat) (fun x => .slice x.1 (piecesS s).length x.2) (fun _ => True) (fun x => [Row 9 1 (.slice x.1 (piecesS s).length x.2) (piecesS s).length ((piecesS s).map vS)]) := by
 refine Sp.body (n := 20) Tryz.call139 Tryz.func139 rfl rfl rfl ?_
 refine Qc (k:=Vv (k:=Wq (Qc (k:=Vv (k:=Wq (Za (k:=Zb (k:=?_))))))))
 refine p_loop (fun (i : { p : (Option Addr × Nat) × List (List UInt8) × List UInt8 // p.2.1 ++ piecesS p.2.2 = piecesS s ∧ p.2.1.length + p.2.2.length ≤ s.length }) => [(0, vS i.1.2.2), (3, .slice i.1.1.1 i.1.2.1.length i.1.1.2)]) (fun (i : { p : (Option Addr × Nat) × List (List UInt8) × List UInt8 // p.2.1 ++ piecesS p.2.2 = piecesS s ∧ p.2.1.length + p.2.2.length ≤ s.length }) => [Row 9 1 (.slice i.1.1.1 i.1.2.1.length i.1.1.2) i.1.2.1.length (i.1.2.1.map vS)]) (fun (i : { p : (Option Addr × Nat) × List (List UInt8) × List UInt8 // p.2.1 ++ piecesS p.2.2 = piecesS s ∧ p.2.1.length + p.2.2.length ≤ s.length }) => i.1.2.2.length) rfl (⟨((none, 0), [], s), rfl, by simp⟩) ?_ ?_ (fun i => ?_)
 · exact ⟨rfl, rfl, trivial⟩
 ·
  exact row_nil
 obtain ⟨⟨⟨a, c⟩, dn, rs⟩, hi, hl⟩ := i
 dsimp only at hi hl
 try dsimp only
 refine Za (k:=Qc (k:=Qv (k:=Vv (k:=Wq (Zi (t:=fun h6 => ?_) (f:=fun h6 => ?_))))))
 ·
  refine Zk (k:=Ya (Zb (k:=Qc (k:=Qv (k:=?_)))))
  refine wo_pv (pv_slice_tom (m := 30) Tryz.underlying9 rfl rfl rfl (by omega)) rfl ?_
  refine r_callF (journal_piece_sp (rs.take 30) (by simp; omega) 1) rfl rfl rfl ?_
  refine Zv [_] (cs := [_]) (k:=fun b11 => ?_)
  refine r_append1 (sz := 1) (bytes := 16) Tryz.underlying27 ti9 rfl rfl rfl rfl rfl rfl rfl (by rfl) (by rfl) (by omega) (by simp only [maxLen]; omega) rfl (fun a12 c12 => ?_)
  refine Vv (k:=Wq (Zr (k:=Vv (k:=?_))))
  refine wo_pv (pv_slice_fromm (m := 30) Tryz.underlying9 rfl rfl rfl (by omega)) rfl ?_
  refine Vv (k:=Wn (Yb ?_))
  refine to_inv ⟨((a12, c12), dn ++ [pieceS (rs.take 30) 1], rs.drop 30), ?_, ?_⟩ ?_ ⟨rfl, sl_eq (by simp), trivial⟩ ?_
  · rw [← hi, piecesS_more (s := rs) (by omega)]; simp
  · simp; omega
  · simp; omega
  · simp only [List.map_append, List.length_append, List.length_singleton, List.map_cons, List.map_nil]
    exact ent_pick
 ·
  refine Ze (k:=Xa (Xi (Xb (Ya (Qc (k:=Qv (k:=?_)))))))
  refine r_callF (journal_piece_sp rs (by omega) 2) rfl rfl rfl ?_
  refine Zv [_] (cs := [_]) (k:=fun b18 => ?_)
  refine r_append1 (sz := 1) (bytes := 16) Tryz.underlying27 ti9 rfl rfl rfl rfl rfl rfl rfl (by rfl) (by rfl) (by omega) (by simp only [maxLen]; omega) rfl (fun a19 c19 => ?_)
  refine Vv (k:=Wq (Zt (k:=?_)))
  have hp : piecesS s = dn ++ [pieceS rs 2] := by rw [← hi, piecesS_last (by omega)]
  refine fin_ret (a19, c19) (vs := [_]) (Cs := []) rfl (.tmp rfl .nil) ?_ trivial ?_
  · simp [pack, hp]
  · simp only [hp, List.map_append, List.length_append, List.length_singleton, List.map_cons, List.map_nil]
    exact ent_pick
theorem disk_All_sp (p : Nat) (D : Dk) : Sp Tryz.prog 132 [.pointer (some ⟨p, 0, none⟩)] [IsD p D] (X := Nat × Option Addr × Nat) (fun x => .func (.func 202) #[] #[.pointer (some ⟨x.1, 0, none⟩)]) (fun _ => True)
    (fun x => [IsD p D, Ce x.1 27 [.slice x.2.1 D.secs.length x.2.2], SlI x.2.1 (D.secs.map vS)]) := by
 refine Sp.body (n := 9) Tryz.call132 Tryz.func132 rfl rfl rfl ?_
 refine wc_exi fun a => wc_exi fun c => wc_al (wc_pu fun ok => ?_)
 have hm := ok.many
 refine wc_know (A := Row 9 1 (.slice a D.secs.length c) D.secs.length (D.secs.map vS)) (.there .here) row_none (fun hnone => ?_)
 refine Qc (k:=Vv (k:=Wq (Qc (k:=Qv (k:=Qx 0 27 (k:=?_))))))
 refine r_callX (slices_Clone_sp D.secs.length c D.secs (sla_row (e := 9) (sz := 1) (k := D.secs.length) (n := D.secs.length) (c := c)) rfl hnone (by omega)) rfl rfl rfl (fun x7 _ => ?_)
 obtain ⟨a7, c7⟩ := x7
 dsimp only
 refine wo_frz a7 ?_
 refine r_callX (slices_All_sp a7 D.secs.length c7) rfl rfl rfl (fun b8 _ => ?_)
 refine Vv (k:=Wq (Zt (k:=?_)))
 refine fin_ret (b8, a7, c7) (vs := [_]) (Cs := []) rfl (.tmp rfl .nil) rfl trivial ?_
 refine ent_step (fold_isD D ok (by rfl) (by exact ⟨rfl, rfl⟩) (by exact ⟨_, _, rfl⟩) (by rfl) (by rfl) (by rfl) (by rfl) (by rfl) (by rfl)) ?_
 exact ent_pick
/-- A journal in memory. -/
def IsJ (q p : Nat) (J : Jn) : HP := Ex fun a : Option Addr => Ex fun c : Nat => Al [Ce q 191 [.pointer (some ⟨p, 0, none⟩), .slice a J.l.length c, vI J.e, vB J.down], Row 9 1 (.slice a J.l.length c) J.l.length (J.l.map vS)]
theorem fold_isJ {q p : Nat} (J : Jn) {v0 v1 v2 v3 : Value} {n e sz T : Nat} {xs : List Value} {Hs R1 Rs : List HP} [h1 : OwnC q T [v0, v1, v2, v3] Hs R1] [h2 : RowC v1 e sz n xs R1 Rs] (hT : T = 191) (he : e = 9 ∧ sz = 1)
    (h0 : v0 = .pointer (some ⟨p, 0, none⟩)) (hs : ∃ a c, v1 = .slice a J.l.length c) (e2 : v2 = vI J.e) (e3 : v3 = vB J.down) (hn : n = J.l.length) (hx : xs = J.l.map vS) : Ent Hs (IsJ q p J :: Rs) := by
 obtain ⟨a, c, rfl⟩ := hs
 obtain ⟨rfl, rfl⟩ := he
 subst hT; subst h0; subst e2; subst e3; subst hn; subst hx
 refine ent_ex a ?_
 refine ent_ex c (ent_al ?_)
 exact ent_step (ent_pick1 h1.get) (ent_pick1 h2.get)
end
section
set_option maxRecDepth 100000
/-- On the way through a disk's sectors. -/
def OpenI (p j b3 b4 : Nat) (D : Dk) (fin : Bool) (k : Nat) : HP :=
 Ex fun a : Option Addr => Ex fun c : Nat => Ex fun t : Bs => Ex fun l : List Bs => Ex fun e : Nat => Al [Pu ((if fin = true then (l, e) = scanD D else scanS (D.secs.drop k) k t l e = scanD D) ∧ t.length ≤ 30 * k ∧ l.length ≤ e ∧ e ≤ k),
  Ce b3 146 [.pointer (some ⟨j, 0, none⟩)], Ce b4 9 [vS t], Ce j 191 [.pointer (some ⟨p, 0, none⟩), .slice a l.length c, vI e, vB false], Row 9 1 (.slice a l.length c) l.length (l.map vS)]
theorem fold_OpenI {p j b3 b4 : Nat} {D : Dk} {fin : Bool} {k : Nat} (t : Bs) (l : List Bs) (e : Nat) (h : (if fin = true then (l, e) = scanD D else scanS (D.secs.drop k) k t l e = scanD D) ∧ t.length ≤ 30 * k ∧ l.length ≤ e ∧ e ≤ k)
    {T3 T4 T er sz n : Nat} {u3 u4 w0 w1 w2 w3 : Value} {xs : List Value} {Hs R1 R2 R3 Rs : List HP} [q3 : OwnC b3 T3 [u3] Hs R1] [q4 : OwnC b4 T4 [u4] R1 R2] [qj : OwnC j T [w0, w1, w2, w3] R2 R3] [qr : RowC w1 er sz n xs R3 Rs]
    (hT : T3 = 146 ∧ T4 = 9 ∧ T = 191 ∧ er = 9 ∧ sz = 1) (e3 : u3 = .pointer (some ⟨j, 0, none⟩)) (e4 : u4 = vS t) (f0 : w0 = .pointer (some ⟨p, 0, none⟩)) (f1 : ∃ a c, w1 = .slice a l.length c) (f2 : w2 = vI e) (f3 : w3 = vB false) (hn : n = l.length) (hx : xs = l.map vS) :
    Ent Hs (OpenI p j b3 b4 D fin k :: Rs) := by
 obtain ⟨a, c, rfl⟩ := f1
 obtain ⟨rfl, rfl, rfl, rfl, rfl⟩ := hT
 subst e3; subst e4; subst f0; subst f2; subst f3; subst hn; subst hx
 refine ent_ex a ?_
 refine ent_ex c ?_
 refine ent_ex t ?_
 refine ent_ex l ?_
 refine ent_ex e ?_
 refine ent_al (ent_pu h ?_)
 exact ent_step (ent_pick1 q3.get) (ent_step (ent_pick1 q4.get) (ent_step (ent_pick1 qj.get) (ent_pick1 qr.get)))
theorem openI_more {p j b3 b4 : Nat} {D : Dk} {fin fin' : Bool} {k k' : Nat} {Hs : List HP} (h : ∀ t l e, (if fin = true then (l, e) = scanD D else scanS (D.secs.drop k) k t l e = scanD D) → (if fin' = true then (l, e) = scanD D else scanS (D.secs.drop k') k' t l e = scanD D)) (hk : k ≤ k') : Ent (OpenI p j b3 b4 D fin k :: Hs) (OpenI p j b3 b4 D fin' k' :: Hs) := by
 refine ent_left fun a => ent_left fun c => ent_left fun t => ent_left fun l => ent_left fun e => ent_leftAl (ent_leftPu fun hq => ?_)
 exact fold_OpenI t l e ⟨h t l e hq.1, by omega, hq.2.2.1, by omega⟩ (by exact ⟨rfl, rfl, rfl, rfl, rfl⟩) (by rfl) (by rfl) (by rfl) (by exact ⟨a, c, rfl⟩) (by rfl) (by rfl) (by rfl) (by rfl)
theorem ok_len {p : Nat} {D : Dk} {M : Kn} {h : Res} (x : (IsD p D).at_ M h) : D.Ok := by
 obtain ⟨a, c, h1, h2, d, e, x1, _⟩ := x
 exact x1
theorem byte_eq (x : UInt8) (n : Nat) (hn : n < 256) : ((x.toNat : Int) = (n : Int)) ↔ x = UInt8.ofNat n := by
 constructor
 · intro h
   have h2 : x.toNat = n := by omega
   rw [← h2]; simp
 · intro h
   subst h
   simp [Nat.mod_eq_of_lt hn]
theorem zb86ret {G : Prop} (h : G := by
    refine fin_ret b11 (vs := [_]) (Cs := []) rfl (.tmp rfl .nil) rfl trivial ?_
    have h1 : l = (openJ D).l := congrArg Prod.fst hq.1
    have h2 : e = (openJ D).e := congrArg Prod.snd hq.1
    exact ent_step (fold_isJ (openJ D) (by rfl) (by exact ⟨rfl, rfl⟩) (by rfl) (by exact ⟨a, c, by rw [h1]⟩) (by rw [h2]) (by rfl) (by rw [h1]) (by rw [h1])) ent_pick) : G := h
theorem journal_Open_sp (p : Nat) (D : Dk) : Sp Tryz.prog 86 [.pointer (some ⟨p, 0, none⟩)] [IsD p D] (X := Nat) (fun q => .pointer (some ⟨q, 0, none⟩)) (fun _ => True) (fun q => [IsJ q p (openJ D), IsD p D]) := by
 refine Sp.body (n := 50) Tryz.call86 Tryz.func86 rfl rfl rfl ?_
 refine wc_know (A := IsD p D) .here ok_len (fun ok => ?_)
 have hm := ok.many
 refine Qc (k:=Vv (k:=Wq (Zs (k:=Qc (k:=Vv (k:=Vx (Ps [_, .slice none 0 0, .int .i64 0, .bool false]) (k:=Zx [_, _, _, _] (k:=fun b11 => Zc [.pointer none] (k:=fun b3 => Zo (k:=?_))))))))))
 refine Wq (Qc (k:=Zc [vS []] (k:=fun b4 => Zo (k:=Wq (Za (k:=Zl (k:=Ya (Za (k:=Qc (k:=?_))))))))))
 refine Vv (k:=?_)
 refine r_callX (disk_All_sp p D) rfl rfl rfl (fun x13 hx13 => ?_)
 refine Wq (Zb (k:=?_))
 refine p_rangeFunc (fun pre => [IsD p D, OpenI p b11 b3 b4 D false pre.length]) (fun j pre => match j with | some 0 => [IsD p D, OpenI p b11 b3 b4 D true pre.length] | _ => [Pu False]) rfl (slices_All_it (B := SlI x13.2.1 (D.secs.map vS)) D.secs.length x13.2.2 x13.1 D.secs sla_sli rfl (by omega)) rfl (fun _ => by rfl) rfl ?_ (fun l pre i hok => ?_) ?_ (fun j pre hs => ?_)
 · (refine ent_app ?_; refine ent_cons ?_; refine Ent.trans (row_nil (e := 9) (sz := 1)) ?_; refine ent_step (fold_OpenI [] [] 0 ⟨(by rfl), (by simp), (by simp), (by simp)⟩ (by exact ⟨rfl, rfl, rfl, rfl, rfl⟩) (by rfl) (by rfl) (by rfl) (by exact ⟨none, 0, rfl⟩) (by rfl) (by rfl) (by rfl) (by rfl)) ?_; exact ent_pick)
 ·
  obtain ⟨hi, hlt⟩ := hok
  have hs32 : (D.secs.getD i []).length = 32 := by
   have e : D.secs.getD i [] = D.secs[i] := by simp [hlt]
   rw [e]; exact ok.secs _ (List.getElem_mem _)
  refine wc_front (OpenI p b11 b3 b4 D false pre.length) (wc_exi fun a => wc_exi fun c => wc_exi fun t => wc_exi fun l => wc_exi fun e => wc_al (wc_pu fun hq => ?_))
  rw [if_neg (by simp), ← hi] at hq
  obtain ⟨hsc, htl, hle, hei⟩ := hq
  have hst := scanS_step hlt t l e
  rw [hsc] at hst
  refine Qc (k:=Vv (k:=Wq (Zr (k:=Vv (k:=Wg (Zb (k:=Za (k:=Dw [] (k:=?_)))))))))
  refine Dv 0 (k:=?_)
  refine d_first 1 rfl rfl rfl (by kernel_rfl) (by kernel_rfl) (tl_pv (pv_indexm (m := 0) Tryz.underlying9 rfl rfl rfl (by omega))) ?_
  refine d_first 2 rfl rfl rfl (by kernel_rfl) (by kernel_rfl) (tl_pv (pv_conv_in rfl Tryz.underlying5 Tryz.underlying3 (by first | exact wrap_byte _ | exact wrap_u8 _ | exact i64_in' (by omega)))) ?_
  refine Dv 3 (k:=?_)
  refine d_first 4 rfl rfl rfl (by kernel_rfl) (by kernel_rfl) (tl_pv (pv_indexm (m := 31) Tryz.underlying9 rfl rfl rfl (by omega))) ?_
  refine Dv 5 (k:=Dv 6 (k:=Dd (k:=Ya (Za (k:=Qc (k:=Qv (k:=Wq (Zi (t:=fun h22 => ?_) (f:=fun h22 => ?_)))))))))
  ·
   refine Ze (k:=Xa (Xo (k:=?_)))
   refine to_round_exit 0 ?_
   have hfin : (l, e) = scanD D := by
    rw [hst]
    by_cases hh : 30 < ((D.secs.getD i []).getD 0 0).toNat
    · rw [if_pos hh]
    · first
      | (exfalso; omega)
      | rw [if_neg hh, if_neg (show ¬ ((D.secs.getD i []).getD 31 0 = 1) from fun h => h30 ((byte_eq _ 1 (by omega)).2 h)), if_neg (show ¬ ((D.secs.getD i []).getD 31 0 = 2) from fun h => h32 ((byte_eq _ 2 (by omega)).2 h))]
   show Ent _ [IsD p D, OpenI p b11 b3 b4 D true (pre ++ [i]).length]
   rw [List.length_append, List.length_singleton, ← hi]
   first
   | exact ent_cons (ent_step (fold_OpenI t l e ⟨by rw [if_pos rfl]; exact hfin, by omega, hle, by omega⟩ (by exact ⟨rfl, rfl, rfl, rfl, rfl⟩) (by rfl) (by rfl) (by rfl) (by exact ⟨_, _, rfl⟩) (by rfl) (by rfl) (by rfl) (by rfl)) ent_nil)
   | exact ent_cons (ent_step (fold_OpenI (t ++ ((D.secs.getD i []).drop 1).take ((D.secs.getD i []).getD 0 0).toNat) l e ⟨by rw [if_pos rfl]; exact hfin, by simp only [List.length_append, List.length_take]; omega, hle, by omega⟩ (by exact ⟨rfl, rfl, rfl, rfl, rfl⟩) (by rfl) (by rfl) (by rfl) (by exact ⟨_, _, rfl⟩) (by rfl) (by rfl) (by rfl) (by rfl)) ent_nil)
  ·
   refine Zk (k:=Ya (Za (k:=Dw [] (k:=?_))))
   refine Dv 1 (k:=Dv 2 (k:=Dv 3 (k:=?_)))
   refine d_first 4 rfl rfl rfl (by kernel_rfl) (by kernel_rfl) (tl_pv (pv_slice_inm (m := 1) (o := 1 + ((D.secs.getD i []).getD 0 0).toNat) Tryz.underlying9 rfl rfl rfl rfl (by omega) (by omega) (by omega))) ?_
   refine Dn 0 (k:=?_)
   refine an_load Tryz.underlying9 rfl rfl rfl rfl ?_
   refine Dv 5 (k:=Dn 6 (k:=No (k:=Dd (k:=?_))))
   rw [Nat.add_sub_cancel_left]
   refine Ya (Qc (k:=Vv (k:=Wq (Zb (k:=Qc (k:=Qv (k:=Wq (Zi (t:=fun h30 => ?_) (f:=fun h30 => ?_)))))))))
   ·
    refine Zk (k:=Yb (Yb ?_))
    refine to_round ?_
    rw [List.length_append, List.length_singleton, ← hi]
    rw [if_neg (by omega)] at hst
    first
    | (rw [if_pos (show (D.secs.getD i []).getD 31 0 = 1 from (byte_eq _ 1 (by omega)).1 h30)] at hst
       exact ent_cons (ent_step (fold_OpenI (t ++ ((D.secs.getD i []).drop 1).take ((D.secs.getD i []).getD 0 0).toNat) l e ⟨by rw [if_neg (by simp)]; exact hst.symm, by simp only [List.length_append, List.length_take]; omega, hle, by omega⟩ (by exact ⟨rfl, rfl, rfl, rfl, rfl⟩) (by rfl) (by rfl) (by rfl) (by exact ⟨_, _, rfl⟩) (by rfl) (by rfl) (by rfl) (by rfl)) ent_nil))
    | (rw [if_neg (show ¬ ((D.secs.getD i []).getD 31 0 = 1) from fun h => h30 ((byte_eq _ 1 (by omega)).2 h)), if_pos (show (D.secs.getD i []).getD 31 0 = 2 from (byte_eq _ 2 (by omega)).1 h32)] at hst
       exact ent_cons (ent_step (fold_OpenI [] (l ++ [t ++ ((D.secs.getD i []).drop 1).take ((D.secs.getD i []).getD 0 0).toNat]) (i + 1) ⟨by rw [if_neg (by simp)]; exact hst.symm, by simp, by simp only [List.length_append, List.length_singleton]; omega, by omega⟩ (by exact ⟨rfl, rfl, rfl, rfl, rfl⟩) (by rfl) (by rfl) (by rfl) (by exact ⟨_, _, by rw [List.length_append, List.length_singleton]⟩) (by rw [show ((i + 1 : Nat) : Int) = (i : Int) + 1 from by omega]) (by rfl) (by rw [List.length_append, List.length_singleton]) (by rw [List.map_append]; rfl)) ent_nil))
   ·
    refine Qc (k:=Qv (k:=Wq (Zi (t:=fun h32 => ?_) (f:=fun h32 => ?_))))
    ·
     refine Za (k:=Dw [Ce b3 146 [.pointer (some ⟨b11, 0, none⟩)], Ce b4 9 [vS (t ++ ((D.secs.getD i []).drop 1).take ((D.secs.getD i []).getD 0 0).toNat)]] (k:=?_))
     refine Di 0 (t:=Ul) (k:=Di 1 (t:=Ul) (k:=Dv 2 (k:=Di 3 (t:=Uf 1 27) (k:=Di 5 (t:=Ul) (k:=?_)))))
     refine d_next2 4 6 (by kernel_rfl) rfl rfl ?_ ?_
     ·
      refine an_load Tryz.underlying27 rfl rfl rfl rfl ?_
      refine Dn 6 (k:=Nl [_] (cs := [_]) (k:=fun b40 => Dn 7 (k:=?_)))
      refine an_append1 (sz := 1) (bytes := 16) Tryz.underlying27 ti9 rfl rfl rfl rfl rfl rfl rfl (by rfl) (by rfl) (by omega) (by simp only [maxLen]; omega) rfl (fun a41 c41 => ?_)
      refine Dv 8 (k:=Di 9 (t:=Uf 1 27) (k:=Dn 10 (k:=No (k:=Dd (k:=Ya (Dw [Ce b3 146 [.pointer (some ⟨b11, 0, none⟩)]] (k:=?_)))))))
      refine Di 0 (t:=Ul) (k:=Dv 1 (k:=Dv 2 (k:=Dn 3 (k:=No (k:=Dv 4 (k:=Di 5 (t:=Uf 2 3) (k:=Dn 6 (k:=No (k:=Dd (k:=Yb (Yb ?_)))))))))))
      refine to_round ?_
      rw [List.length_append, List.length_singleton, ← hi]
      rw [if_neg (by omega)] at hst
      first
      | (rw [if_pos (show (D.secs.getD i []).getD 31 0 = 1 from (byte_eq _ 1 (by omega)).1 h30)] at hst
         exact ent_cons (ent_step (fold_OpenI (t ++ ((D.secs.getD i []).drop 1).take ((D.secs.getD i []).getD 0 0).toNat) l e ⟨by rw [if_neg (by simp)]; exact hst.symm, by simp only [List.length_append, List.length_take]; omega, hle, by omega⟩ (by exact ⟨rfl, rfl, rfl, rfl, rfl⟩) (by rfl) (by rfl) (by rfl) (by exact ⟨_, _, rfl⟩) (by rfl) (by rfl) (by rfl) (by rfl)) ent_nil))
      | (rw [if_neg (show ¬ ((D.secs.getD i []).getD 31 0 = 1) from fun h => h30 ((byte_eq _ 1 (by omega)).2 h)), if_pos (show (D.secs.getD i []).getD 31 0 = 2 from (byte_eq _ 2 (by omega)).1 h32)] at hst
         exact ent_cons (ent_step (fold_OpenI [] (l ++ [t ++ ((D.secs.getD i []).drop 1).take ((D.secs.getD i []).getD 0 0).toNat]) (i + 1) ⟨by rw [if_neg (by simp)]; exact hst.symm, by simp, by simp only [List.length_append, List.length_singleton]; omega, by omega⟩ (by exact ⟨rfl, rfl, rfl, rfl, rfl⟩) (by rfl) (by rfl) (by rfl) (by exact ⟨_, _, by rw [List.length_append, List.length_singleton]⟩) (by rw [show ((i + 1 : Nat) : Int) = (i : Int) + 1 from by omega]) (by rfl) (by rw [List.length_append, List.length_singleton]) (by rw [List.map_append]; rfl)) ent_nil))
     ·
      refine Nl [_] (cs := [_]) (k:=fun b40 => Dn 4 (k:=?_))
      refine an_load Tryz.underlying27 rfl rfl rfl rfl ?_
      refine Dn 7 (k:=?_)
      refine an_append1 (sz := 1) (bytes := 16) Tryz.underlying27 ti9 rfl rfl rfl rfl rfl rfl rfl (by rfl) (by rfl) (by omega) (by simp only [maxLen]; omega) rfl (fun a41 c41 => ?_)
      refine Dv 8 (k:=Di 9 (t:=Uf 1 27) (k:=Dn 10 (k:=No (k:=Dd (k:=Ya (Dw [Ce b3 146 [.pointer (some ⟨b11, 0, none⟩)]] (k:=?_)))))))
      refine Di 0 (t:=Ul) (k:=Dv 1 (k:=Dv 2 (k:=Dn 3 (k:=No (k:=Dv 4 (k:=Di 5 (t:=Uf 2 3) (k:=Dn 6 (k:=No (k:=Dd (k:=Yb (Yb ?_)))))))))))
      refine to_round ?_
      rw [List.length_append, List.length_singleton, ← hi]
      rw [if_neg (by omega)] at hst
      first
      | (rw [if_pos (show (D.secs.getD i []).getD 31 0 = 1 from (byte_eq _ 1 (by omega)).1 h30)] at hst
         exact ent_cons (ent_step (fold_OpenI (t ++ ((D.secs.getD i []).drop 1).take ((D.secs.getD i []).getD 0 0).toNat) l e ⟨by rw [if_neg (by simp)]; exact hst.symm, by simp only [List.length_append, List.length_take]; omega, hle, by omega⟩ (by exact ⟨rfl, rfl, rfl, rfl, rfl⟩) (by rfl) (by rfl) (by rfl) (by exact ⟨_, _, rfl⟩) (by rfl) (by rfl) (by rfl) (by rfl)) ent_nil))
      | (rw [if_neg (show ¬ ((D.secs.getD i []).getD 31 0 = 1) from fun h => h30 ((byte_eq _ 1 (by omega)).2 h)), if_pos (show (D.secs.getD i []).getD 31 0 = 2 from (byte_eq _ 2 (by omega)).1 h32)] at hst
         exact ent_cons (ent_step (fold_OpenI [] (l ++ [t ++ ((D.secs.getD i []).drop 1).take ((D.secs.getD i []).getD 0 0).toNat]) (i + 1) ⟨by rw [if_neg (by simp)]; exact hst.symm, by simp, by simp only [List.length_append, List.length_singleton]; omega, by omega⟩ (by exact ⟨rfl, rfl, rfl, rfl, rfl⟩) (by rfl) (by rfl) (by rfl) (by exact ⟨_, _, by rw [List.length_append, List.length_singleton]⟩) (by rw [show ((i + 1 : Nat) : Int) = (i : Int) + 1 from by omega]) (by rfl) (by rw [List.length_append, List.length_singleton]) (by rw [List.map_append]; rfl)) ent_nil))
    ·
     refine Ze (k:=Xo (k:=Xo (k:=?_)))
     refine to_round_exit 0 ?_
     have hfin : (l, e) = scanD D := by
      rw [hst]
      by_cases hh : 30 < ((D.secs.getD i []).getD 0 0).toNat
      · rw [if_pos hh]
      · first
        | (exfalso; omega)
        | rw [if_neg hh, if_neg (show ¬ ((D.secs.getD i []).getD 31 0 = 1) from fun h => h30 ((byte_eq _ 1 (by omega)).2 h)), if_neg (show ¬ ((D.secs.getD i []).getD 31 0 = 2) from fun h => h32 ((byte_eq _ 2 (by omega)).2 h))]
     show Ent _ [IsD p D, OpenI p b11 b3 b4 D true (pre ++ [i]).length]
     rw [List.length_append, List.length_singleton, ← hi]
     first
     | exact ent_cons (ent_step (fold_OpenI t l e ⟨by rw [if_pos rfl]; exact hfin, by omega, hle, by omega⟩ (by exact ⟨rfl, rfl, rfl, rfl, rfl⟩) (by rfl) (by rfl) (by rfl) (by exact ⟨_, _, rfl⟩) (by rfl) (by rfl) (by rfl) (by rfl)) ent_nil)
     | exact ent_cons (ent_step (fold_OpenI (t ++ ((D.secs.getD i []).drop 1).take ((D.secs.getD i []).getD 0 0).toNat) l e ⟨by rw [if_pos rfl]; exact hfin, by simp only [List.length_append, List.length_take]; omega, hle, by omega⟩ (by exact ⟨rfl, rfl, rfl, rfl, rfl⟩) (by rfl) (by rfl) (by rfl) (by exact ⟨_, _, rfl⟩) (by rfl) (by rfl) (by rfl) (by rfl)) ent_nil)
 ·
  rw [List.length_range]
  refine tw_ent (Gs := [OpenI p b11 b3 b4 D false D.secs.length, IsD p D]) ent_pick ?_
  refine tw_ent (openI_more (fin' := true) (fun t l e h => by rw [if_neg (by simp), List.drop_length, scanS] at h; rw [if_pos rfl]; exact h) (Nat.le_refl _)) ?_
  refine Yb (Ya (Za (k:=?_)))
  refine wc_front (OpenI p b11 b3 b4 D true D.secs.length) (wc_exi fun a => wc_exi fun c => wc_exi fun t => wc_exi fun l => wc_exi fun e => wc_al (wc_pu fun hq => ?_))
  rw [if_pos rfl] at hq
  refine Zr (k:=Zd (k:=Vv (k:=Wq (Zt (k:=Vs ?_)))))
  exact zb86ret
 ·
  obtain ⟨m, _, hm2, rfl⟩ := hs
  rcases j with _ | _ | j
  · exact wc_no (fun s => by obtain ⟨_, _, _, _, a, _⟩ := s; exact a)
  · rw [List.length_range]
    refine wc_ent0 (Gs := [OpenI p b11 b3 b4 D true m, IsD p D]) (show Ent ([IsD p D, OpenI p b11 b3 b4 D true m] ++ _) _ from ent_pick) ?_
    refine wc_ent0 (openI_more (fin' := true) (k' := D.secs.length) (fun t l e h => h) hm2) ?_
    refine Ze (k:=Xb (Ya (Za (k:=?_))))
    refine wc_front (OpenI p b11 b3 b4 D true D.secs.length) (wc_exi fun a => wc_exi fun c => wc_exi fun t => wc_exi fun l => wc_exi fun e => wc_al (wc_pu fun hq => ?_))
    rw [if_pos rfl] at hq
    refine Zr (k:=Zd (k:=Vv (k:=Wq (Zt (k:=Vs ?_)))))
    exact zb86ret
  · exact wc_no (fun s => by obtain ⟨_, _, _, _, a, _⟩ := s; exact a)
end
section
set_option maxRecDepth 100000
theorem journal_All_sp (q p : Nat) (J : Jn) (hb : J.l.length ≤ 8796093022208) : Sp Tryz.prog 87 [.pointer (some ⟨q, 0, none⟩)] [IsJ q p J] (X := Nat × Option Addr × Nat) (fun x => .func (.func 181) #[] #[.pointer (some ⟨x.1, 0, none⟩)]) (fun _ => True)
    (fun x => [IsJ q p J, Ce x.1 27 [.slice x.2.1 J.l.length x.2.2], SlI x.2.1 (J.l.map vS)]) := by
 refine Sp.body (n := 9) Tryz.call87 Tryz.func87 rfl rfl rfl ?_
 refine wc_exi fun a => wc_exi fun c => wc_al ?_
 refine wc_know (A := Row 9 1 (.slice a J.l.length c) J.l.length (J.l.map vS)) (.there .here) row_none (fun hnone => ?_)
 refine Qc (k:=Vv (k:=Wq (Qc (k:=Qv (k:=Qx 1 27 (k:=?_))))))
 refine r_callX (slices_Clone_sp J.l.length c J.l (sla_row (e := 9) (sz := 1) (k := J.l.length) (n := J.l.length) (c := c)) rfl hnone (by omega)) rfl rfl rfl (fun x7 _ => ?_)
 obtain ⟨a7, c7⟩ := x7
 dsimp only
 refine wo_frz a7 ?_
 refine r_callX (slices_Values_sp a7 J.l.length c7) rfl rfl rfl (fun b8 _ => ?_)
 refine Vv (k:=Wq (Zt (k:=?_)))
 refine fin_ret (b8, a7, c7) (vs := [_]) (Cs := []) rfl (.tmp rfl .nil) rfl trivial ?_
 refine ent_step (fold_isJ J (by rfl) (by exact ⟨rfl, rfl⟩) (by rfl) (by exact ⟨_, _, rfl⟩) (by rfl) (by rfl) (by rfl) (by rfl)) ?_
 exact ent_pick
theorem writes_snoc : ∀ (ps : List Bs) (D : Dk) (i : Nat) (p : Bs), (D.writes i ps).2 = true → D.writes i (ps ++ [p]) = (D.writes i ps).1.write (((i + ps.length : Nat)) : Int) p := by
 intro ps
 induction ps with
 | nil =>
   intro D i p _
   simp only [List.nil_append, Dk.writes, List.length_nil, Nat.add_zero]
   split <;> simp_all [Dk.writes]
 | cons x r ih =>
   intro D i p h
   simp only [List.cons_append, Dk.writes] at h ⊢
   split at h
   · rename_i D' e
     rw [ih D' (i + 1) p h, List.length_cons]
     congr 2; omega
   · cases h
theorem write_left (D : Dk) (i : Int) (s : Bs) : (D.write i s).1.secs.length = D.secs.length ∧ D.left - 1 ≤ (D.write i s).1.left ∧ (D.write i s).1.left ≤ D.left := by
 simp only [Dk.write]
 split
 · dsimp only; omega
 · split
   · simp only [List.length_set, true_and]; omega
   · simp only [List.length_set, true_and]; omega
theorem writes_left : ∀ (ps : List Bs) (D : Dk) (i : Nat), (D.writes i ps).1.secs.length = D.secs.length ∧ D.left - ps.length ≤ (D.writes i ps).1.left ∧ (D.writes i ps).1.left ≤ D.left := by
 intro ps
 induction ps with
 | nil => intro D i; simp [Dk.writes]
 | cons x r ih =>
   intro D i
   have h1 := write_left D i x
   simp only [Dk.writes, List.length_cons]
   split
   · rename_i D' e
     rw [e] at h1
     have h2 := ih D' (i + 1)
     dsimp only at h1
     omega
   · rename_i D' e
     rw [e] at h1
     dsimp only at h1 ⊢
     omega
theorem writes_more : ∀ (ps rs : List Bs) (D : Dk) (i : Nat), (D.writes i ps).2 = false → D.writes i (ps ++ rs) = D.writes i ps := by
 intro ps
 induction ps with
 | nil => intro rs D i h; simp [Dk.writes] at h
 | cons x r ih =>
   intro rs D i h
   simp only [List.cons_append, Dk.writes] at h ⊢
   split at h
   · rename_i D' e
     rw [ih rs D' (i + 1) h]
   · rfl
theorem writes_take {ps : List Bs} {D : Dk} {e j : Nat} (hj : j < ps.length) (h : (D.writes e (ps.take j)).2 = true) : D.writes e (ps.take (j + 1)) = (D.writes e (ps.take j)).1.write ((e : Int) + (j : Int)) ps[j] := by
 rw [List.take_succ_eq_append_getElem hj, writes_snoc _ _ _ _ h, List.length_take, Nat.min_eq_left (by omega)]
 congr 1
theorem writes_fail {ps : List Bs} {D : Dk} {e j : Nat} (h : (D.writes e (ps.take j)).2 = false) : D.writes e ps = D.writes e (ps.take j) := by
 have := writes_more (ps.take j) (ps.drop j) D e h
 rw [List.take_append_drop] at this
 exact this
theorem zb93ret14 {G : Prop} (h : G := by
    have hjl : j = ps.length := by omega
    subst hjl
    rw [List.take_length] at hw hD
    have hcm : commitJ J D s = (⟨J.l ++ [s], J.e + ps.length, false⟩, D', 0) := by
     rw [commitJ, if_neg (by rw [h11]; simp), if_neg (by rw [hps]; exact h26), hps, ← hD]
     revert hw
     cases D.writes J.e ps with
     | mk x y => intro hy; dsimp only at hy; subst hy; rfl
    rw [hcm]
    refine fin_ret () (vs := [_]) (Cs := []) rfl (.tmp rfl .nil) rfl trivial ?_
    exact ent_step (fold_isJ ⟨J.l ++ [s], J.e + ps.length, false⟩ (by rfl) (by exact ⟨rfl, rfl⟩) (by rfl) (by exact ⟨_, _, by rw [List.length_append, List.length_singleton]⟩) (by rw [show ((J.e + ps.length : Nat) : Int) = (J.e : Int) + (ps.length : Int) from by omega]) (by rw [h11]) (by rw [List.length_append, List.length_singleton]) (by rw [List.map_append]; rfl)) ent_pick) : G := h
theorem journal_Commit_sp (q p : Nat) (J : Jn) (D : Dk) (s : List UInt8) (hs : s.length ≤ 4398046511104) (hl : -1152921504606846976 ≤ D.left ∧ D.left ≤ 9223372036854775807) (he : J.e ≤ 1099511627776) (hjl : J.l.length ≤ 1099511627776) :
    Sp1 Tryz.prog 93 [.pointer (some ⟨q, 0, none⟩), vS s] [IsJ q p J, IsD p D] (vI (commitJ J D s).2.2) [IsJ q p (commitJ J D s).1, IsD p (commitJ J D s).2.1] := by
 refine Sp.body (n := 71) Tryz.call93 Tryz.func93 rfl rfl rfl ?_
 refine wc_know (A := IsD p D) (.there .here) ok_len (fun ok => ?_)
 have hm := ok.many
 have hpl := piecesS_len s
 refine wc_exi fun a => wc_exi fun c => wc_al ?_
 refine Qc (k:=Vv (k:=Wq (Za (k:=Qc (k:=Qv (k:=Qx 3 4 (k:=Wq ?_)))))))
 refine Zi (t:=fun h11 => ?_) (f:=fun h11 => ?_)
 ·
  refine Qc (k:=Vv (k:=Wq (Zt (k:=Va ?_))))
  have hw : commitJ J D s = (J, D, 9) := by rw [commitJ, if_pos h11]
  rw [hw]
  refine fin_ret () (vs := [_]) (Cs := []) rfl (.tmp rfl .nil) rfl trivial ?_
  exact ent_step (fold_isJ J (by rfl) (by exact ⟨rfl, rfl⟩) (by rfl) (by exact ⟨_, _, rfl⟩) (by rfl) (by rfl) (by rfl) (by rfl)) ent_pick
 ·
  refine Zk (k:=Ya (Qc (k:=Vv (k:=?_))))
  refine r_callX (journal_Pieces_sp s hs) rfl rfl rfl (fun x13 _ => ?_)
  obtain ⟨a13, c13⟩ := x13
  dsimp only
  refine wo_frz a13 ?_
  generalize hps : piecesS s = ps at *
  refine Vv (k:=Wq (Za (k:=Za (k:=Dw [Ce q 191 [.pointer (some ⟨p, 0, none⟩), .slice a J.l.length c, vI J.e, vB J.down]] (k:=?_)))))
  refine Dv 0 (k:=Dv 1 (k:=Dv 2 (k:=Dv 3 (k:=Di 4 (t:=Uf 0 70) (k:=Di 5 (t:=Ul) (k:=Dv 7 (k:=Dv 8 (k:=Di 9 (t:=Uf 2 3) (k:=Di 10 (t:=Ul) (k:=Dn 6 (k:=?_)))))))))))
  refine an_call1 (disk_Sectors_sp p D) rfl rfl rfl ?_
  refine Dv 11 (k:=Dv 12 (k:=Dd (k:=Ya (Zi (t:=fun h26 => ?_) (f:=fun h26 => ?_)))))
  ·
   refine Qc (k:=Vv (k:=Wq (Zt (k:=Va ?_))))
   have hw : commitJ J D s = (J, D, 6) := by rw [commitJ, if_neg (by rw [h11]; simp), if_pos (by rw [hps]; exact h26)]
   rw [hw]
   refine fin_ret () (vs := [_]) (Cs := []) rfl (.tmp rfl .nil) rfl trivial ?_
   exact ent_step (fold_isJ J (by rfl) (by exact ⟨rfl, rfl⟩) (by rfl) (by exact ⟨_, _, rfl⟩) (by rfl) (by rfl) (by rfl) (by rfl)) ent_pick
  ·
   refine Zk (k:=Ya (Za (k:=Qc (k:=Qv (k:=Vv (k:=Wq (Zb (k:=?_))))))))
   refine p_loop (fun (i : { j : Nat // j ≤ ps.length ∧ (D.writes J.e (ps.take j)).2 = true }) => [(0, .pointer (some ⟨q, 0, none⟩)), (1, vS s), (5, .slice a13 ps.length c13), (27, .slice a13 ps.length c13), (28, vI ps.length), (29, vI i.1)]) (fun (i : { j : Nat // j ≤ ps.length ∧ (D.writes J.e (ps.take j)).2 = true }) => [Ce q 191 [.pointer (some ⟨p, 0, none⟩), .slice a J.l.length c, vI J.e, vB J.down], Row 9 1 (.slice a J.l.length c) J.l.length (J.l.map vS), IsD p (D.writes J.e (ps.take i.1)).1, SlI a13 (ps.map vS)]) (fun (i : { j : Nat // j ≤ ps.length ∧ (D.writes J.e (ps.take j)).2 = true }) => ps.length - i.1) rfl (⟨0, Nat.zero_le _, rfl⟩) ?_ ?_ (fun i => ?_)
   · exact ⟨rfl, rfl, rfl, rfl, rfl, rfl, trivial⟩
   ·
    show Ent _ [Ce q 191 [.pointer (some ⟨p, 0, none⟩), .slice a J.l.length c, vI J.e, vB J.down], Row 9 1 (.slice a J.l.length c) J.l.length (J.l.map vS), IsD p D, SlI a13 (ps.map vS)]
    exact ent_pick
   obtain ⟨j, hj, hw⟩ := i
   have hwl := writes_left (ps.take j) D J.e
   rw [List.length_take] at hwl
   generalize hD : (D.writes J.e (ps.take j)).1 = D' at *
   try dsimp only
   refine Qc (k:=Vv (k:=Wq (Za (k:=Zi (t:=fun h30 => ?_) (f:=fun h30 => ?_)))))
   ·
    refine Zk (k:=Ya (Za (k:=Zb (k:=Qc (k:=Vv (k:=Ye 1 (k:=Ym (k:=Qv (k:=Wq ?_)))))))))
    refine Za (k:=Dw [Ce q 191 [.pointer (some ⟨p, 0, none⟩), .slice a J.l.length c, vI J.e, vB J.down]] (k:=?_))
    refine Dv 0 (k:=Dv 1 (k:=Di 2 (t:=Uf 0 70) (k:=Di 3 (t:=Ul) (k:=Dv 4 (k:=Dv 5 (k:=Di 6 (t:=Uf 2 3) (k:=Di 7 (t:=Ul) (k:=Dv 8 (k:=Dv 9 (k:=Dv 10 (k:=Dn 11 (k:=?_))))))))))))
    refine an_call1 (disk_Write_sp p D' ((J.e : Int) + (j : Int)) (ps[j]'(by omega)) (by rw [piecesS_mem (s := s) (p := ps[j]'(by omega)) (by rw [hps]; exact List.getElem_mem _)]; omega) (by omega)) rfl rfl rfl ?_
    refine Dv 12 (k:=Dd (k:=?_))
    have hwt := writes_take (ps := ps) (D := D) (e := J.e) (j := j) (by omega) hw
    rw [hD] at hwt
    refine Ya (Zi (t:=fun h46 => ?_) (f:=fun h46 => ?_))
    ·
     refine Qc (k:=Qv (k:=Vf 3 4 (k:=Zo (k:=Wq (Qc (k:=Vv (k:=Wq (Zt (k:=?_)))))))))
     refine Vb (Va (Vi (Vb (Va ?_))))
     have hw1 : (D.writes J.e (ps.take (j + 1))).2 = false := by rw [hwt]; simpa using h46
     have hw2 := writes_fail hw1
     have hcm : commitJ J D s = (⟨J.l, J.e, true⟩, (D'.write ((J.e : Int) + (j : Int)) (ps[j]'(by omega))).1, 9) := by
      rw [commitJ, if_neg (by rw [h11]; simp), if_neg (by rw [hps]; exact h26), hps, hw2, hwt]
      rw [hwt] at hw1
      revert hw1
      cases D'.write ((J.e : Int) + (j : Int)) (ps[j]'(by omega)) with
      | mk x y => intro hy; dsimp only at hy; subst hy; rfl
     rw [hcm]
     refine fin_ret () (vs := [_]) (Cs := []) rfl (.tmp rfl .nil) rfl trivial ?_
     exact ent_step (fold_isJ ⟨J.l, J.e, true⟩ (by rfl) (by exact ⟨rfl, rfl⟩) (by rfl) (by exact ⟨_, _, rfl⟩) (by rfl) (by rfl) (by rfl) (by rfl)) ent_pick
    ·
     refine Zk (k:=Yb (Ya (Zr (k:=Qv (k:=Wn ?_)))))
     have hw1 : (D.writes J.e (ps.take (j + 1))).2 = true := by rw [hwt]; simpa using h46
     refine to_inv ⟨j + 1, by omega, hw1⟩ ?_ ⟨rfl, rfl, rfl, rfl, rfl, rfl, trivial⟩ ?_
     · dsimp only; omega
     · dsimp only; rw [hwt]; exact ent_pick
   ·
    refine Ze (k:=Xa (Xi (Xb (Ya (Za (k:=Dw [] (k:=?_)))))))
    refine Dv 0 (k:=Dv 1 (k:=Dv 2 (k:=Dv 3 (k:=Di 4 (t:=Uf 1 27) (k:=Dv 6 (k:=Dv 9 (k:=Dv 10 (k:=Di 11 (t:=Uf 2 3) (k:=Dv 13 (k:=Dv 14 (k:=?_)))))))))))
    refine d_next3 5 7 12 (by kernel_rfl) rfl rfl rfl ?_ ?_ ?_
    ·
     refine an_load Tryz.underlying27 rfl rfl rfl rfl ?_
     refine d_next2 7 12 (by kernel_rfl) rfl rfl ?_ ?_
     ·
      refine Nl [_] (cs := [_]) (k:=fun b58 => ?_)
      refine d_next2 8 12 (by kernel_rfl) rfl rfl ?_ ?_
      ·
       refine an_append1 (sz := 1) (bytes := 16) Tryz.underlying27 ti9 rfl rfl rfl rfl rfl rfl rfl (by rfl) (by rfl) (by omega) (by simp only [maxLen]; omega) rfl (fun a59 c59 => ?_)
       refine Dn 12 (k:=?_)
       refine an_load Tryz.underlying3 rfl rfl rfl rfl ?_
       refine Dv 15 (k:=Dv 16 (k:=Di 17 (t:=Uf 1 27) (k:=Dn 18 (k:=No (k:=Dv 19 (k:=Di 20 (t:=Uf 2 3) (k:=Dn 21 (k:=No (k:=Dd (k:=Ya (Za (k:=?_))))))))))))
       refine Zr (k:=Vv (k:=Wq (Zt (k:=?_))))
       exact zb93ret14
      ·
       refine an_load Tryz.underlying3 rfl rfl rfl rfl ?_
       refine Dv 15 (k:=Dn 8 (k:=?_))
       refine an_append1 (sz := 1) (bytes := 16) Tryz.underlying27 ti9 rfl rfl rfl rfl rfl rfl rfl (by rfl) (by rfl) (by omega) (by simp only [maxLen]; omega) rfl (fun a59 c59 => ?_)
       refine Dv 16 (k:=Di 17 (t:=Uf 1 27) (k:=Dn 18 (k:=No (k:=Dv 19 (k:=Di 20 (t:=Uf 2 3) (k:=Dn 21 (k:=No (k:=Dd (k:=Ya (Qc (k:=?_)))))))))))
       refine Vv (k:=Wq (Zt (k:=?_)))
       exact zb93ret14
     ·
      refine an_load Tryz.underlying3 rfl rfl rfl rfl ?_
      refine Dv 15 (k:=Dn 7 (k:=Nl [_] (cs := [_]) (k:=fun b58 => Dn 8 (k:=?_))))
      refine an_append1 (sz := 1) (bytes := 16) Tryz.underlying27 ti9 rfl rfl rfl rfl rfl rfl rfl (by rfl) (by rfl) (by omega) (by simp only [maxLen]; omega) rfl (fun a59 c59 => ?_)
      refine Dv 16 (k:=Di 17 (t:=Uf 1 27) (k:=Dn 18 (k:=No (k:=Dv 19 (k:=Di 20 (t:=Uf 2 3) (k:=Dn 21 (k:=No (k:=Dd (k:=Ya (Qc (k:=?_)))))))))))
      refine Vv (k:=Wq (Zt (k:=?_)))
      exact zb93ret14
    ·
     refine Nl [_] (cs := [_]) (k:=fun b58 => ?_)
     refine d_next2 5 12 (by kernel_rfl) rfl rfl ?_ ?_
     ·
      refine an_load Tryz.underlying27 rfl rfl rfl rfl ?_
      refine d_next2 8 12 (by kernel_rfl) rfl rfl ?_ ?_
      ·
       refine an_append1 (sz := 1) (bytes := 16) Tryz.underlying27 ti9 rfl rfl rfl rfl rfl rfl rfl (by rfl) (by rfl) (by omega) (by simp only [maxLen]; omega) rfl (fun a59 c59 => ?_)
       refine Dn 12 (k:=?_)
       refine an_load Tryz.underlying3 rfl rfl rfl rfl ?_
       refine Dv 15 (k:=Dv 16 (k:=Di 17 (t:=Uf 1 27) (k:=Dn 18 (k:=No (k:=Dv 19 (k:=Di 20 (t:=Uf 2 3) (k:=Dn 21 (k:=No (k:=Dd (k:=Ya (Za (k:=?_))))))))))))
       refine Zr (k:=Vv (k:=Wq (Zt (k:=?_))))
       exact zb93ret14
      ·
       refine an_load Tryz.underlying3 rfl rfl rfl rfl ?_
       refine Dv 15 (k:=Dn 8 (k:=?_))
       refine an_append1 (sz := 1) (bytes := 16) Tryz.underlying27 ti9 rfl rfl rfl rfl rfl rfl rfl (by rfl) (by rfl) (by omega) (by simp only [maxLen]; omega) rfl (fun a59 c59 => ?_)
       refine Dv 16 (k:=Di 17 (t:=Uf 1 27) (k:=Dn 18 (k:=No (k:=Dv 19 (k:=Di 20 (t:=Uf 2 3) (k:=Dn 21 (k:=No (k:=Dd (k:=Ya (Qc (k:=?_)))))))))))
       refine Vv (k:=Wq (Zt (k:=?_)))
       exact zb93ret14
     ·
      refine an_load Tryz.underlying3 rfl rfl rfl rfl ?_
      refine Dv 15 (k:=Dn 5 (k:=?_))
      refine an_load Tryz.underlying27 rfl rfl rfl rfl ?_
      refine Dn 8 (k:=?_)
      refine an_append1 (sz := 1) (bytes := 16) Tryz.underlying27 ti9 rfl rfl rfl rfl rfl rfl rfl (by rfl) (by rfl) (by omega) (by simp only [maxLen]; omega) rfl (fun a59 c59 => ?_)
      refine Dv 16 (k:=Di 17 (t:=Uf 1 27) (k:=Dn 18 (k:=No (k:=Dv 19 (k:=Di 20 (t:=Uf 2 3) (k:=Dn 21 (k:=No (k:=Dd (k:=Ya (Qc (k:=?_)))))))))))
      refine Vv (k:=Wq (Zt (k:=?_)))
      exact zb93ret14
    ·
     refine an_load Tryz.underlying3 rfl rfl rfl rfl ?_
     refine Dv 15 (k:=?_)
     refine d_next2 5 7 (by kernel_rfl) rfl rfl ?_ ?_
     ·
      refine an_load Tryz.underlying27 rfl rfl rfl rfl ?_
      refine Dn 7 (k:=Nl [_] (cs := [_]) (k:=fun b58 => Dn 8 (k:=?_)))
      refine an_append1 (sz := 1) (bytes := 16) Tryz.underlying27 ti9 rfl rfl rfl rfl rfl rfl rfl (by rfl) (by rfl) (by omega) (by simp only [maxLen]; omega) rfl (fun a59 c59 => ?_)
      refine Dv 16 (k:=Di 17 (t:=Uf 1 27) (k:=Dn 18 (k:=No (k:=Dv 19 (k:=Di 20 (t:=Uf 2 3) (k:=Dn 21 (k:=No (k:=Dd (k:=Ya (Qc (k:=?_)))))))))))
      refine Vv (k:=Wq (Zt (k:=?_)))
      exact zb93ret14
     ·
      refine Nl [_] (cs := [_]) (k:=fun b58 => Dn 5 (k:=?_))
      refine an_load Tryz.underlying27 rfl rfl rfl rfl ?_
      refine Dn 8 (k:=?_)
      refine an_append1 (sz := 1) (bytes := 16) Tryz.underlying27 ti9 rfl rfl rfl rfl rfl rfl rfl (by rfl) (by rfl) (by omega) (by simp only [maxLen]; omega) rfl (fun a59 c59 => ?_)
      refine Dv 16 (k:=Di 17 (t:=Uf 1 27) (k:=Dn 18 (k:=No (k:=Dv 19 (k:=Di 20 (t:=Uf 2 3) (k:=Dn 21 (k:=No (k:=Dd (k:=Ya (Qc (k:=?_)))))))))))
      refine Vv (k:=Wq (Zt (k:=?_)))
      exact zb93ret14
end
section
set_option maxRecDepth 100000
theorem store_may_sp (k : List UInt8) : SpF Tryz.prog 92 [vS k] (vB (decide (k ≠ [] ∧ k.length ≤ 60))) := by
 refine Sp.body (n := 10) Tryz.call92 Tryz.func92 rfl rfl rfl ?_
 refine Qc (k:=Vv (k:=Wq (Qc (k:=Qv (k:=Vv (k:=Gi 2 (t:=fun h5 => ?_) (f:=fun h5 => ?_)))))))
 ·
  refine J1 (k:=J1 (k:=J1 (k:=P1 (k:=Vv (k:=Wq (Zt (k:=?_)))))))
  refine fin_ret () (vs := [_]) rfl (.tmp rfl .nil) ?_ trivial ent_nil
  simp_all [pack]
  try omega
 ·
  refine O0 (k:=O0 (k:=O0 (k:=P0 (k:=Vv (k:=Wq (Zt (k:=?_)))))))
  refine fin_ret () (vs := [_]) rfl (.tmp rfl .nil) ?_ trivial ent_nil
  simp_all [pack]
  try omega
theorem indexByte_find (l : List UInt8) (c : UInt8) : Lib.indexByte l c = (match l.findIdx? (· == c) with | none => -1 | some i => (i : Int)) := by
 induction l with
 | nil => rfl
 | cons b l ih =>
   simp only [Lib.indexByte, List.findIdx?_cons, ih]
   by_cases h : b == c
   · simp [h]
   · simp only [h]
     cases l.findIdx? (· == c) with
     | none => rfl
     | some i => have h1 : ¬ ((i : Int) = -1) := by omega
                 simp [h1]
def numV (x : Nat × Bs × Bool) : Value := .tuple #[vI x.1, vS x.2.1, vB x.2.2]
theorem store_number_sp (s : List UInt8) (h : s.length ≤ 140737488355328) : SpF Tryz.prog 182 [vS s] (numV (numR s)) := by
 have hx := indexByte_find s 32
 cases hf : s.findIdx? (· == 32) with
 | none =>
   rw [hf] at hx
   have hr : numR s = (0, [], false) := by rw [numR, hf]
   rw [hr]
   have hI := IndexByte_sp s 32
   rw [show (32 : Int).toNat.toUInt8 = 32 from rfl, hx] at hI
   dsimp only at hI
   refine Sp.body (n := 25) Tryz.call182 Tryz.func182 rfl rfl rfl ?_
   refine Qc (k:=Qv (k:=Vv (k:=Wq (Qc (k:=Vv (k:=?_))))))
   refine r_callF (hI) rfl rfl rfl ?_
   refine Vv (k:=Wq (Za (k:=Qc (k:=Qv (k:=Wq (Zi (t:=fun h11 => ?_) (f:=fun h11 => ?_)))))))
   ·
    refine Qc (k:=Qv (k:=Vv (k:=Wq (Zt (k:=Va ?_)))))
    exact fin_ret () (vs := [_, _, _]) rfl (.tmp rfl (.tmp rfl (.tmp rfl .nil))) rfl trivial ent_nil
   ·
    exfalso; revert h11; decide
    --done
 | some i =>
   rw [hf] at hx
   have hlt := (List.findIdx?_eq_some_iff_getElem.1 hf).1
   have hI := IndexByte_sp s 32
   rw [show (32 : Int).toNat.toUInt8 = 32 from rfl, hx] at hI
   dsimp only at hI
   have hr : numR s = ((readDec (s.take i)).getD 0, s.drop (i + 1), (readDec (s.take i)).isSome) := by
    rw [numR, hf]
    dsimp only
    cases readDec (s.take i) <;> rfl
   rw [hr]
   refine Sp.body (n := 25) Tryz.call182 Tryz.func182 rfl rfl rfl ?_
   refine Qc (k:=Qv (k:=Vv (k:=Wq (Qc (k:=Vv (k:=?_))))))
   refine r_callF (hI) rfl rfl rfl ?_
   refine Vv (k:=Wq (Za (k:=Qc (k:=Qv (k:=Wq (Zi (t:=fun h11 => ?_) (f:=fun h11 => ?_)))))))
   ·
    exfalso; omega
    --done
   ·
    refine Zk (k:=Ya (Qc (k:=Qv (k:=Vv (k:=?_)))))
    refine r_callF (digit_ReadDec_sp (s.take i) (by rw [List.length_take]; omega)) rfl rfl rfl ?_
    refine Qv (k:=Qv (k:=Vv (k:=Wq (Za (k:=Dw [] (k:=?_))))))
    refine Dv 0 (k:=Dv 1 (k:=Dv 2 (k:=Dv 3 (k:=?_))))
    refine d_first 4 rfl rfl rfl (by kernel_rfl) (by kernel_rfl) (tl_pv (pv_slice_fromm (m := i + 1) Tryz.underlying9 rfl rfl (by omega) (by omega))) ?_
    refine Dv 5 (k:=Dv 6 (k:=Dv 7 (k:=Dv 8 (k:=Dd (k:=Ya (Zt (k:=?_)))))))
    exact fin_ret () (vs := [_, _, _]) rfl (.tmp rfl (.tmp rfl (.tmp rfl .nil))) rfl trivial ent_nil
def rowC (r : Rw) : List Value := [vS r.key, vS r.val, vB r.gone]
def rowV : Option (Rw × Bs) → Value
 | none => .tuple #[.agg #[vS [], vS [], vB false], vS [], vB false]
 | some (r, t) => .tuple #[.agg (rowC r).toArray, vS t, vB true]
theorem pre_dash (s : Bs) : Lib.hasPrefix s [45] = decide (s.take 1 = [45]) := by
 cases s with
 | nil => rfl
 | cons c s =>
   simp only [Lib.hasPrefix, List.isPrefixOf, List.take_succ_cons, List.take_zero, Bool.and_true]
   by_cases h : (45 : UInt8) = c
   · subst h; simp
   · have : ¬ c = 45 := fun e => h e.symm
     simp [h, this]
theorem rowR_eq {s s1 s2 : Bs} {k v : Nat} {ok ok2 : Bool} (h1 : numR s = (k, s1, ok)) (h2 : numR s1 = (v, s2, ok2)) : rowR s =
    if ok = false ∨ k < 1 ∨ 60 < k then none
    else if s1.take 1 = [45] then (if (s1.drop 1).length < k then none else some (⟨(s1.drop 1).take k, [], true⟩, (s1.drop 1).drop k))
    else if ok2 = false ∨ s2.length < k ∨ s2.length - k < v then none
    else some (⟨s2.take k, (s2.drop k).take v, false⟩, s2.drop (k + v)) := by
 unfold rowR
 rw [h1]
 cases ok with
 | false => simp
 | true =>
   dsimp only
   by_cases hk : k < 1 ∨ 60 < k
   · rw [if_pos hk, if_pos (.inr hk)]
   · rw [if_neg hk, if_neg (show ¬ (true = false ∨ k < 1 ∨ 60 < k) from fun h => hk (h.resolve_left (by simp)))]
     by_cases hd : s1.take 1 = [45]
     · rw [if_pos hd, if_pos hd]
     · rw [if_neg hd, if_neg hd, h2]
       cases ok2 with
       | false => simp
       | true => simp
theorem zb135ret3 {G : Prop} (h : G := by
    have hn : rowR s = none := by rw [hr, if_pos (by first | exact .inl (by simpa using h18) | exact .inr (.inl (by omega)) | exact .inr (.inr (by omega)))]
    rw [hn]
    refine tw_ent (Gs := [Ce b2 77 [vS [], vS [], vB false]]) (ce_norm1 (by rfl) (by rfl)) ?_
    exact fin_ret () (vs := [_, _, _]) (Cs := [_]) rfl (.cell (l := [vS [], vS [], vB false]) (us := [vS [], vS [], vB false]) rfl (shows_ce (T := 77)) Tryz.underlying77 rfl ti77 (Nat.le_of_ble_eq_true rfl) rfl (.tmp rfl (.tmp rfl .nil))) rfl trivial (Ent.refl _)) : G := h
theorem zb135ret11 {G : Prop} (h : G := by
    have hn : rowR s = none := by rw [hr, if_neg (by rintro (e | e | e) <;> first | omega | (subst e; simp at h18)), if_neg (by simpa using h32), if_pos (by first | exact .inl (by simpa using h53) | exact .inr (.inl (by omega)) | exact .inr (.inr (by omega)))]
    rw [hn]
    refine tw_ent (Gs := [Ce b2 77 [vS [], vS [], vB false]]) (ce_norm1 (by rfl) (by rfl)) ?_
    exact fin_ret () (vs := [_, _, _]) (Cs := [_]) rfl (.cell (l := [vS [], vS [], vB false]) (us := [vS [], vS [], vB false]) rfl (shows_ce (T := 77)) Tryz.underlying77 rfl ti77 (Nat.le_of_ble_eq_true rfl) rfl (.tmp rfl (.tmp rfl .nil))) rfl trivial (Ent.refl _)) : G := h
theorem store_row_sp (s : List UInt8) (h : s.length ≤ 140737488355328) : SpF Tryz.prog 135 [vS s] (rowV (rowR s)) := by
 have n1 := store_number_sp s h
 have l1 := numR_len s
 cases e1 : numR s with
 | mk k q =>
 obtain ⟨s1, ok⟩ := q
 rw [e1] at n1 l1
 dsimp only at l1
 have n1 : SpF Tryz.prog 182 [vS s] (.tuple #[vI k, vS s1, vB ok]) := n1
 have n2 := store_number_sp s1 (by omega)
 have l2 := numR_len s1
 have hc := CutPrefix_sp s1 [45]
 rw [pre_dash] at hc
 cases e2 : numR s1 with
 | mk v q2 =>
 obtain ⟨s2, ok2⟩ := q2
 rw [e2] at n2 l2
 dsimp only at l2
 have n2 : SpF Tryz.prog 182 [vS s1] (.tuple #[vI v, vS s2, vB ok2]) := n2
 have hr := rowR_eq e1 e2
 clear e1 e2
 have hv : ∀ n : Nat, rowV none = .tuple #[.agg #[vS [], vS [], vB false], vS [], vB false] := fun _ => rfl
 have ht : (s1.take 1 = [45]) → Lib.trimPrefix s1 [45] = s1.drop 1 := fun e => by
  rw [Lib.trimPrefix, pre_dash, e]; simp
 refine Sp.body (n := 83) Tryz.call135 Tryz.func135 rfl rfl rfl ?_
 refine Qc (k:=Zc [vS [], vS [], .bool false] (k:=fun b2 => Qv (k:=Wq (Qc (k:=Vv (k:=?_))))))
 refine r_callF n1 rfl rfl rfl ?_
 refine Qv (k:=Qv (k:=Qv (k:=Vv (k:=Wq (Za (k:=Qc (k:=Vv (k:=?_))))))))
 refine Qv (k:=Gi 2 (t:=fun h18 => ?_) (f:=fun h18 => ?_))
 ·
  refine O1 (k:=O1 (k:=P1 (k:=Vv (k:=O1 (k:=O1 (k:=P1 (k:=Wq (Z1 (k:=Qc (k:=Vx (Ps [vS [], vS [], .bool false]) (k:=?_)))))))))))
  refine Zp (k:=Qv (k:=Wq (Zt (k:=Va ?_))))
  exact zb135ret3
 ·
  refine J0 (k:=J0 (k:=P0 (k:=Vv (k:=Gi 6 (t:=fun h22 => ?_) (f:=fun h22 => ?_)))))
  ·
   refine O1 (k:=O1 (k:=P1 (k:=Wq (Z1 (k:=Qc (k:=Vx (Ps [vS [], vS [], .bool false]) (k:=Zp (k:=Qv (k:=Wq ?_)))))))))
   refine Zt (k:=Va ?_)
   exact zb135ret3
  ·
   refine J0 (k:=J0 (k:=P0 (k:=Wq (Zi (t:=fun h25 => ?_) (f:=fun h25 => ?_)))))
   ·
    refine Qc (k:=Vx (Ps [vS [], vS [], .bool false]) (k:=Zp (k:=Qv (k:=Wq (Zt (k:=Va ?_))))))
    exact zb135ret3
   ·
    refine Zk (k:=Ya (Za (k:=Qc (k:=Vv (k:=?_)))))
    refine r_callF (hc) rfl rfl rfl ?_
    refine Qv (k:=Qv (k:=Vv (k:=Wq (Qc (k:=Vv (k:=Wq (Zi (t:=fun h32 => ?_) (f:=fun h32 => ?_))))))))
    ·
     rw [ht h32]
     refine Za (k:=Qc (k:=Qv (k:=Qv (k:=Wq (Zi (t:=fun h36 => ?_) (f:=fun h36 => ?_))))))
     ·
      refine Qc (k:=Vx (Ps [vS [], vS [], .bool false]) (k:=Zp (k:=Qv (k:=Wq (Zt (k:=Va (Va ?_)))))))
      have hn : rowR s = none := by rw [hr, if_neg (by rintro (e | e | e) <;> first | omega | (subst e; simp at h18)), if_pos h32, if_pos (by omega)]
      rw [hn]
      refine tw_ent (Gs := [Ce b2 77 [vS [], vS [], vB false]]) (ce_norm1 (by rfl) (by rfl)) ?_
      exact fin_ret () (vs := [_, _, _]) (Cs := [_]) rfl (.cell (l := [vS [], vS [], vB false]) (us := [vS [], vS [], vB false]) rfl (shows_ce (T := 77)) Tryz.underlying77 rfl ti77 (Nat.le_of_ble_eq_true rfl) rfl (.tmp rfl (.tmp rfl .nil))) rfl trivial (Ent.refl _)
     ·
      refine Zk (k:=Ya (Za (k:=Dw [] (k:=?_))))
      refine Dv 0 (k:=Dv 1 (k:=Dv 2 (k:=Di 3 (t:=Ux (Ps [_, vS [], _])) (k:=Dv 4 (k:=Dv 5 (k:=Dv 6 (k:=Dn 7 (k:=Na (k:=Dv 8 (k:=Dv 9 (k:=Dd (k:=?_))))))))))))
      refine Ya (Zt (k:=Va ?_))
      have hn : rowR s = some (⟨(s1.drop 1).take k, [], true⟩, (s1.drop 1).drop k) := by rw [hr, if_neg (by rintro (e | e | e) <;> first | omega | (subst e; simp at h18)), if_pos h32, if_neg (by omega)]
      rw [hn]
      refine tw_ent (Gs := [Ce b2 77 [vS ((s1.drop 1).take k), vS [], vB true]]) (ce_norm1 (by rfl) (by rfl)) ?_
      exact fin_ret () (vs := [_, _, _]) (Cs := [_]) rfl (.cell (l := [vS ((s1.drop 1).take k), vS [], vB true]) (us := [vS ((s1.drop 1).take k), vS [], vB true]) rfl (shows_ce (T := 77)) Tryz.underlying77 rfl ti77 (Nat.le_of_ble_eq_true rfl) rfl (.tmp rfl (.tmp rfl .nil))) rfl trivial (Ent.refl _)
    ·
     refine Zk (k:=Ya (Qc (k:=Vv (k:=?_))))
     refine r_callF n2 rfl rfl rfl ?_
     refine Qv (k:=Qv (k:=Qv (k:=Vv (k:=Wq (Za (k:=Qc (k:=Vv (k:=?_))))))))
     refine Qv (k:=Gi 2 (t:=fun h53 => ?_) (f:=fun h53 => ?_))
     ·
      refine O1 (k:=O1 (k:=O1 (k:=O1 (k:=P1 (k:=Vv (k:=O1 (k:=O1 (k:=O1 (k:=O1 (k:=O1 (k:=O1 (k:=?_))))))))))))
      refine P1 (k:=Wq (Z1 (k:=Qc (k:=Vx (Ps [vS [], vS [], .bool false]) (k:=Zp (k:=Qv (k:=Wq (Zt (k:=Va ?_)))))))))
      exact zb135ret11
     ·
      refine J0 (k:=J0 (k:=J0 (k:=J0 (k:=P0 (k:=Vv (k:=Gi 8 (t:=fun h59 => ?_) (f:=fun h59 => ?_)))))))
      ·
       refine O1 (k:=O1 (k:=O1 (k:=O1 (k:=O1 (k:=O1 (k:=P1 (k:=Wq (Z1 (k:=Qc (k:=Vx (Ps [vS [], vS [], .bool false]) (k:=?_)))))))))))
       refine Zp (k:=Qv (k:=Wq (Zt (k:=Va ?_))))
       exact zb135ret11
      ·
       refine J0 (k:=J0 (k:=J0 (k:=J0 (k:=J0 (k:=J0 (k:=?_))))))
       refine P0 (k:=Wq (Zi (t:=fun h66 => ?_) (f:=fun h66 => ?_)))
       ·
        refine Qc (k:=Vx (Ps [vS [], vS [], .bool false]) (k:=Zp (k:=Qv (k:=Wq (Zt (k:=Va ?_))))))
        exact zb135ret11
       ·
        refine Zk (k:=Ya (Za (k:=Dw [] (k:=?_))))
        refine Dv 0 (k:=Dv 1 (k:=Dv 2 (k:=Dv 3 (k:=Dv 4 (k:=Dv 5 (k:=Dv 6 (k:=Dv 7 (k:=?_))))))))
        refine d_first 8 rfl rfl rfl (by kernel_rfl) (by kernel_rfl) (tl_pv (pv_slice_inm (m := k) (o := k + v) Tryz.underlying9 rfl rfl rfl rfl (by omega) (by omega) (by omega))) ?_
        refine Di 9 (t:=Ux (Ps [_, _, .bool false])) (k:=Dv 10 (k:=Dv 11 (k:=Dv 12 (k:=Dv 13 (k:=?_)))))
        refine d_first 14 rfl rfl rfl (by kernel_rfl) (by kernel_rfl) (tl_pv (pv_slice_fromm (m := k + v) Tryz.underlying9 rfl rfl (by omega) (by omega))) ?_
        refine Dn 15 (k:=Na (k:=Dv 16 (k:=Dv 17 (k:=Dd (k:=Ya (Zt (k:=?_)))))))
        have hn : rowR s = some (⟨s2.take k, (s2.drop k).take v, false⟩, s2.drop (k + v)) := by rw [hr, if_neg (by rintro (e | e | e) <;> first | omega | (subst e; simp at h18)), if_neg (by simpa using h32), if_neg (by rintro (e | e | e) <;> first | omega | (subst e; simp at h53))]
        rw [hn]
        refine tw_ent (Gs := [Ce b2 77 [vS (s2.take k), vS ((s2.drop k).take (k + v - k)), vB false]]) (ce_norm1 (by rfl) (by rfl)) ?_
        exact fin_ret () (vs := [_, _, _]) (Cs := [_]) rfl (.cell (l := [vS (s2.take k), vS ((s2.drop k).take (k + v - k)), vB false]) (us := [vS (s2.take k), vS ((s2.drop k).take (k + v - k)), vB false]) rfl (shows_ce (T := 77)) Tryz.underlying77 rfl ti77 (Nat.le_of_ble_eq_true rfl) rfl (.tmp rfl (.tmp rfl .nil))) (by simp [pack, rowV, rowC]) trivial (Ent.refl _)
end
def digL : Bs := "0123456789ABCDEFGHIJKLMNOPQRSTUVWXYZ_abcdefghijklmnopqrstuvwxyz~".toUTF8.data.toList
theorem digL_len : digL.length = 64 := rfl
def dg (k : Nat) : UInt8 := digL.getD (k % 64) 0
def putN (n : Nat) : Bs := if h : n < 64 then [dg n] else putN (n / 64) ++ [dg n]
termination_by n
decreasing_by omega
/-- A digit's value. -/
def dv (c : UInt8) : Option Nat := digL.findIdx? (· == c)
theorem dv_dg (k : Nat) : dv (dg k) = some (k % 64) := by
 have key : ∀ i : Fin 64, dv (digL.getD i.1 0) = some i.1 := by decide
 exact key ⟨k % 64, Nat.mod_lt _ (by decide)⟩
theorem dv_lt {c : UInt8} {d : Nat} (h : dv c = some d) : d < 64 := by
 have := (List.findIdx?_eq_some_iff_findIdx_eq.1 h).1
 rwa [digL_len] at this
theorem index_dv (c : UInt8) : Lib.indexByte digL c = (match dv c with | none => -1 | some d => (d : Int)) := indexByte_find digL c
/-- Reading on: a number so far, of so many digits. -/
def rdF (z : Bool) : Bs → Nat → Nat → Option (Nat × Nat)
 | [], n, k => if k = 0 then none else some (n, k)
 | c :: r, n, k => match dv c with
   | none => if k = 0 then none else some (n, k)
   | some d => if 1073741824 < n * 64 + d ∨ (0 < k ∧ z = true) then none else rdF z r (n * 64 + d) (k + 1)
/-- A number that stands at a place: it, the place behind. -/
def rdN (s : Bs) (i : Nat) : Option (Nat × Nat) := (rdF (decide (s.getD i 0 = 48)) (s.drop i) 0 0).map fun x => (x.1, i + x.2)
theorem rdF_le {z : Bool} : ∀ {s : Bs} {n k m j : Nat}, n ≤ 1073741824 → rdF z s n k = some (m, j) → m ≤ 1073741824 ∧ k ≤ j ∧ j ≤ k + s.length ∧ 0 < j := by
 intro s
 induction s with
 | nil =>
   intro n k m j hn h
   simp only [rdF] at h
   split at h
   · cases h
   · cases h; exact ⟨hn, Nat.le_refl _, by simp, by omega⟩
 | cons c r ih =>
   intro n k m j hn h
   simp only [rdF] at h
   split at h
   · split at h
     · cases h
     · cases h; exact ⟨hn, Nat.le_refl _, by simp, by omega⟩
   · split at h
     · cases h
     · obtain ⟨h1, h2, h3, h4⟩ := ih (by omega) h
       exact ⟨h1, by omega, by rw [List.length_cons]; omega, h4⟩
theorem rdN_le {s : Bs} {i n j : Nat} (h : rdN s i = some (n, j)) : n ≤ 1073741824 ∧ i < j ∧ j ≤ i + (s.length - i) := by
 unfold rdN at h
 cases e : rdF (decide (s.getD i 0 = 48)) (s.drop i) 0 0 with
 | none => rw [e] at h; cases h
 | some x =>
   rw [e] at h
   cases h
   obtain ⟨h1, h2, h3, h4⟩ := rdF_le (m := x.1) (j := x.2) (Nat.zero_le _) e
   rw [List.length_drop] at h3
   exact ⟨h1, by omega, by omega⟩
theorem rdN_end {s : Bs} {i : Nat} (h : s.length ≤ i) : rdN s i = none := by
 rw [rdN, List.drop_eq_nil_of_le h]; rfl
theorem putN_ne (n : Nat) : putN n ≠ [] := by rw [putN]; split <;> simp
theorem putN_head {n : Nat} (h : 0 < n) : ∃ c r, putN n = c :: r ∧ c ≠ 48 := by
 induction n using Nat.strongRecOn with
 | _ n ih =>
   rw [putN]
   split
   · rename_i h2
     refine ⟨dg n, [], rfl, fun e => ?_⟩
     have := dv_dg n
     rw [e, show dv 48 = some 0 from by decide] at this
     have := Option.some.inj this
     omega
   · obtain ⟨c, r, h1, h2⟩ := ih (n / 64) (by omega) (by omega)
     exact ⟨c, r ++ [dg n], by rw [h1]; rfl, h2⟩
theorem putN_len {n : Nat} (h : n ≤ 1073741824) : 1 ≤ (putN n).length ∧ (putN n).length ≤ 6 := by
 have key : ∀ k n, n < 64 ^ k → 1 ≤ (putN n).length ∧ ((putN n).length ≤ k ∨ k = 0) := by
  intro k
  induction k with
  | zero => intro n h; rw [putN]; split <;> simp
  | succ k ih =>
    intro n h
    rw [putN]
    split
    · simp
    · obtain ⟨h1, h2⟩ := ih (n / 64) (by rw [Nat.pow_succ] at h; omega)
      rw [List.length_append, List.length_singleton]
      refine ⟨by omega, .inl ?_⟩
      rcases h2 with h2 | h2
      · omega
      · subst h2; simp at h; omega
 obtain ⟨h1, h2⟩ := key 6 n (by omega)
 exact ⟨h1, by omega⟩
/-- What was put is read. -/
theorem rdF_put (z : Bool) : ∀ (n : Nat), n ≤ 1073741824 → ∀ (m k : Nat) (r : Bs), (z = true → putN n = [dg n] ∧ k = 0) → m * 64 ^ (putN n).length + n ≤ 1073741824 → rdF z (putN n ++ r) m k = rdF z r (m * 64 ^ (putN n).length + n) (k + (putN n).length) := by
 intro n
 induction n using Nat.strongRecOn with
 | _ n ih =>
   intro hn m k r hz hm
   by_cases h : n < 64
   · have e : putN n = [dg n] := by rw [putN, dif_pos h]
     rw [e] at hz hm ⊢
     rw [List.length_singleton, Nat.pow_one] at hm ⊢
     simp only [List.cons_append, List.nil_append, rdF, dv_dg, Nat.mod_eq_of_lt h]
     rw [if_neg]
     rintro (h1 | ⟨h1, h2⟩)
     · omega
     · have := (hz h2).2; omega
   · have e : putN n = putN (n / 64) ++ [dg n] := by rw [putN, dif_neg h]
     rw [e] at hz hm ⊢
     have hzf : z = false := by
      cases z with
      | false => rfl
      | true =>
        have := congrArg List.length (hz rfl).1
        have h2 := putN_ne (n / 64)
        have h3 : 1 ≤ (putN (n / 64)).length := List.length_pos_iff.2 h2
        rw [List.length_append, List.length_singleton] at this
        omega
     subst hzf
     have hp := (putN_len (n := n / 64) (by omega)).1
     rw [List.length_append, List.length_singleton, Nat.pow_succ] at hm ⊢
     have e1 : m * (64 ^ (putN (n / 64)).length * 64) = m * 64 ^ (putN (n / 64)).length * 64 := by rw [Nat.mul_assoc]
     rw [e1] at hm ⊢
     rw [List.append_assoc, ih (n / 64) (by omega) (by omega) m k _ (fun h => by cases h) (by omega)]
     simp only [List.cons_append, List.nil_append, rdF, dv_dg]
     rw [if_neg (by rintro (h1 | ⟨h1, h2⟩); omega; cases h2)]
     have e2 : (m * 64 ^ (putN (n / 64)).length + n / 64) * 64 + n % 64 = m * 64 ^ (putN (n / 64)).length * 64 + n := by omega
     rw [e2, Nat.add_assoc]
theorem rdN_put {n : Nat} (h : n ≤ 1073741824) (p : Bs) (c : UInt8) (r : Bs) (hc : dv c = none) : rdN (p ++ (putN n ++ c :: r)) p.length = some (n, p.length + (putN n).length) := by
 have hd : (p ++ (putN n ++ c :: r)).drop p.length = putN n ++ c :: r := List.drop_left
 have hl := (putN_len h).1
 rw [rdN, hd, rdF_put _ n h 0 0 _ (fun hz => ?_) (by simpa using h)]
 · simp only [rdF, hc, Nat.zero_mul, Nat.zero_add]
   rw [if_neg (by omega)]; rfl
 · have h0 := of_decide_eq_true hz
   have hg : (p ++ (putN n ++ c :: r)).getD p.length 0 = (putN n ++ c :: r).getD 0 0 := by
    rw [List.getD_eq_getElem?_getD, List.getElem?_append_right (Nat.le_refl _), Nat.sub_self, List.getD_eq_getElem?_getD]
   rw [hg] at h0
   by_cases hn : 0 < n
   · obtain ⟨x, y, h1, h2⟩ := putN_head hn
     rw [h1] at h0
     exact absurd h0 h2
   · have : n = 0 := by omega
     subst this
     exact ⟨by rw [putN]; rfl, rfl⟩
theorem i64_and63 (n : Int) : bits .and .i64 n 63 = n % 64 := by
 have h63 : (BitVec.ofInt 64 63).toNat = 2 ^ 6 - 1 := by decide
 have key : (BitVec.ofInt 64 n &&& BitVec.ofInt 64 63).toNat = (n % ((2 ^ 64 : Nat) : Int)).toNat % 2 ^ 6 := by
  rw [BitVec.toNat_and, BitVec.toNat_ofInt, h63, Nat.and_two_pow_sub_one_eq_mod]
 show IntKind.i64.wrap ((BitVec.ofInt 64 n &&& BitVec.ofInt 64 63).toNat : Nat) = n % 64
 rw [key, IntKind.wrap_i64]
 omega
theorem i64_orj (i : Nat) {x y : Nat} (hx : x % 2 ^ i = 0) (hy : y < 2 ^ i) (h : x + y ≤ 9223372036854775807) : bits .or .i64 (x : Int) (y : Int) = ((x + y : Nat) : Int) := by
 have e1 : (BitVec.ofInt 64 (x : Int)).toNat = x := by rw [BitVec.toNat_ofInt]; omega
 have e2 : (BitVec.ofInt 64 (y : Int)).toNat = y := by rw [BitVec.toNat_ofInt]; omega
 show IntKind.i64.wrap ((BitVec.ofInt 64 (x : Int) ||| BitVec.ofInt 64 (y : Int)).toNat : Nat) = _
 rw [BitVec.toNat_or, e1, e2, nat_join i x y hx hy, IntKind.wrap_i64]
 omega
end Go.Proofs.YtibccdcemcgkeaaGreat
