/- Texts of this proof, put together: Digit2, LibS, MDisk, SDisk, SlFn, SJour0. -/
import Derived.Test.YtibccdcemcgkeaaGreatQ07
set_option linter.unusedVariables false
set_option linter.unusedSimpArgs false
namespace Go.Proofs.YtibccdcemcgkeaaGreat
section
set_option maxRecDepth 100000
theorem digit_DecP_sp (n : Nat) : SpF Tryz.prog 78 [vI n] (vS (decP n)) := by
 by_cases h : n ≤ 1073741824
 · rw [decP, if_pos h]; exact digit_Dec_sp n h
 · rw [decP, if_neg h]
   refine Sp.body (n := 28) Tryz.call78 Tryz.func78 rfl rfl rfl ?_
   refine Qc (k:=Vv (k:=Wq (Za (k:=Qc (k:=Vv (k:=?_))))))
   refine r_callF (digit_may_sp n) rfl rfl rfl ?_
   refine Vv (k:=Wq (Zi (t:=fun h6 => ?_) (f:=fun h6 => ?_)))
   ·
    refine Qc (k:=Vv (k:=Wq (Zt (k:=Va ?_))))
    exact fin_ret () (vs := [_]) rfl (.tmp rfl .nil) rfl trivial ent_nil
   ·
    exfalso; exact h6 (by omega)
    --done
theorem zb69ret6 {G : Prop} (h : G := by
    have hd := dn_step (s := s) (i := j) (by omega) n
    rw [hi, if_pos (by omega)] at hd
    refine fin_ret () (vs := [_, _]) rfl (.tmp rfl (.tmp rfl .nil)) ?_ trivial ent_nil
    simp [readDec, hd, pack]) : G := h
theorem zb69ret10 {G : Prop} (h : G := by
    have hjs : j = s.length := by omega
    subst hjs
    rw [List.drop_length, dn] at hi
    have hc : s = [] ∨ ¬ decP n = s := by first | exact .inl ‹s = []› | exact .inr ‹_›
    refine fin_ret () (vs := [_, _]) rfl (.tmp rfl (.tmp rfl .nil)) ?_ trivial ent_nil
    simp only [readDec, ← hi, if_pos hc]
    rfl) : G := h
theorem digit_ReadDec_sp (s : List UInt8) (hs : s.length ≤ 140737488355328) : SpF Tryz.prog 69 [vS s] (.tuple #[vI ((readDec s).getD 0 : Nat), vB (readDec s).isSome]) := by
 refine Sp.body (n := 43) Tryz.call69 Tryz.func69 rfl rfl rfl ?_
 refine Qc (k:=Qv (k:=Wq (Qc (k:=Vv (k:=Wq (Za (k:=Qc (k:=?_))))))))
 refine Qv (k:=Vv (k:=Wq (Zb (k:=?_))))
 refine p_loop (fun (i : { p : Nat × Nat // dn (s.drop p.1) p.2 = dn s 0 ∧ p.1 ≤ s.length ∧ p.2 ≤ 10737418249 }) => [(0, vS s), (7, vI s.length), (8, vI i.1.1), (4, vI i.1.2)]) (fun (i : { p : Nat × Nat // dn (s.drop p.1) p.2 = dn s 0 ∧ p.1 ≤ s.length ∧ p.2 ≤ 10737418249 }) => []) (fun (i : { p : Nat × Nat // dn (s.drop p.1) p.2 = dn s 0 ∧ p.1 ≤ s.length ∧ p.2 ≤ 10737418249 }) => s.length - i.1.1) rfl (⟨(0, 0), rfl, Nat.zero_le _, by omega⟩) ?_ ?_ (fun i => ?_)
 · exact ⟨rfl, rfl, rfl, rfl, trivial⟩
 ·
  exact ent_pick
 obtain ⟨⟨j, n⟩, hi, hj, hn⟩ := i
 dsimp only at hi hj hn
 try dsimp only
 refine Qc (k:=Vv (k:=Wq (Za (k:=Zi (t:=fun h9 => ?_) (f:=fun h9 => ?_)))))
 ·
  refine Zk (k:=Ya (Za (k:=Zb (k:=Qc (k:=Qv (k:=Wq (Za (k:=Qc (k:=?_)))))))))
  refine Qv (k:=Qv (k:=Vv (k:=Gi 4 (t:=fun h15 => ?_) (f:=fun h15 => ?_))))
  ·
   refine O1 (k:=O1 (k:=O1 (k:=O1 (k:=P1 (k:=Vv (k:=O1 (k:=O1 (k:=P1 (k:=Wq (Z1 (k:=Za (k:=?_))))))))))))
   refine Zr (k:=Qv (k:=Wq (Zt (k:=Va (Vb (Va (Vi (Vb (Va ?_)))))))))
   exact zb69ret6
  ·
   refine J0 (k:=J0 (k:=J0 (k:=J0 (k:=P0 (k:=Vv (k:=Gi 10 (t:=fun h21 => ?_) (f:=fun h21 => ?_)))))))
   ·
    refine O1 (k:=O1 (k:=P1 (k:=Wq (Z1 (k:=Qc (k:=Qv (k:=Wq (Zt (k:=Va ?_)))))))))
    refine Vb (Va (Vi (Vb (Va ?_))))
    exact zb69ret6
   ·
    refine J0 (k:=J0 (k:=P0 (k:=Wq (Zi (t:=fun h24 => ?_) (f:=fun h24 => ?_)))))
    ·
     refine Qc (k:=Qv (k:=Wq (Zt (k:=Va (Vb (Va (Vi (Vb (Va ?_)))))))))
     exact zb69ret6
    ·
     refine Zk (k:=Ya (Zr (k:=Qv (k:=Qv (k:=Vv (k:=?_))))))
     refine wo_pv (by first | exact pv_subu rfl rfl (by omega) | exact pv_subw rfl rfl) rfl ?_
     refine wo_pv (pv_conv_in rfl Tryz.underlying5 Tryz.underlying3 (by first | exact wrap_byte _ | exact wrap_u8 _ | exact i64_in' (by omega))) rfl ?_
     refine Qv (k:=Wn (Yb (Ya (Zr (k:=Qv (k:=Wn ?_))))))
     have hd := dn_step (s := s) (i := j) (by omega) n
     rw [hi, if_neg (by omega)] at hd
     refine to_inv ⟨(j + 1, 10 * n + ((s.getD j 0).toNat - 48)), hd.symm, ?_, ?_⟩ ?_ ⟨rfl, rfl, rfl, ?_, trivial⟩ ent_nil
     · dsimp only; omega
     · dsimp only; omega
     · dsimp only; omega
     · have e : (((10 * n + ((s.getD j 0).toNat - 48) : Nat)) : Int) = 10 * (n : Int) + (((s.getD j 0).toNat : Int) - 48) := by omega
       dsimp only; rw [e]; rfl
 ·
  refine Ze (k:=Xa (Xi (Xb (Ya (Za (k:=Qc (k:=Qv (k:=Vv (k:=Gi 2 (t:=fun h36 => ?_) (f:=fun h36 => ?_))))))))))
  ·
   refine O1 (k:=O1 (k:=O1 (k:=O1 (k:=P1 (k:=Wq (Z1 (k:=Qc (k:=Qv (k:=Wq ?_)))))))))
   refine Zt (k:=Va ?_)
   exact zb69ret10
  ·
   refine J0 (k:=I0 (k:=?_))
   refine r_callF (digit_DecP_sp n) rfl rfl rfl ?_
   refine J0 (k:=J0 (k:=P0 (k:=Wq (Zi (t:=fun h41 => ?_) (f:=fun h41 => ?_)))))
   ·
    refine Qc (k:=Qv (k:=Wq (Zt (k:=Va ?_))))
    exact zb69ret10
   ·
    refine Zk (k:=Ya (Qc (k:=Qv (k:=Vv (k:=Wq (Zt (k:=?_)))))))
    have hjs : j = s.length := by omega
    subst hjs
    rw [List.drop_length, dn] at hi
    refine fin_ret () (vs := [_, _]) rfl (.tmp rfl (.tmp rfl .nil)) ?_ trivial ent_nil
    simp_all [readDec, pack, ← hi]
end
section
set_option maxRecDepth 100000
/-- A Builder that one has, with what it holds. -/
def IsB (p : Nat) (l : List UInt8) : HP := Ex fun q1 : Value => Ex fun q2 : Value => Al [Pu ((q1 = .pointer none ∨ q1 = .pointer (some ⟨p, 0, none⟩)) ∧ (l.length = 0 → q2 = .slice none 0 0)), Ce p 174 [q1, q2], Row 5 1 q2 l.length (vUs l)]
theorem copyCheck_nil (p : Nat) (v : Value) : Sp1 Tryz.prog 172 [.pointer (some ⟨p, 0, none⟩)] [Ce p 174 [.pointer none, v]] (.tuple #[]) [Ce p 174 [.pointer (some ⟨p, 0, none⟩), v]] := by
 refine Sp.body (n := 20) Tryz.call172 Tryz.func172 rfl rfl rfl ?_
 refine Qc (k:=Qv (k:=Qx 0 172 (k:=?_)))
 refine wo_pv (pv_peql_nil Tryz.underlying172 rfl rfl) rfl ?_
 refine Wq (Zi (t:=fun h6 => ?_) (f:=fun h6 => ?_))
 ·
  refine Zr (k:=Qv (k:=?_))
  refine r_toUnsafe Tryz.underlying172 Tryz.underlying243 ti174 rfl rfl .here rfl rfl ?_
  refine wo_pv (pv_extern Tryz.func198 (by kernel_rfl) (by kernel_rfl) (by kernel_rfl) (e := Extern.AbiNoEscape.same) (by kernel_rfl) rfl (fun w => rfl)) rfl ?_
  refine r_fromUnsafe Tryz.underlying243 Tryz.underlying172 ti174 rfl (by kernel_rfl) rfl .here rfl ?_
  refine Vv (k:=Vf 0 172 (k:=Zo (k:=Wn ?_)))
  refine fin_end () (vs := []) (Cs := []) rfl .nil rfl trivial ?_
  exact ent_pick
 ·
  simp at h6
  --done
theorem copyCheck_own (p : Nat) (v : Value) : Sp1 Tryz.prog 172 [.pointer (some ⟨p, 0, none⟩)] [Ce p 174 [.pointer (some ⟨p, 0, none⟩), v]] (.tuple #[]) [Ce p 174 [.pointer (some ⟨p, 0, none⟩), v]] := by
 refine Sp.body (n := 20) Tryz.call172 Tryz.func172 rfl rfl rfl ?_
 refine Qc (k:=Qv (k:=Qx 0 172 (k:=?_)))
 refine wo_pv (pv_peql_nil Tryz.underlying172 rfl rfl) rfl ?_
 refine Wq (Zi (t:=fun h6 => ?_) (f:=fun h6 => ?_))
 ·
  simp at h6
  --done
 ·
  refine Qc (k:=Qv (k:=Qx 0 172 (k:=Vv (k:=?_))))
  refine wo_pv (pv_pneq_same Tryz.underlying172 ti174 rfl rfl) rfl ?_
  refine Wq (Zi (t:=fun h19 => ?_) (f:=fun h19 => ?_))
  ·
   cases h19
   --done
  ·
   refine Zk (k:=?_)
   refine fin_end () (vs := []) (Cs := []) rfl .nil rfl trivial ?_
   exact ent_pick
theorem copyCheck_sp (p : Nat) (q v : Value) (hq : q = .pointer none ∨ q = .pointer (some ⟨p, 0, none⟩)) : Sp1 Tryz.prog 172 [.pointer (some ⟨p, 0, none⟩)] [Ce p 174 [q, v]] (.tuple #[]) [Ce p 174 [.pointer (some ⟨p, 0, none⟩), v]] := by
 rcases hq with rfl | rfl
 · exact copyCheck_nil p v
 · exact copyCheck_own p v
theorem WriteString_sp (p : Nat) (l s : List UInt8) (h : l.length + s.length ≤ 140737488355328) : Sp1 Tryz.prog 126 [.pointer (some ⟨p, 0, none⟩), vS s] [IsB p l] (.tuple #[vI s.length, .nilIface]) [IsB p (l ++ s)] := by
 refine Sp.body (n := 19) Tryz.call126 Tryz.func126 rfl rfl rfl ?_
 refine wc_exi fun q1 => wc_exi fun q2 => wc_al (wc_pu fun hq => ?_)
 refine Qc (k:=Qv (k:=Wq (Qc (k:=Vv (k:=?_)))))
 refine r_call1 (copyCheck_sp p q1 q2 hq.1) rfl rfl rfl ?_
 refine Wq (Qc (k:=Qv (k:=Vv (k:=Qx 1 89 (k:=Vv (k:=?_))))))
 refine wo_opT (by intro c; simp) (opt_appendS Tryz.underlying89 Tryz.underlying9 ti5 rfl rfl rfl rfl rfl h (xs := vUs l)) rfl (fun x14 hx14 => ?_)
 obtain ⟨⟨a14, c14, rfl⟩, hx14⟩ := hx14
 refine Vv (k:=Vf 1 89 (k:=?_))
 refine r_store ti89 rfl rfl rfl rfl (by simp) ?_
 refine Wq (Qc (k:=Qv (k:=Qv (k:=Wq (Zt (k:=?_))))))
 refine fin_ret () (vs := [_, _]) (Cs := []) rfl (.tmp rfl (.tmp rfl .nil)) rfl trivial ?_
 refine ent_ex (.pointer (some ⟨p, 0, none⟩)) ?_
 refine ent_ex (.slice a14 (l.length + s.length) c14) ?_
 refine ent_al ?_
 have e1 : (l ++ s).length = l.length + s.length := List.length_append
 have e2 : vUs (l ++ s) = vUs l ++ vUs s := by simp [vUs]
 rw [e1, e2]
 refine ent_pu ⟨.inr rfl, fun e => hx14 e (hq.2 (by omega))⟩ ent_pick
theorem String_nil (p : Nat) (q1 : Value) : wc none Tryz.prog 14 (bodyOf Tryz.f117) (locs 0 [.pointer (some ⟨p, 0, none⟩)]) [Ce p 174 [q1, .slice none 0 0]] (finO Tryz.prog Tryz.f117 (fun _ : Unit => vS []) (fun _ => True) (fun _ => [])) := by
 refine Qc (k:=Vv (k:=Wq (Za (k:=Dw [Ce p 174 [q1, .slice none 0 0]] (k:=?_)))))
 refine Dv 0 (k:=Dv 1 (k:=Di 2 (t:=Uf 1 89) (k:=Di 3 (t:=Ul) (k:=?_))))
 refine d_first 4 rfl rfl rfl (by kernel_rfl) (by kernel_rfl) (tl_pv (pv_usd_nil rfl)) ?_
 refine Dv 5 (k:=Dv 6 (k:=Di 7 (t:=Uf 1 89) (k:=Di 8 (t:=Ul) (k:=Dv 9 (k:=?_)))))
 refine d_first 10 rfl rfl rfl (by kernel_rfl) (by kernel_rfl) (tl_pv (pv_us_none rfl rfl)) ?_
 refine Dv 11 (k:=Dd (k:=Ya (Zt (k:=?_))))
 exact fin_ret () (vs := [_]) (Cs := []) rfl (.tmp rfl .nil) rfl trivial ent_nil
theorem String_own (p : Nat) (q1 : Value) (g cap : Nat) (cur : List Value) (l : List UInt8) (h0 : l ≠ []) (hc : l.length ≤ cap) (hcur : cur.take l.length = vUs l) (h : l.length ≤ 140737488355328) :
    wc none Tryz.prog 14 (bodyOf Tryz.f117) (locs 0 [.pointer (some ⟨p, 0, none⟩)]) [Ce g 5 cur, Ce p 174 [q1, .slice (some ⟨g, 0, none⟩) l.length cap]] (finO Tryz.prog Tryz.f117 (fun _ : Unit => vS l) (fun _ => True) (fun _ => [])) := by
 have hl0 : l.length ≠ 0 := by simpa using h0
 refine Qc (k:=Vv (k:=Wq (Za (k:=Dw [Ce p 174 [q1, .slice (some ⟨g, 0, none⟩) l.length cap]] (k:=?_)))))
 refine Dv 0 (k:=Dv 1 (k:=Di 2 (t:=Uf 1 89) (k:=Di 3 (t:=Ul) (k:=?_))))
 refine d_first 4 rfl rfl rfl (by kernel_rfl) (by kernel_rfl) (tl_pv (pv_usd_row rfl (by omega))) ?_
 refine Dv 5 (k:=Dv 6 (k:=Di 7 (t:=Uf 1 89) (k:=Di 8 (t:=Ul) (k:=Dv 9 (k:=Dn 10 (k:=?_))))))
 refine an_opT (opt_us_row Tryz.underlying224 (by kernel_rfl) rfl rfl h0 (by omega) hcur) rfl (fun _ _ => ?_)
 refine Dv 11 (k:=Dd (k:=Ya (Zt (k:=?_))))
 exact fin_ret () (vs := [_]) (Cs := []) rfl (.tmp rfl .nil) rfl trivial ent_nil
theorem String_sp (p : Nat) (l : List UInt8) (h : l.length ≤ 140737488355328) : Sp1 Tryz.prog 117 [.pointer (some ⟨p, 0, none⟩)] [IsB p l] (vS l) [] := by
 refine Sp.body (n := 14) Tryz.call117 Tryz.func117 rfl rfl rfl ?_
 refine wc_exi fun q1 => wc_exi fun q2 => wc_al (wc_pu fun hq => ?_)
 refine wc_front (Row 5 1 q2 l.length (vUs l)) (wc_row (fun e1 e2 e3 => ?_) (fun g cap cur e1 e2 e3 e4 e5 e6 => ?_))
 · subst e1
   have e4 : l = [] := List.eq_nil_of_length_eq_zero e2
   subst e4
   exact String_nil p q1
 · subst e1
   have h0 : l ≠ [] := fun x => by have := hq.2 (by rw [x]; rfl); cases this
   exact String_own p q1 g cap cur l h0 e2 (by simpa using e6) h
end
def zeros (n : Nat) : Bs := List.replicate n 0
def wholeS (s : Bs) : Bs := s ++ zeros (32 - s.length)
/-- A disk: its sectors, whether it is armed, how many writes go well yet, how much of the one that is torn is kept, whether it is down. -/
structure Dk where
 secs : List Bs
 armed : Bool
 left : Int
 keep : Nat
 down : Bool
structure Dk.Ok (D : Dk) : Prop where
 secs : ∀ s ∈ D.secs, s.length = 32
 keep : D.keep ≤ 32
 many : D.secs.length ≤ 2000
def newD (n : Int) : Dk := ⟨List.replicate (max 1 (min n 2000)).toNat (wholeS []), false, 0, 0, false⟩
def Dk.write (D : Dk) (i : Int) (s : Bs) : Dk × Bool :=
 if D.down = true ∨ i < 0 ∨ (D.secs.length : Int) ≤ i ∨ 32 < s.length then (D, false)
 else if D.armed = true ∧ D.left = 0 then
  ({ D with secs := D.secs.set i.toNat ((wholeS s).take D.keep ++ (D.secs.getD i.toNat []).drop D.keep), down := true, armed := false }, false)
 else ({ D with secs := D.secs.set i.toNat (wholeS s), left := D.left - 1 }, true)
theorem wholeS_len {s : Bs} (h : s.length ≤ 32) : (wholeS s).length = 32 := by simp [wholeS, zeros]; omega
/-- A transaction's sectors. -/
def pieceS (s : Bs) (mark : UInt8) : Bs := [UInt8.ofNat s.length] ++ s ++ zeros (30 - s.length) ++ [mark]
def piecesS (s : Bs) : List Bs := if 30 < s.length then pieceS (s.take 30) 1 :: piecesS (s.drop 30) else [pieceS s 2]
termination_by s.length
decreasing_by simp; omega
/-- What an opened journal holds: its texts, the place behind the last one; on the way the text that is under way. -/
def scanS : List Bs → Nat → Bs → List Bs → Nat → List Bs × Nat
 | [], _, _, l, e => (l, e)
 | s :: r, i, t, l, e =>
   if 30 < (s.getD 0 0).toNat then (l, e)
   else if s.getD 31 0 = 1 then scanS r (i + 1) (t ++ (s.drop 1).take (s.getD 0 0).toNat) l e
   else if s.getD 31 0 = 2 then scanS r (i + 1) [] (l ++ [t ++ (s.drop 1).take (s.getD 0 0).toNat]) (i + 1)
   else (l, e)
theorem piecesS_more {s : Bs} (h : 30 < s.length) : piecesS s = pieceS (s.take 30) 1 :: piecesS (s.drop 30) := by rw [piecesS, if_pos h]
theorem piecesS_last {s : Bs} (h : ¬ 30 < s.length) : piecesS s = [pieceS s 2] := by rw [piecesS, if_neg h]
theorem piecesS_len (s : Bs) : 0 < (piecesS s).length ∧ (piecesS s).length ≤ s.length + 1 := by
 induction h : s.length using Nat.strongRecOn generalizing s with
 | _ n ih =>
   by_cases hs : 30 < s.length
   · rw [piecesS_more hs]
     have := ih (s.drop 30).length (by simp; omega) (s.drop 30) rfl
     simp only [List.length_cons, List.length_drop] at *
     omega
   · rw [piecesS_last hs]; simp
theorem pieceS_len {s : Bs} (h : s.length ≤ 30) (m : UInt8) : (pieceS s m).length = 32 := by simp [pieceS, zeros]; omega
theorem piecesS_mem {s p : Bs} (hp : p ∈ piecesS s) : p.length = 32 := by
 induction h : s.length using Nat.strongRecOn generalizing s with
 | _ n ih =>
   by_cases hs : 30 < s.length
   · rw [piecesS_more hs] at hp
     rcases List.mem_cons.1 hp with rfl | hp
     · exact pieceS_len (by simp; omega) _
     · exact ih (s.drop 30).length (by simp; omega) hp rfl
   · rw [piecesS_last hs] at hp
     simp at hp; subst hp
     exact pieceS_len (by omega) _
def scanD (D : Dk) : List Bs × Nat := scanS D.secs 0 [] [] 0
theorem scanS_len : ∀ (ss : List Bs) (i : Nat) (t : Bs) (l : List Bs) (e N : Nat), t.length + 30 * ss.length ≤ N → (∀ s ∈ l, s.length ≤ N) → ∀ s ∈ (scanS ss i t l e).1, s.length ≤ N := by
 intro ss
 induction ss with
 | nil => intro i t l e N h hl s hs; exact hl s hs
 | cons x r ih =>
   intro i t l e N h hl s hs
   simp only [List.length_cons] at h
   simp only [scanS] at hs
   split at hs
   · exact hl s hs
   · have hx : ((x.drop 1).take (x.getD 0 0).toNat).length ≤ 30 := by rw [List.length_take]; omega
     split at hs
     · exact ih _ _ _ _ N (by rw [List.length_append]; omega) hl s hs
     · split at hs
       · refine ih _ _ _ _ N (by rw [List.length_nil]; omega) (fun u hu => ?_) s hs
         rcases List.mem_append.1 hu with hu | hu
         · exact hl u hu
         · simp only [List.mem_singleton] at hu
           subst hu; rw [List.length_append]; omega
       · exact hl s hs
theorem scanS_end : ∀ (ss : List Bs) (i : Nat) (t : Bs) (l : List Bs) (e : Nat), l.length ≤ e → e ≤ i → (scanS ss i t l e).1.length ≤ (scanS ss i t l e).2 ∧ (scanS ss i t l e).2 ≤ i + ss.length := by
 intro ss
 induction ss with
 | nil => intro i t l e h1 h2; simp only [scanS, List.length_nil]; omega
 | cons x r ih =>
   intro i t l e h1 h2
   simp only [scanS, List.length_cons]
   split
   · dsimp only; omega
   · split
     · have := ih (i + 1) (t ++ (x.drop 1).take (x.getD 0 0).toNat) l e h1 (by omega); omega
     · split
       · have := ih (i + 1) [] (l ++ [t ++ (x.drop 1).take (x.getD 0 0).toNat]) (i + 1) (by rw [List.length_append, List.length_singleton]; omega) (Nat.le_refl _); omega
       · dsimp only; omega
theorem scanS_step {ss : List Bs} {i : Nat} (h : i < ss.length) (t : Bs) (l : List Bs) (e : Nat) : scanS (ss.drop i) i t l e =
    (if 30 < ((ss.getD i []).getD 0 0).toNat then (l, e)
    else if (ss.getD i []).getD 31 0 = 1 then scanS (ss.drop (i + 1)) (i + 1) (t ++ ((ss.getD i []).drop 1).take ((ss.getD i []).getD 0 0).toNat) l e
    else if (ss.getD i []).getD 31 0 = 2 then scanS (ss.drop (i + 1)) (i + 1) [] (l ++ [t ++ ((ss.getD i []).drop 1).take ((ss.getD i []).getD 0 0).toNat]) (i + 1)
    else (l, e)) := by
 have e1 : ss.drop i = ss.getD i [] :: ss.drop (i + 1) := by
  rw [List.drop_eq_getElem_cons h]; simp [h]
 rw [e1, scanS]
/-- A journal: its texts, the place behind the last one, whether the disk went down under it. -/
structure Jn where
 l : List Bs
 e : Nat
 down : Bool
def openJ (D : Dk) : Jn := ⟨(scanD D).1, (scanD D).2, false⟩
/-- Sectors written one behind the other: the disk, whether all were written. -/
def Dk.writes : Dk → Nat → List Bs → Dk × Bool
 | D, _, [] => (D, true)
 | D, i, p :: r => match D.write i p with
   | (D', true) => D'.writes (i + 1) r
   | (D', false) => (D', false)
/-- A commit: the journal, the disk, the answer (0: done; 6: full; 9: down). -/
def commitJ (J : Jn) (D : Dk) (s : Bs) : Jn × Dk × Nat :=
 if J.down = true then (J, D, 9)
 else if (D.secs.length : Int) - J.e < (piecesS s).length then (J, D, 6)
 else match D.writes J.e (piecesS s) with
  | (D', true) => (⟨J.l ++ [s], J.e + (piecesS s).length, false⟩, D', 0)
  | (D', false) => (⟨J.l, J.e, true⟩, D', 9)
section
set_option maxRecDepth 100000
theorem bits_Mul_sp (x y : Nat) (hx : x < 18446744073709551616) (hy : y < 18446744073709551616) : SpF Tryz.prog 130 [.int .u64 x, .int .u64 y] (.tuple #[.int .u64 ((x * y / 18446744073709551616 : Nat) : Int), .int .u64 ((x * y % 18446744073709551616 : Nat) : Int)]) :=
 SpF.of_same Tryz.call130 fun w => Tryz.bits_Mul x y hx hy w
theorem copy_step (x z : Value) (j k : Nat) (h0 : 0 < j) (h : j < k) :
    let cur := List.replicate j x ++ List.replicate (k - j) z
    let m := Nat.min j (k - j)
    cur.take (0 + j) ++ List.replicate m x ++ cur.drop (0 + j + m) = List.replicate (j + m) x ++ List.replicate (k - (j + m)) z := by
 intro cur m
 have hm : m ≤ k - j := Nat.min_le_right _ _
 have e1 : cur.take (0 + j) = List.replicate j x := by
  rw [Nat.zero_add]
  have : (List.replicate j x).length = j := List.length_replicate
  conv => lhs; arg 1; rw [← this]
  exact List.take_left
 have e2 : cur.drop (0 + j + m) = List.replicate (k - (j + m)) z := by
  rw [Nat.zero_add, ← List.drop_drop]
  have : (List.replicate j x).length = j := List.length_replicate
  have e3 : cur.drop j = List.replicate (k - j) z := by
   conv => lhs; arg 1; rw [← this]
   exact List.drop_left
  rw [e3, List.drop_replicate]; congr 1; omega
 rw [e1, e2, List.append_assoc, ← List.append_assoc, List.replicate_append_replicate]
theorem take_rep (x z : Value) (j k : Nat) : ((List.replicate j x ++ List.replicate (k - j) z).drop 0).take (Nat.min j (k - j)) = List.replicate (Nat.min j (k - j)) x := by
 rw [List.drop_zero, List.take_append_of_le_length (by simp; exact Nat.min_le_left _ _), List.take_replicate]
 congr 1
 exact Nat.min_eq_left (Nat.min_le_left _ _)
theorem u64_in {m : Int} (h : 0 ≤ m ∧ m ≤ 18446744073709551615) : IntKind.u64.wrap m = m := by rw [IntKind.wrap_u64]; omega
theorem bits_Mul_one (k : Nat) (hk : k ≤ 2000) : SpF Tryz.prog 130 [.int .u64 (1 : Int), .int .u64 (k : Int)] (.tuple #[.int .u64 0, .int .u64 (k : Int)]) := by
 have := bits_Mul_sp 1 k (by omega) (by omega)
 have e1 : 1 * k / 18446744073709551616 = 0 := by omega
 have e2 : 1 * k % 18446744073709551616 = k := by omega
 rw [e1, e2] at this
 exact this
theorem slices_Repeat_sp (b k : Nat) (s : List UInt8) (hk : 1 ≤ k) (hk2 : k ≤ 2000) : Sp Tryz.prog 84 [.slice (some ⟨b, 0, none⟩) 1 1, vI k] [Ce b 9 [vS s]] (X := Nat) (fun g => .slice (some ⟨g, 0, none⟩) k k) (fun _ => True) (fun g => [Row 9 1 (.slice (some ⟨g, 0, none⟩) k k) k ((List.replicate k s).map vS)]) := by
 refine Sp.body (n := 48) Tryz.call84 Tryz.func84 rfl rfl rfl ?_
 refine Qc (k:=Vv (k:=Wq (Za (k:=Qc (k:=Qv (k:=Wq (Zi (t:=fun h10 => ?_) (f:=fun h10 => ?_))))))))
 ·
  exfalso; omega
  --done
 ·
  refine Zk (k:=Ya (Qc (k:=Qv (k:=?_))))
  refine wo_pv (pv_conv_in rfl Tryz.underlying3 Tryz.underlying105 (u64_in (by omega))) rfl ?_
  refine Vv (k:=?_)
  refine wo_pv (pv_conv_in rfl Tryz.underlying3 Tryz.underlying105 (u64_in (by omega))) rfl ?_
  refine r_callF (bits_Mul_one k hk2) rfl rfl rfl ?_
  refine Qv (k:=Qv (k:=Vv (k:=Wq (Za (k:=Qc (k:=Qv (k:=Vv (k:=?_))))))))
  refine Gi 2 (t:=fun h23 => ?_) (f:=fun h23 => ?_)
  ·
   exfalso; omega
   --done
  ·
   refine J0 (k:=J0 (k:=P0 (k:=Wq (Zi (t:=fun h26 => ?_) (f:=fun h26 => ?_)))))
   ·
    exfalso; omega
    --done
   ·
    refine Zk (k:=Ya (Qc (k:=Vv (k:=?_))))
    refine wo_pv (pv_conv_in rfl Tryz.underlying105 Tryz.underlying3 (i64_in' (by omega))) rfl ?_
    refine r_makeSlice (z := vS []) Tryz.underlying27 ti9 rfl rfl rfl rfl rfl (by omega) (by rw [show Tryz.t9.bytes = 16 from rfl]; omega) rfl (fun b30 => ?_)
    refine Vv (k:=Wq (Qc (k:=Qv (k:=?_))))
    refine wo_ent' ent_true ?_
    refine wo_opT (by intro c; simp) (opt_copy Tryz.underlying27 rfl rfl rfl (.inr (shows_ce (b := b) (T := 9) (l := [vS s]))) (q := 1) (Nat.min_eq_left hk) rfl (by simp) (by simp; omega) rfl (cur := List.replicate k (vS [])) (T := 9)) rfl (fun _ _ => ?_)
    have e33 : (List.replicate k (vS [])).take 0 ++ (List.take 1 (List.drop 0 [vS s])) ++ (List.replicate k (vS [])).drop (0 + 1) = List.replicate 1 (vS s) ++ List.replicate (k - 1) (vS []) := by
     simp [List.drop_replicate]
    rw [e33]
    refine Vv (k:=Wq (Za (k:=Zb (k:=?_))))
    refine p_loop (fun (i : { j : Nat // 1 ≤ j ∧ j ≤ k }) => [(8, vI i.1), (7, .slice (some ⟨b30, 0, none⟩) k k)]) (fun (i : { j : Nat // 1 ≤ j ∧ j ≤ k }) => [Pu True, Ce b30 9 (List.replicate i.1 (vS s) ++ List.replicate (k - i.1) (vS []))]) (fun (i : { j : Nat // 1 ≤ j ∧ j ≤ k }) => k - i.1) rfl (⟨1, Nat.le_refl _, hk⟩) ?_ ?_ (fun i => ?_)
    · exact ⟨rfl, rfl, trivial⟩
    ·
     refine ent_cons ent_pick
    obtain ⟨j, hj1, hj2⟩ := i
    have hm1 : Nat.min j (k - j) ≤ j := Nat.min_le_left _ _
    have hm2 : Nat.min j (k - j) ≤ k - j := Nat.min_le_right _ _
    try dsimp only
    refine Za (k:=Qc (k:=Qv (k:=Qv (k:=Wq (Zi (t:=fun h37 => ?_) (f:=fun h37 => ?_))))))
    ·
     refine Zk (k:=Ya (Zb (k:=Dw [] (k:=?_))))
     refine Dv 0 (k:=Dv 1 (k:=Dv 2 (k:=?_)))
     refine d_first 3 rfl rfl rfl (by kernel_rfl) (by kernel_rfl) (tl_pv (pv_slslice_fromm Tryz.underlying27 ti9 rfl rfl rfl rfl (Nat.mul_one _) (by omega) (by omega) (fun b e => by cases e; rfl))) ?_
     refine Dv 4 (k:=Dv 5 (k:=?_))
     refine d_first 6 rfl rfl rfl (by kernel_rfl) (by kernel_rfl) (tl_pv (pv_slslice_tom Tryz.underlying27 ti9 rfl rfl rfl (by omega))) ?_
     refine Dn 7 (k:=?_)
     refine an_opT (opt_copy Tryz.underlying27 rfl rfl rfl (.inl ⟨rfl, rfl, rfl⟩) rfl (take_rep _ _ _ _) (by simp; omega) (by simp; omega) (by simp [oneCell]) (cur := List.replicate j (vS s) ++ List.replicate (k - j) (vS [])) (T := 9)) rfl (fun _ _ => ?_)
     refine Dv 8 (k:=Dv 9 (k:=Dd (k:=Yb ?_)))
     have hp : 1 ≤ Nat.min j (k - j) := by rw [show Nat.min j (k - j) = min j (k - j) from rfl]; omega
     refine to_inv ⟨j + Nat.min j (k - j), by omega, by omega⟩ ?_ ⟨vI_eq (by dsimp only; omega), rfl, trivial⟩ ?_
     · dsimp only; omega
     · have e := copy_step (vS s) (vS []) j k (by omega) (by omega)
       dsimp only at e
       rw [← e]
       exact ent_pick
    ·
     refine Ze (k:=Xa (Xi (Xb (Ya (Qc (k:=Qv (k:=Wq (Zt (k:=?_)))))))))
     have hjk : j = k := by omega
     subst hjk
     refine fin_ret b30 (vs := [_]) (Cs := []) rfl (.tmp rfl .nil) rfl trivial ?_
     refine ent_step (ent_row (cur := List.replicate j (vS s) ++ List.replicate (j - j) (vS [])) (Nat.le_refl _) (by simp only [maxLen]; omega) (by simp) (by simp) (by simp)) ent_nil
theorem disk_whole_sp (s : List UInt8) (h : s.length ≤ 32) : SpF Tryz.prog 85 [vS s] (vS (wholeS s)) := by
 refine Sp.body (n := 9) Tryz.call85 Tryz.func85 rfl rfl rfl ?_
 refine Qc (k:=Vv (k:=Wq (Qc (k:=Qv (k:=Qv (k:=?_))))))
 have e7 : (32 : Int) - (s.length : Int) = ((32 - s.length : Nat) : Int) := by omega
 have hr := Repeat_sp [0] (32 - s.length) (by simp; omega) (by omega)
 rw [repeat_one] at hr
 rw [← e7] at hr
 refine r_callF hr rfl rfl rfl ?_
 refine Qv (k:=Wq (Zt (k:=?_)))
 exact fin_ret () (vs := [_]) rfl (.tmp rfl .nil) rfl trivial ent_nil
/-- A disk in memory. -/
def IsD (p : Nat) (D : Dk) : HP := Ex fun a : Option Addr => Ex fun c : Nat => Al [Pu D.Ok, Ce p 145 [.slice a D.secs.length c, vB D.armed, vI D.left, vI D.keep, vB D.down], Row 9 1 (.slice a D.secs.length c) D.secs.length (D.secs.map vS)]
theorem fold_isD {p : Nat} (D : Dk) {v0 v1 v2 v3 v4 : Value} {n e sz T : Nat} {xs : List Value} {Hs R1 Rs : List HP} [h1 : OwnC p T [v0, v1, v2, v3, v4] Hs R1] [h2 : RowC v0 e sz n xs R1 Rs] (ok : D.Ok) (hT : T = 145) (he : e = 9 ∧ sz = 1)
    (h0 : ∃ a c, v0 = .slice a D.secs.length c) (e1 : v1 = vB D.armed) (e2 : v2 = vI D.left) (e3 : v3 = vI D.keep) (e4 : v4 = vB D.down) (hn : n = D.secs.length) (hx : xs = D.secs.map vS) : Ent Hs (IsD p D :: Rs) := by
 obtain ⟨a, c, rfl⟩ := h0
 obtain ⟨rfl, rfl⟩ := he
 subst hT; subst e1; subst e2; subst e3; subst e4; subst hn; subst hx
 refine ent_ex a ?_
 refine ent_ex c (ent_al (ent_pu ok ?_))
 exact ent_step (ent_pick1 h1.get) (ent_pick1 h2.get)
theorem newD_ok (n : Int) : (newD n).Ok := by
 refine ⟨fun s hs => ?_, by simp [newD], by simp [newD]; omega⟩
 have : s = wholeS [] := List.eq_of_mem_replicate hs
 subst this; rfl
theorem disk_New_sp (n : Int) : Sp Tryz.prog 33 [vI n] [] (X := Nat) (fun p => .pointer (some ⟨p, 0, none⟩)) (fun _ => True) (fun p => [IsD p (newD n)]) := by
 refine Sp.body (n := 11) Tryz.call33 Tryz.func33 rfl rfl rfl ?_
 refine Qc (k:=Vv (k:=Wq (Qc (k:=?_))))
 refine r_callF (disk_whole_sp [] (by simp)) rfl rfl rfl ?_
 refine Zv [_] (cs := [_]) (k:=fun b4 => Qv (k:=Vv (k:=?_)))
 have e8 : max 1 (min n 2000) = (((max 1 (min n 2000)).toNat : Nat) : Int) := by omega
 have hw8 : (newD n).secs.length = (max 1 (min n 2000)).toNat := by simp [newD]
 have hr := slices_Repeat_sp b4 (max 1 (min n 2000)).toNat (wholeS []) (by omega) (by omega)
 rw [← e8] at hr
 refine r_callX hr rfl rfl rfl (fun g8 _ => ?_)
 clear hr e8
 generalize hk : (max 1 (min n 2000)).toNat = k at *
 refine Vx (Ps [_, .bool false, .int .i64 0, .int .i64 0, .bool false]) (k:=Zx [_, _, _, _, _] (k:=fun b10 => Vv (k:=Wq (Zt (k:=?_)))))
 refine fin_ret b10 (vs := [_]) (Cs := []) rfl (.tmp rfl .nil) rfl trivial ?_
 exact fold_isD (newD n) (newD_ok n) rfl ⟨rfl, rfl⟩ ⟨_, _, by rw [hw8]⟩ rfl rfl rfl rfl hw8.symm (by simp [newD, hk])
theorem disk_Sectors_sp (p : Nat) (D : Dk) : Sp1 Tryz.prog 140 [.pointer (some ⟨p, 0, none⟩)] [IsD p D] (vI D.secs.length) [IsD p D] := by
 refine Sp.body (n := 8) Tryz.call140 Tryz.func140 rfl rfl rfl ?_
 refine wc_exi fun a => wc_exi fun c => wc_al (wc_pu fun ok => ?_)
 refine Qc (k:=Vv (k:=Wq (Qc (k:=Qv (k:=Qx 0 27 (k:=Qv (k:=?_)))))))
 refine Wq (Zt (k:=?_))
 refine fin_ret () (vs := [_]) (Cs := []) rfl (.tmp rfl .nil) rfl trivial ?_
 exact fold_isD D ok (by rfl) (by exact ⟨rfl, rfl⟩) (by exact ⟨_, _, rfl⟩) (by rfl) (by rfl) (by rfl) (by rfl) (by rfl) (by rfl)
theorem zb141ret2 {G : Prop} (h : G := by
    have hw : D.write i s = (D, false) := by
     rw [Dk.write, if_pos (by first | exact .inl ‹D.down = true› | exact .inr (.inl ‹i < 0›) | exact .inr (.inr (.inl ‹_›)) | exact .inr (.inr (.inr (by omega))))]
    rw [hw]
    refine fin_ret () (vs := [_]) (Cs := []) rfl (.tmp rfl .nil) rfl trivial ?_
    exact fold_isD D ok (by rfl) (by exact ⟨rfl, rfl⟩) (by exact ⟨_, _, rfl⟩) (by rfl) (by rfl) (by rfl) (by rfl) (by rfl) (by rfl)) : G := h
theorem zb141ret10 {G : Prop} (h : G := by
    have hw : D.write i s = ({ D with secs := D.secs.set i.toNat (wholeS s), left := D.left - 1 }, true) := by
     rw [Dk.write, if_neg (by rintro (h | h | h | h) <;> first | exact h16 h | exact h25 h | omega | (rw [h12] at h; cases h)), if_neg (by rintro ⟨h1, h2⟩; first | exact absurd h2 ‹_› | (rw [h36] at h1; cases h1))]
    rw [hw]
    refine fin_ret () (vs := [_]) (Cs := []) rfl (.tmp rfl .nil) rfl trivial ?_
    refine fold_isD { D with secs := D.secs.set i.toNat (wholeS s), left := D.left - 1 } ⟨fun u hu => ?_, ok.keep, by simpa using hm⟩ (by rfl) (by exact ⟨rfl, rfl⟩) (by exact ⟨a, c, by rw [List.length_set]⟩) (by rfl) (by rfl) (by rfl) (by rfl) (by simp) (by rw [List.map_set])
    rcases List.mem_or_eq_of_mem_set hu with h | rfl
    · exact ok.secs u h
    · exact wholeS_len (by omega)) : G := h
theorem disk_Write_sp (p : Nat) (D : Dk) (i : Int) (s : List UInt8) (hs : s.length ≤ 140737488355328) (hl : -4611686018427387904 ≤ D.left ∧ D.left ≤ 9223372036854775807) : Sp1 Tryz.prog 141 [.pointer (some ⟨p, 0, none⟩), vI i, vS s] [IsD p D] (vB (D.write i s).2) [IsD p (D.write i s).1] := by
 refine Sp.body (n := 88) Tryz.call141 Tryz.func141 rfl rfl rfl ?_
 refine wc_exi fun a => wc_exi fun c => wc_al (wc_pu fun ok => ?_)
 have hk := ok.keep
 have hm := ok.many
 refine Qc (k:=Vv (k:=Wq (Za (k:=Qc (k:=Qv (k:=Qx 4 4 (k:=Vv (k:=?_))))))))
 refine Gi 4 (t:=fun h12 => ?_) (f:=fun h12 => ?_)
 ·
  refine O1 (k:=O1 (k:=P1 (k:=Vv (k:=O1 (k:=O1 (k:=O1 (k:=O1 (k:=O1 (k:=O1 (k:=O1 (k:=P1 (k:=?_))))))))))))
  refine Vv (k:=O1 (k:=O1 (k:=O1 (k:=P1 (k:=Wq (Z1 (k:=Qc (k:=Vv (k:=Wq (Zt (k:=?_)))))))))))
  refine Va ?_
  exact zb141ret2
 ·
  refine J0 (k:=J0 (k:=P0 (k:=Vv (k:=Gi 8 (t:=fun h16 => ?_) (f:=fun h16 => ?_)))))
  ·
   refine O1 (k:=O1 (k:=O1 (k:=O1 (k:=O1 (k:=O1 (k:=O1 (k:=P1 (k:=Vv (k:=O1 (k:=O1 (k:=O1 (k:=?_))))))))))))
   refine P1 (k:=Wq (Z1 (k:=Qc (k:=Vv (k:=Wq (Zt (k:=Va ?_)))))))
   exact zb141ret2
  ·
   refine J0 (k:=J0 (k:=J0 (k:=I0 (k:=Vf 0 27 (k:=I0 (k:=Zd (k:=J0 (k:=?_))))))))
   refine J0 (k:=P0 (k:=Vv (k:=Gi 17 (t:=fun h25 => ?_) (f:=fun h25 => ?_))))
   ·
    refine O1 (k:=O1 (k:=O1 (k:=P1 (k:=Wq (Z1 (k:=Qc (k:=Vv (k:=Wq (Zt (k:=Va ?_))))))))))
    exact zb141ret2
   ·
    refine J0 (k:=J0 (k:=J0 (k:=P0 (k:=Wq (Zi (t:=fun h29 => ?_) (f:=fun h29 => ?_))))))
    ·
     refine Qc (k:=Vv (k:=Wq (Zt (k:=Va ?_))))
     exact zb141ret2
    ·
     refine Zk (k:=Ya (Qc (k:=Vv (k:=?_))))
     refine r_callF (disk_whole_sp s (by omega)) rfl rfl rfl ?_
     refine Vv (k:=Wq (Za (k:=Qc (k:=Qv (k:=Qx 1 4 (k:=Vv (k:=Gi 4 (t:=fun h36 => ?_) (f:=fun h36 => ?_))))))))
     ·
      refine J1 (k:=J1 (k:=I1 (k:=Vf 2 3 (k:=I1 (k:=Zd (k:=J1 (k:=P1 (k:=Wq ?_))))))))
      refine Zi (t:=fun h42 => ?_) (f:=fun h42 => ?_)
      ·
       refine Za (k:=?_)
       have em : i = ((i.toNat : Nat) : Int) := by omega
       have hlen : (D.secs[i.toNat]'(by omega)).length = 32 := ok.secs _ (List.getElem_mem _)
       have hwl : (wholeS s).length = 32 := wholeS_len (by omega)
       refine Dw [Ce p 145 [.slice a D.secs.length c, vB D.armed, vI D.left, vI D.keep, vB D.down]] (k:=?_)
       refine Dv 0 (k:=Dv 1 (k:=Di 2 (t:=Uf 0 27) (k:=Di 3 (t:=Ul) (k:=Dv 4 (k:=Dv 5 (k:=Dv 6 (k:=Dv 7 (k:=Di 8 (t:=Uf 3 3) (k:=Di 9 (t:=Ul) (k:=Dv 10 (k:=Dv 11 (k:=?_))))))))))))
       refine Dv 12 (k:=Di 13 (t:=Uf 0 27) (k:=Di 14 (t:=Ul) (k:=Dv 15 (k:=Dv 18 (k:=Dv 19 (k:=Di 20 (t:=Uf 3 3) (k:=Di 21 (t:=Ul) (k:=Dn 16 (k:=?_)))))))))
       refine an_elemAddr Tryz.underlying27 ti9 rfl rfl rfl em (by omega) (by rw [List.length_map]; omega) (Nat.mul_one _) rfl ?_
       refine Dn 17 (k:=?_)
       refine an_eload Tryz.underlying9 rfl rfl (get_map (by omega)) rfl ?_
       refine Dv 22 (k:=Dv 23 (k:=Dn 24 (k:=?_)))
       refine an_elemAddr Tryz.underlying27 ti9 rfl rfl rfl em (by omega) (by rw [List.length_map]; omega) (Nat.mul_one _) rfl ?_
       refine Dn 25 (k:=?_)
       refine an_estore ti9 rfl rfl rfl rfl (by first | (rw [List.length_map]; omega) | (rw [flat_len (fun _ => rfl)]; omega) | (simp; omega)) ?_
       refine Dd (k:=Ya (Qc (k:=Qv (k:=Vv (k:=Vf 4 4 (k:=Zo (k:=Vv (k:=Vf 1 4 (k:=Zo (k:=?_))))))))))
       refine Wq (Qc (k:=Vv (k:=Wq (Zt (k:=Va ?_)))))
       have hw : D.write i s = ({ D with secs := D.secs.set i.toNat ((wholeS s).take D.keep ++ (D.secs.getD i.toNat []).drop D.keep), down := true, armed := false }, false) := by
        rw [Dk.write, if_neg (by rintro (h | h | h | h) <;> first | exact h16 h | exact h25 h | omega | (rw [h12] at h; cases h)), if_pos ⟨h36, h42⟩]
       rw [hw]
       have hg : D.secs.getD i.toNat [] = D.secs[i.toNat]'(by omega) := by simp; rw [List.getElem?_eq_getElem (by omega)]; rfl
       refine fin_ret () (vs := [_]) (Cs := []) rfl (.tmp rfl .nil) rfl trivial ?_
       refine fold_isD { D with secs := D.secs.set i.toNat ((wholeS s).take D.keep ++ (D.secs.getD i.toNat []).drop D.keep), down := true, armed := false } ⟨fun u hu => ?_, ok.keep, by simpa using hm⟩ (by rfl) (by exact ⟨rfl, rfl⟩) (by exact ⟨a, c, by rw [List.length_set]⟩) (by rfl) (by rfl) (by rfl) (by rfl) (by simp) (by rw [List.map_set, hg])
       rcases List.mem_or_eq_of_mem_set hu with h | rfl
       · exact ok.secs u h
       · rw [hg]; simp only [List.length_append, List.length_take, List.length_drop, hlen, hwl]; omega
      ·
       refine Zk (k:=Ya (Qc (k:=Qv (k:=Qx 0 27 (k:=Qv (k:=?_))))))
       have em : i = ((i.toNat : Nat) : Int) := by omega
       refine r_elemAddr Tryz.underlying27 ti9 rfl rfl rfl em (by omega) (by rw [List.length_map]; omega) (Nat.mul_one _) rfl ?_
       refine r_estore ti9 rfl rfl rfl rfl (by first | (rw [List.length_map]; omega) | (rw [flat_len (fun _ => rfl)]; omega) | (simp; omega)) ?_
       refine Wq (Qc (k:=Qv (k:=Qx 2 3 (k:=Qv (k:=Vf 2 3 (k:=Zo (k:=Wq ?_)))))))
       refine Qc (k:=Vv (k:=Wq (Zt (k:=?_))))
       exact zb141ret10
     ·
      refine O0 (k:=O0 (k:=O0 (k:=O0 (k:=O0 (k:=P0 (k:=Wq (Z0 (k:=Zk (k:=Ya (Qc (k:=?_)))))))))))
      refine Qv (k:=Qx 0 27 (k:=Qv (k:=?_)))
      have em : i = ((i.toNat : Nat) : Int) := by omega
      refine r_elemAddr Tryz.underlying27 ti9 rfl rfl rfl em (by omega) (by rw [List.length_map]; omega) (Nat.mul_one _) rfl ?_
      refine r_estore ti9 rfl rfl rfl rfl (by first | (rw [List.length_map]; omega) | (rw [flat_len (fun _ => rfl)]; omega) | (simp; omega)) ?_
      refine Wq (Qc (k:=Qv (k:=Qx 2 3 (k:=Qv (k:=Vf 2 3 (k:=Zo (k:=Wq ?_)))))))
      refine Qc (k:=Vv (k:=Wq (Zt (k:=?_))))
      exact zb141ret10
end
section
set_option maxRecDepth 100000
section
variable {r : Option Nat} {P : Program} {n : Nat} {ops : Array Oper} {os : List Oper} {A : List HP} {L : Loc} {Hs : List HP} {Q : Out} {c : Code}
theorem row_none {e : TypeId} {sz k n' c' : Nat} {a : Option Addr} {xs : List Value} {M : Kn} {h : Res} (x : (Row e sz (.slice a n' c') k xs).at_ M h) : a = none → k = 0 := by
 intro ha
 rcases x with ⟨_, h1, _⟩ | ⟨g, cap, cur, h1, _⟩
 · exact h1
 · subst ha; cases h1
end
theorem slices_Clone_sp {B : HP} {a : Option Addr} (n c : Nat) (l : List (List UInt8)) (sh : SlA B a (l.map vS)) (hn : l.length = n) (ha : a = none → n = 0) (hb : n ≤ 8796093022208) :
    Sp Tryz.prog 134 [.slice a n c] [B] (X := Option Addr × Nat) (fun x => .slice x.1 n x.2) (fun _ => True) (fun x => [Row 9 1 (.slice x.1 n x.2) n (l.map vS), B]) := by
 subst hn
 refine Sp.body (n := 8) Tryz.call134 Tryz.func134 rfl rfl rfl ?_
 refine Qc (k:=Vv (k:=Wq (Za (k:=Qc (k:=Vv (k:=?_))))))
 refine wo_pv (pv_sleql_nil Tryz.underlying27 rfl rfl) rfl ?_
 refine Wq (Zi (t:=fun h4 => ?_) (f:=fun h4 => ?_))
 ·
  refine Qc (k:=Vv (k:=Wq (Zt (k:=Va ?_))))
  have ha' : a = none := by simpa using h4
  have hl : l = [] := List.eq_nil_of_length_eq_zero (ha ha')
  subst hl
  refine fin_ret (none, 0) (vs := [_]) (Cs := []) rfl (.tmp rfl .nil) rfl trivial ?_
  exact row_nil
 ·
  refine Zk (k:=Ya (Qc (k:=Zv [] (cs := []) (k:=fun b5 => Vv (k:=?_)))))
  refine wo_ent' (ent_row (k := 0) (cap := 0) (sz := 1) (e := 9) (g := b5) (xs := []) (cur := []) (Nat.le_refl _) (by simp [maxLen]) rfl rfl rfl) ?_
  refine wo_opT (by intro c; simp) (opt_appendA Tryz.underlying27 ti9 rfl rfl rfl rfl rfl rfl rfl sh (by simp) (by simp [oneCell]) (by omega) (by simp only [maxLen]; omega) (k := 0) (xs := []) (sz := 1) (bytes := 16)) rfl (fun x7 ⟨a7, c7, h7⟩ => ?_)
  subst h7
  rw [Nat.zero_add, List.nil_append]
  refine Vv (k:=Wq (Zt (k:=?_)))
  refine fin_ret (a7, c7) (vs := [_]) (Cs := []) rfl (.tmp rfl .nil) rfl trivial ?_
  exact ent_pick
/-- The functions that walk a slice. -/
theorem slices_All_sp (a : Option Addr) (n c : Nat) : Sp Tryz.prog 180 [.slice a n c] [] (X := Nat) (fun b => .func (.func 202) #[] #[.pointer (some ⟨b, 0, none⟩)]) (fun _ => True) (fun b => [Ce b 27 [.slice a n c]]) := by
 refine Sp.body (n := 4) Tryz.call180 Tryz.func180 rfl rfl rfl ?_
 refine Qc (k:=Zx [_] (k:=fun b1 => Vv (k:=Wq (Qc (k:=Qv (k:=Wq (Zt (k:=?_))))))))
 refine fin_ret b1 (vs := [_]) (Cs := []) rfl (.tmp rfl .nil) rfl trivial ?_
 exact ent_pick
theorem slices_Values_sp (a : Option Addr) (n c : Nat) : Sp Tryz.prog 133 [.slice a n c] [] (X := Nat) (fun b => .func (.func 181) #[] #[.pointer (some ⟨b, 0, none⟩)]) (fun _ => True) (fun b => [Ce b 27 [.slice a n c]]) := by
 refine Sp.body (n := 4) Tryz.call133 Tryz.func133 rfl rfl rfl ?_
 refine Qc (k:=Zx [_] (k:=fun b1 => Vv (k:=Wq (Qc (k:=Qv (k:=Wq (Zt (k:=?_))))))))
 refine fin_ret b1 (vs := [_]) (Cs := []) rfl (.tmp rfl .nil) rfl trivial ?_
 exact ent_pick
theorem get_mapD {α : Type} {f : α → Value} {l : List α} {m : Nat} (d : α) (h : m < l.length) : (l.map f)[m]? = some (f (l.getD m d)) := by simp [h]
/-- How far a walk over a slice has come. -/
abbrev okR (n : Nat) : List Nat → Nat → Prop := fun pre i => i = pre.length ∧ i < n
abbrev stopR (n : Nat) : List Nat → Prop := fun pre => ∃ m, 0 < m ∧ m ≤ n ∧ pre = List.range m
theorem slices_All_it {B : HP} {a : Option Addr} (n c b : Nat) (l : List (List UInt8)) (sh : SlA B a (l.map vS)) (hn : l.length = n) (hb : n ≤ 140737488355328) :
    Iter Tryz.prog 202 [.pointer (some ⟨b, 0, none⟩)] (fun i : Nat => [vI i, vS (l.getD i [])]) (okR n) (stopR n) [Ce b 27 [.slice a n c], B] [Ce b 27 [.slice a n c], B] (List.range n) (fun _ => .tuple #[]) := by
 intro y J Jx ys
 subst hn
 haveI : RdSl a (l.map vS) [B] := ⟨⟨B, sh, .here⟩⟩
 refine Sp.body (n := 18) Tryz.call202 Tryz.func202 rfl rfl rfl ?_
 refine Qc (k:=Zd (k:=Qv (k:=Wq (Zb (k:=?_)))))
 refine p_loop (fun (i : { j : Nat // j ≤ l.length }) => [(0, y), (5, .slice a l.length c), (6, vI l.length), (7, vI i.1)]) (fun (i : { j : Nat // j ≤ l.length }) => [J (List.range i.1), Ce b 27 [.slice a l.length c], B]) (fun (i : { j : Nat // j ≤ l.length }) => l.length - i.1) rfl (⟨0, Nat.zero_le _⟩) ?_ ?_ (fun i => ?_)
 · exact ⟨rfl, rfl, rfl, rfl, trivial⟩
 ·
  exact Ent.refl _
 obtain ⟨j, hj⟩ := i
 try dsimp only
 refine Qc (k:=Vv (k:=Wq (Za (k:=Zi (t:=fun h8 => ?_) (f:=fun h8 => ?_)))))
 ·
  refine Zk (k:=Ya (Za (k:=Zb (k:=Qc (k:=Vv (k:=Ye 1 (k:=Yl (hv:=by exact get_mapD [] (by omega)) (k:=Qv (k:=Wq ?_)))))))))
  refine Qc (k:=Qv (k:=Vv (k:=?_)))
  refine r_yield ys (List.range j) j ⟨by simp, by omega⟩ rfl rfl rfl ?_ ?_
  ·
   refine Vv (k:=Wq (Z0 (k:=Zk (k:=Yb (Ya (Zr (k:=Qv (k:=Wn ?_))))))))
   refine to_inv ⟨j + 1, by omega⟩ ?_ ⟨rfl, rfl, rfl, rfl, trivial⟩ ?_
   · dsimp only; omega
   · rw [List.range_succ]; exact ent_pick
  ·
   refine Vv (k:=Wq (Z1 (k:=Zt (k:=Vb (Va (Vi (Vb ?_)))))))
   refine fin_ret (some (List.range (j + 1))) (vs := []) (Cs := []) rfl .nil rfl (fun pre e => by cases e; exact ⟨j + 1, by omega, by omega, rfl⟩) ?_
   simp only [endsAt]
   rw [List.range_succ]
   exact ent_pick
 ·
  refine Ze (k:=Xa (Xi (Xb ?_)))
  have hj2 : j = l.length := by omega
  subst hj2
  refine fin_end none (vs := []) (Cs := []) rfl .nil rfl (fun pre e => by cases e) ?_
  simp only [endsAt]
  exact ent_pick
theorem slices_Values_it {B : HP} {a : Option Addr} (n c b : Nat) (l : List (List UInt8)) (sh : SlA B a (l.map vS)) (hn : l.length = n) (hb : n ≤ 140737488355328) :
    Iter Tryz.prog 181 [.pointer (some ⟨b, 0, none⟩)] (fun i : Nat => [vS (l.getD i [])]) (okR n) (stopR n) [Ce b 27 [.slice a n c], B] [Ce b 27 [.slice a n c], B] (List.range n) (fun _ => .tuple #[]) := by
 intro y J Jx ys
 subst hn
 haveI : RdSl a (l.map vS) [B] := ⟨⟨B, sh, .here⟩⟩
 refine Sp.body (n := 16) Tryz.call181 Tryz.func181 rfl rfl rfl ?_
 refine Qc (k:=Zd (k:=Qv (k:=Wq (Zb (k:=?_)))))
 refine p_loop (fun (i : { j : Nat // j ≤ l.length }) => [(0, y), (5, .slice a l.length c), (6, vI l.length), (7, vI i.1)]) (fun (i : { j : Nat // j ≤ l.length }) => [J (List.range i.1), Ce b 27 [.slice a l.length c], B]) (fun (i : { j : Nat // j ≤ l.length }) => l.length - i.1) rfl (⟨0, Nat.zero_le _⟩) ?_ ?_ (fun i => ?_)
 · exact ⟨rfl, rfl, rfl, rfl, trivial⟩
 ·
  exact Ent.refl _
 obtain ⟨j, hj⟩ := i
 try dsimp only
 refine Qc (k:=Vv (k:=Wq (Za (k:=Zi (t:=fun h8 => ?_) (f:=fun h8 => ?_)))))
 ·
  refine Zk (k:=Ya (Za (k:=Zb (k:=Qc (k:=Ye 1 (k:=Yl (hv:=by exact get_mapD [] (by omega)) (k:=Vv (k:=Wq (Qc (k:=?_))))))))))
  refine Qv (k:=?_)
  refine r_yield ys (List.range j) j ⟨by simp, by omega⟩ rfl rfl rfl ?_ ?_
  ·
   refine Vv (k:=Wq (Z0 (k:=Zk (k:=Yb (Ya (Zr (k:=Qv (k:=Wn ?_))))))))
   refine to_inv ⟨j + 1, by omega⟩ ?_ ⟨rfl, rfl, rfl, rfl, trivial⟩ ?_
   · dsimp only; omega
   · rw [List.range_succ]; exact ent_pick
  ·
   refine Vv (k:=Wq (Z1 (k:=Zt (k:=Vb (Va (Vi (Vb ?_)))))))
   refine fin_ret (some (List.range (j + 1))) (vs := []) (Cs := []) rfl .nil rfl (fun pre e => by cases e; exact ⟨j + 1, by omega, by omega, rfl⟩) ?_
   simp only [endsAt]
   rw [List.range_succ]
   exact ent_pick
 ·
  refine Ze (k:=Xa (Xi (Xb ?_)))
  have hj2 : j = l.length := by omega
  subst hj2
  refine fin_end none (vs := []) (Cs := []) rfl .nil rfl (fun pre e => by cases e) ?_
  simp only [endsAt]
  exact ent_pick
end
section
set_option maxRecDepth 100000
theorem vUs_one (x : UInt8) (h : Int) (e : h = (x.toNat : Int)) : ([vU h] : List Value).take 1 = vUs [x] := by subst e; rfl
theorem u8_len (s : List UInt8) (h : s.length ≤ 30) : IntKind.u8.wrap (s.length : Int) = ((UInt8.ofNat s.length).toNat : Int) := by
 rw [IntWalk.u8_in _ (by omega)]
 have : s.length < 256 := by omega
 simp [UInt8.toNat_ofNat, Nat.mod_eq_of_lt this]
theorem zb184ret {G : Prop} (h : G := by exact fin_ret () (vs := [_]) rfl (.tmp rfl .nil) rfl trivial ent_nil) : G := h
theorem journal_piece_sp (s : List UInt8) (h : s.length ≤ 30) (mk : UInt8) : SpF Tryz.prog 184 [vS s, vU (mk.toNat : Int)] (vS (pieceS s mk)) := by
 refine Sp.body (n := 21) Tryz.call184 Tryz.func184 rfl rfl rfl ?_
 have e7 : (30 : Int) - (s.length : Int) = ((30 - s.length : Nat) : Int) := by omega
 have hr := Repeat_sp [0] (30 - s.length) (by simp; omega) (by omega)
 rw [repeat_one, ← e7] at hr
 refine Qc (k:=Vv (k:=Wq (Za (k:=Dw [] (k:=?_)))))
 refine Dv 0 (k:=Dv 1 (k:=?_))
 refine d_first 2 rfl rfl rfl (by kernel_rfl) (by kernel_rfl) (tl_pv (pv_conv rfl Tryz.underlying3 Tryz.underlying5)) ?_
 refine Dv 5 (k:=Dv 7 (k:=Dv 8 (k:=Dv 9 (k:=Dv 12 (k:=?_)))))
 refine d_next3 3 10 13 (by kernel_rfl) rfl rfl rfl ?_ ?_ ?_
 ·
  refine Nl [_] (cs := [_]) (k:=fun b8 => ?_)
  refine d_next3 4 10 13 (by kernel_rfl) rfl rfl rfl ?_ ?_ ?_
  ·
   refine an_b2s (l := [UInt8.ofNat s.length]) Tryz.underlying89 Tryz.underlying9 Tryz.underlying5 rfl (vUs_one _ _ (u8_len s h)) (by simp) rfl ?_
   refine Dv 6 (k:=?_)
   refine d_next2 10 13 (by kernel_rfl) rfl rfl ?_ ?_
   ·
    refine an_callF hr rfl rfl rfl ?_
    refine Dv 11 (k:=Dn 13 (k:=Nl [_] (cs := [_]) (k:=fun b18 => Dn 14 (k:=?_))))
    refine an_b2s (l := [mk]) Tryz.underlying89 Tryz.underlying9 Tryz.underlying5 rfl (vUs_one _ _ rfl) (by simp) rfl ?_
    refine Dv 15 (k:=Dv 16 (k:=Dd (k:=Ya (Zt (k:=?_)))))
    exact zb184ret
   ·
    refine Nl [_] (cs := [_]) (k:=fun b18 => ?_)
    refine d_next2 10 14 (by kernel_rfl) rfl rfl ?_ ?_
    ·
     refine an_callF hr rfl rfl rfl ?_
     refine Dv 11 (k:=Dn 14 (k:=?_))
     refine an_b2s (l := [mk]) Tryz.underlying89 Tryz.underlying9 Tryz.underlying5 rfl (vUs_one _ _ rfl) (by simp) rfl ?_
     refine Dv 15 (k:=Dv 16 (k:=Dd (k:=Ya (Zt (k:=?_)))))
     exact zb184ret
    ·
     refine an_b2s (l := [mk]) Tryz.underlying89 Tryz.underlying9 Tryz.underlying5 rfl (vUs_one _ _ rfl) (by simp) rfl ?_
     refine Dn 10 (k:=?_)
     refine an_callF hr rfl rfl rfl ?_
     refine Dv 11 (k:=Dv 15 (k:=Dv 16 (k:=Dd (k:=Ya (Zt (k:=?_))))))
     exact zb184ret
  ·
   refine an_callF hr rfl rfl rfl ?_
   refine d_next2 4 13 (by kernel_rfl) rfl rfl ?_ ?_
   ·
    refine an_b2s (l := [UInt8.ofNat s.length]) Tryz.underlying89 Tryz.underlying9 Tryz.underlying5 rfl (vUs_one _ _ (u8_len s h)) (by simp) rfl ?_
    refine Dv 6 (k:=Dv 11 (k:=Dn 13 (k:=Nl [_] (cs := [_]) (k:=fun b18 => Dn 14 (k:=?_)))))
    refine an_b2s (l := [mk]) Tryz.underlying89 Tryz.underlying9 Tryz.underlying5 rfl (vUs_one _ _ rfl) (by simp) rfl ?_
    refine Dv 15 (k:=Dv 16 (k:=Dd (k:=Ya (Zt (k:=?_)))))
    exact zb184ret
   ·
    refine Nl [_] (cs := [_]) (k:=fun b18 => ?_)
    refine d_next2 4 14 (by kernel_rfl) rfl rfl ?_ ?_
    ·
     refine an_b2s (l := [UInt8.ofNat s.length]) Tryz.underlying89 Tryz.underlying9 Tryz.underlying5 rfl (vUs_one _ _ (u8_len s h)) (by simp) rfl ?_
     refine Dv 6 (k:=Dv 11 (k:=Dn 14 (k:=?_)))
     refine an_b2s (l := [mk]) Tryz.underlying89 Tryz.underlying9 Tryz.underlying5 rfl (vUs_one _ _ rfl) (by simp) rfl ?_
     refine Dv 15 (k:=Dv 16 (k:=Dd (k:=Ya (Zt (k:=?_)))))
     exact zb184ret
    ·
     refine an_b2s (l := [mk]) Tryz.underlying89 Tryz.underlying9 Tryz.underlying5 rfl (vUs_one _ _ rfl) (by simp) rfl ?_
     refine Dn 4 (k:=?_)
     refine an_b2s (l := [UInt8.ofNat s.length]) Tryz.underlying89 Tryz.underlying9 Tryz.underlying5 rfl (vUs_one _ _ (u8_len s h)) (by simp) rfl ?_
     refine Dv 6 (k:=Dv 11 (k:=Dv 15 (k:=Dv 16 (k:=Dd (k:=Ya (Zt (k:=?_)))))))
     exact zb184ret
  ·
   refine Nl [_] (cs := [_]) (k:=fun b18 => ?_)
   refine d_next3 4 10 14 (by kernel_rfl) rfl rfl rfl ?_ ?_ ?_
   ·
    refine an_b2s (l := [UInt8.ofNat s.length]) Tryz.underlying89 Tryz.underlying9 Tryz.underlying5 rfl (vUs_one _ _ (u8_len s h)) (by simp) rfl ?_
    refine Dv 6 (k:=?_)
    refine d_next2 10 14 (by kernel_rfl) rfl rfl ?_ ?_
    ·
     refine an_callF hr rfl rfl rfl ?_
     refine Dv 11 (k:=Dn 14 (k:=?_))
     refine an_b2s (l := [mk]) Tryz.underlying89 Tryz.underlying9 Tryz.underlying5 rfl (vUs_one _ _ rfl) (by simp) rfl ?_
     refine Dv 15 (k:=Dv 16 (k:=Dd (k:=Ya (Zt (k:=?_)))))
     exact zb184ret
    ·
     refine an_b2s (l := [mk]) Tryz.underlying89 Tryz.underlying9 Tryz.underlying5 rfl (vUs_one _ _ rfl) (by simp) rfl ?_
     refine Dn 10 (k:=?_)
     refine an_callF hr rfl rfl rfl ?_
     refine Dv 11 (k:=Dv 15 (k:=Dv 16 (k:=Dd (k:=Ya (Zt (k:=?_))))))
     exact zb184ret
   ·
    refine an_callF hr rfl rfl rfl ?_
    refine d_next2 4 14 (by kernel_rfl) rfl rfl ?_ ?_
    ·
     refine an_b2s (l := [UInt8.ofNat s.length]) Tryz.underlying89 Tryz.underlying9 Tryz.underlying5 rfl (vUs_one _ _ (u8_len s h)) (by simp) rfl ?_
     refine Dv 6 (k:=Dv 11 (k:=Dn 14 (k:=?_)))
     refine an_b2s (l := [mk]) Tryz.underlying89 Tryz.underlying9 Tryz.underlying5 rfl (vUs_one _ _ rfl) (by simp) rfl ?_
     refine Dv 15 (k:=Dv 16 (k:=Dd (k:=Ya (Zt (k:=?_)))))
     exact zb184ret
    ·
     refine an_b2s (l := [mk]) Tryz.underlying89 Tryz.underlying9 Tryz.underlying5 rfl (vUs_one _ _ rfl) (by simp) rfl ?_
     refine Dn 4 (k:=?_)
     refine an_b2s (l := [UInt8.ofNat s.length]) Tryz.underlying89 Tryz.underlying9 Tryz.underlying5 rfl (vUs_one _ _ (u8_len s h)) (by simp) rfl ?_
     refine Dv 6 (k:=Dv 11 (k:=Dv 15 (k:=Dv 16 (k:=Dd (k:=Ya (Zt (k:=?_)))))))
     exact zb184ret
   ·
    refine an_b2s (l := [mk]) Tryz.underlying89 Tryz.underlying9 Tryz.underlying5 rfl (vUs_one _ _ rfl) (by simp) rfl ?_
    refine d_next2 4 10 (by kernel_rfl) rfl rfl ?_ ?_
    ·
     refine an_b2s (l := [UInt8.ofNat s.length]) Tryz.underlying89 Tryz.underlying9 Tryz.underlying5 rfl (vUs_one _ _ (u8_len s h)) (by simp) rfl ?_
     refine Dv 6 (k:=Dn 10 (k:=?_))
     refine an_callF hr rfl rfl rfl ?_
     refine Dv 11 (k:=Dv 15 (k:=Dv 16 (k:=Dd (k:=Ya (Zt (k:=?_))))))
     exact zb184ret
    ·
     refine an_callF hr rfl rfl rfl ?_
     refine Dn 4 (k:=?_)
     refine an_b2s (l := [UInt8.ofNat s.length]) Tryz.underlying89 Tryz.underlying9 Tryz.underlying5 rfl (vUs_one _ _ (u8_len s h)) (by simp) rfl ?_
     refine Dv 6 (k:=Dv 11 (k:=Dv 15 (k:=Dv 16 (k:=Dd (k:=Ya (Zt (k:=?_)))))))
     exact zb184ret
 ·
  refine an_callF hr rfl rfl rfl ?_
  refine d_next2 3 13 (by kernel_rfl) rfl rfl ?_ ?_
  ·
   refine Nl [_] (cs := [_]) (k:=fun b8 => ?_)
   refine d_next2 4 13 (by kernel_rfl) rfl rfl ?_ ?_
   ·
    refine an_b2s (l := [UInt8.ofNat s.length]) Tryz.underlying89 Tryz.underlying9 Tryz.underlying5 rfl (vUs_one _ _ (u8_len s h)) (by simp) rfl ?_
    refine Dv 6 (k:=Dv 11 (k:=Dn 13 (k:=Nl [_] (cs := [_]) (k:=fun b18 => Dn 14 (k:=?_)))))
    refine an_b2s (l := [mk]) Tryz.underlying89 Tryz.underlying9 Tryz.underlying5 rfl (vUs_one _ _ rfl) (by simp) rfl ?_
    refine Dv 15 (k:=Dv 16 (k:=Dd (k:=Ya (Zt (k:=?_)))))
    exact zb184ret
   ·
    refine Nl [_] (cs := [_]) (k:=fun b18 => ?_)
    refine d_next2 4 14 (by kernel_rfl) rfl rfl ?_ ?_
    ·
     refine an_b2s (l := [UInt8.ofNat s.length]) Tryz.underlying89 Tryz.underlying9 Tryz.underlying5 rfl (vUs_one _ _ (u8_len s h)) (by simp) rfl ?_
     refine Dv 6 (k:=Dv 11 (k:=Dn 14 (k:=?_)))
     refine an_b2s (l := [mk]) Tryz.underlying89 Tryz.underlying9 Tryz.underlying5 rfl (vUs_one _ _ rfl) (by simp) rfl ?_
     refine Dv 15 (k:=Dv 16 (k:=Dd (k:=Ya (Zt (k:=?_)))))
     exact zb184ret
    ·
     refine an_b2s (l := [mk]) Tryz.underlying89 Tryz.underlying9 Tryz.underlying5 rfl (vUs_one _ _ rfl) (by simp) rfl ?_
     refine Dn 4 (k:=?_)
     refine an_b2s (l := [UInt8.ofNat s.length]) Tryz.underlying89 Tryz.underlying9 Tryz.underlying5 rfl (vUs_one _ _ (u8_len s h)) (by simp) rfl ?_
     refine Dv 6 (k:=Dv 11 (k:=Dv 15 (k:=Dv 16 (k:=Dd (k:=Ya (Zt (k:=?_)))))))
     exact zb184ret
  ·
   refine Nl [_] (cs := [_]) (k:=fun b18 => ?_)
   refine d_next2 3 14 (by kernel_rfl) rfl rfl ?_ ?_
   ·
    refine Nl [_] (cs := [_]) (k:=fun b8 => ?_)
    refine d_next2 4 14 (by kernel_rfl) rfl rfl ?_ ?_
    ·
     refine an_b2s (l := [UInt8.ofNat s.length]) Tryz.underlying89 Tryz.underlying9 Tryz.underlying5 rfl (vUs_one _ _ (u8_len s h)) (by simp) rfl ?_
     refine Dv 6 (k:=Dv 11 (k:=Dn 14 (k:=?_)))
     refine an_b2s (l := [mk]) Tryz.underlying89 Tryz.underlying9 Tryz.underlying5 rfl (vUs_one _ _ rfl) (by simp) rfl ?_
     refine Dv 15 (k:=Dv 16 (k:=Dd (k:=Ya (Zt (k:=?_)))))
     exact zb184ret
    ·
     refine an_b2s (l := [mk]) Tryz.underlying89 Tryz.underlying9 Tryz.underlying5 rfl (vUs_one _ _ rfl) (by simp) rfl ?_
     refine Dn 4 (k:=?_)
     refine an_b2s (l := [UInt8.ofNat s.length]) Tryz.underlying89 Tryz.underlying9 Tryz.underlying5 rfl (vUs_one _ _ (u8_len s h)) (by simp) rfl ?_
     refine Dv 6 (k:=Dv 11 (k:=Dv 15 (k:=Dv 16 (k:=Dd (k:=Ya (Zt (k:=?_)))))))
     exact zb184ret
   ·
    refine an_b2s (l := [mk]) Tryz.underlying89 Tryz.underlying9 Tryz.underlying5 rfl (vUs_one _ _ rfl) (by simp) rfl ?_
    refine Dn 3 (k:=Nl [_] (cs := [_]) (k:=fun b8 => Dn 4 (k:=?_)))
    refine an_b2s (l := [UInt8.ofNat s.length]) Tryz.underlying89 Tryz.underlying9 Tryz.underlying5 rfl (vUs_one _ _ (u8_len s h)) (by simp) rfl ?_
    refine Dv 6 (k:=Dv 11 (k:=Dv 15 (k:=Dv 16 (k:=Dd (k:=Ya (Zt (k:=?_)))))))
    exact zb184ret
 ·
  refine Nl [_] (cs := [_]) (k:=fun b18 => ?_)
  refine d_next3 3 10 14 (by kernel_rfl) rfl rfl rfl ?_ ?_ ?_
  ·
   refine Nl [_] (cs := [_]) (k:=fun b8 => ?_)
   refine d_next3 4 10 14 (by kernel_rfl) rfl rfl rfl ?_ ?_ ?_
   ·
    refine an_b2s (l := [UInt8.ofNat s.length]) Tryz.underlying89 Tryz.underlying9 Tryz.underlying5 rfl (vUs_one _ _ (u8_len s h)) (by simp) rfl ?_
    refine Dv 6 (k:=?_)
    refine d_next2 10 14 (by kernel_rfl) rfl rfl ?_ ?_
    ·
     refine an_callF hr rfl rfl rfl ?_
     refine Dv 11 (k:=Dn 14 (k:=?_))
     refine an_b2s (l := [mk]) Tryz.underlying89 Tryz.underlying9 Tryz.underlying5 rfl (vUs_one _ _ rfl) (by simp) rfl ?_
     refine Dv 15 (k:=Dv 16 (k:=Dd (k:=Ya (Zt (k:=?_)))))
     exact zb184ret
    ·
     refine an_b2s (l := [mk]) Tryz.underlying89 Tryz.underlying9 Tryz.underlying5 rfl (vUs_one _ _ rfl) (by simp) rfl ?_
     refine Dn 10 (k:=?_)
     refine an_callF hr rfl rfl rfl ?_
     refine Dv 11 (k:=Dv 15 (k:=Dv 16 (k:=Dd (k:=Ya (Zt (k:=?_))))))
     exact zb184ret
   ·
    refine an_callF hr rfl rfl rfl ?_
    refine d_next2 4 14 (by kernel_rfl) rfl rfl ?_ ?_
    ·
     refine an_b2s (l := [UInt8.ofNat s.length]) Tryz.underlying89 Tryz.underlying9 Tryz.underlying5 rfl (vUs_one _ _ (u8_len s h)) (by simp) rfl ?_
     refine Dv 6 (k:=Dv 11 (k:=Dn 14 (k:=?_)))
     refine an_b2s (l := [mk]) Tryz.underlying89 Tryz.underlying9 Tryz.underlying5 rfl (vUs_one _ _ rfl) (by simp) rfl ?_
     refine Dv 15 (k:=Dv 16 (k:=Dd (k:=Ya (Zt (k:=?_)))))
     exact zb184ret
    ·
     refine an_b2s (l := [mk]) Tryz.underlying89 Tryz.underlying9 Tryz.underlying5 rfl (vUs_one _ _ rfl) (by simp) rfl ?_
     refine Dn 4 (k:=?_)
     refine an_b2s (l := [UInt8.ofNat s.length]) Tryz.underlying89 Tryz.underlying9 Tryz.underlying5 rfl (vUs_one _ _ (u8_len s h)) (by simp) rfl ?_
     refine Dv 6 (k:=Dv 11 (k:=Dv 15 (k:=Dv 16 (k:=Dd (k:=Ya (Zt (k:=?_)))))))
     exact zb184ret
   ·
    refine an_b2s (l := [mk]) Tryz.underlying89 Tryz.underlying9 Tryz.underlying5 rfl (vUs_one _ _ rfl) (by simp) rfl ?_
    refine d_next2 4 10 (by kernel_rfl) rfl rfl ?_ ?_
    ·
     refine an_b2s (l := [UInt8.ofNat s.length]) Tryz.underlying89 Tryz.underlying9 Tryz.underlying5 rfl (vUs_one _ _ (u8_len s h)) (by simp) rfl ?_
     refine Dv 6 (k:=Dn 10 (k:=?_))
     refine an_callF hr rfl rfl rfl ?_
     refine Dv 11 (k:=Dv 15 (k:=Dv 16 (k:=Dd (k:=Ya (Zt (k:=?_))))))
     exact zb184ret
    ·
     refine an_callF hr rfl rfl rfl ?_
     refine Dn 4 (k:=?_)
     refine an_b2s (l := [UInt8.ofNat s.length]) Tryz.underlying89 Tryz.underlying9 Tryz.underlying5 rfl (vUs_one _ _ (u8_len s h)) (by simp) rfl ?_
     refine Dv 6 (k:=Dv 11 (k:=Dv 15 (k:=Dv 16 (k:=Dd (k:=Ya (Zt (k:=?_)))))))
     exact zb184ret
  ·
   refine an_callF hr rfl rfl rfl ?_
   refine d_next2 3 14 (by kernel_rfl) rfl rfl ?_ ?_
   ·
    refine Nl [_] (cs := [_]) (k:=fun b8 => ?_)
    refine d_next2 4 14 (by kernel_rfl) rfl rfl ?_ ?_
    ·
     refine an_b2s (l := [UInt8.ofNat s.length]) Tryz.underlying89 Tryz.underlying9 Tryz.underlying5 rfl (vUs_one _ _ (u8_len s h)) (by simp) rfl ?_
     refine Dv 6 (k:=Dv 11 (k:=Dn 14 (k:=?_)))
     refine an_b2s (l := [mk]) Tryz.underlying89 Tryz.underlying9 Tryz.underlying5 rfl (vUs_one _ _ rfl) (by simp) rfl ?_
     refine Dv 15 (k:=Dv 16 (k:=Dd (k:=Ya (Zt (k:=?_)))))
     exact zb184ret
    ·
     refine an_b2s (l := [mk]) Tryz.underlying89 Tryz.underlying9 Tryz.underlying5 rfl (vUs_one _ _ rfl) (by simp) rfl ?_
     refine Dn 4 (k:=?_)
     refine an_b2s (l := [UInt8.ofNat s.length]) Tryz.underlying89 Tryz.underlying9 Tryz.underlying5 rfl (vUs_one _ _ (u8_len s h)) (by simp) rfl ?_
     refine Dv 6 (k:=Dv 11 (k:=Dv 15 (k:=Dv 16 (k:=Dd (k:=Ya (Zt (k:=?_)))))))
     exact zb184ret
   ·
    refine an_b2s (l := [mk]) Tryz.underlying89 Tryz.underlying9 Tryz.underlying5 rfl (vUs_one _ _ rfl) (by simp) rfl ?_
    refine Dn 3 (k:=Nl [_] (cs := [_]) (k:=fun b8 => Dn 4 (k:=?_)))
    refine an_b2s (l := [UInt8.ofNat s.length]) Tryz.underlying89 Tryz.underlying9 Tryz.underlying5 rfl (vUs_one _ _ (u8_len s h)) (by simp) rfl ?_
    refine Dv 6 (k:=Dv 11 (k:=Dv 15 (k:=Dv 16 (k:=Dd (k:=Ya (Zt (k:=?_)))))))
    exact zb184ret
  ·
   refine an_b2s (l := [mk]) Tryz.underlying89 Tryz.underlying9 Tryz.underlying5 rfl (vUs_one _ _ rfl) (by simp) rfl ?_
   refine d_next2 3 10 (by kernel_rfl) rfl rfl ?_ ?_
   ·
    refine Nl [_] (cs := [_]) (k:=fun b8 => ?_)
    refine d_next2 4 10 (by kernel_rfl) rfl rfl ?_ ?_
    ·
     refine an_b2s (l := [UInt8.ofNat s.length]) Tryz.underlying89 Tryz.underlying9 Tryz.underlying5 rfl (vUs_one _ _ (u8_len s h)) (by simp) rfl ?_
     refine Dv 6 (k:=Dn 10 (k:=?_))
     refine an_callF hr rfl rfl rfl ?_
     refine Dv 11 (k:=Dv 15 (k:=Dv 16 (k:=Dd (k:=Ya (Zt (k:=?_))))))
     exact zb184ret
    ·
     refine an_callF hr rfl rfl rfl ?_
     refine Dn 4 (k:=?_)
     refine an_b2s (l := [UInt8.ofNat s.length]) Tryz.underlying89 Tryz.underlying9 Tryz.underlying5 rfl (vUs_one _ _ (u8_len s h)) (by simp) rfl ?_
     refine Dv 6 (k:=Dv 11 (k:=Dv 15 (k:=Dv 16 (k:=Dd (k:=Ya (Zt (k:=?_)))))))
     exact zb184ret
   ·
    refine an_callF hr rfl rfl rfl ?_
    refine Dn 3 (k:=Nl [_] (cs := [_]) (k:=fun b8 => Dn 4 (k:=?_)))
    refine an_b2s (l := [UInt8.ofNat s.length]) Tryz.underlying89 Tryz.underlying9 Tryz.underlying5 rfl (vUs_one _ _ (u8_len s h)) (by simp) rfl ?_
    refine Dv 6 (k:=Dv 11 (k:=Dv 15 (k:=Dv 16 (k:=Dd (k:=Ya (Zt (k:=?_)))))))
    exact zb184ret
end
end Go.Proofs.YtibccdcemcgkeaaGreat
