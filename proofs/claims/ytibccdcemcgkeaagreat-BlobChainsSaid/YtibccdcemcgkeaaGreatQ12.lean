/- Texts of this proof, put together: SStore3, SStore4, SStore5, SStore6, SFrom, PMap, PSha, PBlob, PJour, PDec, PRows, PBst, PBlob2. -/
import Derived.Test.YtibccdcemcgkeaaGreatQ11
set_option linter.unusedVariables false
set_option linter.unusedSimpArgs false
namespace Go.Proofs.YtibccdcemcgkeaaGreat
section
set_option maxRecDepth 100000
def doOne (ks : Ks) (r : Rw) : Ks := if r.gone then mdel ks r.key else mput ks r.key (vS r.val)
def doR (ks : Ks) (l : List Rw) : Ks := l.foldl doOne ks
theorem doR_succ {ks : Ks} {l : List Rw} {j : Nat} (h : j < l.length) : doR ks (l.take (j + 1)) = doOne (doR ks (l.take j)) l[j] := by
 unfold doR
 rw [List.take_succ_eq_append_getElem h, List.foldl_append]; rfl
theorem zb89next0 {G : Prop} (h : G := by
    refine to_inv ⟨j + 1, by omega⟩ (by dsimp only; omega) ⟨rfl, rfl, rfl, rfl, trivial⟩ ?_
    dsimp only
    rw [hsu, doOne, h13]
    simp only [if_true, Bool.false_eq_true, if_false]
    exact ent_pick) : G := h
theorem store_do_sp {B : HP} {a : Option Addr} (p b n c : Nat) (v : Value) (ks : Ks) (l : List Rw) (sh : SlA B a (l.flatMap rowC)) (hn : l.length = n) (hb : n ≤ 140737488355328) :
    Sp1 Tryz.prog 89 [.pointer (some ⟨p, 0, none⟩), .slice a n c] [Ce p 149 [v, .map (some b)], MapS b ks, B] (.tuple #[]) [Ce p 149 [v, .map (some b)], MapS b (doR ks l), B] := by
 subst hn
 haveI : RdSl a (l.flatMap rowC) [B] := ⟨⟨B, sh, .here⟩⟩
 refine Sp.body (n := 29) Tryz.call89 Tryz.func89 rfl rfl rfl ?_
 refine Qc (k:=Qv (k:=Vv (k:=Wq (Zb (k:=?_)))))
 refine p_loop (fun (i : { j : Nat // j ≤ l.length }) => [(0, .pointer (some ⟨p, 0, none⟩)), (6, .slice a l.length c), (7, vI l.length), (8, vI i.1)]) (fun (i : { j : Nat // j ≤ l.length }) => [Ce p 149 [v, .map (some b)], MapS b (doR ks (l.take i.1)), B]) (fun (i : { j : Nat // j ≤ l.length }) => l.length - i.1) rfl (⟨0, Nat.zero_le _⟩) ?_ ?_ (fun i => ?_)
 · exact ⟨rfl, rfl, rfl, rfl, trivial⟩
 ·
  exact Ent.refl _
 obtain ⟨j, hj⟩ := i
 try dsimp only
 refine Qc (k:=Vv (k:=Wq (Za (k:=Zi (t:=fun h9 => ?_) (f:=fun h9 => ?_)))))
 ·
  refine Zk (k:=Ya (Za (k:=Zb (k:=Za (k:=?_)))))
  have hjl : j < l.length := by omega
  have hsu := doR_succ (ks := ks) hjl
  refine Zr (k:=Ye 3 (k:=?_))
  refine r_eloada (vs := [_, _, _]) (sz := 3) Tryz.underlying77 rfl ti77 rfl rfl (by rw [flat_len (sz := 3) (fun _ => rfl)]; omega) rfl (by refine get_flat (fun x => ?_) ?_ <;> first | rfl | omega) rfl ?_
  refine Zc [vS [], vS [], .bool false] (k:=fun b5 => Zp (k:=Wq (Qc (k:=Qx 2 4 (k:=Wq (Zi (t:=fun h13 => ?_) (f:=fun h13 => ?_)))))))
  ·
   refine Dw [Ce p 149 [v, .map (some b)], Ce b5 77 [vS l[j].key, vS l[j].val, vB l[j].gone]] (k:=?_)
   refine Dv 0 (k:=Dv 1 (k:=Di 2 (t:=Uf 1 93) (k:=Di 3 (t:=Ul) (k:=Di 4 (t:=Uf 0 9) (k:=Di 5 (t:=Ul) (k:=Dn 6 (k:=?_)))))))
   refine an_delete Tryz.underlying93 Tryz.underlying9 rfl rfl rfl ?_
   refine Dd (k:=Yb (Ya (Zr (k:=Qv (k:=Wn ?_)))))
   exact zb89next0
  ·
   refine Dw [Ce p 149 [v, .map (some b)], Ce b5 77 [vS l[j].key, vS l[j].val, vB l[j].gone]] (k:=?_)
   refine Dv 0 (k:=Dv 1 (k:=Di 2 (t:=Uf 1 93) (k:=Di 3 (t:=Ul) (k:=Di 4 (t:=Uf 0 9) (k:=Di 5 (t:=Ul) (k:=Di 6 (t:=Uf 1 9) (k:=Di 7 (t:=Ul) (k:=Dn 8 (k:=?_)))))))))
   refine an_mapUpdate Tryz.underlying93 Tryz.underlying9 rfl rfl rfl ?_
   refine Dd (k:=Yb (Ya (Zr (k:=Qv (k:=Wn ?_)))))
   exact zb89next0
 ·
  refine Ze (k:=Xa (Xi (Xb ?_)))
  have hjl : j = l.length := by omega
  subst hjl
  rw [List.take_length]
  refine fin_end () (vs := []) (Cs := []) rfl .nil rfl trivial ?_
  exact ent_pick
end
section
set_option maxRecDepth 100000
/-- A store in memory, over a disk at p. -/
def IsS (s p : Nat) (J : Jn) (ks : Ks) : HP := Ex fun q : Nat => Ex fun b : Nat => Al [Ce s 149 [.pointer (some ⟨q, 0, none⟩), .map (some b)], IsJ q p J, MapS b ks]
theorem fold_isS {s p : Nat} {J : Jn} {ks : Ks} (q b : Nat) {T : Nat} {v0 v1 : Value} {Hs R1 R2 Rs : List HP} [h1 : OwnC s T [v0, v1] Hs R1] [h2 : PickC (IsJ q p J) R1 R2] [h3 : PickC (MapS b ks) R2 Rs] (hT : T = 149) (e0 : v0 = .pointer (some ⟨q, 0, none⟩)) (e1 : v1 = .map (some b)) : Ent Hs (IsS s p J ks :: Rs) := by
 subst hT; subst e0; subst e1
 refine ent_ex q ?_
 refine ent_ex b (ent_al ?_)
 exact ent_step (ent_pick1 h1.get) (ent_step (ent_pick1 h2.get) (ent_pick1 h3.get))
theorem store_Get_sp (s p : Nat) (J : Jn) (ks : Ks) (k : List UInt8) : Sp1 Tryz.prog 38 [.pointer (some ⟨s, 0, none⟩), vS k] [IsS s p J ks] (.tuple #[(mlook ks k).getD (vS []), vB (mlook ks k).isSome]) [IsS s p J ks] := by
 refine Sp.body (n := 19) Tryz.call38 Tryz.func38 rfl rfl rfl ?_
 refine wc_exi fun q => wc_exi fun b => wc_al ?_
 refine Qc (k:=Qv (k:=Wq (Qc (k:=Qv (k:=Qx 1 93 (k:=Vv (k:=?_)))))))
 refine r_lookup Tryz.underlying93 Tryz.underlying9 ti9 rfl rfl rfl rfl rfl ?_
 refine Qv (k:=Qv (k:=Vv (k:=Wq (Qc (k:=Qv (k:=Qv (k:=?_)))))))
 refine Wq (Zt (k:=?_))
 refine fin_ret () (vs := [_, _]) (Cs := []) rfl (.tmp rfl (.tmp rfl .nil)) rfl trivial ?_
 exact fold_isS q b rfl rfl rfl
def openK (ts : List Bs) : Ks := ts.foldl (fun ks t => doR ks ((readR t).getD [])) []
theorem openK_succ {ts : List Bs} {j : Nat} (h : j < ts.length) : openK (ts.take (j + 1)) = doR (openK (ts.take j)) ((readR (ts.getD j [])).getD []) := by
 unfold openK
 rw [List.take_succ_eq_append_getElem h, List.foldl_append]
 simp [h]
theorem readR_len (s : Bs) : ((readR s).getD []).length ≤ s.length := by
 induction h : s.length using Nat.strongRecOn generalizing s with
 | _ n ih =>
   by_cases hs : s = []
   · subst hs; rw [readR_nil]; simp
   · cases hr : rowR s with
     | none => rw [readR_none hs hr]; simp
     | some q =>
       obtain ⟨r, t⟩ := q
       have hlt := rowR_lt hr
       rw [readR_some hs hr]
       have := ih t.length (by omega) t rfl
       cases ht : readR t with
       | none => simp
       | some l => rw [ht] at this; simp at this ⊢; omega
end
section
set_option maxRecDepth 100000
theorem store_Open_sp (p : Nat) (D : Dk) : Sp Tryz.prog 34 [.pointer (some ⟨p, 0, none⟩)] [IsD p D] (X := Nat) (fun s => .pointer (some ⟨s, 0, none⟩)) (fun _ => True) (fun s => [IsS s p (openJ D) (openK (openJ D).l), IsD p D]) := by
 refine Sp.body (n := 28) Tryz.call34 Tryz.func34 rfl rfl rfl ?_
 refine wc_know (A := IsD p D) .here ok_len (fun ok => ?_)
 have hm := ok.many
 have hj := scanS_end D.secs 0 [] [] 0 (Nat.le_refl _) (Nat.le_refl _)
 have hjl : (openJ D).l.length ≤ 2000 := by show (scanS D.secs 0 [] [] 0).1.length ≤ 2000; omega
 have htl : ∀ t ∈ (openJ D).l, t.length ≤ 60000 := scanS_len D.secs 0 [] [] 0 60000 (by simp; omega) (by simp)
 generalize hJ : openJ D = J at *
 refine Qc (k:=Vv (k:=Wq (Qc (k:=Vv (k:=?_)))))
 refine r_callX (journal_Open_sp p D) rfl rfl rfl (fun q _ => ?_)
 rw [hJ]
 refine r_mkmap rfl (fun b9 => ?_)
 refine Vx (Ps [_, _]) (k:=Zx [_, _] (k:=fun b11 => Zc [.pointer none] (k:=fun b3 => Zo (k:=Wq (Za (k:=Qc (k:=Zd (k:=Vv (k:=Qx 0 146 (k:=?_))))))))))
 refine r_callX (journal_All_sp q p J (by omega)) rfl rfl rfl (fun x16 _ => ?_)
 refine Wq (Zb (k:=?_))
 refine p_rangeFunc (fun pre => [Ce b3 72 [.pointer (some ⟨b11, 0, none⟩)], Ce b11 149 [.pointer (some ⟨q, 0, none⟩), .map (some b9)], MapS b9 (openK (J.l.take pre.length)), IsJ q p J, IsD p D]) (fun j pre => [Pu False]) rfl (slices_Values_it (B := SlI x16.2.1 (J.l.map vS)) J.l.length x16.2.2 x16.1 J.l sla_sli rfl (by omega)) rfl (fun _ => by rfl) rfl ?_ (fun l pre i hok => ?_) ?_ (fun j pre hs => ?_)
 · (refine ent_app ?_; simp only [List.length_nil, List.take_zero]; rw [show openK [] = [] from rfl]; exact ent_pick)
 ·
  obtain ⟨hi, hlt⟩ := hok
  have hsu := openK_succ hlt
  have hil : (J.l.getD i []).length ≤ 60000 := by
   have e : J.l.getD i [] = J.l[i] := by simp [hlt]
   rw [e]; exact htl _ (List.getElem_mem _)
  rw [← hi]
  refine Zr (k:=Vv (k:=Wg (Zb (k:=Qc (k:=Vv (k:=?_))))))
  refine r_callX (store_Read_sp (J.l.getD i []) (by omega)) rfl rfl rfl (fun x20 _ => ?_)
  refine wo_frz x20.1 ?_
  refine Qv (k:=Qv (k:=Vv (k:=Wq (Qc (k:=Vv (k:=Wq (Zi (t:=fun h23 => ?_) (f:=fun h23 => ?_))))))))
  ·
   refine Zr (k:=Zd (k:=Vv (k:=?_)))
   refine r_call1 (store_do_sp (B := SlI x20.1 (((readR (J.l.getD i [])).getD []).flatMap rowC)) b11 b9 ((readR (J.l.getD i [])).getD []).length x20.2 (.pointer (some ⟨q, 0, none⟩)) (openK (J.l.take i)) ((readR (J.l.getD i [])).getD []) sla_sli rfl (by have := readR_len (J.l.getD i []); omega)) rfl rfl rfl ?_
   refine Wn (Yb ?_)
   refine to_round ?_
   rw [List.length_append, List.length_singleton, ← hi, hsu]
   first
   | exact ent_pick
   | (have hn : readR (J.l.getD i []) = none := by cases e : readR (J.l.getD i []) with
        | none => rfl
        | some l => rw [e] at h23; simp at h23
      rw [hn]
      show Ent _ [Ce b3 72 [.pointer (some ⟨b11, 0, none⟩)], Ce b11 149 [.pointer (some ⟨q, 0, none⟩), .map (some b9)], MapS b9 (openK (J.l.take i)), IsJ q p J, IsD p D]
      exact ent_pick)
  ·
   refine Zk (k:=Yb ?_)
   refine to_round ?_
   rw [List.length_append, List.length_singleton, ← hi, hsu]
   first
   | exact ent_pick
   | (have hn : readR (J.l.getD i []) = none := by cases e : readR (J.l.getD i []) with
        | none => rfl
        | some l => rw [e] at h23; simp at h23
      rw [hn]
      show Ent _ [Ce b3 72 [.pointer (some ⟨b11, 0, none⟩)], Ce b11 149 [.pointer (some ⟨q, 0, none⟩), .map (some b9)], MapS b9 (openK (J.l.take i)), IsJ q p J, IsD p D]
      exact ent_pick)
 ·
  skip
  refine Yb (Ya (Qc (k:=Zd (k:=Vv (k:=Wq (Zt (k:=?_)))))))
  refine fin_ret b11 (vs := [_]) (Cs := []) rfl (.tmp rfl .nil) rfl trivial ?_
  rw [List.length_range, List.take_length]
  exact ent_step (fold_isS q b9 rfl rfl rfl) ent_pick
 ·
  exact wc_no (fun s => by obtain ⟨_, _, _, _, a, _⟩ := s; exact a)
end
section
set_option maxRecDepth 100000
def mayB (r : Rw) : Bool := decide (r.key ≠ [] ∧ r.key.length ≤ 60)
def commitS (J : Jn) (ks : Ks) (D : Dk) (l : List Rw) : Jn × Ks × Dk × Nat :=
 if l.all mayB = false then (J, ks, D, 1) else
  ((commitJ J D (textOf l)).1, (if (commitJ J D (textOf l)).2.2 = 0 then doR ks l else ks), (commitJ J D (textOf l)).2.1, (commitJ J D (textOf l)).2.2)
theorem zb36ret10 {G : Prop} (h : G := by
    refine fin_ret () (vs := [_]) (Cs := []) rfl (.tmp rfl .nil) rfl trivial ?_
    first
    | (rw [if_pos (by omega)]; exact ent_step (fold_isS q b rfl rfl rfl) ent_pick)
    | (rw [if_neg (by omega)]; exact ent_step (fold_isS q b rfl rfl rfl) ent_pick)) : G := h
theorem store_Commit_sp {B : HP} {a : Option Addr} (s p n c : Nat) (J : Jn) (ks : Ks) (D : Dk) (l : List Rw) (sh : SlA B a (l.flatMap rowC)) (hn : l.length = n) (hb : n ≤ 140737488355328)
    (hk : ∀ r ∈ l, r.key.length ≤ 1073741824 ∧ r.val.length ≤ 1073741824) (ht : (textOf l).length ≤ 4398046511104) (hl : -1152921504606846976 ≤ D.left ∧ D.left ≤ 9223372036854775807) (he : J.e ≤ 1099511627776) (hjl : J.l.length ≤ 1099511627776) :
    Sp1 Tryz.prog 36 [.pointer (some ⟨s, 0, none⟩), .slice a n c] [IsS s p J ks, IsD p D, B] (vI (commitS J ks D l).2.2.2) [IsS s p (commitS J ks D l).1 (commitS J ks D l).2.1, IsD p (commitS J ks D l).2.2.1, B] := by
 subst hn
 haveI : RdSl a (l.flatMap rowC) [B] := ⟨⟨B, sh, .here⟩⟩
 refine Sp.body (n := 32) Tryz.call36 Tryz.func36 rfl rfl rfl ?_
 refine wc_exi fun q => wc_exi fun b => wc_al ?_
 refine Qc (k:=Vv (k:=Wq (Za (k:=Qc (k:=Qv (k:=Vv (k:=Wq (Zb (k:=?_)))))))))
 refine p_loop (fun (i : { j : Nat // j ≤ l.length ∧ (l.take j).all mayB = true }) => [(0, .pointer (some ⟨s, 0, none⟩)), (1, .slice a l.length c), (8, .slice a l.length c), (9, vI l.length), (10, vI i.1)]) (fun (i : { j : Nat // j ≤ l.length ∧ (l.take j).all mayB = true }) => [Ce s 149 [.pointer (some ⟨q, 0, none⟩), .map (some b)], IsJ q p J, MapS b ks, IsD p D, B]) (fun (i : { j : Nat // j ≤ l.length ∧ (l.take j).all mayB = true }) => l.length - i.1) rfl (⟨0, Nat.zero_le _, rfl⟩) ?_ ?_ (fun i => ?_)
 · exact ⟨rfl, rfl, rfl, rfl, rfl, trivial⟩
 ·
  exact ent_pick
 obtain ⟨j, hj, hw⟩ := i
 try dsimp only
 refine Qc (k:=Vv (k:=Wq (Za (k:=Zi (t:=fun h11 => ?_) (f:=fun h11 => ?_)))))
 ·
  refine Zk (k:=Ya (Za (k:=Zb (k:=Za (k:=?_)))))
  have hjlt : j < l.length := by omega
  refine Zr (k:=Ye 3 (k:=?_))
  refine r_eloada (vs := [_, _, _]) (sz := 3) Tryz.underlying77 rfl ti77 rfl rfl (by rw [flat_len (sz := 3) (fun _ => rfl)]; omega) rfl (by refine get_flat (fun x => ?_) ?_ <;> first | rfl | omega) rfl ?_
  refine Zc [vS [], vS [], .bool false] (k:=fun b6 => Zp (k:=Wq (Qc (k:=Qx 0 9 (k:=?_)))))
  refine r_callF (store_may_sp l[j].key) rfl rfl rfl ?_
  refine Vv (k:=Wq (Zi (t:=fun h17 => ?_) (f:=fun h17 => ?_)))
  ·
   refine Qc (k:=Vv (k:=Wq (Zt (k:=Vb (Va (Vi (Vb (Va ?_))))))))
   have hn : commitS J ks D l = (J, ks, D, 1) := by
    have hb2 : l.all mayB = false := by
     cases e : l.all mayB with
     | false => rfl
     | true =>
       have := List.all_eq_true.1 e l[j] (List.getElem_mem _)
       exact absurd (of_decide_eq_true this) h17
    rw [commitS, if_pos hb2]
   rw [hn]
   refine fin_ret () (vs := [_]) (Cs := []) rfl (.tmp rfl .nil) rfl trivial ?_
   exact ent_step (fold_isS q b rfl rfl rfl) ent_pick
  ·
   refine Zk (k:=Yb (Ya (Zr (k:=Qv (k:=Wn ?_)))))
   refine to_inv ⟨j + 1, by omega, ?_⟩ (by dsimp only; omega) ⟨rfl, rfl, rfl, rfl, rfl, trivial⟩ ent_pick
   rw [List.take_succ_eq_append_getElem hjlt, List.all_append, hw]
   have hm : mayB l[j] = true := by
    have h17' := h17
    simp only [Classical.not_not] at h17'
    exact decide_eq_true h17'
   simp [hm]
 ·
  refine Ze (k:=Xa (Xi (Xb (Ya (Za (k:=?_))))))
  have hjl2 : j = l.length := by omega
  subst hjl2
  rw [List.take_length] at hw
  have hcs : commitS J ks D l = ((commitJ J D (textOf l)).1, (if (commitJ J D (textOf l)).2.2 = 0 then doR ks l else ks), (commitJ J D (textOf l)).2.1, (commitJ J D (textOf l)).2.2) := by
   rw [commitS, if_neg (by rw [hw]; simp)]
  rw [hcs]
  refine Dw [Ce s 149 [.pointer (some ⟨q, 0, none⟩), .map (some b)]] (k:=?_)
  refine Dv 0 (k:=Dv 1 (k:=Di 2 (t:=Uf 0 146) (k:=Di 3 (t:=Ul) (k:=Dv 4 (k:=Dn 5 (k:=?_))))))
  refine an_call1 (store_Text_sp l.length c l sh rfl hb hk ht) rfl rfl rfl ?_
  refine Dn 6 (k:=?_)
  refine an_call1 (journal_Commit_sp q p J D (textOf l) ht hl he hjl) rfl rfl rfl ?_
  refine Dv 7 (k:=Dd (k:=Ya (Za (k:=Qc (k:=Qv (k:=Wq (Zi (t:=fun h27 => ?_) (f:=fun h27 => ?_))))))))
  ·
   refine Zr (k:=Qv (k:=?_))
   refine r_call1 (store_do_sp (B := B) s b l.length c (.pointer (some ⟨q, 0, none⟩)) ks l sh rfl hb) rfl rfl rfl ?_
   refine Wq (Qc (k:=Qv (k:=Wq (Zt (k:=?_)))))
   exact zb36ret10
  ·
   refine Zk (k:=Ya (Qc (k:=Qv (k:=Wq (Zt (k:=?_))))))
   exact zb36ret10
end
section
set_option maxRecDepth 100000
theorem sortB_sorted (l : List Bs) : (sortB l).Pairwise (fun x y => x ≤ y) := by
 have := List.pairwise_mergeSort (le := fun x y : Bs => decide (x ≤ y)) (fun a b c h k => by simp at *; exact List.le_trans h k) (fun a b => by simp; exact List.le_total a b) l
 simp only [decide_eq_true_eq] at this
 exact this
theorem sortB_perm (l : List Bs) : (sortB l).Perm l := List.mergeSort_perm l _
theorem sortB_eq {l m : List Bs} (h : l.Perm m) : sortB l = sortB m :=
 List.Perm.eq_of_pairwise (fun _ _ _ _ h k => List.le_antisymm h k) (sortB_sorted l) (sortB_sorted m) ((sortB_perm l).trans (h.trans (sortB_perm m).symm))
theorem slices_Sorted_sp {g : Nat} {lb : List Value} {ok : List Bs → Bs → Prop} {stopped : List Bs → Prop} {As Bs' : List HP} {fin : List Bs → Prop} {val : Option (List Bs) → Value}
    (it : IterU Tryz.prog g lb (fun k : Bs => [vS k]) ok stopped As Bs' fin val) (N : Nat) (hN : N ≤ 4398046511104) (hlim : ∀ pre x, ok pre x → pre.length < N) (hfin : ∀ l, fin l → l.length ≤ N) [hp : PicksC As As []] :
    Sp Tryz.prog 152 [.func (.func g) #[] lb.toArray] As (X := (Option Addr × Nat) × List Bs) (fun x => .slice x.1.1 x.2.length x.1.2) (fun x => fin x.2) (fun x => Row 9 1 (.slice x.1.1 x.2.length x.1.2) x.2.length ((sortB x.2).map vS) :: Bs') := by
 refine Sp.body (n := 9) Tryz.call152 Tryz.func152 rfl rfl rfl ?_
 refine Qc (k:=Vv (k:=Wq (Qc (k:=Vv (k:=?_)))))
 refine r_callX (slices_Collect_sp it N hN hlim) rfl rfl rfl (fun x hx => ?_)
 have hxl := hfin x.2 hx
 refine Vv (k:=Wq (Qc (k:=Vv (k:=?_))))
 refine r_call1 (slices_Sort_sp x.1.1 x.2.length x.1.2 x.2 rfl (by omega)) rfl rfl rfl ?_
 refine Wq (Qc (k:=Qv (k:=Wq (Zt (k:=?_)))))
 refine fin_ret x (vs := [_]) (Cs := []) rfl (.tmp rfl .nil) rfl hx ?_
 simp only [List.append_nil]
 exact Ent.refl _
/-- The keys of some rows, rising. -/
def keysS (ks : Ks) : List Bs := sortB (ks.map (·.1))
theorem keysS_len (ks : Ks) : (keysS ks).length = ks.length := by rw [keysS, sortB_len]; simp
theorem keysS_mem {ks : Ks} {k : Bs} : k ∈ keysS ks ↔ k ∈ ks.map (·.1) := (sortB_perm _).mem_iff
theorem mlook_mem {ks : Ks} {k : Bs} (h : k ∈ ks.map (·.1)) : (mlook ks k).isSome = true := by
 induction ks with
 | nil => simp at h
 | cons p r ih =>
   simp only [mlook]
   by_cases e : p.1 = k
   · simp [e]
   · simp only [e, if_false]
     refine ih ?_
     simp only [List.map_cons, List.mem_cons] at h
     rcases h with h | h
     · exact absurd h.symm e
     · exact h
def fromL (ks : Ks) (p : Bs) (l : List Bs) : List (Bs × Value) := (l.filter (fun k => Lib.hasPrefix k p)).map fun k => (k, (mlook ks k).getD (vS []))
/-- A store's rows whose keys begin so, rising. -/
def fromS (ks : Ks) (p : Bs) : List (Bs × Value) := fromL ks p (keysS ks)
abbrev okL {α : Type} (all : List α) : List α → α → Prop := fun pre x => ∃ r, all = pre ++ x :: r
abbrev stopL {α : Type} (all : List α) : List α → Prop := fun pre => pre ≠ [] ∧ ∃ r, all = pre ++ r
theorem store_From_sp (s : Nat) (p : Bs) : Sp Tryz.prog 100 [.pointer (some ⟨s, 0, none⟩), vS p] [] (X := Nat × Nat) (fun x => .func (.func 150) #[] #[.pointer (some ⟨x.1, 0, none⟩), .pointer (some ⟨x.2, 0, none⟩)]) (fun _ => True)
    (fun x => [Ce x.1 72 [.pointer (some ⟨s, 0, none⟩)], Ce x.2 9 [vS p]]) := by
 refine Sp.body (n := 6) Tryz.call100 Tryz.func100 rfl rfl rfl ?_
 refine Qc (k:=Zx [_] (k:=fun b2 => Zx [_] (k:=fun b3 => Vv (k:=Wq (Qc (k:=Qv (k:=Wq (Zt (k:=?_)))))))))
 refine fin_ret (b2, b3) (vs := [_]) (Cs := []) rfl (.tmp rfl .nil) rfl trivial ?_
 exact ent_pick
end
theorem mlook_mput (ks : Ks) (k k' : Bs) (v : Value) : mlook (mput ks k v) k' = if k = k' then some v else mlook ks k' := by
 induction ks with
 | nil => simp [mput, mlook]
 | cons p r ih =>
   simp only [mput]
   by_cases h : p.1 = k
   · rw [if_pos h]
     by_cases h2 : k = k'
     · simp [mlook, h2]
     · simp [mlook, h2, h]
   · rw [if_neg h]
     simp only [mlook, ih]
     by_cases h2 : k = k'
     · subst h2; simp [h]
     · simp [h2]
theorem mput_keys (ks : Ks) (k : Bs) (v : Value) : (mput ks k v).map (·.1) = if k ∈ ks.map (·.1) then ks.map (·.1) else ks.map (·.1) ++ [k] := by
 induction ks with
 | nil => simp [mput]
 | cons p r ih =>
   simp only [mput]
   by_cases h : p.1 = k
   · rw [if_pos h, if_pos (by simp [h])]; simp [h]
   · rw [if_neg h]
     simp only [List.map_cons, ih, List.mem_cons]
     by_cases h2 : k ∈ r.map (·.1)
     · rw [if_pos h2, if_pos (.inr h2)]
     · rw [if_neg h2, if_neg (by rintro (e | e); exact h e.symm; exact h2 e)]; simp
theorem mput_nodup {ks : Ks} (h : (ks.map (·.1)).Nodup) (k : Bs) (v : Value) : ((mput ks k v).map (·.1)).Nodup := by
 rw [mput_keys]
 split
 · exact h
 · rename_i hk
   rw [List.nodup_append]
   exact ⟨h, by simp, fun a ha b hb e => by simp only [List.mem_singleton] at hb; subst hb; subst e; exact hk ha⟩
theorem mdel_keys (ks : Ks) (k : Bs) : ((mdel ks k).map (·.1)).Sublist (ks.map (·.1)) := by
 induction ks with
 | nil => simp [mdel]
 | cons p r ih =>
   simp only [mdel]
   split
   · simp
   · simp only [List.map_cons]; exact ih.cons_cons _
theorem mdel_nodup {ks : Ks} (h : (ks.map (·.1)).Nodup) (k : Bs) : ((mdel ks k).map (·.1)).Nodup := h.sublist (mdel_keys ks k)
theorem mlook_none {ks : Ks} {k : Bs} (h : k ∉ ks.map (·.1)) : mlook ks k = none := by
 induction ks with
 | nil => rfl
 | cons p r ih =>
   simp only [List.map_cons, List.mem_cons, not_or] at h
   simp only [mlook, Ne.symm h.1, if_false]
   exact ih h.2
theorem mlook_mdel {ks : Ks} (h : (ks.map (·.1)).Nodup) (k k' : Bs) : mlook (mdel ks k) k' = if k = k' then none else mlook ks k' := by
 induction ks with
 | nil => simp [mdel, mlook]
 | cons p r ih =>
   simp only [List.map_cons, List.nodup_cons] at h
   simp only [mdel]
   by_cases h1 : p.1 = k
   · rw [if_pos h1]
     by_cases h2 : k = k'
     · subst h2; rw [if_pos rfl]; exact mlook_none (by rw [← h1]; exact h.1)
     · rw [if_neg h2]; simp [mlook, h1, h2]
   · rw [if_neg h1]
     simp only [mlook, ih h.2]
     by_cases h2 : k = k'
     · subst h2; simp [h1]
     · simp [h2]
theorem mlook_isSome {ks : Ks} {k : Bs} : (mlook ks k).isSome = true ↔ k ∈ ks.map (·.1) := by
 constructor
 · intro h
   apply Classical.byContradiction
   intro hc
   rw [mlook_none hc] at h; cases h
 · exact mlook_mem
theorem mlook_of_mem {ks : Ks} {k : Bs} {v : Value} (hn : (ks.map (·.1)).Nodup) (h : (k, v) ∈ ks) : mlook ks k = some v := by
 induction ks with
 | nil => simp at h
 | cons p r ih =>
   simp only [List.map_cons, List.nodup_cons] at hn
   simp only [mlook]
   rcases List.mem_cons.1 h with rfl | h
   · simp
   · have : p.1 ≠ k := fun e => hn.1 (e ▸ List.mem_map_of_mem (f := fun p : Bs × Value => p.1) h)
     simp only [this, if_false]
     exact ih hn.2 h
theorem mem_of_mlook {ks : Ks} {k : Bs} {v : Value} (h : mlook ks k = some v) : (k, v) ∈ ks := by
 induction ks with
 | nil => simp [mlook] at h
 | cons p r ih =>
   simp only [mlook] at h
   split at h
   · rename_i e; simp only [Option.some.injEq] at h; subst h; subst e; simp
   · simp [ih h]
/-! The order of texts. -/
theorem fromS_mem {ks : Ks} {p : Bs} {x : Bs × Value} (h : x ∈ fromS ks p) : x.1 ∈ ks.map (·.1) ∧ Lib.hasPrefix x.1 p = true ∧ mlook ks x.1 = some x.2 := by
 simp only [fromS, fromL, List.mem_map, List.mem_filter] at h
 obtain ⟨k, ⟨h1, h2⟩, rfl⟩ := h
 have h3 := keysS_mem.1 h1
 refine ⟨h3, h2, ?_⟩
 obtain ⟨v, hv⟩ := Option.isSome_iff_exists.1 (mlook_mem h3)
 simp [hv]
/-- A row's bytes; nothing, if there is none. -/
def bytesV : Value → Bs
 | .string b => b.data.toList
 | _ => []
def getB (K : Ks) (k : Bs) : Bs := bytesV ((mlook K k).getD (vS []))
/-- The store holds texts alone, none too long. -/
def TxtK (K : Ks) : Prop := ∀ p ∈ K, ∃ s, p.2 = vS s ∧ s.length ≤ 1073741824
theorem TxtK.get {K : Ks} (h : TxtK K) (k : Bs) : (mlook K k).getD (vS []) = vS (getB K k) ∧ (getB K k).length ≤ 1073741824 := by
 unfold getB
 cases e : mlook K k with
 | none => exact ⟨rfl, Nat.zero_le _⟩
 | some v =>
   obtain ⟨s, hs, hl⟩ := h _ (mem_of_mlook e)
   dsimp only at hs
   subst hs
   exact ⟨rfl, hl⟩
structure W5 where
 a : UInt32
 b : UInt32
 c : UInt32
 d : UInt32
 e : UInt32
def W5.list (h : W5) : List UInt32 := [h.a, h.b, h.c, h.d, h.e]
def byteW (c : UInt8) (k : Nat) : UInt32 := c.toUInt32 <<< UInt32.ofNat k
def blkW (b : Bs) (i : Nat) : UInt32 := byteW (b.getD (4 * i) 0) 24 ||| byteW (b.getD (4 * i + 1) 0) 16 ||| byteW (b.getD (4 * i + 2) 0) 8 ||| (b.getD (4 * i + 3) 0).toUInt32
def nextW (l : List UInt32) (i : Nat) : UInt32 := rotl (l.getD (i - 3) 0 ^^^ l.getD (i - 8) 0 ^^^ l.getD (i - 14) 0 ^^^ l.getD (i - 16) 0) 1
def spreadL (b : Bs) : Nat → List UInt32
 | 0 => []
 | n + 1 => spreadL b n ++ [if n < 16 then blkW b n else nextW (spreadL b n) n]
theorem spreadL_len (b : Bs) (n : Nat) : (spreadL b n).length = n := by
 induction n with
 | zero => rfl
 | succ n ih => simp [spreadL, ih]
def mixW (i : Nat) (b c d : UInt32) : UInt32 × UInt32 :=
 if i / 20 = 0 then ((b &&& c) ||| (~~~b &&& d), 0x5a827999)
 else if i / 20 = 1 then (b ^^^ c ^^^ d, 0x6ed9eba1)
 else if i / 20 = 2 then ((b &&& c) ||| (b &&& d) ||| (c &&& d), 0x8f1bbcdc)
 else (b ^^^ c ^^^ d, 0xca62c1d6)
def roundW (w : List UInt32) (i : Nat) (s : W5) : W5 := ⟨rotl s.a 5 + (mixW i s.b s.c s.d).1 + s.e + (mixW i s.b s.c s.d).2 + w.getD i 0, s.a, rotl s.b 30, s.c, s.d⟩
def roundsW (w : List UInt32) (h : W5) : Nat → W5
 | 0 => h
 | n + 1 => roundW w n (roundsW w h n)
def takeW (h : W5) (b : Bs) : W5 := let s := roundsW (spreadL b 80) h 80; ⟨h.a + s.a, h.b + s.b, h.c + s.c, h.d + s.d, h.e + s.e⟩
def blocksN (s : Bs) : Nat := (s.length + 8) / 64 + 1
def len8 (s : Bs) (i : Nat) : UInt8 := UInt8.ofNat (8 * s.length / 2 ^ (8 * (7 - i)))
def padB (s : Bs) : Bs := s ++ [0x80] ++ zeros (64 * blocksN s - 9 - s.length) ++ (List.range 8).map (len8 s)
theorem padB_len (s : Bs) : (padB s).length = 64 * blocksN s := by
 simp only [padB, blocksN, zeros, List.length_append, List.length_replicate, List.length_map, List.length_range, List.length_singleton]
 omega
def h0W : W5 := ⟨0x67452301, 0xefcdab89, 0x98badcfe, 0x10325476, 0xc3d2e1f0⟩
def sumsW (p : Bs) (h : W5) : Nat → W5
 | 0 => h
 | n + 1 => takeW (sumsW p h n) ((p.drop (64 * n)).take 64)
def hexD : Bs := [48, 49, 50, 51, 52, 53, 54, 55, 56, 57, 97, 98, 99, 100, 101, 102]
def hexW (x : UInt32) : Bs := (List.range 8).map fun j => hexD.getD ((x >>> UInt32.ofNat (28 - 4 * j)) &&& 15).toNat 0
/-- A content's name. -/
def shaB (s : Bs) : Bs := (sumsW (padB s) h0W (blocksN s)).list.flatMap hexW
theorem hexW_len (x : UInt32) : (hexW x).length = 8 := by simp [hexW]
theorem shaB_len (s : Bs) : (shaB s).length = 40 := by simp [shaB, W5.list, hexW_len]
/-- The base of a name's row, and a delta. -/
def basedB (K : Ks) (n : Bs) : Option (Bs × Bs) :=
 if (getB K (98 :: n)).length ≤ 40 ∨ (getB K (98 :: n)).getD 0 0 ≠ 100 then none else some (((getB K (98 :: n)).drop 1).take 40, (getB K (98 :: n)).drop 41)
theorem basedB_len {K : Ks} (h : TxtK K) {n b d : Bs} (e : basedB K n = some (b, d)) : b.length = 40 ∧ d.length ≤ 1073741824 := by
 unfold basedB at e
 split at e
 · cases e
 · have := (h.get (98 :: n)).2
   cases e
   simp only [List.length_take, List.length_drop]
   omega
/-- A whole row's content. -/
def fullB (K : Ks) (n : Bs) : Option Bs := if getB K (98 :: n) = [] ∨ (getB K (98 :: n)).getD 0 0 ≠ 102 then none else some ((getB K (98 :: n)).drop 1)
/-- A content, over so many deltas at most. -/
def ctnR (K : Ks) : Nat → Bs → Option Bs
 | 0, n => fullB K n
 | k + 1, n => match basedB K n with
   | none => fullB K n
   | some (b, d) => (ctnR K k b).bind fun s => applyB s d
def ctnB (K : Ks) (n : Bs) : Option Bs := ctnR K 3 n
def appD (ds : List Bs) (x : Option Bs) : Option Bs := ds.foldr (fun d a => a.bind fun s => applyB s d) x
theorem appD_snoc (ds : List Bs) (d : Bs) (x : Option Bs) : appD (ds ++ [d]) x = appD ds (x.bind fun s => applyB s d) := by simp [appD]
theorem appD_none (ds : List Bs) : appD ds none = none := by
 induction ds with
 | nil => rfl
 | cons d ds ih => simp only [appD, List.foldr_cons] at ih ⊢; rw [ih]; rfl
/-- How many deltas there are. -/
def depF (K : Ks) : Nat → Bs → Nat
 | 0, _ => 0
 | k + 1, n => match basedB K n with
   | none => 0
   | some (b, _) => depF K k b + 1
def depB (K : Ks) (n : Bs) : Int := if getB K (98 :: n) = [] ∨ ((getB K (98 :: n)).getD 0 0 ≠ 102 ∧ (getB K (98 :: n)).getD 0 0 ≠ 100) then -1 else (depF K 4 n : Int)
/-- Does a name stand on another one? -/
def staF (K : Ks) (on : Bs) : Nat → Bs → Bool
 | 0, _ => false
 | k + 1, n => if n = on then true else match basedB K n with
   | none => false
   | some (b, _) => staF K on k b
def staB (K : Ks) (n on : Bs) : Bool := staF K on 4 n
/-- The names of rows, rising. -/
def nmsB (K : Ks) : List Bs := (fromS K [98]).map fun x => x.1.drop 1
/-- The row that keeps a content. -/
def rowF (name content base : Bs) (y : Option Bs) (dd : Int) (st : Bool) : Rw :=
 match y with
 | none => ⟨98 :: name, 102 :: content, false⟩
 | some src => if base.length ≠ 40 ∨ 3 ≤ dd ∨ st = true then ⟨98 :: name, 102 :: content, false⟩
   else if makeB src content = [] ∨ (content.length : Int) - 1 - 40 ≤ (makeB src content).length then ⟨98 :: name, 102 :: content, false⟩
   else ⟨98 :: name, 100 :: (base ++ makeB src content), false⟩
def rowB (K : Ks) (name content base : Bs) : Rw := rowF name content base (ctnB K base) (depB K base) (staB K base name)
/-- The rows by which a name is gone. -/
def dropG (name n : Bs) (x : Option (Bs × Bs)) (y : Option Bs) : List Rw := match x with
 | none => []
 | some (b, _) => if b ≠ name ∨ n = name then [] else match y with
   | none => []
   | some t => [⟨98 :: n, 102 :: t, false⟩]
def dropO (K : Ks) (name n : Bs) : List Rw := dropG name n (basedB K n) (ctnB K n)
def dropF (K : Ks) (name : Bs) (l : List Bs) : List Rw := l.flatMap (dropO K name)
theorem dropF_snoc (K : Ks) (name : Bs) (l : List Bs) (n : Bs) : dropF K name (l ++ [n]) = dropF K name l ++ dropO K name n := by simp [dropF]
theorem dropO_len (K : Ks) (name n : Bs) : (dropO K name n).length ≤ 1 := by
 unfold dropO dropG
 split
 · exact Nat.zero_le _
 · split
   · exact Nat.zero_le _
   · split
     · exact Nat.zero_le _
     · exact Nat.le_refl _
theorem dropF_len (K : Ks) (name : Bs) (l : List Bs) : (dropF K name l).length ≤ l.length := by
 induction l with
 | nil => exact Nat.le_refl _
 | cons n l ih =>
   have := dropO_len K name n
   simp only [dropF, List.flatMap_cons, List.length_append, List.length_cons] at ih ⊢
   omega
def dropB (K : Ks) (name : Bs) : List Rw := if (mlook K (98 :: name)).isSome = true then dropF K name (nmsB K) ++ [⟨98 :: name, [], true⟩] else []
def checkB (K : Ks) : Bool := (nmsB K).all fun n => decide ((ctnB K n).map shaB = some n)
theorem ctnR_len {K : Ks} (h : TxtK K) : ∀ {k : Nat} {n t : Bs}, ctnR K k n = some t → t.length ≤ 1073741824 := by
 have hf : ∀ {n t : Bs}, fullB K n = some t → t.length ≤ 1073741824 := by
  intro n t e
  unfold fullB at e
  split at e
  · cases e
  · have := (h.get (98 :: n)).2
    cases e
    rw [List.length_drop]; omega
 intro k
 induction k with
 | zero => intro n t e; exact hf e
 | succ k ih =>
   intro n t e
   simp only [ctnR] at e
   split at e
   · exact hf e
   · rename_i b d _
     cases e2 : ctnR K k b with
     | none => rw [e2] at e; cases e
     | some s =>
       rw [e2] at e
       have := applyB_len (show applyB s d = some t from e)
       omega
structure Calm (D : Dk) (n : Nat) (left : Int) : Prop where
 armed : D.armed = false
 down : D.down = false
 len : D.secs.length = n
 left : D.left = left
theorem write_calm {D : Dk} {n : Nat} {f : Int} (c : Calm D n f) {i : Nat} (h : i < n) {s : Bs} (hs : s.length ≤ 32) : ∃ D', D.write i s = (D', true) ∧ Calm D' n (f - 1) := by
 refine ⟨{ D with secs := D.secs.set i (wholeS s), left := D.left - 1 }, ?_, ⟨c.armed, c.down, by simp [c.len], by simp [c.left]⟩⟩
 have h1 : ¬ (D.down = true ∨ (i : Int) < 0 ∨ (D.secs.length : Int) ≤ i ∨ 32 < s.length) := by
  rw [c.down, c.len]; simp; omega
 have h2 : ¬ (D.armed = true ∧ D.left = 0) := by rw [c.armed]; simp
 rw [Dk.write, if_neg h1, if_neg h2]
 simp
theorem writes_calm : ∀ (ps : List Bs) {D : Dk} {n : Nat} {f : Int} (c : Calm D n f) {i : Nat} (h : i + ps.length ≤ n) (hs : ∀ p ∈ ps, p.length ≤ 32), ∃ D', D.writes i ps = (D', true) ∧ Calm D' n (f - ps.length) := by
 intro ps
 induction ps with
 | nil => intro D n f c i h hs; exact ⟨D, rfl, by simpa using c⟩
 | cons p r ih =>
   intro D n f c i h hs
   simp only [List.length_cons] at h
   obtain ⟨D1, e1, c1⟩ := write_calm c (i := i) (by omega) (hs p (by simp))
   obtain ⟨D2, e2, c2⟩ := ih c1 (i := i + 1) (by omega) (fun q hq => hs q (by simp [hq]))
   refine ⟨D2, ?_, ?_⟩
   · rw [Dk.writes, e1]; exact e2
   · have e : f - 1 - (r.length : Int) = f - ((p :: r).length : Int) := by simp only [List.length_cons]; omega
     rw [← e]; exact c2
theorem piecesS_bound (s : Bs) : 30 * (piecesS s).length ≤ s.length + 30 := by
 induction h : s.length using Nat.strongRecOn generalizing s with
 | _ n ih =>
   by_cases hs : 30 < s.length
   · rw [piecesS_more hs]
     have := ih (s.drop 30).length (by simp; omega) (s.drop 30) rfl
     simp only [List.length_cons, List.length_drop] at *
     omega
   · rw [piecesS_last hs]; simp
theorem commit_calm {J : Jn} {D : Dk} {n : Nat} {f : Int} (c : Calm D n f) (hd : J.down = false) {s : Bs} (h : J.e + (piecesS s).length ≤ n) :
    ∃ D', commitJ J D s = (⟨J.l ++ [s], J.e + (piecesS s).length, false⟩, D', 0) ∧ Calm D' n (f - (piecesS s).length) := by
 obtain ⟨D', e, c'⟩ := writes_calm (piecesS s) c (i := J.e) h (fun p hp => by rw [piecesS_mem hp]; exact Nat.le_refl _)
 refine ⟨D', ?_, c'⟩
 rw [commitJ, if_neg (by rw [hd]; simp), if_neg (by rw [c.len]; omega), e]
theorem calm_newD {n : Nat} (h1 : 1 ≤ n) (h2 : n ≤ 2000) : Calm (newD n) n 0 := ⟨rfl, rfl, by simp [newD]; omega, rfl⟩
def dn2 : Bs → Nat → Option Nat
 | [], n => some n
 | c :: r, n => if c.toNat < 48 ∨ 57 < c.toNat then none else if 1073741824 < 10 * n + (c.toNat - 48) then none else dn2 r (10 * n + (c.toNat - 48))
/-- A row that may be. -/
structure Rw.Ok (r : Rw) : Prop where
 k1 : 1 ≤ r.key.length
 k2 : r.key.length ≤ 60
 v : r.val.length ≤ 1073741824
 g : r.gone = true → r.val = []
theorem mem_mdel {K : Ks} {k : Bs} {p : Bs × Value} (h : p ∈ mdel K k) : p ∈ K := by
 induction K with
 | nil => simp [mdel] at h
 | cons q l ih =>
   simp only [mdel] at h
   split at h
   · simp [h]
   · rcases List.mem_cons.1 h with rfl | h
     · simp
     · simp [ih h]
theorem mem_mput {K : Ks} {k : Bs} {v : Value} {p : Bs × Value} (h : p ∈ mput K k v) : p ∈ K ∨ p = (k, v) := by
 induction K with
 | nil => simp [mput] at h; exact .inr h
 | cons q l ih =>
   simp only [mput] at h
   split at h
   · rcases List.mem_cons.1 h with rfl | h
     · exact .inr rfl
     · exact .inl (by simp [h])
   · rcases List.mem_cons.1 h with rfl | h
     · exact .inl (by simp)
     · rcases ih h with h | h
       · exact .inl (by simp [h])
       · exact .inr h
theorem mem_doOne {K : Ks} {r : Rw} {p : Bs × Value} (h : p ∈ doOne K r) : p ∈ K ∨ p = (r.key, vS r.val) := by
 unfold doOne at h
 split at h
 · exact .inl (mem_mdel h)
 · exact mem_mput h
theorem mem_doR (l : List Rw) : ∀ {K : Ks} {p : Bs × Value}, p ∈ doR K l → p ∈ K ∨ ∃ r ∈ l, p = (r.key, vS r.val) := by
 induction l with
 | nil => intro K p h; exact .inl h
 | cons r l ih =>
   intro K p h
   rcases ih (show p ∈ doR (doOne K r) l from h) with h | ⟨q, hq, e⟩
   · rcases mem_doOne h with h | h
     · exact .inl h
     · exact .inr ⟨r, by simp, h⟩
   · exact .inr ⟨q, by simp [hq], e⟩
theorem doOne_nd {K : Ks} (h : (K.map (·.1)).Nodup) (r : Rw) : ((doOne K r).map (·.1)).Nodup := by
 unfold doOne
 split
 · exact mdel_nodup h _
 · exact mput_nodup h _ _
theorem doR_nd (l : List Rw) : ∀ {K : Ks}, (K.map (·.1)).Nodup → ((doR K l).map (·.1)).Nodup := by
 induction l with
 | nil => intro K h; exact h
 | cons r l ih => intro K h; exact ih (doOne_nd h r)
theorem doR_len2 (l : List Rw) : ∀ (K : Ks), (doR K l).length ≤ K.length + l.length := by
 induction l with
 | nil => intro K; simp [doR]
 | cons r l ih =>
   intro K
   have h1 := ih (doOne K r)
   have h2 : (doOne K r).length ≤ K.length + 1 := by
    unfold doOne
    split
    · have := (mdel_keys K r.key).length_le
      simp at this; omega
    · have := congrArg List.length (mput_keys K r.key (vS r.val))
      split at this <;> simp at this <;> omega
   have : doR K (r :: l) = doR (doOne K r) l := rfl
   rw [this, List.length_cons]; omega
theorem look_doOne {K : Ks} (h : (K.map (·.1)).Nodup) (r : Rw) (k : Bs) : mlook (doOne K r) k = if r.key = k then (if r.gone = true then none else some (vS r.val)) else mlook K k := by
 unfold doOne
 split
 · rename_i e; rw [mlook_mdel h]
 · rename_i e; rw [mlook_mput]
theorem text_ge (l : List Rw) : l.length ≤ (textOf l).length := by
 induction l with
 | nil => exact Nat.zero_le _
 | cons r l ih =>
   simp only [textOf, List.flatMap_cons, List.length_append, List.length_cons] at ih ⊢
   have : 1 ≤ (rowText r).length := by simp [rowText]; omega
   omega
theorem mayB_all {l : List Rw} (h : ∀ r ∈ l, r.Ok) : l.all mayB = true := by
 rw [List.all_eq_true]
 intro r hr
 have := h r hr
 exact decide_eq_true ⟨fun e => by have := this.k1; rw [e] at this; simp at this, this.k2⟩
/-- A store, with so many sectors written at most. -/
structure BI (n m : Nat) (J : Jn) (K : Ks) (D : Dk) : Prop where
 down : J.down = false
 e : J.e ≤ m
 l : J.l.length ≤ m
 calm : ∃ f : Int, Calm D n f ∧ f ≤ 0 ∧ -(m : Int) ≤ f
 nd : (K.map (·.1)).Nodup
 len : K.length ≤ 30 * m
 txt : TxtK K
 nam : ∀ k ∈ K.map (·.1), k.length ≤ 60
theorem bi_new {n : Nat} (h1 : 1 ≤ n) (h2 : n ≤ 2000) : BI n 0 ⟨[], 0, false⟩ [] (newD n) :=
 ⟨rfl, Nat.le_refl _, Nat.le_refl _, ⟨0, calm_newD h1 h2, Int.le_refl _, Int.le_refl _⟩, List.nodup_nil, Nat.le_refl _, (fun p h => by cases h), (fun k h => by cases h)⟩
theorem BI.commit {n e : Nat} {J : Jn} {K : Ks} {D : Dk} (i : BI n e J K D) {l : List Rw} (m : Nat) (hr : ∀ r ∈ l, r.Ok) (ht : (textOf l).length ≤ 30 * m) (h : e + m + 1 ≤ n) :
    ∃ J' D', commitS J K D l = (J', doR K l, D', 0) ∧ BI n (e + m + 1) J' (doR K l) D' := by
 obtain ⟨f, c, f1, f2⟩ := i.calm
 have hb := piecesS_bound (textOf l)
 have he := i.e
 obtain ⟨D', e1, c'⟩ := commit_calm c i.down (s := textOf l) (by omega)
 refine ⟨⟨J.l ++ [textOf l], J.e + (piecesS (textOf l)).length, false⟩, D', ?_, rfl, ?_, ?_, ⟨_, c', by omega, by omega⟩, doR_nd l i.nd, ?_, ?_, ?_⟩
 · rw [commitS, if_neg (by rw [mayB_all hr]; simp), e1]
   rfl
 · dsimp only; omega
 · have := i.l; simp; omega
 · have h1 := doR_len2 l K
   have h2 := i.len
   have h3 := text_ge l
   omega
 · intro p hp
   rcases mem_doR l hp with hp | ⟨r, hq, rfl⟩
   · exact i.txt p hp
   · exact ⟨_, rfl, (hr r hq).v⟩
 · intro k hk
   obtain ⟨p, hp, rfl⟩ := List.mem_map.1 hk
   rcases mem_doR l hp with hp | ⟨r, hq, rfl⟩
   · exact i.nam _ (List.mem_map_of_mem (f := fun p : Bs × Value => p.1) hp)
   · exact (hr r hq).k2
theorem BI.up {n e m : Nat} {J : Jn} {K : Ks} {D : Dk} (i : BI n e J K D) (h : e ≤ m) : BI n m J K D :=
 ⟨i.down, Nat.le_trans i.e h, Nat.le_trans i.l h, let ⟨f, c, f1, f2⟩ := i.calm; ⟨f, c, f1, by omega⟩, i.nd, by have := i.len; omega, i.txt, i.nam⟩
theorem BI.NamK {n e : Nat} {J : Jn} {K : Ks} {D : Dk} (i : BI n e J K D) : ∀ k ∈ K.map (·.1), k.length ≤ 1073741824 := fun k h => Nat.le_trans (i.nam k h) (by decide)
/-- What a commit with room does. -/
theorem BI.sp {n e : Nat} {J : Jn} {K : Ks} {D : Dk} (i : BI n e J K D) {l : List Rw} (m : Nat) (hr : ∀ r ∈ l, r.Ok) (ht : (textOf l).length ≤ 30 * m) (h : e + m + 1 ≤ n) (hn : n ≤ 2000) :
    ∃ J' D', BI n (e + m + 1) J' (doR K l) D' ∧ ∀ (B : HP) (a : Option Addr) (s p k c : Nat) (sh : SlA B a (l.flatMap rowC)) (hk : l.length = k),
     Sp1 Tryz.prog 36 [.pointer (some ⟨s, 0, none⟩), .slice a k c] [IsS s p J K, IsD p D, B] (vI (0 : Int)) [IsS s p J' (doR K l), IsD p D', B] := by
 obtain ⟨J', D', e1, i'⟩ := i.commit m hr ht h
 refine ⟨J', D', i', fun B a s p k c sh hk => ?_⟩
 obtain ⟨f, cl, f1, f2⟩ := i.calm
 have h1 := i.e
 have h2 := i.l
 have h3 := text_ge l
 have h4 := cl.left
 have := store_Commit_sp s p k c J K D l sh hk (by omega) (fun r q => ⟨Nat.le_trans (hr r q).k2 (by decide), (hr r q).v⟩) (by omega) (by omega) (by omega) (by omega)
 rw [e1] at this
 exact this
section
theorem getB_doOne {K : Ks} (h : (K.map (·.1)).Nodup) (r : Rw) (k : Bs) : getB (doOne K r) k = if r.key = k then (if r.gone = true then [] else r.val) else getB K k := by
 unfold getB
 rw [look_doOne h]
 by_cases e : r.key = k
 · rw [if_pos e, if_pos e]
   split <;> simp [bytesV, vS]
 · rw [if_neg e, if_neg e]
theorem key_doOne {K : Ks} (h : (K.map (·.1)).Nodup) (r : Rw) (k : Bs) : k ∈ (doOne K r).map (·.1) ↔ if r.key = k then r.gone = false else k ∈ K.map (·.1) := by
 rw [← mlook_isSome, look_doOne h]
 by_cases e : r.key = k
 · rw [if_pos e, if_pos e]
   cases r.gone <;> simp
 · rw [if_neg e, if_neg e, mlook_isSome]
theorem nms_mem {K : Ks} {n : Bs} : n ∈ nmsB K ↔ 98 :: n ∈ K.map (·.1) := by
 constructor
 · intro h
   obtain ⟨x, hx, rfl⟩ := List.mem_map.1 h
   have h1 := fromS_mem hx
   cases e : x.1 with
   | nil => have := h1.2.1; rw [e] at this; simp [Lib.hasPrefix] at this
   | cons c r =>
     have h2 := h1.2.1
     rw [e] at h2
     have : 98 = c := by simpa [Lib.hasPrefix] using h2
     subst this
     rw [List.drop_succ_cons, List.drop_zero, ← e]
     exact h1.1
 · intro h
   refine List.mem_map.2 ⟨(98 :: n, (mlook K (98 :: n)).getD (vS [])), ?_, rfl⟩
   simp only [fromS, fromL, List.mem_map, List.mem_filter]
   exact ⟨98 :: n, ⟨keysS_mem.2 h, by simp [Lib.hasPrefix]⟩, rfl⟩
theorem nms_nodup {K : Ks} (h : (K.map (·.1)).Nodup) : (nmsB K).Nodup := by
 have h2 : ((fromS K [98]).map (·.1)).Nodup := by
  simp only [fromS, fromL, List.map_map]
  rw [show ((fun x : Bs × Value => x.1) ∘ fun k => (k, (mlook K k).getD (vS []))) = id from rfl, List.map_id]
  exact ((sortB_perm _).nodup_iff.2 h).filter _
 unfold nmsB
 have e : ∀ x ∈ fromS K [98], ∃ m, x.1 = 98 :: m := fun x hx => by
  have h2 := (fromS_mem hx).2.1
  cases e : x.1 with
  | nil => rw [e] at h2; simp [Lib.hasPrefix] at h2
  | cons c r => rw [e] at h2; have : 98 = c := by simpa [Lib.hasPrefix] using h2
                exact ⟨r, by rw [this]⟩
 generalize fromS K [98] = l at h2 e
 induction l with
 | nil => exact List.nodup_nil
 | cons x l ih =>
   simp only [List.map_cons, List.nodup_cons] at h2 ⊢
   refine ⟨fun hm => h2.1 ?_, ih h2.2 fun y hy => e y (by simp [hy])⟩
   obtain ⟨y, hy, hd⟩ := List.mem_map.1 hm
   obtain ⟨m1, e1⟩ := e x (by simp)
   obtain ⟨m2, e2⟩ := e y (by simp [hy])
   rw [e1, e2] at hd
   have hd : m2 = m1 := by simpa using hd
   rw [e1, ← hd, ← e2]
   exact List.mem_map_of_mem (f := fun p : Bs × Value => p.1) hy
/-! A whole row. -/
section
variable {K : Ks} {n : Bs}
theorem full_based {t : Bs} (h : getB K (98 :: n) = 102 :: t) : basedB K n = none := by rw [basedB, h, if_pos (.inr (by simp))]
theorem full_full {t : Bs} (h : getB K (98 :: n) = 102 :: t) : fullB K n = some t := by rw [fullB, h, if_neg (by simp)]; simp
theorem full_ctn {t : Bs} (h : getB K (98 :: n) = 102 :: t) (k : Nat) : ctnR K k n = some t := by
 cases k with
 | zero => exact full_full h
 | succ k => rw [ctnR, full_based h]; exact full_full h
theorem full_dep {t : Bs} (h : getB K (98 :: n) = 102 :: t) : depB K n = 0 := by
 rw [depB, h, if_neg (by simp), depF, full_based h]; rfl
theorem full_sta {t : Bs} (h : getB K (98 :: n) = 102 :: t) (on : Bs) : staB K n on = decide (n = on) := by
 rw [staB, staF, full_based h]
 by_cases e : n = on <;> simp [e]
/-! A delta. -/
theorem del_based {b m : Bs} (hb : b.length = 40) (h : getB K (98 :: n) = 100 :: (b ++ m)) : basedB K n = some (b, m) := by
 have hl : (100 :: (b ++ m)).length = 41 + m.length := by simp; omega
 rw [basedB, h, if_neg (by rw [hl]; simp; omega)]
 have e1 : ((100 :: (b ++ m)).drop 1).take 40 = b := by rw [List.drop_succ_cons, List.drop_zero, ← hb, List.take_left]
 have e2 : (100 :: (b ++ m)).drop 41 = m := by rw [List.drop_succ_cons, ← hb, List.drop_left]
 rw [e1, e2]
theorem del_ctn {b m : Bs} (hb : b.length = 40) (h : getB K (98 :: n) = 100 :: (b ++ m)) (k : Nat) : ctnR K (k + 1) n = (ctnR K k b).bind fun s => applyB s m := by
 rw [ctnR, del_based hb h]
theorem del_depF {b m : Bs} (hb : b.length = 40) (h : getB K (98 :: n) = 100 :: (b ++ m)) (k : Nat) : depF K (k + 1) n = depF K k b + 1 := by
 rw [depF, del_based hb h]
theorem del_staF {b m : Bs} (hb : b.length = 40) (h : getB K (98 :: n) = 100 :: (b ++ m)) (on : Bs) (k : Nat) : staF K on (k + 1) n = if n = on then true else staF K on k b := by
 rw [staF, del_based hb h]
/-! No row. -/
theorem no_based (h : getB K (98 :: n) = []) : basedB K n = none := by rw [basedB, h, if_pos (.inl (by simp))]
theorem no_ctn (h : getB K (98 :: n) = []) (k : Nat) : ctnR K k n = none := by
 have : fullB K n = none := by rw [fullB, h, if_pos (.inl rfl)]
 cases k with
 | zero => exact this
 | succ k => rw [ctnR, no_based h]; exact this
end
theorem putN_sm {n : Nat} (h : n < 4096) : (putN n).length ≤ 2 := by
 rw [putN]
 split
 · simp
 · rw [putN, dif_pos (by omega)]; simp
theorem putN_1 {n : Nat} (h : n < 64) : (putN n).length = 1 := by rw [putN, dif_pos h]; rfl
/-- The delta of a text that goes on is short. -/
theorem pre_len {s t : Bs} (hs : 16 ≤ s.length) (ht : t.length < 16) (h : s.length + t.length ≤ 300) : (makeB s (s ++ t)).length ≤ 17 + t.length := by
 rw [make_pre hs ht h]
 have h1 := putN_sm (n := s.length + t.length) (by omega)
 have h2 := putN_sm (n := s.length) (by omega)
 have h3 := putN_1 (n := 0) (by omega)
 have h4 := (putN_len (n := chkB (s ++ t)) (chkB_lt _)).2
 have h5 : (plainB t).length ≤ 2 + t.length := by
  unfold plainB
  split
  · simp
  · have := putN_1 (n := t.length) (by omega)
    simp; omega
 simp [copyB]
 omega
/-- The row of a text that goes on. -/
theorem rowB_pre {K : Ks} {own base x t : Bs} (hc : ctnB K base = some x) (hb : base.length = 40) (hd : depB K base < 3) (hst : staB K base own = false) (hx : 60 ≤ x.length) (ht : t.length < 16) (h : x.length + t.length ≤ 300) :
    rowB K own (x ++ t) base = ⟨98 :: own, 100 :: (base ++ makeB x (x ++ t)), false⟩ := by
 have hl := pre_len (s := x) (t := t) (by omega) ht h
 have hne := makeB_ne (src := x) (tgt := x ++ t) (by simp; omega)
 unfold rowB rowF
 rw [hc]
 dsimp only
 rw [if_neg (by rintro (h1 | h1 | h1); omega; omega; rw [hst] at h1; cases h1), if_neg (by rintro (h1 | h1); exact hne h1; simp at h1; omega)]
theorem rowB_none {K : Ks} {own base x : Bs} (hc : ctnB K base = none) : rowB K own x base = ⟨98 :: own, 102 :: x, false⟩ := by
 unfold rowB rowF
 rw [hc]
theorem flat_only {f : Bs → List Rw} {b : Bs} : ∀ {l : List Bs}, l.Nodup → b ∈ l → (∀ n ∈ l, n ≠ b → f n = []) → l.flatMap f = f b := by
 intro l
 induction l with
 | nil => intro _ h; cases h
 | cons c l ih =>
   intro hn hb hf
   simp only [List.nodup_cons] at hn
   simp only [List.flatMap_cons]
   by_cases e : c = b
   · subst e
     have : l.flatMap f = [] := by
      rw [List.flatMap_eq_nil_iff]
      exact fun n h => hf n (by simp [h]) (fun e => hn.1 (e ▸ h))
     rw [this, List.append_nil]
   · rw [hf c (by simp) e, List.nil_append]
     exact ih hn.2 (by rcases List.mem_cons.1 hb with h | h; exact absurd h.symm e; exact h) fun n h => hf n (by simp [h])
end
end Go.Proofs.YtibccdcemcgkeaaGreat
