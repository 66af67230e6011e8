/- Texts of this proof, put together: Cmps, SortK, SHeads, Sorts, SHeads2, SHeads3, P19. -/
import Derived.Shelf.SlSortCmp.WholeK
import Derived.Ground.SlsfProg
import Derived.Test.YtdnoacgopfcpbaaGreatQ20
set_option linter.unusedVariables false
set_option linter.unusedSimpArgs false
namespace Go.Proofs.YtdnoacgopfcpbaaGreat
section
set_option maxRecDepth 100000
def cmpB (x y : Bs) : Int := if x < y then -1 else if y < x then 1 else 0
theorem cmp_isNaN_sp (x : Bs) : SpF Tryz.prog 102 [vS x] (.bool false) := by
 refine Sp.body (n := 6) Tryz.call102 Tryz.func102 rfl rfl rfl ?_
 refine Qc (k:=Vv (k:=Wq (Qc (k:=Qv (k:=Qv (k:=Wq (Zt (k:=?_))))))))
 exact fin_ret () (vs := [.bool (decide (¬ x = x))]) (Cs := []) rfl (.tmp rfl .nil) (by simp [pack]) trivial ent_nil
theorem cmp_Compare_sp (x y : Bs) : SpF Tryz.prog 58 [vS x, vS y] (vI (cmpB x y)) := by
 refine Sp.body (n := 20) Tryz.call58 Tryz.func58 rfl rfl rfl ?_
 refine Qc (k:=Vv (k:=Wq (Qc (k:=Vv (k:=?_)))))
 refine r_callF (cmp_isNaN_sp _) rfl rfl rfl ?_
 refine Vv (k:=Wq (Qc (k:=Vv (k:=?_))))
 refine r_callF (cmp_isNaN_sp _) rfl rfl rfl ?_
 refine Vv (k:=Wq (Za (k:=Qc (k:=Vv (k:=Wq (Zi (t:=fun h11 => ?_) (f:=fun h11 => ?_)))))))
 ·
  cases h11
  --done
 ·
  refine Zk (k:=Ya (Za (k:=Qc (k:=Vv (k:=Wq (Zi (t:=fun h13 => ?_) (f:=fun h13 => ?_)))))))
  ·
   cases h13
   --done
  ·
   refine Zk (k:=Ya (Za (k:=Qc (k:=Qv (k:=Vv (k:=Wq (Zi (t:=fun h16 => ?_) (f:=fun h16 => ?_))))))))
   ·
    refine Qc (k:=Vv (k:=Wq (Zt (k:=Va ?_))))
    have h : x < y := (blt_iff x y).1 h16
    rw [show cmpB x y = -1 by rw [cmpB, if_pos h]]
    exact fin_ret () (vs := [_]) (Cs := []) rfl (.tmp rfl .nil) rfl trivial ent_nil
   ·
    refine Zk (k:=Ya (Za (k:=Qc (k:=Qv (k:=Vv (k:=Wq (Zi (t:=fun h19 => ?_) (f:=fun h19 => ?_))))))))
    ·
     refine Qc (k:=Vv (k:=Wq (Zt (k:=Va ?_))))
     have h1 : ¬ x < y := fun h => by rw [(blt_iff x y).2 h] at h16; cases h16
     have h2 : y < x := by
      simp only [Bool.not_eq_true', Bool.or_eq_false_iff, decide_eq_false_iff_not] at h19
      exact Std.lt_of_le_of_ne (List.not_lt.1 h1) (fun e => h19.2 e.symm)
     rw [show cmpB x y = 1 by rw [cmpB, if_neg h1, if_pos h2]]
     exact fin_ret () (vs := [_]) (Cs := []) rfl (.tmp rfl .nil) rfl trivial ent_nil
    ·
     refine Zk (k:=Ya (Qc (k:=Vv (k:=Wq (Zt (k:=?_))))))
     have h1 : ¬ x < y := fun h => by rw [(blt_iff x y).2 h] at h16; cases h16
     have h2 : x = y := by
      rw [show blt x y = false from by simpa using h16] at h19
      simpa using h19
     subst h2
     rw [show cmpB x x = 0 by rw [cmpB, if_neg h1, if_neg h1]]
     exact fin_ret () (vs := [_]) (Cs := []) rfl (.tmp rfl .nil) rfl trivial ent_nil
def orI : List Int → Int
 | [] => 0
 | x :: r => if x = 0 then orI r else x
theorem orI_drop {l : List Int} {j : Nat} (h : j < l.length) : orI (l.drop j) = if l[j] = 0 then orI (l.drop (j + 1)) else l[j] := by rw [List.drop_eq_getElem_cons h, orI]
theorem cmp_Or_sp (b : Nat) (l : List Int) (hl : l.length ≤ 1000000) : Sp1 Tryz.prog 57 [.slice (some ⟨b, 0, none⟩) l.length l.length] [Ce b 3 (l.map vI)] (vI (orI l)) [Ce b 3 (l.map vI)] := by
 refine Sp.body (n := 18) Tryz.call57 Tryz.func57 rfl rfl rfl ?_
 refine Qc (k:=Vv (k:=Wq (Qc (k:=Vv (k:=Wq (Za (k:=Qc (k:=Vv (k:=?_)))))))))
 refine Qv (k:=Wq (Zb (k:=?_)))
 refine p_loop (fun (i : { j : Nat // j ≤ l.length ∧ orI (l.drop j) = orI l }) => [(3, vI 0), (6, .slice (some ⟨b, 0, none⟩) l.length l.length), (7, vI l.length), (8, vI i.1)]) (fun (i : { j : Nat // j ≤ l.length ∧ orI (l.drop j) = orI l }) => [Ce b 3 (l.map vI)]) (fun (i : { j : Nat // j ≤ l.length ∧ orI (l.drop j) = orI l }) => l.length - i.1) rfl (⟨0, Nat.zero_le _, rfl⟩) ?_ ?_ (fun i => ?_)
 · exact ⟨rfl, rfl, rfl, rfl, trivial⟩
 ·
  exact ent_pick
 obtain ⟨j, hj, ho⟩ := i
 try dsimp only
 refine Qc (k:=Vv (k:=Wq (Za (k:=Zi (t:=fun h9 => ?_) (f:=fun h9 => ?_)))))
 ·
  refine Zk (k:=Ya (Za (k:=Zb (k:=Qc (k:=Ye 1 (k:=Ym (k:=Vv (k:=Wq (Qc (k:=?_))))))))))
  refine Qv (k:=Vv (k:=Wq (Zi (t:=fun h14 => ?_) (f:=fun h14 => ?_))))
  ·
   refine Qc (k:=Qv (k:=Wq (Zt (k:=Vb (Va (Vi (Vb (Va ?_))))))))
   have hjl : j < l.length := by omega
   rw [← ho, orI_drop hjl, if_neg h14]
   exact fin_ret () (vs := [_]) (Cs := []) rfl (.tmp rfl .nil) rfl trivial ent_pick
  ·
   refine Zk (k:=Yb (Ya (Zr (k:=Qv (k:=Wn ?_)))))
   have hjl : j < l.length := by omega
   refine to_inv ⟨j + 1, by omega, ?_⟩ (by dsimp only; omega) ⟨rfl, rfl, rfl, rfl, trivial⟩ ent_pick
   have h0 : l[j] = 0 := Classical.not_not.1 h14
   rw [← ho, orI_drop hjl, if_pos h0]
 ·
  refine Ze (k:=Xa (Xi (Xb (Ya (Qc (k:=Qv (k:=Wq (Zt (k:=?_)))))))))
  have hjl : j = l.length := by omega
  subst hjl
  rw [← ho, List.drop_length, orI]
  exact fin_ret () (vs := [_]) (Cs := []) rfl (.tmp rfl .nil) rfl trivial ent_pick
theorem cmp_Or2_sp (b : Nat) (x y : Int) : Sp1 Tryz.prog 57 [.slice (some ⟨b, 0, none⟩) 2 2] [Ce b 3 [vI x, vI y]] (vI (if x = 0 then y else x)) [Ce b 3 [vI x, vI y]] := by
 have h := cmp_Or_sp b [x, y] (by simp)
 have e : orI [x, y] = if x = 0 then y else x := by
  simp only [orI]
  by_cases hy : y = 0 <;> simp [hy]
 rw [e] at h
 exact h
/-- First by one text, then by another. -/
def cmp2 (a b : Bs × Bs) : Int := if cmpB a.1 b.1 = 0 then cmpB a.2 b.2 else cmpB a.1 b.1
theorem cmpB_lt {x y : Bs} : cmpB x y < 0 ↔ x < y := by
 unfold cmpB
 by_cases h : x < y
 · simp [h]
 · by_cases h2 : y < x <;> simp [h, h2]
theorem cmpB_0 {x y : Bs} : cmpB x y = 0 ↔ x = y := by
 unfold cmpB
 by_cases h : x < y
 · simp only [h, if_true]; exact ⟨fun e => by omega, fun e => by subst e; exact absurd h (List.lt_irrefl x)⟩
 · by_cases h2 : y < x
   · simp only [h, h2, if_true, if_false]; exact ⟨fun e => by omega, fun e => by subst e; exact absurd h2 (List.lt_irrefl x)⟩
   · simp only [h, h2, if_false, true_iff]
     exact List.le_antisymm (List.not_lt.1 h2) (List.not_lt.1 h)
def lt2 (a b : Bs × Bs) : Prop := a.1 < b.1 ∨ (a.1 = b.1 ∧ a.2 < b.2)
theorem cmp2_lt {a b : Bs × Bs} : cmp2 a b < 0 ↔ lt2 a b := by
 unfold cmp2 lt2
 by_cases h : cmpB a.1 b.1 = 0
 · rw [if_pos h, cmpB_lt]
   have e := cmpB_0.1 h
   rw [e]
   exact ⟨fun x => .inr ⟨rfl, x⟩, fun x => x.elim (fun y => absurd y (List.lt_irrefl _)) (·.2)⟩
 · rw [if_neg h, cmpB_lt]
   have e : a.1 ≠ b.1 := fun x => h (cmpB_0.2 x)
   exact ⟨.inl, fun x => x.elim id (fun y => absurd y.1 e)⟩
theorem lt2_irr (a : Bs × Bs) : ¬ lt2 a a := fun h => h.elim (List.lt_irrefl _) (fun x => List.lt_irrefl _ x.2)
theorem lt2_tr {a b c : Bs × Bs} (h : lt2 a b) (k : lt2 b c) : lt2 a c := by
 rcases h with h | ⟨h1, h2⟩
 · rcases k with k | ⟨k1, k2⟩
   · exact .inl (List.lt_trans h k)
   · exact .inl (by rw [← k1]; exact h)
 · rcases k with k | ⟨k1, k2⟩
   · exact .inl (by rw [h1]; exact k)
   · exact .inr ⟨h1.trans k1, List.lt_trans h2 k2⟩
theorem lt2_or (a b : Bs × Bs) : lt2 a b ∨ a = b ∨ lt2 b a := by
 by_cases h : a.1 < b.1
 · exact .inl (.inl h)
 · by_cases h2 : b.1 < a.1
   · exact .inr (.inr (.inl h2))
   · have e : a.1 = b.1 := List.le_antisymm (List.not_lt.1 h2) (List.not_lt.1 h)
     by_cases h3 : a.2 < b.2
     · exact .inl (.inr ⟨e, h3⟩)
     · by_cases h4 : b.2 < a.2
       · exact .inr (.inr (.inr ⟨e.symm, h4⟩))
       · exact .inr (.inl (Prod.ext e (List.le_antisymm (List.not_lt.1 h4) (List.not_lt.1 h3))))
/-- A comparison's contract, as the sort asks for it. -/
theorem Sp.grown {P : Program} {f : FuncId} {args : List Value} {v : Value} (sp : SpF P f args v) (w : World) : Calls P f args.toArray w fun e w' => e = .returned v ∧ ∃ q os, w' = Go.Sort.grow (w.drewN q) os := by
 have t : Sat w ⟨fun b => w.heap[b]?, w⟩ (Res.emp.add Res.emp) := ⟨fun _ _ e => e, fun _ _ e => by simp [Res.add, Res.emp] at e, fun _ => .inr rfl, Env.refl w⟩
 refine (callsIn_wide.1 (sp.calls w _ Res.emp Res.emp (Res.dj_emp _) t trivial)).mono ?_
 rintro e w' ⟨x, M', h', rfl, _, l, _, t', _⟩
 have en := t'.env
 rw [← l.2] at en
 refine ⟨rfl, w'.drawn - w.drawn, w'.heap.extract w.heap.size w'.heap.size, ?_⟩
 have hold : ∀ k, k < w.heap.size → w'.heap[k]? = w.heap[k]? := fun k hk => by
  have e1 : w.heap[k]? = some w.heap[k] := Array.getElem?_eq_getElem hk
  rw [e1]
  exact t'.im k _ (l.1 k _ e1)
 have hd : w.drawn + (w'.drawn - w.drawn) = w'.drawn := by
  have h : w.drawn ≤ w'.drawn := en.up
  omega
 have hh : w'.heap = w.heap ++ w'.heap.extract w.heap.size w'.heap.size := by
  apply Array.ext_getElem?
  intro k
  have hs := en.size
  rw [Array.getElem?_append]
  by_cases hk : k < w.heap.size
  · rw [if_pos hk]; exact hold k hk
  · rw [if_neg hk, Array.getElem?_extract]
    by_cases hk2 : k < w'.heap.size
    · rw [if_pos (by omega)]
      congr 1
      omega
    · rw [if_neg (by omega)]
      exact Array.getElem?_eq_none (by omega)
 cases w' with
 | mk heap tape drawn os output =>
   have h1 := en.os
   have h2 := en.tape
   have h3 := en.output
   dsimp only at h1 h2 h3 hd hh
   subst h1; subst h2; subst h3
   show _ = ({ heap := w.heap ++ _, tape := w.tape, drawn := w.drawn + _, os := w.os, output := w.output } : World)
   rw [hd, ← hh]
end
section
set_option maxRecDepth 100000
open Go.Sort (flatK HoldsK PermIn SortedIn)
theorem flatK_list {α : Type} [Inhabited α] {enc : α → List Value} {k : Nat} (hk : ∀ x, (enc x).length = k) (l : List α) : flatK enc k l.toArray = (l.flatMap enc).toArray := by
 refine Go.Sort.ext_get! (by simp [flat_len hk]) fun t ht => ?_
 have ht' : t < l.length * k := by simpa using ht
 rw [Go.Sort.get_flatK _ _ _ _ (by simpa using ht')]
 have k0 : 0 < k := by
  rcases Nat.eq_zero_or_pos k with h | h
  · subst h; omega
  · exact h
 have hd : t / k < l.length := (Nat.div_lt_iff_lt_mul k0).2 ht'
 have hm : t % k < k := Nat.mod_lt _ k0
 have hg := get_flat hk hd
 have e : (enc l[t / k])[t % k]? = (l.flatMap enc)[t]? := by
  rw [← hg, List.getElem?_take_of_lt hm, List.getElem?_drop, Nat.div_add_mod']
 have e2 : l.toArray[t / k]! = l[t / k] := by simp [hd]
 rw [e2, List.getElem!_eq_getElem?_getD, e, List.getElem!_toArray, List.getElem!_eq_getElem?_getD]
section
variable {α : Type} [Inhabited α] {P : Program} {f g : Nat} {T : TypeId} {k : Nat} {enc : α → List Value}
theorem sortF_sp (hk : ∀ x, (enc x).length = k) (lt : α → α → Bool)
    (en : ∀ (args : Array Value) (w : World), (callFunc f args).run P w = .ok (.enter f args) w)
    (hn : SpF P f [.slice none 0 0, .func (.func g) #[] #[]] (.tuple #[]))
    (hc : ∀ (blk cap : Nat) (d : Array α) (w : World), HoldsK enc k w blk 0 d → blk < w.heap.size → d.size < 4611686018427387904 → Calls P f #[.slice (some ⟨blk, 0, none⟩) d.size cap, .func (.func g) #[] #[]] w fun e w' => e = .returned (.tuple #[]) ∧ ∃ d' n os, PermIn 0 d.size d d' ∧ SortedIn lt 0 d.size d' ∧ w' = sortWorldK enc k w blk 0 n d' os)
    (a : Option Addr) (n c : Nat) (l : List α) (hl : l.length = n) (hb : n < 4611686018427387904) :
    Sp P f [.slice a n c, .func (.func g) #[] #[]] [Row T k (.slice a n c) n (l.flatMap enc)] (X := List α) (fun _ => .tuple #[]) (fun q => q.Perm l ∧ q.Pairwise fun x y => lt y x = false) (fun q => [Row T k (.slice a n c) n (q.flatMap enc)]) := by
 subst hl
 refine ⟨en, fun w M h hf d t s => ?_⟩
 obtain ⟨h1, h2, d12, e, hr, _⟩ := s
 subst e
 rcases hr with ⟨hv, hl, hx⟩ | ⟨gg, cap, cur, hv, hnc, hcm, hcl, hxl, htk, hh⟩
 · have hl0 : l = [] := List.eq_nil_of_length_eq_zero hl
   subst hl0
   cases hv
   refine (hn.calls w M (h1.add h2) hf d t trivial).mono ?_
   rintro ee w' ⟨x, M', h', rfl, _, le, dj, t', _⟩
   exact ⟨[], M', h', rfl, ⟨List.Perm.refl _, List.Pairwise.nil⟩, le, dj, t', Res.emp, h', Res.emp_dj _, rfl, .inl ⟨rfl, rfl, rfl⟩, trivial⟩
 · cases hv
   subst hh
   obtain ⟨d1, d2⟩ := Res.dj_add_left.1 d
   have hg : w.heap[gg]? = some (.cells cur.toArray T (0, 0)) := t.ow _ _ (by simp [Res.add, Res.one])
   have hlt : gg < w.heap.size := (Array.getElem?_eq_some_iff.1 hg).1
   have hH : HoldsK enc k w gg 0 l.toArray := by
    intro j hj
    rw [flatK_list hk] at hj ⊢
    have hj' : j < (l.flatMap enc).length := by simpa using hj
    have hc : cur[j]? = some (l.flatMap enc)[j] := by
     have := congrArg (fun q => q[j]?) htk
     rw [List.getElem?_take_of_lt (by rw [← hxl]; exact hj'), List.getElem?_eq_getElem hj'] at this
     exact this
    refine ⟨?_, ?_⟩
    · simp only [World.cell?, Nat.zero_add, hg]
      rw [List.getElem!_toArray, List.getElem!_eq_getElem?_getD, List.getElem?_eq_getElem hj']
      simpa using hc
    · simp [World.frozen?, hg]
   have hcall := hc gg c l.toArray w hH hlt (by simpa using hb)
   refine CallsIn.mono (callsIn_wide.2 hcall) ?_
   rintro ee w' ⟨rfl, d', m, os, hp, hs, rfl⟩
   obtain ⟨q, rfl⟩ : ∃ q : List α, d' = q.toArray := ⟨d'.toList, by simp⟩
   have hql : q.length = l.length := by simpa using hp.1
   have hperm : q.Perm l := by
    have := hp.2.2
    simp only [List.size_toArray, Array.toList_extract, List.extract_eq_take_drop, List.drop_zero, Nat.sub_zero] at this
    rwa [List.take_of_length_le (by omega), List.take_of_length_le (Nat.le_refl _)] at this
   have hsort : q.Pairwise fun x y => lt y x = false := by
    rw [List.pairwise_iff_getElem]
    intro i j hi hj hij
    have := hs i j (Nat.zero_le _) hij (by simpa [← hql] using hj)
    simpa [hi, hj] using this
   have hfl : (q.flatMap enc).length = l.length * k := by rw [flat_len hk, hql]
   have hput : (Go.Sort.putRowK enc k (Go.Sort.ahead w m) gg 0 q.toArray).heap[gg]? = some (.cells (q.flatMap enc ++ cur.drop (q.flatMap enc).length).toArray T (0, 0)) := by
    have h0 : (Go.Sort.ahead w m).heap[gg]? = some (.cells cur.toArray T (0, 0)) := hg
    simp only [Go.Sort.putRowK, flatK_list hk, Go.Sort.putRow, Go.Sort.mapBlock, Array.getElem?_modify, if_true, h0, Option.map_some, Go.Sort.onCells]
    generalize q.flatMap enc = F at hfl ⊢
    congr 2
    apply Array.ext'
    simp only [Go.Sort.putCells, Array.toList_mapIdx]
    apply List.ext_getElem?
    intro j
    simp only [List.getElem?_mapIdx, Nat.zero_le, true_and, Nat.zero_add, List.size_toArray, Nat.sub_zero]
    by_cases hj : j < F.length
    · have hjc : j < cur.length := by
        have := congrArg List.length htk
        rw [List.length_take] at this
        omega
      rw [List.getElem?_append_left hj]
      simp [hj, hjc]
    · rw [List.getElem?_append_right (Nat.le_of_not_lt hj), List.getElem?_drop]
      have e : F.length + (j - F.length) = j := by omega
      rw [e]
      cases hc : cur[j]? with
      | none => simp [hc]
      | some v => simp [hc, hj]
   have hoth : ∀ i, i ≠ gg → (Go.Sort.putRowK enc k (Go.Sort.ahead w m) gg 0 q.toArray).heap[i]? = w.heap[i]? := by
    intro i hi
    simp only [Go.Sort.putRowK, Go.Sort.putRow, Go.Sort.mapBlock, Array.getElem?_modify, Ne.symm hi, if_false]
    rfl
   have t1 : Sat w M ((Res.one gg (.cells cur.toArray T (0, 0))).add (h2.add hf)) := by rw [← Res.add_assoc]; exact t
   have t2 := Sat.setBlk (Res.dj_add_right.2 ⟨d12, d1⟩) t1 hput hoth ⟨rfl, rfl, rfl, by simp [Go.Sort.putRowK, Go.Sort.putRow, Go.Sort.mapBlock, Go.Sort.ahead], up_add m up_rfl⟩
   have dn : (Res.one gg (.cells (q.flatMap enc ++ cur.drop (q.flatMap enc).length).toArray T (0, 0))).dj (h2.add hf) := dj_one_any (Res.dj_add_right.2 ⟨d12, d1⟩)
   obtain ⟨dn1, dn2⟩ := Res.dj_add_right.1 dn
   have hcl2 : l.length * k ≤ cur.length := by
    have := congrArg List.length htk
    rw [List.length_take] at this
    omega
   refine ⟨q, M, (Res.one gg (.cells (q.flatMap enc ++ cur.drop (q.flatMap enc).length).toArray T (0, 0))).add h2, rfl, ⟨hperm, hsort⟩, Kn.le_refl _, Res.dj_add_left.2 ⟨dn2, d2⟩, ?_, Res.one gg _, h2, dn1, rfl, .inr ⟨gg, c, q.flatMap enc ++ cur.drop (q.flatMap enc).length, rfl, hnc, hcm, ?_, hfl, ?_, rfl⟩, trivial⟩
   · rw [Res.add_assoc]; exact sat_grow t2 os
   · rw [List.length_append, List.length_drop, ← hcl]; omega
   · rw [← hfl, List.take_left' rfl]
end
theorem SWO2 {α : Type} (key : α → Bs × Bs) : Go.Sort.SWO (ltOf fun x y => cmp2 (key x) (key y)) where
 irrefl x := by
  rw [ltOf, decide_eq_false_iff_not, cmp2_lt]
  exact lt2_irr _
 trans x y z h1 h2 := by
  rw [ltOf, decide_eq_true_iff, cmp2_lt] at *
  exact lt2_tr h1 h2
 ntrans x y z h1 h2 := by
  rw [ltOf, decide_eq_false_iff_not, cmp2_lt] at *
  intro h
  rcases lt2_or (key x) (key y) with h3 | h3 | h3
  · exact h1 h3
  · rw [h3] at h; exact h2 h
  · exact h2 (lt2_tr h3 h)
/-- Sorted by two texts, no two alike: one order alone. -/
theorem sorted2_eq {α : Type} {key : α → Bs × Bs} {l m : List α} (hp : l.Perm m) (hn : (m.map key).Nodup) (hl : l.Pairwise fun x y => ltOf (fun x y => cmp2 (key x) (key y)) y x = false) (hm : m.Pairwise fun x y => lt2 (key x) (key y)) : l = m := by
 have hm2 : m.Pairwise fun x y => ltOf (fun x y => cmp2 (key x) (key y)) y x = false := hm.imp fun {x y} h => by
  rw [ltOf, decide_eq_false_iff_not, cmp2_lt]
  exact fun h2 => lt2_irr _ (lt2_tr h h2)
 refine List.Perm.eq_of_pairwise (le := fun x y => ltOf (fun x y => cmp2 (key x) (key y)) y x = false) (fun a b ha hb h1 h2 => ?_) hl hm2 hp
 rw [ltOf, decide_eq_false_iff_not, cmp2_lt] at h1 h2
 have e : key a = key b := by
  rcases lt2_or (key a) (key b) with h3 | h3 | h3
  · exact absurd h3 h2
  · exact h3
  · exact absurd h3 h1
 have ha' := hp.mem_iff.1 ha
 obtain ⟨i, hi, rfl⟩ := List.getElem_of_mem ha'
 obtain ⟨j, hj, rfl⟩ := List.getElem_of_mem hb
 have hij : i = j := by
  rcases Nat.lt_trichotomy i j with h | h | h
  · exact absurd (List.pairwise_iff_getElem.1 hm i j hi hj h) (by rw [e]; exact lt2_irr _)
  · exact h
  · exact absurd (List.pairwise_iff_getElem.1 hm j i hj hi h) (by rw [e]; exact lt2_irr _)
 subst hij; rfl
end
section
set_option maxRecDepth 100000
section
variable {r : Option Nat} {P : Program} {n : Nat} {ops : Array Oper} {os : List Oper} {A : List HP} {L : Loc} {Hs : List HP} {Q : Out} {ty : TypeId} {d : Nat} {pos : String} {after : Array Edge} {c : Code}
end
def brB : Bs := [98, 114, 97, 110, 99, 104]
def trB : Bs := [116, 114, 117, 110, 107]
/-- The branch of a name. -/
def brF (C : List (Bs × Ck)) (l : Ls) (name : Bs) : Bs := if ((ofT C l brB name).getD tgd0).value ≠ [] then ((ofT C l brB name).getD tgd0).value else trB
noncomputable def brH (H : Ks) (name : Bs) : Bs := brF (cksL H) (lastL H) name
set_option maxHeartbeats 2000000 in
theorem heads_branch_sp (m1 m2 : Nat) (all : List CkN) (l : Ls) (name : Bs) (hnd : (all.map (·.1)).Nodup) (hz : ∀ x ∈ all, x.2.2.parents.length ≤ 9223372036854775807) (hal : all.length ≤ 4398046511104) :
    Sp1 Tryz.prog 78 [.agg #[.map (some m1), .map (some m2)], vS name] [MX.MapS MX.pairE m1 (lsK l), MapS m2 (ckK all), CkMs all] (vS (brF (all.map ckKey) l name)) [MX.MapS MX.pairE m1 (lsK l), MapS m2 (ckK all), CkMs all] := by
 have hO := tags_IOf_sp m1 m2 all l brB name hnd hz hal _ rfl
 have hbr : brF (all.map ckKey) l name = if ((ofT (all.map ckKey) l brB name).getD tgd0).value ≠ [] then ((ofT (all.map ckKey) l brB name).getD tgd0).value else trB := rfl
 generalize ofT (all.map ckKey) l brB name = y at *
 obtain ⟨t, ht⟩ : ∃ t, t = y.getD tgd0 := ⟨_, rfl⟩
 rw [← ht] at hO hbr
 refine Sp.body (n := 18) Tryz.call78 Tryz.func78 rfl rfl rfl ?_
 refine Qc (k:=Zx [_, _] (k:=fun b2 => Vv (k:=Wq (Za (k:=Qc (k:=Zm [_, _] (k:=Vv (k:=?_))))))))
 refine r_call1 hO rfl rfl rfl ?_
 refine Vv (k:=?_)
 refine wo_pv (pv_extract (v := .agg #[vS t.tag, vS t.target, vS t.value, vS t.source, .bool t.spread, .bool t.own]) rfl rfl) rfl ?_
 refine wo_pv (pv_extract (v := vB y.isSome) rfl rfl) rfl ?_
 refine Zc [vS [], vS [], vS [], vS [], .bool false, .bool false] (k:=fun b5 => Zp (k:=Vv (k:=Wq (Qc (k:=Qx 2 9 (k:=Vv (k:=Wq (Zi (t:=fun h15 => ?_) (f:=fun h15 => ?_)))))))))
 ·
  refine Qc (k:=Qx 2 9 (k:=Vv (k:=Wq (Zt (k:=Va ?_)))))
  rw [hbr, if_pos h15]
  exact fin_ret () (vs := [_]) (Cs := []) rfl (.tmp rfl .nil) rfl trivial ent_pick
 ·
  refine Zk (k:=Ya (Qc (k:=Vv (k:=Wq (Zt (k:=?_))))))
  rw [hbr, if_neg h15]
  exact fin_ret () (vs := [_]) (Cs := []) rfl (.tmp rfl .nil) rfl trivial ent_pick
theorem heads_Branch_sp (b : Nat) (H : Ks) (hH : TxtK H) (hnd : (H.map (·.1)).Nodup) (hn : H.length ≤ 1000000) (name : Bs) :
    Sp1 Tryz.prog 33 [.map (some b), vS name] [MapS b H] (vS (brH H name)) [MapS b H] := by
 refine Sp.body (n := 9) Tryz.call33 Tryz.func33 rfl rfl rfl ?_
 refine Qc (k:=Vv (k:=Wq (Qc (k:=Vv (k:=?_)))))
 refine r_callX (tags_Read_sp b H hH (by omega)) rfl rfl rfl (fun x hx => ?_)
 obtain ⟨m1, m2, all⟩ := x
 dsimp only at hx ⊢
 have hf := fin_ok hnd hx
 have hB := heads_branch_sp m1 m2 all (lastL H) name hf.nd (fun x hx => by have := hf.pl x hx; omega) (by have := hf.le; omega)
 rw [show all.map ckKey = cksL H from hx] at hB
 refine Vv (k:=?_)
 refine r_call1 hB rfl rfl rfl ?_
 refine Vv (k:=Wq (Zt (k:=?_)))
 exact fin_ret () (vs := [_]) (Cs := []) rfl (.tmp rfl .nil) rfl trivial ent_pick
end
end Go.Proofs.YtdnoacgopfcpbaaGreat
/- The library's contracts at this translation, printed by the kit's tools; remarks taken out. -/
namespace Go.Proofs
open Go.Shelf
def Tryz.sortFL_ren : Go.Shelf.Ren := ⟨fun | 6 => 79 | 15 => 101 | 14 => 129 | 28 => 146 | 29 => 147 | 20 => 171 | 21 => 172 | 22 => 173 | 23 => 174 | 24 => 175 | 25 => 176 | 26 => 177 | 27 => 178 | 46 => 214 | 47 => 193 | 48 => 194 | 49 => 215 | 50 => 216 | 57 => 232 | n => n, fun | 22 => 64 | 24 => 63 | 25 => 144 | 3 => 3 | 39 => 97 | 0 => 0 | 53 => 94 | 55 => 96 | 4 => 4 | 46 => 207 | 45 => 206 | 50 => 167 | 5 => 5 | 9 => 9 | 66 => 253 | 70 => 257 | 76 => 273 | 77 => 274 | n => n, fun | n => n⟩
theorem Tryz.sortFL : Go.Proofs.SlLaysF0.n6 Tryz.prog Tryz.sortFL_ren := {
 mixed := by kernel_rfl
 f6 := ⟨Tryz.f79.name, by decide, Tryz.func79.trans (congrArg some (by kernel_rfl))⟩
 f14 := ⟨Tryz.f129.name, by decide, Tryz.func129.trans (congrArg some (by kernel_rfl))⟩
 f15 := Tryz.func101.trans (congrArg some (by kernel_rfl))
 f20 := ⟨Tryz.f171.name, by decide, Tryz.func171.trans (congrArg some (by kernel_rfl))⟩
 f21 := ⟨Tryz.f172.name, by decide, Tryz.func172.trans (congrArg some (by kernel_rfl))⟩
 f22 := ⟨Tryz.f173.name, by decide, Tryz.func173.trans (congrArg some (by kernel_rfl))⟩
 f23 := ⟨Tryz.f174.name, by decide, Tryz.func174.trans (congrArg some (by kernel_rfl))⟩
 f24 := ⟨Tryz.f175.name, by decide, Tryz.func175.trans (congrArg some (by kernel_rfl))⟩
 f25 := ⟨Tryz.f176.name, by decide, Tryz.func176.trans (congrArg some (by kernel_rfl))⟩
 f26 := ⟨Tryz.f177.name, by decide, Tryz.func177.trans (congrArg some (by kernel_rfl))⟩
 f27 := ⟨Tryz.f178.name, by decide, Tryz.func178.trans (congrArg some (by kernel_rfl))⟩
 f28 := Tryz.func146.trans (congrArg some (by kernel_rfl))
 f29 := Tryz.func147.trans (congrArg some (by kernel_rfl))
 f46 := ⟨Tryz.f214.name, by decide, Tryz.func214.trans (congrArg some (by kernel_rfl))⟩
 f47 := Tryz.func193.trans (congrArg some (by kernel_rfl))
 f48 := Tryz.func194.trans (congrArg some (by kernel_rfl))
 f49 := ⟨Tryz.f215.name, by decide, Tryz.func215.trans (congrArg some (by kernel_rfl))⟩
 f50 := ⟨Tryz.f216.name, by decide, Tryz.func216.trans (congrArg some (by kernel_rfl))⟩
 f57 := ⟨Tryz.f232.name, by decide, Tryz.func232.trans (congrArg some (by kernel_rfl))⟩
 t0 := Tryz.underlying0
 a0 := Tryz.isAgg0
 z0 := Tryz.sizeOf0
 v0 := Tryz.zeroValue0
 t3 := Tryz.underlying3
 a3 := Tryz.isAgg3
 z3 := Tryz.sizeOf3
 v3 := Tryz.zeroValue3
 t4 := Tryz.underlying4
 a4 := Tryz.isAgg4
 z4 := Tryz.sizeOf4
 v4 := Tryz.zeroValue4
 t5 := Tryz.underlying5
 a5 := Tryz.isAgg5
 z5 := Tryz.sizeOf5
 v5 := Tryz.zeroValue5
 t9 := Tryz.underlying9
 a9 := Tryz.isAgg9
 z9 := Tryz.sizeOf9
 v9 := Tryz.zeroValue9
 t22 := Tryz.underlying64
 a22 := Tryz.isAgg64
 z22 := Tryz.sizeOf64
 v22 := Tryz.zeroValue64
 t25 := Tryz.underlying144
 a25 := Tryz.isAgg144
 z25 := Tryz.sizeOf144
 v25 := Tryz.zeroValue144
 t39 := Tryz.underlying97
 a39 := Tryz.isAgg97
 z39 := Tryz.sizeOf97
 v39 := Tryz.zeroValue97
 t45 := Tryz.underlying206
 a45 := Tryz.isAgg206
 z45 := Tryz.sizeOf206
 v45 := Tryz.zeroValue206
 t46 := Tryz.underlying207
 a46 := Tryz.isAgg207
 z46 := Tryz.sizeOf207
 v46 := Tryz.zeroValue207
 t50 := Tryz.underlying167
 a50 := Tryz.isAgg167
 z50 := Tryz.sizeOf167
 v50 := Tryz.zeroValue167
 t53 := Tryz.underlying94
 a53 := Tryz.isAgg94
 z53 := Tryz.sizeOf94
 v53 := Tryz.zeroValue94
 t55 := Tryz.underlying96
 a55 := Tryz.isAgg96
 z55 := Tryz.sizeOf96
 v55 := Tryz.zeroValue96
 t66 := Tryz.underlying253
 a66 := Tryz.isAgg253
 z66 := Tryz.sizeOf253
 v66 := Tryz.zeroValue253
 t70 := Tryz.underlying257
 a70 := Tryz.isAgg257
 z70 := Tryz.sizeOf257
 v70 := Tryz.zeroValue257
 t76 := Tryz.underlying273
 a76 := Tryz.isAgg273
 z76 := Tryz.sizeOf273
 v76 := Tryz.zeroValue273
 t77 := Tryz.underlying274
 a77 := Tryz.isAgg274
 z77 := Tryz.sizeOf274
 v77 := Tryz.zeroValue274 }
end Go.Proofs
namespace Go.Proofs.YtdnoacgopfcpbaaGreat
section
set_option maxRecDepth 100000
structure Lf where
 branch : Bs
 name : Bs
 deriving DecidableEq
instance : Inhabited Lf := ⟨⟨[], []⟩⟩
def lfCells (p : Lf) : List Value := [vS p.branch, vS p.name]
def lfKey (p : Lf) : Bs × Bs := (p.branch, p.name)
theorem Leaves_cmp_sp (x y : Lf) : SpF Tryz.prog 80 [.agg (lfCells x).toArray, .agg (lfCells y).toArray] (vI (cmp2 (lfKey x) (lfKey y))) := by
 obtain ⟨c1, p1⟩ := x
 obtain ⟨c2, p2⟩ := y
 refine Sp.body (n := 17) Tryz.call80 Tryz.func80 rfl rfl rfl ?_
 refine Qc (k:=Zx [_, _] (k:=fun b2 => Zx [_, _] (k:=fun b3 => Vv (k:=Wq (Za (k:=Dw [Ce b2 63 [vS c1, vS p1], Ce b3 63 [vS c2, vS p2]] (k:=?_)))))))
 refine Di 0 (t:=Uf 0 9) (k:=Di 1 (t:=Ul) (k:=Di 2 (t:=Uf 0 9) (k:=Di 3 (t:=Ul) (k:=Di 5 (t:=Uf 1 9) (k:=Di 6 (t:=Ul) (k:=Di 7 (t:=Uf 1 9) (k:=Di 8 (t:=Ul) (k:=Dn 4 (k:=?_)))))))))
 refine an_callF (cmp_Compare_sp _ _) rfl rfl rfl ?_
 refine Dn 9 (k:=?_)
 refine an_callF (cmp_Compare_sp _ _) rfl rfl rfl ?_
 refine Dn 10 (k:=Nl [_, _] (cs := [_, _]) (k:=fun b15 => Dn 11 (k:=?_)))
 refine an_call1 (cmp_Or2_sp b15 (cmpB c1 c2) (cmpB p1 p2)) rfl rfl rfl ?_
 refine Dv 12 (k:=Dd (k:=Ya (Zt (k:=?_))))
 exact fin_ret () (vs := [_]) (Cs := []) rfl (.tmp rfl .nil) rfl trivial ent_nil
theorem insLf_nil (g : Nat) : SpF Tryz.prog 171 [.slice none 0 0, vI 0, vI 0, .func (.func g) #[] #[]] (.tuple #[]) := by
 refine Sp.body (n := 53) Tryz.call171 Tryz.func171 rfl rfl rfl ?_
 refine Qc (k:=Qv (k:=Vv (k:=Wq (Zb (k:=?_)))))
 refine p_loop (fun (i : Unit) => [(0, .slice none 0 0), (1, vI 0), (2, vI 0), (8, vI 1)]) (fun (i : Unit) => []) (fun (i : Unit) => 0) rfl (()) ?_ ?_ (fun i => ?_)
 · exact ⟨rfl, rfl, rfl, rfl, trivial⟩
 ·
  exact Ent.refl _
 try dsimp only
 refine Za (k:=Qc (k:=Qv (k:=Vv (k:=Wq (Zi (t:=fun h14 => ?_) (f:=fun h14 => ?_))))))
 ·
  simp at h14
  --done
 ·
  refine Ze (k:=Xa (Xi (Xb ?_)))
  exact fin_end () (vs := []) (Cs := []) rfl .nil rfl trivial ent_nil
theorem pdqLf_nil (g : Nat) : SpF Tryz.prog 129 [.slice none 0 0, vI 0, vI 0, vI 0, .func (.func g) #[] #[]] (.tuple #[]) := by
 refine Sp.body (n := 148) Tryz.call129 Tryz.func129 rfl rfl rfl ?_
 refine Qc (k:=Vv (k:=Wq (Qc (k:=Vv (k:=Wq (Zb (k:=?_)))))))
 refine p_loop (fun (i : Unit) => [(0, .slice none 0 0), (1, vI 0), (2, vI 0), (3, vI 0), (4, .func (.func g) #[] #[])]) (fun (i : Unit) => []) (fun (i : Unit) => 0) rfl (()) ?_ ?_ (fun i => ?_)
 · exact ⟨rfl, rfl, rfl, rfl, rfl, trivial⟩
 ·
  exact Ent.refl _
 try dsimp only
 refine Zb (k:=Qc (k:=Qv (k:=Qv (k:=Wq (Za (k:=Qc (k:=Vv (k:=?_))))))))
 refine Vv (k:=Wq (Zi (t:=fun h25 => ?_) (f:=fun h25 => ?_)))
 ·
  refine Qc (k:=Qv (k:=Qv (k:=?_)))
  refine r_callF (insLf_nil g) rfl rfl rfl ?_
  refine Wq (Zt (k:=Va (Vb (Vi (Vb ?_)))))
  exact fin_ret () (vs := []) (Cs := []) rfl .nil rfl trivial ent_nil
 ·
  simp at h25
  --done
theorem SortLf_nil (g : Nat) : SpF Tryz.prog 79 [.slice none 0 0, .func (.func g) #[] #[]] (.tuple #[]) := by
 refine Sp.body (n := 14) Tryz.call79 Tryz.func79 rfl rfl rfl ?_
 refine Qc (k:=Qv (k:=Vv (k:=Wq (Zr (k:=Qv (k:=Vv (k:=?_)))))))
 refine wo_pv (pv_conv_in (i := 0) rfl Tryz.underlying3 Tryz.underlying97 (by decide)) rfl ?_
 refine r_callF bits_Len_zero rfl rfl rfl ?_
 refine Vv (k:=?_)
 refine r_callF (pdqLf_nil g) rfl rfl rfl ?_
 refine Wn ?_
 exact fin_end () (vs := []) (Cs := []) rfl .nil rfl trivial ent_nil
theorem slices_SortLf_sp (a : Option Addr) (n c : Nat) (l : List Lf) (hl : l.length = n) (hb : n < 4611686018427387904) :
    Sp Tryz.prog 79 [.slice a n c, .func (.func 80) #[] #[]] [Row 63 2 (.slice a n c) n (l.flatMap lfCells)] (X := List Lf) (fun _ => .tuple #[]) (fun q => q.Perm l ∧ q.Pairwise fun x y => ltOf (fun x y => cmp2 (lfKey x) (lfKey y)) y x = false) (fun q => [Row 63 2 (.slice a n c) n (q.flatMap lfCells)]) :=
 sortF_sp (T := 63) (k := 2) (enc := lfCells) (fun _ => rfl) _ Tryz.call79 (SortLf_nil _) (fun blk cap d w hH hb hs => by
  have hcon := AnyQ.slices_SortFunc Tryz.sortFL 2 Tryz.isAgg63 Tryz.sizeOf63 lfCells (fun _ => rfl) (fun x v hv => by
   simp only [lfCells, List.mem_cons, List.not_mem_nil, or_false] at hv
   rcases hv with rfl | rfl <;> rfl) (fun x y => cmp2 (lfKey x) (lfKey y)) (SWO2 lfKey) 80 #[] blk 0 cap d w Tryz.call80 (fun m os dk hs x y => by
    have := Sp.grown (Leaves_cmp_sp x y) (sortWorldK lfCells 2 w blk 0 m dk os)
    simpa using this) hH hb hs
  exact hcon) a n c l hl hb
/-- Those with a child on their branch. -/
def inC (br : Bs → Bs) (n : Bs) (x : Bs × Ck) : Prop := firstB x.2 = n ∧ firstB x.2 ≠ x.1 ∧ br (firstB x.2) = br x.1
instance {br : Bs → Bs} {n : Bs} {x : Bs × Ck} : Decidable (inC br n x) := inferInstanceAs (Decidable (_ ∧ _ ∧ _))
def inB (br : Bs → Bs) (l : List (Bs × Ck)) (n : Bs) : Bool := decide (∃ x ∈ l, inC br n x)
def inStep (br : Bs → Bs) (m : Ks) (x : Bs × Ck) : Ks := if firstB x.2 ≠ x.1 ∧ br (firstB x.2) = br x.1 then mput m (firstB x.2) (vB true) else m
def inK (br : Bs → Bs) (l : List (Bs × Ck)) : Ks := l.foldl (inStep br) []
theorem inK_snoc (br : Bs → Bs) (l : List (Bs × Ck)) (x : Bs × Ck) : inK br (l ++ [x]) = inStep br (inK br l) x := by simp [inK]
theorem inK_look (br : Bs → Bs) (n : Bs) (l : List (Bs × Ck)) : (mlook (inK br l) n).getD (vB false) = vB (inB br l n) := by
 have key : ∀ (l : List (Bs × Ck)) (m : Ks) (b : Bool), (mlook m n).getD (vB false) = vB b → (mlook (l.foldl (inStep br) m) n).getD (vB false) = vB (b || inB br l n) := by
  intro l
  induction l with
  | nil => intro m b h; rw [List.foldl_nil, h]; simp [inB]
  | cons a l ih =>
    intro m b h
    rw [List.foldl_cons]
    have h2 : (mlook (inStep br m a) n).getD (vB false) = vB (b || decide (inC br n a)) := by
     unfold inStep
     by_cases hc : firstB a.2 ≠ a.1 ∧ br (firstB a.2) = br a.1
     · rw [if_pos hc, mlook_mput]
       by_cases hn : firstB a.2 = n
       · rw [if_pos hn, show decide (inC br n a) = true from decide_eq_true ⟨hn, hc⟩]; simp
       · rw [if_neg hn, show decide (inC br n a) = false from decide_eq_false (fun x => hn x.1), h]; simp
     · rw [if_neg hc, show decide (inC br n a) = false from decide_eq_false (fun x => hc x.2), h]; simp
    rw [ih _ _ h2]
    congr 1
    rw [Bool.or_assoc]
    congr 1
    rw [Bool.eq_iff_iff]
    simp [inB]
 have := key l [] false rfl
 rw [Bool.false_or] at this
 exact this
def lvOf (br : Bs → Bs) (C : List (Bs × Ck)) (x : Bs × Ck) : List Lf := if inB br C x.1 then [] else [⟨br x.1, x.1⟩]
def lvF (br : Bs → Bs) (C l : List (Bs × Ck)) : List Lf := l.flatMap (lvOf br C)
theorem lvF_snoc (br : Bs → Bs) (C l : List (Bs × Ck)) (x : Bs × Ck) : lvF br C (l ++ [x]) = lvF br C l ++ lvOf br C x := by simp [lvF]
theorem lvF_len (br : Bs → Bs) (C l : List (Bs × Ck)) : (lvF br C l).length ≤ l.length := by
 induction l with
 | nil => exact Nat.le_refl _
 | cons a l ih =>
   unfold lvF at *
   rw [List.flatMap_cons, List.length_append, List.length_cons]
   have : (lvOf br C a).length ≤ 1 := by unfold lvOf; split <;> simp
   omega
/-- The leaves, unsorted. -/
noncomputable def lvL (H : Ks) : List Lf := lvF (brH H) (cksL H) (cksL H)
theorem cksL_len' (H : Ks) : (cksL H).length ≤ H.length := by
 have h1 := (cksF_sub H (keysS H)).length_le
 rw [keysS_len, List.length_map] at h1
 exact h1
theorem okC_len2 {H : Ks} {pre : List CkN} {x : CkN} (h : okC H pre x) : pre.length < H.length := by
 obtain ⟨⟨r, e⟩, _, _⟩ := h
 have h1 := cksL_len' H
 have h2 := congrArg List.length e
 rw [List.length_append, List.length_cons, List.length_map] at h2
 omega
abbrev LvI (b : Nat) (acc : List Lf) : HP := Ex fun s : Option Addr × Nat => Al [Ce b 64 [.slice s.1 acc.length s.2], Row 63 2 (.slice s.1 acc.length s.2) acc.length (acc.flatMap lfCells)]
set_option maxHeartbeats 8000000 in
theorem heads_Leaves_sp (b : Nat) (H : Ks) (hH : TxtK H) (hnd : (H.map (·.1)).Nodup) (hn : H.length ≤ 1000000) :
    Sp Tryz.prog 32 [.map (some b)] [MapS b H] (X := (Option Addr × Nat) × List Lf) (fun x => .slice x.1.1 x.2.length x.1.2) (fun x => x.2.Perm (lvL H) ∧ x.2.Pairwise fun x y => ltOf (fun x y => cmp2 (lfKey x) (lfKey y)) y x = false) (fun x => [Row 63 2 (.slice x.1.1 x.2.length x.1.2) x.2.length (x.2.flatMap lfCells), MapS b H]) := by
 refine Sp.body (n := 52) Tryz.call32 Tryz.func32 rfl rfl rfl ?_
 refine Qc (k:=Vv (k:=Wq (Qc (k:=Vv (k:=?_)))))
 refine r_callX (tags_Read_sp b H hH (by omega)) rfl rfl rfl (fun x hx => ?_)
 obtain ⟨m1, m2, al⟩ := x
 dsimp only at hx ⊢
 have hf := fin_ok hnd hx
 have hB : ∀ name, Sp1 Tryz.prog 78 [.agg #[.map (some m1), .map (some m2)], vS name] [MX.MapS MX.pairE m1 (lsK (lastL H)), MapS m2 (ckK al), CkMs al] (vS (brH H name)) [MX.MapS MX.pairE m1 (lsK (lastL H)), MapS m2 (ckK al), CkMs al] := fun name => by
  have := heads_branch_sp m1 m2 al (lastL H) name hf.nd (fun x hx => by have := hf.pl x hx; omega) (by have := hf.le; omega)
  rw [show al.map ckKey = cksL H from hx] at this
  exact this
 have hlv : lvL H = lvF (brH H) (cksL H) (cksL H) := rfl
 generalize brH H = br at *
 generalize lsK (lastL H) = lk1 at *
 generalize ckK al = lk2 at *
 refine Zc [.map none, .map none] (k:=fun b3 => Zp (k:=Wq (Qc (k:=?_))))
 refine r_mkmap rfl (fun b12 => ?_)
 refine Zc [.map none] (k:=fun b4 => Zo (k:=Wq (Za (k:=Qc (k:=Vv (k:=?_))))))
 refine r_callX (links_Checkins_sp (some b)) rfl rfl rfl (fun cb _ => ?_)
 refine Wq (Zb (k:=?_))
 refine p_rangeFuncX (fun pre => [MapS b12 (inK br (pre.map ckKey)), Ce b3 140 [.map (some m1), .map (some m2)], Ce b4 71 [.map (some b12)], MX.MapS MX.pairE m1 lk1, MapS m2 lk2, CkMs al, MapS b H]) (fun j pre => [Pu False]) (fun pre => [MapS b12 (inK br (pre.map ckKey)), Ce b3 140 [.map (some m1), .map (some m2)], Ce b4 71 [.map (some b12)], MX.MapS MX.pairE m1 lk1, MapS m2 lk2, CkMs al]) rfl (links_Checkins_it cb b H hH (by omega)) rfl (fun _ => by rfl) rfl (fun pre => ?_) (fun pre => ?_) ?_ (fun l pre x hok => ?_) (fun all hfin => ?_) (fun j pre hs => ?_)
 · exact ent_pick
 · exact ent_pick
 · (rw [show inK br (([] : List CkN).map ckKey) = [] from rfl]; exact ent_pick)
 ·
  have hsn : inK br ((pre ++ [x]).map ckKey) = inStep br (inK br (pre.map ckKey)) (ckKey x) := by rw [List.map_append, List.map_cons, List.map_nil, inK_snoc]
  obtain ⟨nm, xa, ck⟩ := x
  dsimp only [ckV, ckVals, ckKey] at hsn ⊢
  generalize inK br (pre.map ckKey) = ik at hsn ⊢
  have hpl2 : ck.parents.length ≤ 3 := by
   have := (readK_iff.1 hok.2.2).1.parents.len
   dsimp only at this
   omega
  have hFi := links_First_sp (B := SlI xa.pa (ck.parents.map vS)) xa ck (by omega) sla_sli
  unfold CkM
  refine wc_al ?_
  refine Qc (k:=Vv (k:=Wq (Zr (k:=Zc [vS [], vS [], .int .i64 0, .slice none 0 0, .slice none 0 0, .slice none 0 0, vS []] (k:=fun b6 => Zp (k:=Wg (Zb (k:=Qc (k:=Zm [_, _, _, _, _, _, _] (k:=?_))))))))))
  refine r_call1 hFi rfl rfl rfl ?_
  refine Vv (k:=Wq (Za (k:=Dw [Ce b3 140 [.map (some m1), .map (some m2)]] (k:=?_))))
  refine Dv 0 (k:=Dv 1 (k:=Dv 2 (k:=Dv 3 (k:=Gd 3 (t:=fun h22 => ?_) (f:=fun h22 => ?_)))))
  ·
   refine d_first 4 rfl rfl rfl (by kernel_rfl) (by kernel_rfl) (tl_in (b := true) rfl (tl_loada (vs := [_, _]) Tryz.underlying140 rfl ti140 rfl (by exact Nat.le_of_ble_eq_true rfl) (by rfl))) ?_
   refine Di 5 (t:=U1 (h:=Uv)) (k:=?_)
   refine d_first 7 rfl rfl rfl (by kernel_rfl) (by kernel_rfl) (tl_in (b := true) rfl (tl_loada (vs := [_, _]) Tryz.underlying140 rfl ti140 rfl (by exact Nat.le_of_ble_eq_true rfl) (by rfl))) ?_
   refine Di 8 (t:=U1 (h:=Uv)) (k:=Dn 6 (k:=?_))
   refine an_in (b := true) rfl ?_
   refine an_call1 (hB _) rfl rfl rfl ?_
   refine Dn 9 (k:=?_)
   refine an_in (b := true) rfl ?_
   refine an_call1 (hB _) rfl rfl rfl ?_
   refine Di 10 (t:=U1 (h:=Uv)) (k:=DP1 11 (k:=Dd (k:=Ya (Zi (t:=fun h30 => ?_) (f:=fun h30 => ?_)))))
   ·
    refine Zr (k:=Zd (k:=Vv (k:=?_)))
    refine r_mapUpdate Tryz.underlying71 Tryz.underlying9 rfl rfl rfl ?_
    refine Wn (Yb ?_)
    refine to_round ?_
    rw [hsn, inStep]
    first
    | (rw [if_pos ⟨h22, h30⟩]; exact ent_pick)
    | (rw [if_neg (fun hh => h30 hh.2)]; exact ent_pick)
    | (rw [if_neg (fun hh => h22 hh.1)]; exact ent_pick)
   ·
    refine Zk (k:=Yb ?_)
    refine to_round ?_
    rw [hsn, inStep]
    first
    | (rw [if_pos ⟨h22, h30⟩]; exact ent_pick)
    | (rw [if_neg (fun hh => h30 hh.2)]; exact ent_pick)
    | (rw [if_neg (fun hh => h22 hh.1)]; exact ent_pick)
  ·
   refine D0 4 (k:=D0 5 (k:=D0 6 (k:=D0 7 (k:=D0 8 (k:=D0 9 (k:=D0 10 (k:=DP0 11 (k:=Dd (k:=Ya (Z0 (k:=Zk (k:=?_))))))))))))
   refine Yb ?_
   refine to_round ?_
   rw [hsn, inStep]
   first
   | (rw [if_pos ⟨h22, h30⟩]; exact ent_pick)
   | (rw [if_neg (fun hh => h30 hh.2)]; exact ent_pick)
   | (rw [if_neg (fun hh => h22 hh.1)]; exact ent_pick)
 ·
  rw [show all.map ckKey = cksL H from hfin]
  have hik := fun n => inK_look br n (cksL H)
  generalize inK br (cksL H) = ik at hik ⊢
  refine Yb (Ya (Qc (k:=Zc [.slice none 0 0] (k:=fun b8 => Wq (Za (k:=Qc (k:=Vv (k:=?_))))))))
  refine r_callX (links_Checkins_sp (some b)) rfl rfl rfl (fun cb2 _ => ?_)
  refine Wq (Zb (k:=?_))
  refine p_rangeFuncX (fun pre => [LvI b8 (lvF br (cksL H) (pre.map ckKey)), MapS b12 ik, Ce b3 140 [.map (some m1), .map (some m2)], Ce b4 71 [.map (some b12)], MX.MapS MX.pairE m1 lk1, MapS m2 lk2, CkMs al, MapS b H]) (fun j pre => [Pu False]) (fun pre => [LvI b8 (lvF br (cksL H) (pre.map ckKey)), MapS b12 ik, Ce b3 140 [.map (some m1), .map (some m2)], Ce b4 71 [.map (some b12)], MX.MapS MX.pairE m1 lk1, MapS m2 lk2, CkMs al]) rfl (links_Checkins_it cb2 b H hH (by omega)) rfl (fun _ => by rfl) rfl (fun pre => ?_) (fun pre => ?_) ?_ (fun l pre x hok => ?_) (fun all hfin => ?_) (fun j pre hs => ?_)
  · exact ent_pick
  · exact ent_pick
  · (refine ent_app ?_; refine ent_ex (none, 0) (ent_al ?_); dsimp only; rw [show lvF br (cksL H) (([] : List CkN).map ckKey) = [] from rfl]; exact ent_cons (ent_step row_nil ent_pick))
  ·
   have hpl := okC_len2 hok
   have hcl : (lvF br (cksL H) (pre.map ckKey)).length ≤ pre.length := by
    have := lvF_len br (cksL H) (pre.map ckKey)
    rwa [List.length_map] at this
   have hsn : lvF br (cksL H) ((pre ++ [x]).map ckKey) = lvF br (cksL H) (pre.map ckKey) ++ lvOf br (cksL H) (ckKey x) := by rw [List.map_append, List.map_cons, List.map_nil, lvF_snoc]
   obtain ⟨nm, xa, ck⟩ := x
   dsimp only [ckV, ckVals, ckKey] at hsn ⊢
   generalize lvF br (cksL H) (pre.map ckKey) = acc0 at hsn hcl ⊢
   unfold CkM
   refine wc_al ?_
   refine wc_ent' (ent_pick1 (.there (.there (.there .here)))) ?_
   refine wc_exi fun s => wc_al ?_
   refine Zr (k:=Vv (k:=Wg (Zb (k:=Qc (k:=Zd (k:=Vv (k:=?_)))))))
   refine r_lookup (v := vB (inB br (cksL H) nm)) Tryz.underlying71 Tryz.underlying9 ti4 rfl rfl rfl (hik nm) rfl ?_
   refine Vv (k:=Wq (Zi (t:=fun h40 => ?_) (f:=fun h40 => ?_)))
   ·
    refine Dw [Ce b8 64 [.slice s.1 acc0.length s.2], Ce b3 140 [.map (some m1), .map (some m2)]] (k:=?_)
    refine Di 0 (t:=Ul) (k:=?_)
    refine d_first 1 rfl rfl rfl (by kernel_rfl) (by kernel_rfl) (tl_loada (vs := [_, _]) Tryz.underlying140 rfl ti140 rfl (by exact Nat.le_of_ble_eq_true rfl) (by rfl)) ?_
    refine Dv 2 (k:=Dv 4 (k:=Dn 3 (k:=?_)))
    refine an_call1 (hB _) rfl rfl rfl ?_
    refine Di 5 (t:=Ux (Ps [_, _])) (k:=Dn 6 (k:=Nl [_] (cs := [_, _]) (k:=fun b47 => Dn 7 (k:=?_))))
    refine an_append1 (sz := 2) (bytes := 32) Tryz.underlying64 ti63 rfl rfl rfl rfl rfl rfl rfl (by rfl) (by rfl) (by omega) (by simp only [maxLen]; omega) rfl (fun a48 c48 => ?_)
    refine d_last 8 (by kernel_rfl) rfl (by kernel_rfl) (by kernel_rfl) ?_
    refine No (k:=Yb ?_)
    refine to_round ?_
    rw [hsn, lvOf]
    first
    | (rw [if_neg (by rw [inB, decide_eq_false h40]; simp)]
       refine ent_ex (a48, c48) (ent_al ?_)
       simp only [List.length_append, List.length_cons, List.length_nil, Nat.zero_add, List.flatMap_append, List.flatMap_cons, List.flatMap_nil, List.append_nil, lfCells]
       exact ent_pick)
    | (rw [if_pos (show inB br (cksL H) nm = true from decide_eq_true (Classical.not_not.1 h40)), List.append_nil]
       refine ent_ex s (ent_al ?_)
       exact ent_pick)
   ·
    refine Zk (k:=Yb ?_)
    refine to_round ?_
    rw [hsn, lvOf]
    first
    | (rw [if_neg (by rw [inB, decide_eq_false h40]; simp)]
       refine ent_ex (a48, c48) (ent_al ?_)
       simp only [List.length_append, List.length_cons, List.length_nil, Nat.zero_add, List.flatMap_append, List.flatMap_cons, List.flatMap_nil, List.append_nil, lfCells]
       exact ent_pick)
    | (rw [if_pos (show inB br (cksL H) nm = true from decide_eq_true (Classical.not_not.1 h40)), List.append_nil]
       refine ent_ex s (ent_al ?_)
       exact ent_pick)
  ·
   simp only [List.cons_append, List.nil_append]
   rw [show all.map ckKey = cksL H from hfin, ← hlv]
   have hal : (lvL H).length ≤ H.length := by
    rw [hlv]
    exact Nat.le_trans (lvF_len _ _ _) (cksL_len' H)
   refine Yb (Ya (Za (k:=?_)))
   refine wc_exi fun s => wc_al ?_
   refine Zr (k:=Zd (k:=?_))
   refine r_callX (slices_SortLf_sp s.1 _ s.2 (lvL H) rfl (by omega)) rfl rfl rfl (fun q hq => ?_)
   have hql := hq.1.length_eq
   refine Wq (Qc (k:=Zd (k:=Vv (k:=Wq (Zt (k:=?_))))))
   refine fin_ret ((s.1, s.2), q) (vs := [.slice s.1 (lvL H).length s.2]) (Cs := []) rfl (.tmp rfl .nil) (by rw [← hql]; rfl) hq ?_
   dsimp only
   rw [hql]
   exact ent_pick
  ·
   exact wc_no (fun s => by obtain ⟨_, _, _, _, a, _⟩ := s; exact a)
 ·
  exact wc_no (fun s => by obtain ⟨_, _, _, _, a, _⟩ := s; exact a)
end
section
set_option maxRecDepth 100000
theorem IsLeaf_f_sp (b : Nat) (name : Bs) (x : Lf) : Sp1 Tryz.prog 82 [.agg (lfCells x).toArray, .pointer (some ⟨b, 0, none⟩)] [Ce b 9 [vS name]] (vB (decide (x.name = name))) [Ce b 9 [vS name]] := by
 obtain ⟨x1, x2⟩ := x
 refine Sp.body (n := 8) Tryz.call82 Tryz.func82 rfl rfl rfl ?_
 refine Qc (k:=Zx [_, _] (k:=fun b2 => Vv (k:=Wq (Qc (k:=Qx 1 9 (k:=Zd (k:=Qv (k:=?_))))))))
 refine Wq (Zt (k:=?_))
 exact fin_ret () (vs := [_]) (Cs := []) rfl (.tmp rfl .nil) rfl trivial ent_pick
theorem IndexFuncLf_sp {g : Nat} {lb : List Value} {Bx : HP} {p : Lf → Bool} (hg : ∀ x, Sp1 Tryz.prog g ([.agg (lfCells x).toArray] ++ lb) [Bx] (vB (p x)) [Bx]) (a : Option Addr) (c : Nat) (l : List Lf) (hl : l.length ≤ 1000000) [hp : PickC Bx [Bx] []] :
    Sp Tryz.prog 130 [.slice a l.length c, .func (.func g) #[] lb.toArray] [Row 63 2 (.slice a l.length c) l.length (l.flatMap lfCells), Bx] (X := Int) (fun i => vI i) (fun i => (0 ≤ i ↔ l.any p = true)) (fun _ => [Row 63 2 (.slice a l.length c) l.length (l.flatMap lfCells), Bx]) := by
 refine Sp.body (n := 19) Tryz.call130 Tryz.func130 rfl rfl rfl ?_
 refine Qc (k:=Vv (k:=Wq (Za (k:=Qc (k:=Qv (k:=Vv (k:=Wq (Zb (k:=?_)))))))))
 refine p_loop (fun (i : { j : Nat // j ≤ l.length ∧ (l.take j).any p = false }) => [(0, .slice a l.length c), (1, .func (.func g) #[] lb.toArray), (7, vI l.length), (8, vI i.1)]) (fun (i : { j : Nat // j ≤ l.length ∧ (l.take j).any p = false }) => [Row 63 2 (.slice a l.length c) l.length (l.flatMap lfCells), Bx]) (fun (i : { j : Nat // j ≤ l.length ∧ (l.take j).any p = false }) => l.length - i.1) rfl (⟨0, Nat.zero_le _, rfl⟩) ?_ ?_ (fun i => ?_)
 · exact ⟨rfl, rfl, rfl, rfl, trivial⟩
 ·
  exact ent_pick
 obtain ⟨j, hj, ho⟩ := i
 try dsimp only
 refine Qc (k:=Vv (k:=Wq (Za (k:=Zi (t:=fun h9 => ?_) (f:=fun h9 => ?_)))))
 ·
  refine Zk (k:=Ya (Za (k:=Zb (k:=Qc (k:=Qv (k:=Wq (Qc (k:=Vv (k:=?_)))))))))
  refine Qv (k:=Ye 2 (k:=?_))
  refine r_eloada (vs := [vS (l[j]'(by omega)).branch, vS (l[j]'(by omega)).name]) (sz := 2) Tryz.underlying63 rfl ti63 rfl rfl (by rw [flat_len (sz := 2) (fun _ => rfl)]; omega) rfl (get_flat (f := lfCells) (fun _ => rfl) (by omega)) rfl ?_
  refine wo_call (cap := lb) (Rs := [Row 63 2 (.slice a l.length c) l.length (l.flatMap lfCells)]) (hg (l[j]'(by omega))) rfl rfl rfl (.cons (.there .here) .nil) (fun _ _ => ?_)
  refine Wq (Zi (t:=fun h16 => ?_) (f:=fun h16 => ?_))
  ·
   refine Qc (k:=Qv (k:=Wq (Zt (k:=Vb (Va (Vi (Vb (Va ?_))))))))
   refine fin_ret (j : Int) (vs := [_]) (Cs := []) rfl (.tmp rfl .nil) rfl ⟨fun _ => ?_, fun _ => by omega⟩ (ent_cons (ent_cons ent_nil))
   exact List.any_eq_true.2 ⟨l[j]'(by omega), List.getElem_mem _, h16⟩
  ·
   refine Zk (k:=Yb (Ya (Zr (k:=Qv (k:=Wn ?_)))))
   have hjl : j < l.length := by omega
   refine to_inv ⟨j + 1, by omega, ?_⟩ (by dsimp only; omega) ⟨rfl, rfl, rfl, rfl, trivial⟩ (ent_cons (ent_cons ent_nil))
   rw [List.take_succ_eq_append_getElem hjl, List.any_append, ho]
   simpa using h16
 ·
  refine Ze (k:=Xa (Xi (Xb (Ya (Qc (k:=Vv (k:=Wq (Zt (k:=?_)))))))))
  have hjl : j = l.length := by omega
  subst hjl
  rw [List.take_length] at ho
  exact fin_ret (-1) (vs := [_]) (Cs := []) rfl (.tmp rfl .nil) rfl ⟨fun h => by omega, fun h => by rw [ho] at h; cases h⟩ (ent_cons (ent_cons ent_nil))
/-- Is a name a leaf? -/
noncomputable def isLf (H : Ks) (name : Bs) : Bool := (lvL H).any fun x => decide (x.name = name)
theorem ContainsFuncLf_sp (b : Nat) (name : Bs) (a : Option Addr) (c : Nat) (l : List Lf) (hl : l.length ≤ 1000000) :
    Sp1 Tryz.prog 81 [.slice a l.length c, .func (.func 82) #[] #[.pointer (some ⟨b, 0, none⟩)]] [Row 63 2 (.slice a l.length c) l.length (l.flatMap lfCells), Ce b 9 [vS name]] (vB (l.any fun x => decide (x.name = name))) [Row 63 2 (.slice a l.length c) l.length (l.flatMap lfCells), Ce b 9 [vS name]] := by
 have hI := IndexFuncLf_sp (lb := [.pointer (some ⟨b, 0, none⟩)]) (IsLeaf_f_sp b name) a c l hl
 generalize l.any (fun x => decide (x.name = name)) = ans at *
 refine Sp.body (n := 9) Tryz.call81 Tryz.func81 rfl rfl rfl ?_
 refine Qc (k:=Vv (k:=Wq (Qc (k:=Qv (k:=?_)))))
 refine r_callX hI rfl rfl rfl (fun i hi => ?_)
 refine Qv (k:=Wq (Zt (k:=?_)))
 refine fin_ret () (vs := [_]) (Cs := []) rfl (.tmp rfl .nil) ?_ trivial ent_pick
 rw [show decide (i ≥ 0) = ans from by rw [Bool.eq_iff_iff, decide_eq_true_iff]; exact hi]
 rfl
theorem heads_IsLeaf_sp (b : Nat) (H : Ks) (hH : TxtK H) (hnd : (H.map (·.1)).Nodup) (hn : H.length ≤ 1000000) (name : Bs) :
    Sp1 Tryz.prog 34 [.map (some b), vS name] [MapS b H] (vB (isLf H name)) [MapS b H] := by
 refine Sp.body (n := 9) Tryz.call34 Tryz.func34 rfl rfl rfl ?_
 refine Qc (k:=Zx [_] (k:=fun b3 => Vv (k:=Wq (Qc (k:=Vv (k:=?_))))))
 refine r_callX (heads_Leaves_sp b H hH hnd hn) rfl rfl rfl (fun x hx => ?_)
 obtain ⟨⟨a, c⟩, q⟩ := x
 dsimp only at hx ⊢
 have hql : q.length ≤ 1000000 := by
  rw [hx.1.length_eq]
  exact Nat.le_trans (lvF_len _ _ _) (Nat.le_trans (cksL_len' H) hn)
 refine Vv (k:=?_)
 refine r_call1 (ContainsFuncLf_sp b3 name a c q hql) rfl rfl rfl ?_
 refine Vv (k:=Wq (Zt (k:=?_)))
 rw [show isLf H name = q.any (fun x => decide (x.name = name)) from (hx.1.any_eq).symm]
 exact fin_ret () (vs := [_]) (Cs := []) rfl (.tmp rfl .nil) rfl trivial ent_pick
end
/-- A way along first parents on which nothing is said. -/
theorem wayF_no {C : List (Bs × Ck)} {l : Ls} {tag name : Bs} (P : Bs → Prop) (h1 : ∀ n, P n → llook l (tag, n) = none) (h2 : ∀ n c, P n → clook C n = some c → P (firstB c)) : ∀ (k : Nat) (n : Bs), P n → wayF C l tag name k n = none := by
 intro k
 induction k with
 | zero => intro n _; rfl
 | succ k ih =>
   intro n hn
   rw [wayF]
   cases e : clook C n with
   | none => rfl
   | some c =>
     dsimp only
     rw [h1 n hn]
     exact ih _ (h2 n c hn e)
theorem wayF_step {C : List (Bs × Ck)} {l : Ls} {tag name n : Bs} {k : Nat} {c : Ck} (h1 : clook C n = some c) (h2 : llook l (tag, n) = none) : wayF C l tag name (k + 1) n = wayF C l tag name k (firstB c) := by
 rw [wayF, h1]
 dsimp only
 rw [h2]
theorem wayF_hit {C : List (Bs × Ck)} {l : Ls} {tag name n : Bs} {k : Nat} {c : Ck} {s : Sd} (h1 : clook C n = some c) (h2 : llook l (tag, n) = some s) (h3 : s.op.kind = 42) : wayF C l tag name (k + 1) n = some ⟨tag, name, s.op.value, s.src, true, decide (n = name)⟩ := by
 rw [wayF, h1]
 dsimp only
 rw [h2]
 dsimp only
 rw [if_neg (by rw [h3]; rintro (e | ⟨e, _⟩) <;> revert e <;> decide)]
 simp [h3]
theorem brF_none {C : List (Bs × Ck)} {l : Ls} {n : Bs} (h : ofT C l brB n = none) : brF C l n = trB := by rw [brF, h]; simp [tgd0]
theorem brF_some {C : List (Bs × Ck)} {l : Ls} {n : Bs} {t : Tgd} (h : ofT C l brB n = some t) (hv : t.value ≠ []) : brF C l n = t.value := by rw [brF, h]; simp [hv]
theorem brH_no {K : Ks} (P : Bs → Prop) (h1 : ∀ n, P n → llook (lastL K) (brB, n) = none) (h2 : ∀ n c, P n → clook (cksL K) n = some c → P (firstB c)) {n : Bs} (hn : P n) : brH K n = trB := brF_none (wayF_no P h1 h2 _ _ hn)
theorem mem_lvL {K : Ks} {y : Lf} : y ∈ lvL K ↔ ∃ x ∈ cksL K, (∀ z ∈ cksL K, ¬ inC (brH K) x.1 z) ∧ y = ⟨brH K x.1, x.1⟩ := by
 unfold lvL lvF
 rw [List.mem_flatMap]
 constructor
 · rintro ⟨x, hx, hy⟩
   unfold lvOf inB at hy
   split at hy
   · cases hy
   · rename_i h
     rw [List.mem_singleton] at hy
     refine ⟨x, hx, fun z hz hc => h (decide_eq_true ⟨z, hz, hc⟩), hy⟩
 · rintro ⟨x, hx, h, rfl⟩
   refine ⟨x, hx, ?_⟩
   rw [lvOf, if_neg (by rw [inB, decide_eq_true_iff]; rintro ⟨z, hz, hc⟩; exact h z hz hc)]
   exact List.mem_singleton.2 rfl
theorem lvL_nodup {K : Ks} (hc : ((cksL K).map (·.1)).Nodup) : ((lvL K).map lfKey).Nodup := by
 unfold lvL
 generalize cksL K = C at hc ⊢
 have key : ∀ (D l : List (Bs × Ck)), (l.map (·.1)).Nodup → ((lvF (brH K) D l).map lfKey).Nodup := by
  intro D l
  induction l with
  | nil => intro _; simp [lvF]
  | cons a l ih =>
    intro h
    simp only [List.map_cons, List.nodup_cons] at h
    have h2 := ih h.2
    unfold lvF at *
    rw [List.flatMap_cons, List.map_append]
    unfold lvOf
    split
    · exact h2
    · simp only [List.map_cons, List.map_nil, List.cons_append, List.nil_append, List.nodup_cons]
      refine ⟨fun hm => ?_, h2⟩
      obtain ⟨y, hy, e⟩ := List.mem_map.1 hm
      obtain ⟨x, hx, hy⟩ := List.mem_flatMap.1 hy
      split at hy
      · cases hy
      · rw [List.mem_singleton] at hy
        subst hy
        have : x.1 = a.1 := congrArg Prod.snd e
        exact h.1 (by rw [← this]; exact List.mem_map_of_mem (f := fun p : Bs × Ck => p.1) hx)
 exact key C C hc
/-- The leaves, sorted. -/
theorem leaves_eq {K : Ks} (hc : ((cksL K).map (·.1)).Nodup) {E q : List Lf} (hE : E.Pairwise fun x y => lt2 (lfKey x) (lfKey y)) (hm : ∀ y, y ∈ E ↔ y ∈ lvL K) (hq : q.Perm (lvL K) ∧ q.Pairwise fun x y => ltOf (fun x y => cmp2 (lfKey x) (lfKey y)) y x = false) : q = E := by
 have hn := lvL_nodup hc
 have hEn : E.Nodup := hE.imp fun {x y} h e => by subst e; exact lt2_irr _ h
 have hp : E.Perm (lvL K) := (List.perm_ext_iff_of_nodup hEn (List.Pairwise.of_map lfKey (fun a b h e => h (by rw [e])) hn)).2 hm
 have hp2 : q.Perm E := hq.1.trans hp.symm
 exact sorted2_eq hp2 ((hp.map lfKey).nodup_iff.2 hn) hq.2 hE
theorem isLf_iff {K : Ks} {n : Bs} : isLf K n = true ↔ ∃ x ∈ cksL K, x.1 = n ∧ ∀ z ∈ cksL K, ¬ inC (brH K) n z := by
 unfold isLf
 rw [List.any_eq_true]
 constructor
 · rintro ⟨y, hy, e⟩
   obtain ⟨x, hx, h, rfl⟩ := mem_lvL.1 hy
   have e := of_decide_eq_true e
   dsimp only at e
   exact ⟨x, hx, e, by rw [← e]; exact h⟩
 · rintro ⟨x, hx, rfl, h⟩
   exact ⟨_, mem_lvL.2 ⟨x, hx, h, rfl⟩, decide_eq_true rfl⟩
/-! The runs. -/
def hA : Ck := ckMe [] [] me 0
def hX : Bs := shaB (ckB hA)
def hT : List Tg := [⟨42, brB, [42], [98]⟩]
def hB : Ck := ckMe [hX] hT me 0
def hC : Ck := ckMe [hX] [] me 0
def hL : List (Bs × Bs) := [(hX, ckB hA), ([98], ckB hB), ([99], ckB hC)]
theorem hA_right : RightK hA := right_me (by simp) List.nodup_nil (by decide) right_t0 me_word (by decide)
theorem hX_n : isN hX = true := isN_sha _
theorem hX_len : hX.length = 40 := isN_len hX_n
theorem hB_right : RightK hB := right_me (by simpa using hX_n) (by simp) (by simp) (by decide) me_word (by decide)
theorem hC_right : RightK hC := right_me (by simpa using hX_n) (by simp) (by simp) right_t0 me_word (by decide)
def hK : Ks := mput (mput (mput [] hX (vS (ckB hA))) [98] (vS (ckB hB))) [99] (vS (ckB hC))
theorem hX_b : hX ≠ [98] := fun e => by have := hX_len; rw [e] at this; simp at this
theorem hX_c : hX ≠ [99] := fun e => by have := hX_len; rw [e] at this; simp at this
theorem hX_nil : hX ≠ [] := fun e => by have := hX_len; rw [e] at this; simp at this
theorem HeldP.nil : HeldP [] [] := ⟨List.Perm.nil, List.nodup_nil, fun p h => by cases h⟩
theorem h_held : HeldP hK hL := by
 have h1 := HeldP.nil.put (n := hX) (s := ckB hA) (by simp) (Nat.le_trans (ckB_len hA_right) (by decide))
 have h2 := h1.put (n := [98]) (s := ckB hB) (by simp [Ne.symm hX_b]) (Nat.le_trans (ckB_len hB_right) (by decide))
 exact h2.put (n := [99]) (s := ckB hC) (by simp [Ne.symm hX_c]) (Nat.le_trans (ckB_len hC_right) (by decide))
theorem h_sd (s : Sd) : s ∈ sdL hK ↔ s = ⟨⟨42, brB, [98], [98]⟩, 0, [98]⟩ := by
 rw [h_held.sd]
 have e1 := opsB_ck hA_right hX
 have e2 := opsB_ck hB_right [98]
 have e3 := opsB_ck hC_right [99]
 simp only [hL, List.mem_cons, List.not_mem_nil, or_false, exists_eq_or_imp, exists_eq_left]
 rw [e1, e2, e3]
 simp [hA, hB, hC, ckMe, hT]
theorem h_ck : clook (cksL hK) hX = some hA ∧ clook (cksL hK) [98] = some hB ∧ clook (cksL hK) [99] = some hC :=
 ⟨h_held.ck (s := ckB hA) (by simp [hL]) (right_read hA_right), h_held.ck (s := ckB hB) (by simp [hL]) (right_read hB_right), h_held.ck (s := ckB hC) (by simp [hL]) (right_read hC_right)⟩
theorem h_cks (x : Bs × Ck) : x ∈ cksL hK ↔ x = (hX, hA) ∨ x = ([98], hB) ∨ x = ([99], hC) := by
 rw [h_held.cks]
 simp only [hL, List.mem_cons, List.not_mem_nil, or_false, exists_eq_or_imp, exists_eq_left, right_read hA_right, right_read hB_right, right_read hC_right, Option.some.injEq]
 constructor
 · rintro (⟨h1, h2⟩ | ⟨h1, h2⟩ | ⟨h1, h2⟩)
   · exact .inl (Prod.ext h1.symm h2.symm)
   · exact .inr (.inl (Prod.ext h1.symm h2.symm))
   · exact .inr (.inr (Prod.ext h1.symm h2.symm))
 · rintro (rfl | rfl | rfl)
   · exact .inl ⟨rfl, rfl⟩
   · exact .inr (.inl ⟨rfl, rfl⟩)
   · exact .inr (.inr ⟨rfl, rfl⟩)
theorem h_nil : clook (cksL hK) [] = none := h_held.nock fun p hp e => by
 simp only [hL, List.mem_cons, List.not_mem_nil, or_false] at hp
 rcases hp with rfl | rfl | rfl
 · exact absurd e hX_nil
 · cases e
 · cases e
theorem h_look (n : Bs) (hn : n ≠ [98]) : llook (lastL hK) (brB, n) = none := lastF_none fun s hs e => by
 rw [(h_sd s).1 hs] at e
 exact hn (congrArg Prod.snd e).symm
theorem h_lookb : llook (lastL hK) (brB, [98]) = some ⟨⟨42, brB, [98], [98]⟩, 0, [98]⟩ := lastF_one ((h_sd _).2 rfl) rfl fun o ho _ => (h_sd o).1 ho
theorem h_bx : brH hK hX = trB ∧ brH hK [99] = trB := by
 have key : ∀ n, (n = hX ∨ n = [99] ∨ n = []) → brH hK n = trB := fun n hn => brH_no (fun n => n = hX ∨ n = [99] ∨ n = []) (fun n hn => h_look n (by rcases hn with rfl | rfl | rfl; exact hX_b; decide; decide)) (fun n c hn hc => by
  rcases hn with rfl | rfl | rfl
  · rw [h_ck.1] at hc; cases hc; exact .inr (.inr rfl)
  · rw [h_ck.2.2] at hc; cases hc; exact .inl rfl
  · rw [h_nil] at hc; cases hc) hn
 exact ⟨key _ (.inl rfl), key _ (.inr (.inl rfl))⟩
theorem h_len : 0 < (cksL hK).length := List.length_pos_of_mem ((h_cks (hX, hA)).2 (.inl rfl))
theorem h_bb : brH hK [98] = [98] := by
 have := wayF_hit (tag := brB) (name := [98]) (k := (cksL hK).length - 1) h_ck.2.1 h_lookb rfl
 rw [← ofT_at (k := 0) h_len] at this
 exact brF_some this (by simp)
/-- Only the first one has a child on its branch. -/
theorem h_in {n : Bs} {z : Bs × Ck} (hz : z ∈ cksL hK) (hn : n ≠ []) : inC (brH hK) n z ↔ n = hX ∧ z.1 = [99] := by
 unfold inC
 rcases (h_cks z).1 hz with rfl | rfl | rfl
 · rw [show firstB ((hX, hA) : Bs × Ck).2 = [] from rfl]
   exact ⟨fun h => absurd h.1.symm hn, fun h => absurd h.2 hX_c⟩
 · rw [show firstB (([98], hB) : Bs × Ck).2 = hX from rfl, h_bx.1, h_bb]
   exact ⟨fun h => absurd h.2.2 (by decide), fun h => by cases h.2⟩
 · rw [show firstB (([99], hC) : Bs × Ck).2 = hX from rfl, h_bx.1, h_bx.2]
   exact ⟨fun h => ⟨h.1.symm, rfl⟩, fun h => ⟨h.1.symm, hX_c, rfl⟩⟩
theorem h_lvL (y : Lf) : y ∈ lvL hK ↔ y = ⟨[98], [98]⟩ ∨ y = ⟨trB, [99]⟩ := by
 rw [mem_lvL]
 constructor
 · rintro ⟨x, hx, h, rfl⟩
   rcases (h_cks x).1 hx with rfl | rfl | rfl
   · exact absurd ((h_in ((h_cks ([99], hC)).2 (.inr (.inr rfl))) hX_nil).2 ⟨rfl, rfl⟩) (h _ ((h_cks _).2 (.inr (.inr rfl))))
   · left; rw [h_bb]
   · right; rw [h_bx.2]
 · rintro (rfl | rfl)
   · refine ⟨([98], hB), (h_cks _).2 (.inr (.inl rfl)), fun z hz hc => ?_, by rw [h_bb]⟩
     exact hX_b ((h_in hz (by simp)).1 hc).1.symm
   · refine ⟨([99], hC), (h_cks _).2 (.inr (.inr rfl)), fun z hz hc => ?_, by rw [h_bx.2]⟩
     exact hX_c ((h_in hz (by simp)).1 hc).1.symm
theorem h_leaves {q : List Lf} (hq : q.Perm (lvL hK) ∧ q.Pairwise fun x y => ltOf (fun x y => cmp2 (lfKey x) (lfKey y)) y x = false) : q = [⟨[98], [98]⟩, ⟨trB, [99]⟩] := by
 refine leaves_eq h_held.cnd ?_ (fun y => ?_) hq
 · refine List.Pairwise.cons (fun y hy => ?_) (List.pairwise_singleton _ _)
   rw [List.mem_singleton.1 hy]
   exact .inl (by decide)
 · rw [h_lvL]; simp
theorem h_isLf : isLf hK hX = false := by
 cases e : isLf hK hX with
 | false => rfl
 | true =>
   obtain ⟨x, _, _, h⟩ := isLf_iff.1 e
   exact absurd ((h_in ((h_cks ([99], hC)).2 (.inr (.inr rfl))) hX_nil).2 ⟨rfl, rfl⟩) (h _ ((h_cks _).2 (.inr (.inr rfl))))
end Go.Proofs.YtdnoacgopfcpbaaGreat
