/- Texts of this proof, put together: SMaps, SFrom, PMap, SRSha, RowZ, RowZ2. -/
import Derived.Sort.Row
import Derived.Laws.IdiomStrings
import Derived.Test.YtdnoacgopfcpbaaGreatQ14
set_option linter.unusedVariables false
set_option linter.unusedSimpArgs false
namespace Go.Proofs.YtdnoacgopfcpbaaGreat
section
set_option maxRecDepth 100000
section
variable {r : Option Nat} {P : Program} {n : Nat} {ops : Array Oper} {A : List HP} {L : Loc} {Hs : List HP} {ty : TypeId} {d : Nat} {pos : String} {after : Array Edge}
end
theorem maps_Keys_sp (m : Option Nat) : Sp Tryz.prog 66 [.map m] [] (X := Nat) (fun b => .func (.func 121) #[] #[.pointer (some ⟨b, 0, none⟩)]) (fun _ => True) (fun b => [Ce b 31 [.map m]]) := by
 refine Sp.body (n := 4) Tryz.call66 Tryz.func66 rfl rfl rfl ?_
 refine Qc (k:=Zx [_] (k:=fun b1 => Vv (k:=Wq (Qc (k:=Qv (k:=Wq (Zt (k:=?_))))))))
 refine fin_ret b1 (vs := [_]) (Cs := []) rfl (.tmp rfl .nil) rfl trivial ?_
 exact ent_pick
abbrev okK (ks : Ks) : List Bs → Bs → Prop := fun pre k => k ∈ ks.map (·.1) ∧ k ∉ pre ∧ pre.length < ks.length
theorem maps_Keys_it (c b : Nat) (ks : Ks) : IterU Tryz.prog 121 [.pointer (some ⟨c, 0, none⟩)] (fun k : Bs => [vS k]) (okK ks) (fun _ => True)
    [Ce c 31 [.map (some b)], MapS b ks] [Ce c 31 [.map (some b)], MapS b ks] (fun l => l.Perm (ks.map (·.1))) (fun _ => .tuple #[]) := by
 intro y J Jx ys
 refine Sp.body (n := 14) Tryz.call121 Tryz.func121 rfl rfl rfl ?_
 refine Qc (k:=Zd (k:=?_))
 refine r_range Tryz.underlying31 rfl rfl (fun b5 => ?_)
 refine Wq (Zb (k:=?_))
 refine p_loop (fun (i : List Bs) => [(0, y), (5, .pointer (some ⟨b5, 0, none⟩))]) (fun (i : List Bs) => [J i, Ce c 31 [.map (some b)], MapIt b b5 ks i]) (fun (i : List Bs) => ks.length - i.length) rfl ([]) ?_ ?_ (fun i => ?_)
 · exact ⟨rfl, rfl, trivial⟩
 ·
  exact ent_pick
 refine wc_know (A := MapIt b b5 ks i) (.there (.there .here)) mapit_len (fun hlen => ?_)
 try dsimp only
 refine Qc (k:=?_)
 refine r_next rfl rfl (fun o6 ho6 => ?_)
 refine wo_pv (pv_nx0 rfl) rfl ?_
 refine Wq (Za (k:=Zi (t:=fun h7 => ?_) (f:=fun h7 => ?_)))
 ·
  obtain ⟨⟨k, v⟩, rfl⟩ := Option.isSome_iff_exists.1 h7
  obtain ⟨hm, hk⟩ := ho6
  have hk1 : k ∈ ks.map (·.1) := List.mem_map_of_mem (f := fun p : Bs × Value => p.1) hm
  have hl2 : i.length < ks.length := by
   have := nodup_len (l := i ++ [k]) (m := ks.map (·.1)) (by rw [List.nodup_append]; exact ⟨hlen.2.1, by simp, fun a ha c hc e => by simp only [List.mem_singleton] at hc; subst hc; subst e; exact hk ha⟩) (fun x hx => by rcases List.mem_append.1 hx with h | h; exact hlen.2.2 x h; simp only [List.mem_singleton] at h; subst h; exact hk1)
   rw [List.length_append, List.length_singleton, List.length_map] at this
   omega
  dsimp only [nxD]
  refine Zk (k:=Ya (Zb (k:=Qc (k:=?_))))
  refine r_entry (b := b) (ks := ks) (done := i) (k := k) (v := v) hm rfl rfl ?_
  refine Qv (k:=Wq (Qc (k:=Qv (k:=?_))))
  refine r_yield ys i k ⟨hk1, hk, hl2⟩ rfl rfl rfl ?_ ?_
  ·
   refine Vv (k:=Wq (Z0 (k:=Zk (k:=Yb ?_))))
   refine to_inv (i ++ [k]) ?_ ⟨rfl, rfl, trivial⟩ ?_
   · rw [List.length_append, List.length_singleton]; omega
   · exact ent_pick
  ·
   refine Vv (k:=Wq (Z1 (k:=Zt (k:=Vb (Vi (Vb ?_))))))
   refine fin_ret (some (i ++ [k]), []) (vs := []) (Cs := []) rfl .nil rfl ⟨fun pre e => trivial, fun e => by cases e⟩ ?_
   simp only [endsAt]
   refine ent_cons (ent_cons ?_)
   refine (mapit_done (i := b5)).trans ?_
   exact ent_pick
 ·
  have hnone : o6 = none := by cases o6 with
   | none => rfl
   | some p => simp at h7
  subst hnone
  dsimp only [nxD]
  refine Ze (k:=Xa (Xi (Xb ?_)))
  refine tw_know (A := MapIt b b5 ks i) .here (fun x => mapit_perm x ho6) (fun hperm => ?_)
  refine fin_end (none, i) (vs := []) (Cs := []) rfl .nil rfl ⟨(fun pre e => by cases e), fun _ => hperm⟩ ?_
  simp only [endsAt]
  refine ent_cons (ent_cons ?_)
  refine (mapit_done (i := b5)).trans ?_
  exact ent_pick
/-- slices.AppendSeq, to nothing, of what is walked to its end. -/
theorem slices_AppendSeq_sp {g : Nat} {lb : List Value} {ok : List Bs → Bs → Prop} {stopped : List Bs → Prop} {As Bs' : List HP} {fin : List Bs → Prop} {val : Option (List Bs) → Value}
    (it : IterU Tryz.prog g lb (fun k : Bs => [vS k]) ok stopped As Bs' fin val) (N : Nat) (hN : N ≤ 4398046511104) (hlim : ∀ pre x, ok pre x → pre.length < N) [hp : PicksC As As []] :
    Sp Tryz.prog 167 [.slice none 0 0, .func (.func g) #[] lb.toArray] As (X := (Option Addr × Nat) × List Bs) (fun x => .slice x.1.1 x.2.length x.1.2) (fun x => fin x.2) (fun x => Row 9 1 (.slice x.1.1 x.2.length x.1.2) x.2.length (x.2.map vS) :: Bs') := by
 refine Sp.body (n := 13) Tryz.call167 Tryz.func167 rfl rfl rfl ?_
 refine Qc (k:=Zx [_] (k:=fun b2 => Vv (k:=Wq (Za (k:=Qc (k:=Vv (k:=Wq (Zb (k:=?_)))))))))
 refine p_rangeFuncU (fun pre => [Ex fun s : Option Addr × Nat => Al [Ce b2 27 [.slice s.1 pre.length s.2], Row 9 1 (.slice s.1 pre.length s.2) pre.length (pre.map vS)]]) (fun j pre => [Pu False]) rfl it rfl (fun _ => by rfl) rfl ?_ (fun l pre k hok => ?_) (fun all hfin => ?_) (fun j pre hs => ?_)
 · (refine ent_app ?_; refine ent_ex (none, 0) (ent_al ?_); exact ent_cons (ent_step row_nil ent_pick))
 ·
  have hpl := hlim pre k hok
  refine wc_exi fun s => wc_al ?_
  refine Zr (k:=Vv (k:=Wg (Zb (k:=Zr (k:=Zd (k:=Vv (k:=Zv [_] (cs := [_]) (k:=fun b10 => ?_))))))))
  refine r_append1 (sz := 1) (bytes := 16) Tryz.underlying27 ti9 rfl rfl rfl rfl rfl rfl rfl (by rfl) (by rfl) (by omega) (by simp only [maxLen]; omega) rfl (fun a11 c11 => ?_)
  refine Zo (k:=Wn (Yb ?_))
  refine to_round ?_
  refine ent_ex (a11, c11) (ent_al ?_)
  simp only [List.length_append, List.length_singleton, List.map_append, List.map_cons, List.map_nil]
  exact ent_pick
 ·
  simp only [List.singleton_append]
  refine Yb (Ya (Za (k:=?_)))
  refine wc_exi fun s => wc_al ?_
  refine Zr (k:=Zd (k:=Vv (k:=Wq (Zt (k:=?_)))))
  refine fin_ret ((s.1, s.2), all) (vs := [_]) (Cs := []) rfl (.tmp rfl .nil) rfl hfin ?_
  rw [List.append_nil]
  exact ent_cons ent_tail
 ·
  exact wc_no (fun s => by obtain ⟨_, _, _, _, a, _⟩ := s; exact a)
theorem slices_Collect_sp {g : Nat} {lb : List Value} {ok : List Bs → Bs → Prop} {stopped : List Bs → Prop} {As Bs' : List HP} {fin : List Bs → Prop} {val : Option (List Bs) → Value}
    (it : IterU Tryz.prog g lb (fun k : Bs => [vS k]) ok stopped As Bs' fin val) (N : Nat) (hN : N ≤ 4398046511104) (hlim : ∀ pre x, ok pre x → pre.length < N) [hp : PicksC As As []] :
    Sp Tryz.prog 120 [.func (.func g) #[] lb.toArray] As (X := (Option Addr × Nat) × List Bs) (fun x => .slice x.1.1 x.2.length x.1.2) (fun x => fin x.2) (fun x => Row 9 1 (.slice x.1.1 x.2.length x.1.2) x.2.length (x.2.map vS) :: Bs') := by
 refine Sp.body (n := 5) Tryz.call120 Tryz.func120 rfl rfl rfl ?_
 refine Qc (k:=Vv (k:=Wq (Qc (k:=Vv (k:=?_)))))
 refine r_callX (slices_AppendSeq_sp it N hN hlim) rfl rfl rfl (fun x hx => ?_)
 refine Vv (k:=Wq (Zt (k:=?_)))
 refine fin_ret x (vs := [_]) (Cs := []) rfl (.tmp rfl .nil) rfl hx ?_
 simp only [List.append_nil]
 exact Ent.refl _
/-! Sorting texts. -/
theorem bits_Len_zero : SpF Tryz.prog 101 [.int .u64 0] (vI 0) := SpF.of_same Tryz.call101 fun w => (Tryz.bits_Len 0 w (by omega) (by omega)).mono fun e w' ⟨h1, h2⟩ => ⟨by rw [h1]; rfl, h2⟩
theorem insertionSort_nil : SpF Tryz.prog 181 [.slice none 0 0, vI 0, vI 0] (.tuple #[]) := by
 refine Sp.body (n := 49) Tryz.call181 Tryz.func181 rfl rfl rfl ?_
 refine Qc (k:=Qv (k:=Vv (k:=Wq (Zb (k:=?_)))))
 refine p_loop (fun (i : Unit) => [(0, .slice none 0 0), (1, vI 0), (2, vI 0), (6, vI 1)]) (fun (i : Unit) => []) (fun (i : Unit) => 0) rfl (()) ?_ ?_ (fun i => ?_)
 · exact ⟨rfl, rfl, rfl, rfl, trivial⟩
 ·
  exact Ent.refl _
 try dsimp only
 refine Za (k:=Qc (k:=Qv (k:=Vv (k:=Wq (Zi (t:=fun h12 => ?_) (f:=fun h12 => ?_))))))
 ·
  simp at h12
  --done
 ·
  refine Ze (k:=Xa (Xi (Xb ?_)))
  exact fin_end () (vs := []) (Cs := []) rfl .nil rfl trivial ent_nil
theorem pdqsort_nil : SpF Tryz.prog 132 [.slice none 0 0, vI 0, vI 0, vI 0] (.tuple #[]) := by
 refine Sp.body (n := 134) Tryz.call132 Tryz.func132 rfl rfl rfl ?_
 refine Qc (k:=Vv (k:=Wq (Qc (k:=Vv (k:=Wq (Zb (k:=?_)))))))
 refine p_loop (fun (i : Unit) => [(0, .slice none 0 0), (1, vI 0), (2, vI 0), (3, vI 0)]) (fun (i : Unit) => []) (fun (i : Unit) => 0) rfl (()) ?_ ?_ (fun i => ?_)
 · exact ⟨rfl, rfl, rfl, rfl, trivial⟩
 ·
  exact Ent.refl _
 try dsimp only
 refine Zb (k:=Qc (k:=Qv (k:=Qv (k:=Wq (Za (k:=Qc (k:=Vv (k:=?_))))))))
 refine Vv (k:=Wq (Zi (t:=fun h23 => ?_) (f:=fun h23 => ?_)))
 ·
  refine Qc (k:=Qv (k:=Vv (k:=?_)))
  refine r_callF insertionSort_nil rfl rfl rfl ?_
  refine Wq (Zt (k:=Va (Vb (Vi (Vb ?_)))))
  exact fin_ret () (vs := []) (Cs := []) rfl .nil rfl trivial ent_nil
 ·
  simp at h23
  --done
theorem slices_Sort_nil : SpF Tryz.prog 85 [.slice none 0 0] (.tuple #[]) := by
 refine Sp.body (n := 11) Tryz.call85 Tryz.func85 rfl rfl rfl ?_
 refine Qc (k:=Qv (k:=Vv (k:=Wq (Zr (k:=Qv (k:=Vv (k:=?_)))))))
 refine wo_pv (pv_conv_in (i := 0) rfl Tryz.underlying3 Tryz.underlying97 (by decide)) rfl ?_
 refine r_callF bits_Len_zero rfl rfl rfl ?_
 refine r_callF pdqsort_nil rfl rfl rfl ?_
 refine Wn ?_
 exact fin_end () (vs := []) (Cs := []) rfl .nil rfl trivial ent_nil
theorem sat_grow {w : World} {M : Kn} {h : Res} (t : Sat w M h) (os : Array Obj) : Sat (Go.Sort.grow w os) M h := by
 have old : ∀ i o, w.heap[i]? = some o → (Go.Sort.grow w os).heap[i]? = some o := fun i o e => by
  rw [Go.Sort.heap_grow_old w os (Array.getElem?_eq_some_iff.1 e).1]; exact e
 exact ⟨fun i o e => old i o (t.im i o e), fun i o e => old i o (t.ow i o e), t.dj, t.env.trans ⟨rfl, rfl, rfl, by simp, up_rfl⟩⟩
def sortB (l : List Bs) : List Bs := l.mergeSort fun x y => decide (x ≤ y)
theorem sortB_len (l : List Bs) : (sortB l).length = l.length := by simp [sortB]
theorem slices_Sort_sp (a : Option Addr) (n c : Nat) (l : List Bs) (hn : l.length = n) (hb : n < 4611686018427387904) :
    Sp1 Tryz.prog 85 [.slice a n c] [Row 9 1 (.slice a n c) n (l.map vS)] (.tuple #[]) [Row 9 1 (.slice a n c) n ((sortB l).map vS)] := by
 subst hn
 refine ⟨Tryz.call85, fun w M h hf d t s => ?_⟩
 obtain ⟨h1, h2, d12, e, hr, _⟩ := s
 subst e
 rcases hr with ⟨hv, hl, hx⟩ | ⟨g, cap, cur, hv, hnc, hcm, hcl, hxl, htk, hh⟩
 · have hl0 : l = [] := List.eq_nil_of_length_eq_zero hl
   subst hl0
   cases hv
   refine (slices_Sort_nil.calls w M (h1.add h2) hf d t trivial).mono ?_
   rintro ee w' ⟨x, M', h', rfl, _, le, dj, t', _⟩
   exact ⟨(), M', h', rfl, trivial, le, dj, t', Res.emp, h', Res.emp_dj _, rfl, .inl ⟨rfl, rfl, by simp [sortB]⟩, trivial⟩
 · cases hv
   subst hh
   rw [Nat.mul_one] at hcl htk
   obtain ⟨d1, d2⟩ := Res.dj_add_left.1 d
   have hg : w.heap[g]? = some (.cells cur.toArray 9 (0, 0)) := t.ow _ _ (by simp [Res.add, Res.one])
   have hlt : g < w.heap.size := (Array.getElem?_eq_some_iff.1 hg).1
   have hH : Go.Sort.Holds encStr w g 0 l.toArray := by
    intro j hj
    have hj' : j < l.length := by simpa using hj
    have hc : cur[j]? = some (vS l[j]) := by
     have := congrArg (fun q => q[j]?) htk
     simp only [List.getElem?_take, hj', if_true, List.getElem?_map, List.getElem?_eq_getElem hj', Option.map_some] at this
     exact this
    refine ⟨?_, ?_⟩
    · simp only [World.cell?, Nat.zero_add, hg]
      simp [hc, hj', encStr]
    · simp [World.frozen?, hg]
   have hcall := Tryz.slices_Sort_string g 0 c l w hH hlt hb
   refine CallsIn.mono (callsIn_wide.2 hcall) ?_
   rintro ee w' ⟨rfl, k, os, rfl⟩
   have hs : (l.mergeSort fun x y => decide (x ≤ y)) = sortB l := rfl
   rw [hs]
   have hsl := sortB_len l
   generalize hq : sortB l = q at hsl ⊢
   have hput : (Go.Sort.putRow encStr (Go.Sort.ahead w k) g 0 q.toArray).heap[g]? = some (.cells (q.map vS ++ cur.drop q.length).toArray 9 (0, 0)) := by
    have h0 : (Go.Sort.ahead w k).heap[g]? = some (.cells cur.toArray 9 (0, 0)) := hg
    simp only [Go.Sort.putRow, Go.Sort.mapBlock, Array.getElem?_modify, if_true, h0, Option.map_some, Go.Sort.onCells]
    congr 2
    apply Array.ext'
    simp only [Go.Sort.putCells, Array.toList_mapIdx]
    apply List.ext_getElem?
    intro j
    simp only [List.getElem?_mapIdx, Nat.zero_le, true_and, Nat.zero_add, List.size_toArray, Nat.sub_zero]
    by_cases hj : j < q.length
    · have hjc : j < cur.length := by have := congrArg List.length htk; simp at this; omega
      rw [List.getElem?_append_left (by simpa using hj)]
      simp [hj, hjc, encStr]
    · rw [List.getElem?_append_right (by simpa using Nat.le_of_not_lt hj)]
      simp only [List.length_map, List.getElem?_drop]
      have e : q.length + (j - q.length) = j := by omega
      rw [e]
      cases hc : cur[j]? with
      | none => simp [hc]
      | some v => simp [hc, hj]
   have hoth : ∀ i, i ≠ g → (Go.Sort.putRow encStr (Go.Sort.ahead w k) g 0 q.toArray).heap[i]? = w.heap[i]? := by
    intro i hi
    simp only [Go.Sort.putRow, Go.Sort.mapBlock, Array.getElem?_modify, Ne.symm hi, if_false]
    rfl
   have t1 : Sat w M ((Res.one g (.cells cur.toArray 9 (0, 0))).add (h2.add hf)) := by rw [← Res.add_assoc]; exact t
   have t2 := Sat.setBlk (Res.dj_add_right.2 ⟨d12, d1⟩) t1 hput hoth ⟨rfl, rfl, rfl, by simp, up_add k up_rfl⟩
   have dn : (Res.one g (.cells (q.map vS ++ cur.drop q.length).toArray 9 (0, 0))).dj (h2.add hf) := dj_one_any (Res.dj_add_right.2 ⟨d12, d1⟩)
   obtain ⟨dn1, dn2⟩ := Res.dj_add_right.1 dn
   refine ⟨(), M, (Res.one g (.cells (q.map vS ++ cur.drop q.length).toArray 9 (0, 0))).add h2, rfl, trivial, Kn.le_refl _, Res.dj_add_left.2 ⟨dn2, d2⟩, ?_, Res.one g _, h2, dn1, rfl, .inr ⟨g, c, q.map vS ++ cur.drop q.length, rfl, hnc, hcm, ?_, ?_, ?_, rfl⟩, trivial⟩
   · rw [Res.add_assoc]; exact sat_grow t2 os
   · simp; omega
   · simp; omega
   · rw [Nat.mul_one, ← hsl, List.take_left' (by simp)]
end
section
set_option maxRecDepth 100000
theorem sortB_sorted (l : List Bs) : (sortB l).Pairwise (fun x y => x ≤ y) := by
 have := List.pairwise_mergeSort (le := fun x y : Bs => decide (x ≤ y)) (fun a b c h k => by simp at *; exact List.le_trans h k) (fun a b => by simp; exact List.le_total a b) l
 simp only [decide_eq_true_eq] at this
 exact this
theorem sortB_perm (l : List Bs) : (sortB l).Perm l := List.mergeSort_perm l _
theorem sortB_eq {l m : List Bs} (h : l.Perm m) : sortB l = sortB m :=
 List.Perm.eq_of_pairwise (fun _ _ _ _ h k => List.le_antisymm h k) (sortB_sorted l) (sortB_sorted m) ((sortB_perm l).trans (h.trans (sortB_perm m).symm))
theorem slices_Sorted_sp {g : Nat} {lb : List Value} {ok : List Bs → Bs → Prop} {stopped : List Bs → Prop} {As Bs' : List HP} {fin : List Bs → Prop} {val : Option (List Bs) → Value}
    (it : IterU Tryz.prog g lb (fun k : Bs => [vS k]) ok stopped As Bs' fin val) (N : Nat) (hN : N ≤ 4398046511104) (hlim : ∀ pre x, ok pre x → pre.length < N) (hfin : ∀ l, fin l → l.length ≤ N) [hp : PicksC As As []] :
    Sp Tryz.prog 65 [.func (.func g) #[] lb.toArray] As (X := (Option Addr × Nat) × List Bs) (fun x => .slice x.1.1 x.2.length x.1.2) (fun x => fin x.2) (fun x => Row 9 1 (.slice x.1.1 x.2.length x.1.2) x.2.length ((sortB x.2).map vS) :: Bs') := by
 refine Sp.body (n := 9) Tryz.call65 Tryz.func65 rfl rfl rfl ?_
 refine Qc (k:=Vv (k:=Wq (Qc (k:=Vv (k:=?_)))))
 refine r_callX (slices_Collect_sp it N hN hlim) rfl rfl rfl (fun x hx => ?_)
 have hxl := hfin x.2 hx
 refine Vv (k:=Wq (Qc (k:=Vv (k:=?_))))
 refine r_call1 (slices_Sort_sp x.1.1 x.2.length x.1.2 x.2 rfl (by omega)) rfl rfl rfl ?_
 refine Wq (Qc (k:=Qv (k:=Wq (Zt (k:=?_)))))
 refine fin_ret x (vs := [_]) (Cs := []) rfl (.tmp rfl .nil) rfl hx ?_
 simp only [List.append_nil]
 exact Ent.refl _
/-- The keys of some rows, rising. -/
def keysS (ks : Ks) : List Bs := sortB (ks.map (·.1))
theorem keysS_len (ks : Ks) : (keysS ks).length = ks.length := by rw [keysS, sortB_len]; simp
theorem keysS_mem {ks : Ks} {k : Bs} : k ∈ keysS ks ↔ k ∈ ks.map (·.1) := (sortB_perm _).mem_iff
end
theorem mlook_none {ks : Ks} {k : Bs} (h : k ∉ ks.map (·.1)) : mlook ks k = none := by
 induction ks with
 | nil => rfl
 | cons p r ih =>
   simp only [List.map_cons, List.mem_cons, not_or] at h
   simp only [mlook, Ne.symm h.1, if_false]
   exact ih h.2
theorem mlook_of_mem {ks : Ks} {k : Bs} {v : Value} (hn : (ks.map (·.1)).Nodup) (h : (k, v) ∈ ks) : mlook ks k = some v := by
 induction ks with
 | nil => simp at h
 | cons p r ih =>
   simp only [List.map_cons, List.nodup_cons] at hn
   simp only [mlook]
   rcases List.mem_cons.1 h with rfl | h
   · simp
   · have : p.1 ≠ k := fun e => hn.1 (e ▸ List.mem_map_of_mem (f := fun p : Bs × Value => p.1) h)
     simp only [this, if_false]
     exact ih hn.2 h
theorem mem_of_mlook {ks : Ks} {k : Bs} {v : Value} (h : mlook ks k = some v) : (k, v) ∈ ks := by
 induction ks with
 | nil => simp [mlook] at h
 | cons p r ih =>
   simp only [mlook] at h
   split at h
   · rename_i e; simp only [Option.some.injEq] at h; subst h; subst e; simp
   · simp [ih h]
/-! The order of texts. -/
theorem blt_iff : ∀ (a b : Bs), blt a b = true ↔ a < b := by
 intro a
 induction a with
 | nil => intro b; cases b <;> simp [blt, Op.bytesLess]
 | cons x a ih =>
   intro b
   cases b with
   | nil => simp [blt, Op.bytesLess]
   | cons y b =>
     have := ih b
     simp only [blt] at this ⊢
     rw [List.cons_lt_cons_iff, ← this]
     simp only [Op.bytesLess]
     by_cases h : x = y
     · subst h; simp
     · simp [h]
theorem blt_eq (a b : Bs) : blt a b = decide (a < b) := by
 have := blt_iff a b
 cases h : blt a b with
 | true => rw [h] at this; exact (decide_eq_true (this.1 rfl)).symm
 | false => rw [h] at this; exact (decide_eq_false (fun e => by have := this.2 e; cases this)).symm
theorem keysS_lt {ks : Ks} (hn : (ks.map (·.1)).Nodup) : (keysS ks).Pairwise (· < ·) := by
 have h1 := sortB_sorted (ks.map (·.1))
 have h2 : (keysS ks).Nodup := (sortB_perm _).nodup_iff.2 hn
 have h3 : (keysS ks).Pairwise (fun a b => a ≤ b ∧ a ≠ b) := List.Pairwise.and h1 h2
 exact h3.imp fun ⟨a, b⟩ => Std.lt_of_le_of_ne a b
/-- Sorted lists with the same things in them are the same. -/
theorem sorted_eq {l m : List Bs} (hl : l.Pairwise (· < ·)) (hm : m.Pairwise (· < ·)) (h : ∀ k, k ∈ l ↔ k ∈ m) : l = m := by
 have nl : l.Nodup := hl.imp fun h e => by subst e; exact absurd h (List.lt_irrefl _)
 have nm : m.Nodup := hm.imp fun h e => by subst e; exact absurd h (List.lt_irrefl _)
 exact List.Perm.eq_of_pairwise (fun _ _ _ _ h k => List.le_antisymm h k) (hl.imp fun h => List.le_of_lt h) (hm.imp fun h => List.le_of_lt h) ((List.perm_ext_iff_of_nodup nl nm).2 h)
/-- A row's bytes; nothing, if there is none. -/
def bytesV : Value → Bs
 | .string b => b.data.toList
 | _ => []
def getB (K : Ks) (k : Bs) : Bs := bytesV ((mlook K k).getD (vS []))
/-- The store holds texts alone, none too long. -/
def TxtK (K : Ks) : Prop := ∀ p ∈ K, ∃ s, p.2 = vS s ∧ s.length ≤ 1073741824
theorem TxtK.get {K : Ks} (h : TxtK K) (k : Bs) : (mlook K k).getD (vS []) = vS (getB K k) ∧ (getB K k).length ≤ 1073741824 := by
 unfold getB
 cases e : mlook K k with
 | none => exact ⟨rfl, Nat.zero_le _⟩
 | some v =>
   obtain ⟨s, hs, hl⟩ := h _ (mem_of_mlook e)
   dsimp only at hs
   subst hs
   exact ⟨rfl, hl⟩
section
set_option maxRecDepth 100000
theorem ref1_turn_sp (x : UInt32) (k : Nat) (hk : k = 1 ∨ k = 5 ∨ k = 30) : SpF Tryz.prog 99 [vW x, .int .u64 k] (vW (rotl x k)) := by
 rcases hk with rfl | rfl | rfl
 · skip
   refine Sp.body (n := 13) Tryz.call99 Tryz.func99 rfl rfl rfl ?_
   refine Qc (k:=Vv (k:=Wq (Qc (k:=Qv (k:=?_)))))
   refine wo_pv (pv_shlW (m := 1) rfl rfl rfl (by omega)) rfl ?_
   refine Qv (k:=?_)
   refine wo_pv (pv_subw rfl rfl) rfl ?_
   refine wo_pv (pv_shrW (m := 31) rfl rfl (by decide) (by omega)) rfl ?_
   refine wo_pv (pv_orW rfl rfl) rfl ?_
   refine Vv (k:=Wq (Zt (k:=?_)))
   exact fin_ret () (vs := [_]) (Cs := []) rfl (.tmp rfl .nil) rfl trivial ent_nil
 · skip
   refine Sp.body (n := 13) Tryz.call99 Tryz.func99 rfl rfl rfl ?_
   refine Qc (k:=Vv (k:=Wq (Qc (k:=Qv (k:=?_)))))
   refine wo_pv (pv_shlW (m := 5) rfl rfl rfl (by omega)) rfl ?_
   refine Qv (k:=?_)
   refine wo_pv (pv_subw rfl rfl) rfl ?_
   refine wo_pv (pv_shrW (m := 27) rfl rfl (by decide) (by omega)) rfl ?_
   refine wo_pv (pv_orW rfl rfl) rfl ?_
   refine Vv (k:=Wq (Zt (k:=?_)))
   exact fin_ret () (vs := [_]) (Cs := []) rfl (.tmp rfl .nil) rfl trivial ent_nil
 · skip
   refine Sp.body (n := 13) Tryz.call99 Tryz.func99 rfl rfl rfl ?_
   refine Qc (k:=Vv (k:=Wq (Qc (k:=Qv (k:=?_)))))
   refine wo_pv (pv_shlW (m := 30) rfl rfl rfl (by omega)) rfl ?_
   refine Qv (k:=?_)
   refine wo_pv (pv_subw rfl rfl) rfl ?_
   refine wo_pv (pv_shrW (m := 2) rfl rfl (by decide) (by omega)) rfl ?_
   refine wo_pv (pv_orW rfl rfl) rfl ?_
   refine Vv (k:=Wq (Zt (k:=?_)))
   exact fin_ret () (vs := [_]) (Cs := []) rfl (.tmp rfl .nil) rfl trivial ent_nil
theorem zb49join22 {G : Prop} (h : G := by
    first
    | (rw [if_neg (by omega), if_neg (by omega), if_neg (by omega)] at hmx
       rw [hmx]
       exact to_inv () trivial ⟨rfl, rfl, rfl, rfl, rfl, rfl, rfl, rfl, trivial⟩ ent_pick)
    | (rw [if_neg (by omega), if_neg (by omega), if_pos (by omega)] at hmx
       rw [hmx]
       exact to_inv () trivial ⟨rfl, rfl, rfl, rfl, rfl, rfl, rfl, rfl, trivial⟩ ent_pick)
    | (rw [if_neg (by omega), if_pos (by omega)] at hmx
       rw [hmx]
       exact to_inv () trivial ⟨rfl, rfl, rfl, rfl, rfl, rfl, rfl, rfl, trivial⟩ ent_pick)
    | (rw [if_pos (by omega)] at hmx
       rw [hmx]
       exact to_inv () trivial ⟨rfl, rfl, rfl, rfl, rfl, rfl, rfl, rfl, trivial⟩ ent_pick)) : G := h
theorem ref1_block_sp {B : HP} {a : Option Addr} (c : Nat) (h : W5) (b : Bs) (hb : b.length = 64) (sh : SlA B a (vUs b)) : Sp1 Tryz.prog 49 [.agg (h.list.map vW).toArray, .slice a 64 c] [B] (.agg ((takeW h b).list.map vW).toArray) [B] := by
 haveI : RdSl a (vUs b) [B] := ⟨⟨B, sh, .here⟩⟩
 have hvl : (vUs b).length = 64 := by simp [vUs, hb]
 refine Sp.body (n := 177) Tryz.call49 Tryz.func49 rfl rfl rfl ?_
 refine Qc (k:=Zx [_, _, _, _, _] (k:=fun b2 => Zc [.int .u32 0, .int .u32 0, .int .u32 0, .int .u32 0, .int .u32 0] (k:=fun b4 => Wq (Qc (k:=Zc [.int .u32 0, .int .u32 0, .int .u32 0, .int .u32 0, .int .u32 0, .int .u32 0, .int .u32 0, .int .u32 0, .int .u32 0, .int .u32 0, .int .u32 0, .int .u32 0, .int .u32 0, .int .u32 0, .int .u32 0, .int .u32 0, .int .u32 0, .int .u32 0, .int .u32 0, .int .u32 0, .int .u32 0, .int .u32 0, .int .u32 0, .int .u32 0, .int .u32 0, .int .u32 0, .int .u32 0, .int .u32 0, .int .u32 0, .int .u32 0, .int .u32 0, .int .u32 0, .int .u32 0, .int .u32 0, .int .u32 0, .int .u32 0, .int .u32 0, .int .u32 0, .int .u32 0, .int .u32 0, .int .u32 0, .int .u32 0, .int .u32 0, .int .u32 0, .int .u32 0, .int .u32 0, .int .u32 0, .int .u32 0, .int .u32 0, .int .u32 0, .int .u32 0, .int .u32 0, .int .u32 0, .int .u32 0, .int .u32 0, .int .u32 0, .int .u32 0, .int .u32 0, .int .u32 0, .int .u32 0, .int .u32 0, .int .u32 0, .int .u32 0, .int .u32 0, .int .u32 0, .int .u32 0, .int .u32 0, .int .u32 0, .int .u32 0, .int .u32 0, .int .u32 0, .int .u32 0, .int .u32 0, .int .u32 0, .int .u32 0, .int .u32 0, .int .u32 0, .int .u32 0, .int .u32 0, .int .u32 0] (k:=fun b5 => Wq (Za (k:=Qc (k:=?_)))))))))
 refine Vv (k:=Wq (Zb (k:=?_)))
 refine p_loop (fun (i : { j : Nat // j ≤ 16 }) => [(1, .slice a 64 c), (2, .pointer (some ⟨b2, 0, none⟩)), (4, .pointer (some ⟨b4, 0, none⟩)), (5, .pointer (some ⟨b5, 0, none⟩)), (14, vI i.1)]) (fun (i : { j : Nat // j ≤ 16 }) => [Ce b5 162 ((spreadL b i.1 ++ List.replicate (80 - i.1) 0).map vW), Ce b2 95 (h.list.map vW), Ce b4 95 ((List.replicate 5 (0 : UInt32)).map vW), B]) (fun (i : { j : Nat // j ≤ 16 }) => 16 - i.1) rfl (⟨0, Nat.zero_le _⟩) ?_ ?_ (fun i => ?_)
 · exact ⟨rfl, rfl, rfl, rfl, rfl, trivial⟩
 ·
  exact ent_step (ce_norm (by rfl) (by rfl)) (ent_step (ce_norm (by rfl) (by rfl)) (ent_step (ce_norm (by rfl) (by rfl)) ent_pick))
 obtain ⟨j, hj⟩ := i
 dsimp only
 have hsp := spreadL_len b j
 try dsimp only
 refine Qc (k:=Vv (k:=Wq (Za (k:=Zi (t:=fun h15 => ?_) (f:=fun h15 => ?_)))))
 ·
  refine Zk (k:=Ya (Za (k:=Zb (k:=Qc (k:=Qv (k:=Wq (Dw [B] (k:=?_))))))))
  refine Dv 0 (k:=Dv 1 (k:=Dv 2 (k:=Dv 3 (k:=?_))))
  refine d_first 4 rfl rfl rfl (by kernel_rfl) (by kernel_rfl) (tl_elemAddr (sz := 1) (m := 4 * j) Tryz.underlying56 ti5 rfl rfl rfl (by omega) (by omega) (by omega) (Nat.mul_one _)) ?_
  refine d_first 5 rfl rfl rfl (by kernel_rfl) (by kernel_rfl) (tl_eload Tryz.underlying5 rfl rfl (vUs_get (by omega))) ?_
  refine d_first 6 rfl rfl rfl (by kernel_rfl) (by kernel_rfl) (tl_pv (pv_convW rfl Tryz.underlying5 Tryz.underlying94)) ?_
  refine d_first 7 rfl rfl rfl (by kernel_rfl) (by kernel_rfl) (tl_pv (pv_shlW (m := 24) rfl rfl rfl (by omega))) ?_
  refine Dv 8 (k:=Dv 9 (k:=Dv 10 (k:=Dv 11 (k:=?_))))
  refine d_first 12 rfl rfl rfl (by kernel_rfl) (by kernel_rfl) (tl_elemAddr (sz := 1) (m := 4 * j + 1) Tryz.underlying56 ti5 rfl rfl rfl (by omega) (by omega) (by omega) (Nat.mul_one _)) ?_
  refine d_first 13 rfl rfl rfl (by kernel_rfl) (by kernel_rfl) (tl_eload Tryz.underlying5 rfl rfl (vUs_get (by omega))) ?_
  refine d_first 14 rfl rfl rfl (by kernel_rfl) (by kernel_rfl) (tl_pv (pv_convW rfl Tryz.underlying5 Tryz.underlying94)) ?_
  refine d_first 15 rfl rfl rfl (by kernel_rfl) (by kernel_rfl) (tl_pv (pv_shlW (m := 16) rfl rfl rfl (by omega))) ?_
  refine d_first 16 rfl rfl rfl (by kernel_rfl) (by kernel_rfl) (tl_pv (pv_orW rfl rfl)) ?_
  refine Dv 17 (k:=Dv 18 (k:=Dv 19 (k:=Dv 20 (k:=?_))))
  refine d_first 21 rfl rfl rfl (by kernel_rfl) (by kernel_rfl) (tl_elemAddr (sz := 1) (m := 4 * j + 2) Tryz.underlying56 ti5 rfl rfl rfl (by omega) (by omega) (by omega) (Nat.mul_one _)) ?_
  refine d_first 22 rfl rfl rfl (by kernel_rfl) (by kernel_rfl) (tl_eload Tryz.underlying5 rfl rfl (vUs_get (by omega))) ?_
  refine d_first 23 rfl rfl rfl (by kernel_rfl) (by kernel_rfl) (tl_pv (pv_convW rfl Tryz.underlying5 Tryz.underlying94)) ?_
  refine d_first 24 rfl rfl rfl (by kernel_rfl) (by kernel_rfl) (tl_pv (pv_shlW (m := 8) rfl rfl rfl (by omega))) ?_
  refine d_first 25 rfl rfl rfl (by kernel_rfl) (by kernel_rfl) (tl_pv (pv_orW rfl rfl)) ?_
  refine Dv 26 (k:=Dv 27 (k:=Dv 28 (k:=Dv 29 (k:=?_))))
  refine d_first 30 rfl rfl rfl (by kernel_rfl) (by kernel_rfl) (tl_elemAddr (sz := 1) (m := 4 * j + 3) Tryz.underlying56 ti5 rfl rfl rfl (by omega) (by omega) (by omega) (Nat.mul_one _)) ?_
  refine d_first 31 rfl rfl rfl (by kernel_rfl) (by kernel_rfl) (tl_eload Tryz.underlying5 rfl rfl (vUs_get (by omega))) ?_
  refine d_first 32 rfl rfl rfl (by kernel_rfl) (by kernel_rfl) (tl_pv (pv_convW rfl Tryz.underlying5 Tryz.underlying94)) ?_
  refine d_first 33 rfl rfl rfl (by kernel_rfl) (by kernel_rfl) (tl_pv (pv_orW rfl rfl)) ?_
  refine d_first 34 rfl rfl rfl (by kernel_rfl) (by kernel_rfl) (tl_pv (pv_aindex1 Tryz.underlying162 ti94 rfl rfl rfl (by first | rfl | omega) (by omega))) ?_
  refine Dn 35 (k:=No (k:=Dd (k:=Yb (Ya (Zr (k:=Qv (k:=Wn ?_)))))))
  refine to_inv ⟨j + 1, by omega⟩ (by dsimp only; omega) ⟨rfl, rfl, rfl, rfl, rfl, trivial⟩ ?_
  dsimp only
  rw [← sp_set (b := b) (j := j) (by omega) (blkW b j) (by rw [if_pos (by omega)])]
  exact ent_step (ce_norm (by rfl) (by rw [List.map_set]; rfl)) ent_pick
 ·
  refine Ze (k:=Xa (Xi (Xb (Ya (Za (k:=Qc (k:=Vv (k:=Wq (Zb (k:=?_))))))))))
  refine p_loop (fun (i : { j : Nat // 16 ≤ j ∧ j ≤ 80 }) => [(2, .pointer (some ⟨b2, 0, none⟩)), (4, .pointer (some ⟨b4, 0, none⟩)), (5, .pointer (some ⟨b5, 0, none⟩)), (7, vI i.1)]) (fun (i : { j : Nat // 16 ≤ j ∧ j ≤ 80 }) => [Ce b5 162 ((spreadL b i.1 ++ List.replicate (80 - i.1) 0).map vW), Ce b2 95 (h.list.map vW), Ce b4 95 ((List.replicate 5 (0 : UInt32)).map vW), B]) (fun (i : { j : Nat // 16 ≤ j ∧ j ≤ 80 }) => 80 - i.1) rfl (⟨16, by omega, by omega⟩) ?_ ?_ (fun i => ?_)
  · exact ⟨rfl, rfl, rfl, rfl, trivial⟩
  ·
   have hj16 : j = 16 := by omega
   subst hj16
   exact ent_pick
  obtain ⟨m, hm1, hm2⟩ := i
  dsimp only
  have hsl : (spreadL b m ++ List.replicate (80 - m) (0 : UInt32)).length = 80 := by rw [List.length_append, spreadL_len, List.length_replicate]; omega
  have hsp := spreadL_len b m
  try dsimp only
  refine Za (k:=Qc (k:=Qv (k:=Wq (Zi (t:=fun h54 => ?_) (f:=fun h54 => ?_)))))
  ·
   refine Zk (k:=Ya (Za (k:=Zb (k:=Dw [Ce b5 162 ((spreadL b m ++ List.replicate (80 - m) 0).map vW)] (k:=?_)))))
   refine Dv 0 (k:=Dv 1 (k:=Dv 2 (k:=?_)))
   refine d_first 3 rfl rfl rfl (by kernel_rfl) (by kernel_rfl) (tl_pv (pv_aindex1 (m := m - 3) Tryz.underlying162 ti94 rfl rfl rfl (by omega) (by omega))) ?_
   refine d_first 4 rfl rfl rfl (by kernel_rfl) (by kernel_rfl) (tl_load Tryz.underlying94 rfl rfl ((vW_getD (m := m - 3) (by omega)).trans (by rw [sp_get (by omega) (by omega)]))) ?_
   refine Dv 5 (k:=Dv 6 (k:=?_))
   refine d_first 7 rfl rfl rfl (by kernel_rfl) (by kernel_rfl) (tl_pv (pv_aindex1 (m := m - 8) Tryz.underlying162 ti94 rfl rfl rfl (by omega) (by omega))) ?_
   refine d_first 8 rfl rfl rfl (by kernel_rfl) (by kernel_rfl) (tl_load Tryz.underlying94 rfl rfl ((vW_getD (m := m - 8) (by omega)).trans (by rw [sp_get (by omega) (by omega)]))) ?_
   refine d_first 9 rfl rfl rfl (by kernel_rfl) (by kernel_rfl) (tl_pv (pv_xorW rfl rfl)) ?_
   refine Dv 10 (k:=Dv 11 (k:=?_))
   refine d_first 12 rfl rfl rfl (by kernel_rfl) (by kernel_rfl) (tl_pv (pv_aindex1 (m := m - 14) Tryz.underlying162 ti94 rfl rfl rfl (by omega) (by omega))) ?_
   refine d_first 13 rfl rfl rfl (by kernel_rfl) (by kernel_rfl) (tl_load Tryz.underlying94 rfl rfl ((vW_getD (m := m - 14) (by omega)).trans (by rw [sp_get (by omega) (by omega)]))) ?_
   refine d_first 14 rfl rfl rfl (by kernel_rfl) (by kernel_rfl) (tl_pv (pv_xorW rfl rfl)) ?_
   refine Dv 15 (k:=Dv 16 (k:=?_))
   refine d_first 17 rfl rfl rfl (by kernel_rfl) (by kernel_rfl) (tl_pv (pv_aindex1 (m := m - 16) Tryz.underlying162 ti94 rfl rfl rfl (by omega) (by omega))) ?_
   refine d_first 18 rfl rfl rfl (by kernel_rfl) (by kernel_rfl) (tl_load Tryz.underlying94 rfl rfl ((vW_getD (m := m - 16) (by omega)).trans (by rw [sp_get (by omega) (by omega)]))) ?_
   refine d_first 19 rfl rfl rfl (by kernel_rfl) (by kernel_rfl) (tl_pv (pv_xorW rfl rfl)) ?_
   refine Dn 20 (k:=?_)
   refine an_callF (ref1_turn_sp _ 1 (.inl rfl)) rfl rfl rfl ?_
   refine d_first 21 rfl rfl rfl (by kernel_rfl) (by kernel_rfl) (tl_pv (pv_aindex1 Tryz.underlying162 ti94 rfl rfl rfl (by first | rfl | omega) (by omega))) ?_
   refine d_last 22 (by kernel_rfl) rfl (by kernel_rfl) (by kernel_rfl) ?_
   refine No (k:=Yb (Ya (Zr (k:=Qv (k:=Vv (k:=Wn ?_))))))
   refine to_inv ⟨m + 1, by omega, by omega⟩ (by dsimp only; omega) ⟨rfl, rfl, rfl, rfl, trivial⟩ ?_
   dsimp only
   rw [← sp_set (b := b) (j := m) (by omega) (nextW (spreadL b m) m) (by rw [if_neg (by omega)])]
   exact ent_step (ce_norm (by rfl) (by rw [List.map_set]; rfl)) ent_pick
  ·
   refine Ze (k:=Xa (Xi (Xb (Ya (Za (k:=?_))))))
   have hm80 : m = 80 := by omega
   subst hm80
   rw [Nat.sub_self, List.replicate_zero, List.append_nil]
   have htk : takeW h b = (let s := roundsW (spreadL b 80) h 80; ⟨h.a + s.a, h.b + s.b, h.c + s.c, h.d + s.d, h.e + s.e⟩) := rfl
   generalize spreadL b 80 = ws at hsp htk ⊢
   refine Zr (k:=Zm [_, _, _, _, _] (k:=Zc [.int .u32 0, .int .u32 0, .int .u32 0, .int .u32 0, .int .u32 0] (k:=fun b8 => Zp (k:=Wq (Za (k:=Qc (k:=Vv (k:=Wq (Zb (k:=?_))))))))))
   refine p_loop (fun (i : { j : Nat // j ≤ 80 }) => [(2, .pointer (some ⟨b2, 0, none⟩)), (4, .pointer (some ⟨b4, 0, none⟩)), (5, .pointer (some ⟨b5, 0, none⟩)), (8, .pointer (some ⟨b8, 0, none⟩)), (80, vI i.1)]) (fun (i : { j : Nat // j ≤ 80 }) => [Ce b8 95 ((roundsW ws h i.1).list.map vW), Ce b5 162 (ws.map vW), Ce b2 95 (h.list.map vW), Ce b4 95 ((List.replicate 5 (0 : UInt32)).map vW), B]) (fun (i : { j : Nat // j ≤ 80 }) => 80 - i.1) rfl (⟨0, Nat.zero_le _⟩) ?_ ?_ (fun i => ?_)
   · exact ⟨rfl, rfl, rfl, rfl, rfl, trivial⟩
   ·
    exact ent_step (ce_norm (by rfl) (by rfl)) ent_pick
   obtain ⟨q, hq⟩ := i
   dsimp only
   try dsimp only
   refine Qc (k:=Vv (k:=Wq (Za (k:=Zi (t:=fun h81 => ?_) (f:=fun h81 => ?_)))))
   ·
    refine Zk (k:=Ya (Za (k:=Zb (k:=Za (k:=?_)))))
    obtain ⟨s, hs⟩ : ∃ s, s = roundsW ws h q := ⟨_, rfl⟩
    have hs2 : roundsW ws h (q + 1) = roundW ws q s := by rw [hs]; rfl
    rw [← hs]
    have hsl5 : s.list.length = 5 := rfl
    have hmx : mixW q s.b s.c s.d = if q / 20 = 0 then ((s.b &&& s.c) ||| (~~~s.b &&& s.d), 0x5a827999) else if q / 20 = 1 then (s.b ^^^ s.c ^^^ s.d, 0x6ed9eba1) else if q / 20 = 2 then ((s.b &&& s.c) ||| (s.b &&& s.d) ||| (s.c &&& s.d), 0x8f1bbcdc) else (s.b ^^^ s.c ^^^ s.d, 0xca62c1d6) := rfl
    refine Zr (k:=Qv (k:=Wq (Qc (k:=?_))))
    refine wo_pv (pv_aindex1 (m := 1) Tryz.underlying95 ti94 rfl rfl rfl (by first | rfl | omega) (by omega)) rfl ?_
    refine Zd (k:=?_)
    refine wo_pv (pv_aindex1 (m := 2) Tryz.underlying95 ti94 rfl rfl rfl (by first | rfl | omega) (by omega)) rfl ?_
    refine Zd (k:=?_)
    refine wo_pv (pv_andW rfl rfl) rfl ?_
    refine wo_pv (pv_aindex1 (m := 1) Tryz.underlying95 ti94 rfl rfl rfl (by first | rfl | omega) (by omega)) rfl ?_
    refine Zd (k:=?_)
    refine wo_pv (pv_notW rfl) rfl ?_
    refine wo_pv (pv_aindex1 (m := 3) Tryz.underlying95 ti94 rfl rfl rfl (by first | rfl | omega) (by omega)) rfl ?_
    refine Zd (k:=?_)
    refine wo_pv (pv_andW rfl rfl) rfl ?_
    refine wo_pv (pv_orW rfl rfl) rfl ?_
    refine Qv (k:=Wq ?_)
    refine p_cut (fun (u : Unit) => [(2, .pointer (some ⟨b2, 0, none⟩)), (4, .pointer (some ⟨b4, 0, none⟩)), (5, .pointer (some ⟨b5, 0, none⟩)), (8, .pointer (some ⟨b8, 0, none⟩)), (9, vI q), (10, vW (mixW q s.b s.c s.d).1), (11, vW (mixW q s.b s.c s.d).2), (80, vI q)]) (fun (u : Unit) => [Ce b8 95 (s.list.map vW), Ce b5 162 (ws.map vW), Ce b2 95 (h.list.map vW), Ce b4 95 ((List.replicate 5 (0 : UInt32)).map vW), B]) rfl (fun u => ?_) ?_
    ·
     try dsimp only
     refine Za (k:=Dw [Ce b8 95 (s.list.map vW), Ce b5 162 (ws.map vW)] (k:=?_))
     refine d_first 0 rfl rfl rfl (by kernel_rfl) (by kernel_rfl) (tl_pv (pv_aindex1 (m := 0) Tryz.underlying95 ti94 rfl rfl rfl (by first | rfl | omega) (by omega))) ?_
     refine Di 1 (t:=Ul) (k:=Dv 3 (k:=?_))
     refine d_first 5 rfl rfl rfl (by kernel_rfl) (by kernel_rfl) (tl_pv (pv_aindex1 (m := 4) Tryz.underlying95 ti94 rfl rfl rfl (by first | rfl | omega) (by omega))) ?_
     refine Di 6 (t:=Ul) (k:=Dv 8 (k:=Dv 10 (k:=?_)))
     refine d_first 11 rfl rfl rfl (by kernel_rfl) (by kernel_rfl) (tl_pv (pv_aindex1 Tryz.underlying162 ti94 rfl rfl rfl (by first | rfl | omega) (by omega))) ?_
     refine d_first 12 rfl rfl rfl (by kernel_rfl) (by kernel_rfl) (tl_load Tryz.underlying94 rfl rfl (vW_getD (m := q) (by omega))) ?_
     refine Dn 2 (k:=?_)
     refine an_callF (ref1_turn_sp _ 5 (.inr (.inl rfl))) rfl rfl rfl ?_
     refine d_first 4 rfl rfl rfl (by kernel_rfl) (by kernel_rfl) (tl_pv (pv_addW rfl rfl)) ?_
     refine d_first 7 rfl rfl rfl (by kernel_rfl) (by kernel_rfl) (tl_pv (pv_addW rfl rfl)) ?_
     refine d_first 9 rfl rfl rfl (by kernel_rfl) (by kernel_rfl) (tl_pv (pv_addW rfl rfl)) ?_
     refine d_first 13 rfl rfl rfl (by kernel_rfl) (by kernel_rfl) (tl_pv (pv_addW rfl rfl)) ?_
     refine Dv 14 (k:=Dd (k:=Ya (Dw [Ce b8 95 (s.list.map vW)] (k:=?_))))
     refine Dv 0 (k:=?_)
     refine d_first 1 rfl rfl rfl (by kernel_rfl) (by kernel_rfl) (tl_pv (pv_aindex1 (m := 0) Tryz.underlying95 ti94 rfl rfl rfl (by first | rfl | omega) (by omega))) ?_
     refine Di 2 (t:=Ul) (k:=?_)
     refine d_first 3 rfl rfl rfl (by kernel_rfl) (by kernel_rfl) (tl_pv (pv_aindex1 (m := 1) Tryz.underlying95 ti94 rfl rfl rfl (by first | rfl | omega) (by omega))) ?_
     refine Di 4 (t:=Ul) (k:=?_)
     refine d_first 6 rfl rfl rfl (by kernel_rfl) (by kernel_rfl) (tl_pv (pv_aindex1 (m := 2) Tryz.underlying95 ti94 rfl rfl rfl (by first | rfl | omega) (by omega))) ?_
     refine Di 7 (t:=Ul) (k:=?_)
     refine d_first 8 rfl rfl rfl (by kernel_rfl) (by kernel_rfl) (tl_pv (pv_aindex1 (m := 3) Tryz.underlying95 ti94 rfl rfl rfl (by first | rfl | omega) (by omega))) ?_
     refine Di 9 (t:=Ul) (k:=Dn 5 (k:=?_))
     refine an_callF (ref1_turn_sp _ 30 (.inr (.inr rfl))) rfl rfl rfl ?_
     refine d_first 10 rfl rfl rfl (by kernel_rfl) (by kernel_rfl) (tl_pv (pv_buildA (vs := [_, _, _, _, _]) Tryz.underlying95 ti94 rfl rfl rfl ti95 rfl rfl)) ?_
     refine d_last 11 (by kernel_rfl) rfl (by kernel_rfl) (by kernel_rfl) ?_
     refine Na (k:=Yb (Ya (Zr (k:=Qv (k:=Wn ?_)))))
     refine to_inv ⟨q + 1, by omega⟩ (by dsimp only; omega) ⟨rfl, rfl, rfl, rfl, rfl, trivial⟩ ?_
     dsimp only
     rw [hs2]
     exact ent_step (ce_norm (by rfl) (by rfl)) ent_pick
    ·
     refine Zb (k:=Qc (k:=Qv (k:=Vv (k:=Wq (Zi (t:=fun h95 => ?_) (f:=fun h95 => ?_))))))
     ·
      refine Zr (k:=?_)
      refine wo_pv (pv_aindex1 (m := 1) Tryz.underlying95 ti94 rfl rfl rfl (by first | rfl | omega) (by omega)) rfl ?_
      refine Zd (k:=?_)
      refine wo_pv (pv_aindex1 (m := 2) Tryz.underlying95 ti94 rfl rfl rfl (by first | rfl | omega) (by omega)) rfl ?_
      refine Zd (k:=?_)
      refine wo_pv (pv_xorW rfl rfl) rfl ?_
      refine wo_pv (pv_aindex1 (m := 3) Tryz.underlying95 ti94 rfl rfl rfl (by first | rfl | omega) (by omega)) rfl ?_
      refine Zd (k:=?_)
      refine wo_pv (pv_xorW rfl rfl) rfl ?_
      refine Qv (k:=Wn (Yb ?_))
      exact zb49join22
     ·
      refine Qc (k:=Qv (k:=Vv (k:=Wq (Zi (t:=fun h106 => ?_) (f:=fun h106 => ?_)))))
      ·
       refine Zr (k:=?_)
       refine wo_pv (pv_aindex1 (m := 1) Tryz.underlying95 ti94 rfl rfl rfl (by first | rfl | omega) (by omega)) rfl ?_
       refine Zd (k:=?_)
       refine wo_pv (pv_aindex1 (m := 2) Tryz.underlying95 ti94 rfl rfl rfl (by first | rfl | omega) (by omega)) rfl ?_
       refine Zd (k:=?_)
       refine wo_pv (pv_andW rfl rfl) rfl ?_
       refine wo_pv (pv_aindex1 (m := 1) Tryz.underlying95 ti94 rfl rfl rfl (by first | rfl | omega) (by omega)) rfl ?_
       refine Zd (k:=?_)
       refine wo_pv (pv_aindex1 (m := 3) Tryz.underlying95 ti94 rfl rfl rfl (by first | rfl | omega) (by omega)) rfl ?_
       refine Zd (k:=?_)
       refine wo_pv (pv_andW rfl rfl) rfl ?_
       refine wo_pv (pv_orW rfl rfl) rfl ?_
       refine wo_pv (pv_aindex1 (m := 2) Tryz.underlying95 ti94 rfl rfl rfl (by first | rfl | omega) (by omega)) rfl ?_
       refine Zd (k:=?_)
       refine wo_pv (pv_aindex1 (m := 3) Tryz.underlying95 ti94 rfl rfl rfl (by first | rfl | omega) (by omega)) rfl ?_
       refine Zd (k:=?_)
       refine wo_pv (pv_andW rfl rfl) rfl ?_
       refine wo_pv (pv_orW rfl rfl) rfl ?_
       refine Qv (k:=Wn (Yb ?_))
       exact zb49join22
      ·
       refine Qc (k:=Qv (k:=Vv (k:=Wq (Zi (t:=fun h126 => ?_) (f:=fun h126 => ?_)))))
       ·
        refine Zr (k:=?_)
        refine wo_pv (pv_aindex1 (m := 1) Tryz.underlying95 ti94 rfl rfl rfl (by first | rfl | omega) (by omega)) rfl ?_
        refine Zd (k:=?_)
        refine wo_pv (pv_aindex1 (m := 2) Tryz.underlying95 ti94 rfl rfl rfl (by first | rfl | omega) (by omega)) rfl ?_
        refine Zd (k:=?_)
        refine wo_pv (pv_xorW rfl rfl) rfl ?_
        refine wo_pv (pv_aindex1 (m := 3) Tryz.underlying95 ti94 rfl rfl rfl (by first | rfl | omega) (by omega)) rfl ?_
        refine Zd (k:=?_)
        refine wo_pv (pv_xorW rfl rfl) rfl ?_
        refine Qv (k:=Wn (Yb ?_))
        exact zb49join22
       ·
        refine Zk (k:=Yb ?_)
        exact zb49join22
   ·
    refine Ze (k:=Xa (Xi (Xb (Ya (Za (k:=Za (k:=?_)))))))
    have hq80 : q = 80 := by omega
    subst hq80
    obtain ⟨s, hs⟩ : ∃ s, s = roundsW ws h 80 := ⟨_, rfl⟩
    dsimp only at htk
    rw [← hs] at htk ⊢
    have hh5 : h.list.length = 5 := rfl
    have hs5 : s.list.length = 5 := rfl
    refine Zr (k:=Vv (k:=Wq (Zb (k:=?_))))
    refine p_loop (fun (i : { m : Nat // m ≤ 5 }) => [(2, .pointer (some ⟨b2, 0, none⟩)), (4, .pointer (some ⟨b4, 0, none⟩)), (8, .pointer (some ⟨b8, 0, none⟩)), (163, vI i.1)]) (fun (i : { m : Nat // m ≤ 5 }) => [Ce b2 95 ((addL h.list s.list i.1).map vW), Ce b8 95 (s.list.map vW), Ce b4 95 ((List.replicate 5 (0 : UInt32)).map vW), B]) (fun (i : { m : Nat // m ≤ 5 }) => 5 - i.1) rfl (⟨0, Nat.zero_le _⟩) ?_ ?_ (fun i => ?_)
    · exact ⟨rfl, rfl, rfl, rfl, trivial⟩
    ·
     exact ent_step (ce_norm (by rfl) (by rfl)) ent_pick
    obtain ⟨m, hm⟩ := i
    dsimp only
    have hal := addL_len (h := h.list) (s := s.list) (i := m) rfl hm
    try dsimp only
    refine Qc (k:=Vv (k:=Wq (Za (k:=Zi (t:=fun h164 => ?_) (f:=fun h164 => ?_)))))
    ·
     refine Zk (k:=Ya (Za (k:=Zb (k:=Qc (k:=Qv (k:=Wq (Dw [Ce b8 95 (s.list.map vW)] (k:=?_))))))))
     refine Dv 0 (k:=Dv 1 (k:=?_))
     refine d_first 2 rfl rfl rfl (by kernel_rfl) (by kernel_rfl) (tl_pv (pv_aindex1 Tryz.underlying95 ti94 rfl rfl rfl (by first | rfl | omega) (by omega))) ?_
     refine Dv 4 (k:=?_)
     refine d_first 5 rfl rfl rfl (by kernel_rfl) (by kernel_rfl) (tl_pv (pv_aindex1 Tryz.underlying95 ti94 rfl rfl rfl (by first | rfl | omega) (by omega))) ?_
     refine d_first 6 rfl rfl rfl (by kernel_rfl) (by kernel_rfl) (tl_load Tryz.underlying94 rfl rfl (vW_getD (m := m) (by omega))) ?_
     refine Dn 3 (k:=?_)
     refine an_load Tryz.underlying94 rfl rfl ((vW_getD (m := m) (by omega)).trans (by rw [addL_get (hh5.trans hs5.symm) (by omega)])) rfl ?_
     refine d_first 7 rfl rfl rfl (by kernel_rfl) (by kernel_rfl) (tl_pv (pv_addW rfl rfl)) ?_
     refine d_first 8 rfl rfl rfl (by kernel_rfl) (by kernel_rfl) (tl_pv (pv_aindex1 Tryz.underlying95 ti94 rfl rfl rfl (by first | rfl | omega) (by omega))) ?_
     refine Dn 9 (k:=No (k:=Dd (k:=Yb (Ya (Zr (k:=Qv (k:=Wn ?_)))))))
     refine to_inv ⟨m + 1, by omega⟩ (by dsimp only; omega) ⟨rfl, rfl, rfl, rfl, trivial⟩ ?_
     dsimp only
     rw [← addL_set (hh5.trans hs5.symm) (by omega)]
     exact ent_step (ce_norm (by rfl) (by rw [List.map_set])) ent_pick
    ·
     refine Ze (k:=Xa (Xi (Xb (Ya (Za (k:=?_))))))
     have hm5 : m = 5 := by omega
     subst hm5
     have hfin : addL h.list s.list 5 = (takeW h b).list := by rw [htk]; rfl
     rw [hfin]
     generalize takeW h b = tk
     refine Zr (k:=Zm [_, _, _, _, _] (k:=Zp (k:=Wq (Zt (k:=?_)))))
     refine fin_ret () (vs := [_]) (Cs := [Ce b4 95 (tk.list.map vW)]) rfl (.cell (l := tk.list.map vW) (us := tk.list.map vW) rfl (shows_ce (T := 95)) Tryz.underlying95 rfl ti95 (Nat.le_refl 5) rfl .nil) rfl trivial ?_
     exact (ce_norm (b := b4) (l := tk.list.map vW) (T := 95) (by rfl) (by rfl)).trans ent_pick
end
section
section
variable {P : Program}
theorem run_store_cez {w : World} {b off : Nat} {T : TypeId} {l : List Value} {v : Value} {fz : Nat × Nat} (hb : w.heap[b]? = some (.cells l.toArray T fz)) (hz : l.length ≤ fz.1) (h1 : oneCell v = true) (ho : off < l.length) :
    (store ⟨b, off, none⟩ v).run P w = .ok () (w.setCell ⟨b, off, none⟩ v) := by
 have hc : w.cell? ⟨b, off, none⟩ = some l[off] := by simp [World.cell?, hb, ho]
 obtain ⟨lo, hi⟩ := fz
 dsimp only at hz
 have hf : w.frozen? ⟨b, off, none⟩ = false := by
  simp [World.frozen?, hb]; omega
 cases v <;> simp_all [store, Sem.run, oneCell]
theorem setCell_atz {w : World} {b off : Nat} {T : TypeId} {l : List Value} {v : Value} {fz : Nat × Nat} (hb : w.heap[b]? = some (.cells l.toArray T fz)) :
    (w.setCell ⟨b, off, none⟩ v).heap[b]? = some (.cells (l.set off v).toArray T fz) := by
 simp [World.setCell, Array.getElem?_modify, hb]
theorem run_storeCells_cez {b T : Nat} {fz : Nat × Nat} : ∀ (vs : List Value) (w : World) (l : List Value) (off i : Nat), w.heap[b]? = some (.cells l.toArray T fz) → l.length ≤ fz.1 → vs.all oneCell = true → off + i + vs.length ≤ l.length →
    ∃ w', (storeCells ⟨b, off, none⟩ vs i).run P w = .ok () w' ∧ w'.heap[b]? = some (.cells (setAt l (off + i) vs).toArray T fz) ∧ (∀ j, j ≠ b → w'.heap[j]? = w.heap[j]?) ∧ Env w w' := by
 intro vs
 induction vs with
 | nil => intro w l off i hb _ _ _; exact ⟨w, by simp [storeCells], hb, fun _ _ => rfl, Env.refl w⟩
 | cons v vs ih =>
   intro w l off i hb hz h1 hl
   simp only [List.all_cons, Bool.and_eq_true] at h1
   simp only [List.length_cons] at hl
   have hst := run_store_cez (P := P) (off := off + i) hb hz h1.1 (by omega)
   obtain ⟨w', hr, hb', ho', he'⟩ := ih (w.setCell ⟨b, off + i, none⟩ v) (l.set (off + i) v) off (i + 1) (setCell_atz hb) (by simpa using hz) h1.2 (by simp; omega)
   refine ⟨w', ?_, hb', fun j hj => (ho' j hj).trans (setCell_other hj), (env_setCell _ _ _).trans he'⟩
   simp only [storeCells, Sem.run_bind, addr_add, hst, Result.andThen_ok]
   exact hr
end
/-- A slice of bytes that is one's own, in a block that may bear a mark behind its cells. -/
def RowZAt (v : Value) (n : Nat) (xs : List Value) (e : TypeId) (M : Kn) (h : Res) : Prop :=
 ∃ g cap cur fz, v = .slice (some ⟨g, 0, none⟩) n cap ∧ n ≤ cap ∧ cap ≤ maxLen ∧ List.length cur = cap ∧ xs.length = n ∧ cur.take n = xs ∧ (fz = (0, 0) ∨ cap ≤ fz.1) ∧ h = Res.one g (.cells cur.toArray e fz)
def RowZ (e : TypeId) (v : Value) (n : Nat) (xs : List Value) : HP := ⟨RowZAt v n xs e, fun _ e => e⟩
theorem sla_rowz {e : TypeId} {k n c : Nat} {a : Option Addr} {xs : List Value} : SlA (RowZ e (.slice a n c) k xs) a xs := fun x => by
 obtain ⟨g, cap, cur, fz, h1, h2, h3, h4, h5, h6, h7, h8⟩ := x
 cases h1
 exact .inr ⟨g, 0, cur, e, fz, rfl, .inr (by rw [h8]; exact Res.one_same _ _), by rw [List.drop_zero, h5]; exact h6⟩
instance (priority := 1000) {e : TypeId} {k n c : Nat} {a : Option Addr} {xs : List Value} {r : List HP} : RdSl a xs (RowZ e (.slice a n c) k xs :: r) := ⟨⟨_, sla_rowz, .here⟩⟩
section
variable {r : Option Nat} {P : Program} {n : Nat} {ops : Array Oper} {os : List Oper} {L : Loc} {Hs : List HP} {Q : Out} {ty : TypeId} {d : Nat} {pos : String} {after : Array Edge}
theorem r_s2b {src dt e : TypeId} {x : Operand} {s : Bs} (hs : P.underlying src = some .string) (ht : P.underlying dt = some (.slice e)) (he : P.underlying e = some (.int .u8)) (hx : ev L x = some (vS s)) (hl : s.length ≤ maxLen) (hd : Nat.blt d n = true)
    (K : ∀ b cap, wo r P n ops os ((d, .slice (some ⟨b, 0, none⟩) s.length cap) :: L) (RowZ e (.slice (some ⟨b, 0, none⟩) s.length cap) s.length (vUs s) :: Hs) Q) : wo r P n ops (⟨some d, .convert src dt x, ty, pos, after, none⟩ :: os) L Hs Q := by
 intro a M m st w hf dj t
 have hsz : (⟨s.toArray⟩ : ByteArray).size = s.length := rfl
 have hge := grownCap_ge w s.length 0 e
 have hcm : grownCap w s.length 0 e ≤ maxLen := grownCap_le_maxLen w s.length 0 e hl
 have hrow : bytesRow ⟨s.toArray⟩ (grownCap w s.length 0 e) = (vUs s ++ List.replicate (grownCap w s.length 0 e - s.length) (vU 0)).toArray := by
  apply Array.ext'
  simp [bytesRow, vUs, hsz]
 have hrl : (vUs s ++ List.replicate (grownCap w s.length 0 e - s.length) (vU 0)).length = grownCap w s.length 0 e := by simp [vUs]; omega
 have hrun : (execOp a.eval ⟨some d, .convert src dt x, ty, pos, after, none⟩).run P w = .ok (.value (.slice (some ⟨w.heap.size, 0, none⟩) s.length (grownCap w s.length 0 e))) (w.drew.alloc (.cells (vUs s ++ List.replicate (grownCap w s.length 0 e - s.length) (vU 0)).toArray e (grownCap w s.length 0 e, grownCap w s.length 0 e + 1))) := by
  have h1 := run_bytes_of_string (P := P) w src dt e ⟨s.toArray⟩ hs ht he
  rw [hsz, hrow] at h1
  simp only [List.size_toArray, hrl] at h1
  simp only [execOp, st.1.ev hx, Sem.run_bind]
  rw [show (vS s) = Value.string ⟨s.toArray⟩ from rfl, h1]; rfl
 simp only [wpL, Region.wanted, if_true]
 rw [Oper.semAt_eq _ _ _ (by intro c; simp), hrun]
 generalize hcap : grownCap w s.length 0 e = cap at *
 generalize hcells : vUs s ++ List.replicate (cap - s.length) (vU 0) = cur at *
 have t2 := t.drew.alloc (.cells cur.toArray e (cap, cap + 1))
 obtain ⟨f1, f2⟩ := fresh_none t.drew
 obtain ⟨f3, f4⟩ := Res.add_none.1 f2
 rw [← Res.add_assoc] at t2
 refine K w.heap.size cap _ M ((Res.one w.heap.size (.cells cur.toArray e (cap, cap + 1))).add m) ⟨st.1.put hd, ?_⟩ _ hf (Res.dj_add_left.2 ⟨one_dj f4, dj⟩) t2
 obtain ⟨g1, g2, dg, e1, y, s2⟩ := st.2
 subst e1
 obtain ⟨f5, f6⟩ := Res.add_none.1 f3
 have hvl : (vUs s).length = s.length := by simp [vUs]
 have htk : cur.take s.length = vUs s := by rw [← hcells]; exact List.take_left' hvl
 replace f5 : g1 w.heap.size = none := f5
 replace f6 : g2 w.heap.size = none := f6
 exact ⟨g1, (Res.one w.heap.size _).add g2, Res.dj_add_right.2 ⟨Res.dj_comm (one_dj f5), dg⟩, by rw [← Res.add_assoc, Res.add_comm (one_dj f5), Res.add_assoc], y,
  Res.one w.heap.size _, g2, one_dj f6, rfl, ⟨w.heap.size, cap, cur, (cap, cap + 1), rfl, hge, hcm, hrl, by simp [vUs], htk, .inr (Nat.le_refl _), rfl⟩, s2⟩
end
end
section
/-- append(s, x...) where s may bear a mark behind its cells. -/
theorem run_append_rowz {P : Program} {t ty e : TypeId} {i : TypeInfo} {z : Value} (ht : P.underlying t = some (.slice e)) (hi : P.info? e = some i) (hz : i.zero = some z) (hzs : z.cells.size = i.size) (hsz : i.size = 1)
    {v : Value} {k : Nat} {xs : List Value} {w : World} {M : Kn} {h hf : Res} (dj : h.dj hf) (s : Sat w M (h.add hf)) (hr : RowZAt v k xs e M h)
    {a : Addr} {m c : Nat} {news : List Value} (hl : news.length = m) (hnews : ∀ j u, news[j]? = some u → w.cell? (a.add j) = some u) (h1 : ∀ u ∈ news, oneCell u = true)
    (hbytes : (k + m) * i.bytes ≤ 140737488355328) (h63 : k + m ≤ maxLen) :
    ∃ v' w' h', (Builtin.append_ #[t, t] ty #[v, .slice (some a) m c]).run P w = .ok v' w' ∧ h'.dj hf ∧ Sat w' M (h'.add hf) ∧ RowZAt v' (k + m) (xs ++ news) e M h' := by
 have h1' : ∀ u ∈ news, u.oneCell' = true := fun u hu => oneCell_iff.1 (h1 u hu)
 have hsmall : k + m ≤ 9223372036854775807 := by simp only [maxLen] at h63; omega
 have hl1 : news.length = m * i.size := by rw [hsz, Nat.mul_one]; exact hl
 obtain ⟨g, cap, cur, fz, rfl, hkc, hcm, hcl, hxl, htake, hfz, rfl⟩ := hr
 have hg : w.heap[g]? = some (.cells cur.toArray e fz) := s.ow _ _ (by simp [Res.add, Res.one])
 by_cases hroom : k + m ≤ cap
 · have hst : ∃ w', (storeCells ⟨g, k, none⟩ news 0).run P w = .ok () w' ∧ w'.heap[g]? = some (.cells (setAt cur k news).toArray e fz) ∧ (∀ j, j ≠ g → w'.heap[j]? = w.heap[j]?) ∧ Env w w' := by
     rcases hfz with rfl | hfz
     · have := run_storeCells_ce (P := P) (b := g) (T := e) news w cur k 0 hg (List.all_eq_true.2 h1) (by omega)
       simpa using this
     · have := run_storeCells_cez (P := P) (b := g) (T := e) news w cur k 0 hg (by omega) (List.all_eq_true.2 h1) (by omega)
       simpa using this
   obtain ⟨w', hr, hb', ho', he'⟩ := hst
   have hfc := run_firstCells_some (P := P) w i.size m a m c news hl1 hnews
   rw [hsz] at hfc
   refine ⟨.slice (some ⟨g, 0, none⟩) (k + m) cap, w', Res.one g (.cells (setAt cur k news).toArray e fz), ?_, dj_one_any dj, Sat.setBlk dj s hb' ho' he', ⟨g, cap, setAt cur k news, fz, rfl, hroom, hcm, by rw [length_setAt]; exact hcl, by simp [hxl, hl], ?_, hfz, rfl⟩⟩
   · simp [Builtin.append_, run_underlying ht, sizeOf, typeInfo, hi, Builtin.lenOf, hroom, hfc, Addr.add_lit, hsz, hr]
   · have hcur : cur = xs ++ ((cur.drop k).take m ++ cur.drop (k + m)) := by
       rw [← htake, ← List.drop_drop, List.take_append_drop, List.take_append_drop]
     have hm := setAt_mid news xs ((cur.drop k).take m) (cur.drop (k + m)) (by rw [List.length_take, List.length_drop]; omega)
     rw [← hcur, hxl] at hm
     rw [hm, ← List.append_assoc]
     exact List.take_left' (by simp [hxl, hl])
 · have holds : ∀ j u, xs[j]? = some u → w.cell? ((⟨g, 0, none⟩ : Addr).add j) = some u := by
     intro j u hj
     have hlt := (List.getElem?_eq_some_iff.1 hj).1
     rw [addr_add, Nat.zero_add]
     simp only [World.cell?, hg]
     rw [← htake, List.getElem?_take_of_lt (by omega)] at hj
     simpa using hj
   have hr := run_append_grow (P := P) w t ty e i z ht hi hz ⟨g, 0, none⟩ k cap xs (by rw [hsz, Nat.mul_one]; exact hxl) holds a m c news hl1 hnews (by omega) (by omega) (growslice_fits (by omega) hbytes)
   have hge := grownCap_ge w (k + m) cap e
   have hcm2 : grownCap w (k + m) cap e ≤ maxLen := grownCap_le_maxLen w (k + m) cap e h63
   have s2 := s.drew.alloc (.cells (xs.toArray ++ news.toArray ++ Builtin.zeroCells z.cells (grownCap w (k + m) cap e - (k + m))) e)
   obtain ⟨f1, f2⟩ := fresh_none s.drew
   obtain ⟨f3, f4⟩ := Res.add_none.1 f2
   refine ⟨_, _, Res.one w.heap.size (.cells (xs.toArray ++ news.toArray ++ Builtin.zeroCells z.cells (grownCap w (k + m) cap e - (k + m))) e), hr, one_dj f4, s2.le ?_, ⟨w.heap.size, _, xs ++ news ++ (Builtin.zeroCells z.cells (grownCap w (k + m) cap e - (k + m))).toList, (0, 0), rfl, hge, hcm2, ?_, ?_, ?_, .inl rfl, ?_⟩⟩
   · intro b o e'
     simp only [Res.add] at e' ⊢
     show (match Res.one w.heap.size _ b with | some o => some o | none => _) = _
     cases eb : Res.one w.heap.size (Obj.cells (xs.toArray ++ news.toArray ++ Builtin.zeroCells z.cells (grownCap w (k + m) cap e - (k + m))) e) b with
     | some u => rw [eb] at e'; simpa using e'
     | none =>
       rw [eb] at e'
       rcases dj b with x | x
       · simpa [x] using e'
       · have e2 : hf b = some o := e'
         rw [x] at e2; cases e2
   · simp only [List.length_append, Array.length_toList, size_zeroCells, hzs, hxl, hl, hsz]; omega
   · simp [hxl, hl]
   · have : (xs ++ news).length = k + m := by simp [hxl, hl]
     exact List.take_left' this
   · congr 2
     apply Array.ext'
     simp
section
variable {r : Option Nat} {P : Program} {n : Nat} {ops : Array Oper} {os : List Oper} {A : List HP} {L : Loc} {Hs : List HP} {Q : Out} {ty : TypeId} {d : Nat} {pos : String} {after : Array Edge}
theorem opt_appendZ {dst : Option Tmp} {t e : TypeId} {x y : Operand} {i : TypeInfo} {z : Value} (ht : P.underlying t = some (.slice e)) (hi : P.info? e = some i) (hz : i.zero = some z) (hzs : Nat.beq z.cells.size i.size = true) (hsz : i.size = 1) {bytes : Nat} (hby : i.bytes = bytes)
    {v : Value} {k : Nat} {xs : List Value} {b off m c : Nat} {l news : List Value} {B : HP} (hx : ev L x = some v) (hy : ev L y = some (.slice (some ⟨b, off, none⟩) m c)) (sh : Shows B b l)
    (hl : news.length = m) (hnews : (l.drop off).take m = news) (h1 : news.all oneCell = true)
    (hbytes : (k + m) * bytes ≤ 140737488355328) (h63 : k + m ≤ maxLen) :
    OpT r P n ⟨dst, .call ⟨.builtin .append, #[x, y], #[t, t]⟩, ty, pos, after, none⟩ A L [RowZ e v k xs, B] (fun v' => v') (fun v' => ∃ a c, v' = .slice a (k + m) c) (fun v' => [RowZ e v' (k + m) (xs ++ news), B]) := by
 subst hby
 intro a f w M h hA hf dj dj' s sA t'
 obtain ⟨g1, g2, dg, e1, hrow, s2⟩ := s
 obtain ⟨g3, g4, dg2, e2, hB, _⟩ := s2
 subst e2; subst e1
 obtain ⟨d1, d2⟩ := Res.dj_add_right.1 dg
 obtain ⟨d3, d4⟩ := Res.dj_add_left.1 dj
 obtain ⟨d5, d6⟩ := Res.dj_add_left.1 dj'
 obtain ⟨d7, d8⟩ := Res.dj_add_left.1 d5
 have eq : ((g1.add (g3.add g4)).add hA).add hf = g1.add (((g3.add g4).add hA).add hf) := by simp only [Res.add_assoc]
 rw [eq] at t'
 have hcell : ∀ j u, news[j]? = some u → w.cell? ((⟨b, off, none⟩ : Addr).add j) = some u := by
  intro j u hj
  have hle : g3.le (((g3.add g4).add hA).add hf) := fun i o e => by simp [Res.add, e]
  have t2 : Sat w M ((((g3.add g4).add hA).add hf).add Res.emp) := by
   rw [Res.add_emp]
   exact t'.le (Res.le_add_right (Res.dj_add_right.2 ⟨Res.dj_add_right.2 ⟨dg, d3⟩, d7⟩))
  rw [addr_add, shows_cell sh t2 hle hB (off + j), ← drop_get]
  have hlt := (List.getElem?_eq_some_iff.1 hj).1
  rw [← hnews, List.getElem?_take_of_lt (by omega)] at hj
  exact hj
 obtain ⟨v', w', h', hr, djn, sn, rn⟩ := run_append_rowz (P := P) ht hi hz (Nat.eq_of_beq_eq_true hzs) hsz (hf := ((g3.add g4).add hA).add hf) (Res.dj_add_right.2 ⟨Res.dj_add_right.2 ⟨dg, d3⟩, d7⟩) t' hrow hl hcell (fun u hu => List.all_eq_true.1 h1 u hu) hbytes h63 (ty := ty) (c := c)
 have hrun : (execOp a.eval ⟨dst, .call ⟨.builtin .append, #[x, y], #[t, t]⟩, ty, pos, after, none⟩).run P w = .ok (.value v') w' := by
  simp [execOp, resolve, f.ev hx, f.ev hy, invoke, builtin, hr]
 rw [hrun]
 obtain ⟨y1, y2⟩ := Res.dj_add_right.1 djn
 obtain ⟨y3, y4⟩ := Res.dj_add_right.1 y1
 have hsl : ∃ a c, v' = .slice a (k + m) c := by obtain ⟨g, cap, cur, fz, h, _⟩ := rn; exact ⟨_, _, h⟩
 refine ⟨v', M, h'.add (g3.add g4), rfl, hsl, Kn.le_refl _, Res.dj_add_left.2 ⟨y4, d4⟩, Res.dj_add_left.2 ⟨Res.dj_add_left.2 ⟨y2, d8⟩, d6⟩, ?_, h', g3.add g4, y3, rfl, rn, g3, g4, dg2, rfl, hB, trivial⟩
 have eq2 : ((h'.add (g3.add g4)).add hA).add hf = h'.add (((g3.add g4).add hA).add hf) := by simp only [Res.add_assoc]
 rw [eq2]; exact sn
end
end
end Go.Proofs.YtdnoacgopfcpbaaGreat
