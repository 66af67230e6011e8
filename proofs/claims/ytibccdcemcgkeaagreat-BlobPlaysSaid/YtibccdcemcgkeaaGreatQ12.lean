/- Texts of this proof, put together: PDel3, SMaps, SStore1, SStore2, SStore3, SStore4, SStore5, SStore6. -/
import Derived.Sort.Row
import Derived.Test.YtibccdcemcgkeaaGreatQ11
set_option linter.unusedVariables false
set_option linter.unusedSimpArgs false
namespace Go.Proofs.YtibccdcemcgkeaaGreat
theorem getD_mid (p : Bs) (c : UInt8) (r : Bs) : (p ++ c :: r).getD p.length 0 = c := by simp
/-- The end of a delta. -/
theorem go_end {src d p tgt : Bs} (hd : d = p ++ (putN (chkB tgt) ++ [59])) : goB src d tgt.length (d.length + 1) p.length tgt = some tgt := by
 have hr := rdN_put (chkB_lt tgt) p 59 [] (by decide)
 have hl : d.length = p.length + (putN (chkB tgt)).length + 1 := by rw [hd]; simp; omega
 rw [goB_step (by omega), hd, hr, ← hd]
 dsimp only
 have hg : d.getD (p.length + (putN (chkB tgt)).length) 0 = 59 := by
  have := getD_mid (p ++ putN (chkB tgt)) 59 []
  rw [List.length_append, List.append_assoc, ← hd] at this
  exact this
 rw [if_neg (by omega), if_pos hg, if_pos ⟨by omega, rfl, rfl⟩]
theorem go_plain {src d p s rest out : Bs} {size : Nat} (hd : d = p ++ (putN s.length ++ [58] ++ s ++ rest)) (h0 : s ≠ []) (hn : s.length ≤ 1073741824) (ho : out.length + s.length ≤ size) :
    goB src d size (d.length + 1) p.length out = goB src d size (d.length + 1) (p ++ (putN s.length ++ [58] ++ s)).length (out ++ s) := by
 have hd2 : d = p ++ (putN s.length ++ 58 :: (s ++ rest)) := by rw [hd]; simp
 have hr := rdN_put hn p 58 (s ++ rest) (by decide)
 have hl : d.length = p.length + (putN s.length).length + 1 + s.length + rest.length := by rw [hd2]; simp; omega
 rw [← hd2] at hr
 rw [goB_step (by omega), hr]
 dsimp only
 have hg : d.getD (p.length + (putN s.length).length) 0 = 58 := by
  have := getD_mid (p ++ putN s.length) 58 (s ++ rest)
  rw [List.length_append, List.append_assoc, ← hd2] at this
  exact this
 have hs0 : 0 < s.length := List.length_pos_iff.2 h0
 rw [if_neg (by omega), if_neg (by rw [hg]; decide), cmdB_58 (by omega) hg, if_neg (by omega), if_pos (by omega)]
 dsimp only
 have ht : (d.drop (p.length + (putN s.length).length + 1)).take s.length = s := by
  have e : p.length + (putN s.length).length + 1 = (p ++ (putN s.length ++ [58])).length := by simp; omega
  rw [e, show d = (p ++ (putN s.length ++ [58])) ++ (s ++ rest) by rw [hd]; simp, List.drop_left, List.take_left]
 rw [ht, if_neg (by omega)]
 congr 1
 simp; omega
theorem go_copy {src d p rest out : Bs} {n f size : Nat} (hd : d = p ++ (putN n ++ [64] ++ putN f ++ [44] ++ rest)) (h0 : 0 < n) (hn : n ≤ 1073741824) (hf : f ≤ 1073741824) (hs : f + n ≤ src.length) (ho : out.length + n ≤ size) :
    goB src d size (d.length + 1) p.length out = goB src d size (d.length + 1) (p ++ (putN n ++ [64] ++ putN f ++ [44])).length (out ++ (src.drop f).take n) := by
 have hd2 : d = p ++ (putN n ++ 64 :: (putN f ++ 44 :: rest)) := by rw [hd]; simp
 have hd3 : d = (p ++ (putN n ++ [64])) ++ (putN f ++ 44 :: rest) := by rw [hd]; simp
 have hr := rdN_put hn p 64 (putN f ++ 44 :: rest) (by decide)
 have hr2 := rdN_put hf (p ++ (putN n ++ [64])) 44 rest (by decide)
 have hl : d.length = p.length + (putN n).length + 1 + (putN f).length + 1 + rest.length := by rw [hd2]; simp; omega
 rw [← hd2] at hr
 rw [← hd3] at hr2
 have hpl : (p ++ (putN n ++ [64])).length = p.length + (putN n).length + 1 := by simp; omega
 rw [hpl] at hr2
 rw [goB_step (by omega), hr]
 dsimp only
 have hg : d.getD (p.length + (putN n).length) 0 = 64 := by
  have := getD_mid (p ++ putN n) 64 (putN f ++ 44 :: rest)
  rw [List.length_append, List.append_assoc, ← hd2] at this
  exact this
 have hg2 : d.getD (p.length + (putN n).length + 1 + (putN f).length) 0 = 44 := by
  have := getD_mid (p ++ (putN n ++ [64]) ++ putN f) 44 rest
  rw [List.length_append, hpl, List.append_assoc, ← hd3] at this
  exact this
 rw [if_neg (by omega), if_neg (by rw [hg]; decide), cmdB_64 (by omega) hg, if_neg (by omega), hr2]
 dsimp only
 rw [if_pos ⟨by omega, hg2, by omega, by omega⟩]
 dsimp only
 rw [if_neg (by rw [List.length_take, List.length_drop]; omega)]
 congr 1
 simp; omega
theorem mkF_out (src tgt : Bs) : ∀ (k i done : Nat) (out : Bs), mkF src tgt k i done out = out ++ mkF src tgt k i done [] := by
 intro k
 induction k with
 | zero => intro i done out; simp [mkF]
 | succ k ih =>
   intro i done out
   simp only [mkF]
   split
   · simp
   · split
     · exact ih _ _ _
     · rw [ih _ _ (out ++ _), ih _ _ ([] ++ _)]; simp
theorem go_pl {src d p s rest out : Bs} {size : Nat} (hd : d = p ++ (plainB s ++ rest)) (hn : s.length ≤ 1073741824) (ho : out.length + s.length ≤ size) :
    goB src d size (d.length + 1) p.length out = goB src d size (d.length + 1) (p ++ plainB s).length (out ++ s) := by
 by_cases e : s = []
 · subst e; simp [plainB]
 · have hp : plainB s = putN s.length ++ [58] ++ s := by rw [plainB, if_neg e]
   rw [hp] at hd ⊢
   exact go_plain hd e hn ho
theorem take_more (t : Bs) {a b : Nat} (h : a ≤ b) : t.take a ++ (t.drop a).take (b - a) = t.take b := by
 have := List.take_add (l := t) (i := a) (j := b - a)
 rw [show a + (b - a) = b by omega] at this
 exact this.symm
theorem lonB_le (src rest : Bs) : (lonB src rest).1 + (lonB src rest).2 ≤ src.length ∧ (lonB src rest).2 ≤ rest.length ∧ (src.drop (lonB src rest).1).take (lonB src rest).2 = rest.take (lonB src rest).2 := lonF_le src rest (Nat.le_refl src.length)
theorem go_made {src tgt d : Bs} (ht : tgt.length ≤ 300) (hs : src.length ≤ 1073741824) : ∀ (k i done : Nat) (p : Bs), done ≤ i → i ≤ tgt.length → tgt.length ≤ i + k → d = p ++ mkF src tgt k i done [] → goB src d tgt.length (d.length + 1) p.length (tgt.take done) = some tgt := by
 have fin : ∀ (done : Nat) (p : Bs), done ≤ tgt.length → d = p ++ ([] ++ plainB (tgt.drop done) ++ putN (chkB tgt) ++ [59]) → goB src d tgt.length (d.length + 1) p.length (tgt.take done) = some tgt := by
  intro done p hdl hd
  have hd1 : d = p ++ (plainB (tgt.drop done) ++ (putN (chkB tgt) ++ [59])) := by rw [hd]; simp
  rw [go_pl hd1 (by rw [List.length_drop]; omega) (by rw [List.length_take, List.length_drop]; omega), List.take_append_drop]
  exact go_end (by rw [hd1]; simp)
 intro k
 induction k with
 | zero =>
   intro i done p h1 h2 h3 hd
   exact fin done p (by omega) hd
 | succ k ih =>
   intro i done p h1 h2 h3 hd
   simp only [mkF] at hd
   split at hd
   · exact fin done p (by omega) hd
   · rename_i hil
     have hle := lonB_le src (tgt.drop i)
     generalize lonB src (tgt.drop i) = fn at hd hle
     obtain ⟨f, n⟩ := fn
     dsimp only at hd hle
     rw [List.length_drop] at hle
     split at hd
     · exact ih (i + 1) done p (by omega) (by omega) (by omega) hd
     · rename_i hn
       rw [mkF_out] at hd
       have hpt : ((tgt.drop done).take (i - done)).length = i - done := by rw [List.length_take, List.length_drop]; omega
       have hd1 : d = p ++ (plainB ((tgt.drop done).take (i - done)) ++ (putN n ++ [64] ++ putN f ++ [44] ++ mkF src tgt k (i + n) (i + n) [])) := by rw [hd]; simp [copyB]
       rw [go_pl hd1 (by omega) (by rw [List.length_take, hpt]; omega), take_more tgt h1]
       have hd2 : d = (p ++ plainB ((tgt.drop done).take (i - done))) ++ (putN n ++ [64] ++ putN f ++ [44] ++ mkF src tgt k (i + n) (i + n) []) := by rw [hd1]; simp
       rw [go_copy hd2 (by omega) (by omega) (by omega) (by omega) (by rw [List.length_take]; omega), hle.2.2]
       have htk : tgt.take i ++ (tgt.drop i).take n = tgt.take (i + n) := by
        have := take_more tgt (a := i) (b := i + n) (by omega)
        rwa [show i + n - i = n by omega] at this
       rw [htk]
       exact ih (i + n) (i + n) _ (Nat.le_refl _) (by omega) (by omega) (by rw [hd2]; simp)
theorem apply_make {src tgt : Bs} (ht : tgt.length ≤ 300) (hs : src.length ≤ 1073741824) : applyB src (makeB src tgt) = some tgt := by
 have hm : makeB src tgt = putN tgt.length ++ [10] ++ mkF src tgt tgt.length 0 0 [] := by rw [makeB, if_neg (by omega), mkF_out]
 have hr := rdN_put (n := tgt.length) (by omega) [] 10 (mkF src tgt tgt.length 0 0 []) (by decide)
 have hm2 : makeB src tgt = [] ++ (putN tgt.length ++ 10 :: mkF src tgt tgt.length 0 0 []) := by rw [hm]; simp
 rw [← hm2] at hr
 have hl : (makeB src tgt).length = (putN tgt.length).length + 1 + (mkF src tgt tgt.length 0 0 []).length := by rw [hm2]; simp; omega
 rw [applyB, show (0 : Nat) = ([] : Bs).length from rfl, hr]
 dsimp only
 simp only [List.length_nil, Nat.zero_add]
 have hg : (makeB src tgt).getD (putN tgt.length).length 0 = 10 := by rw [hm2]; exact getD_mid (putN tgt.length) 10 _
 rw [if_neg (by rintro (h | h | h); omega; exact h hg; omega)]
 have := go_made (d := makeB src tgt) ht hs tgt.length 0 0 (putN tgt.length ++ [10]) (Nat.le_refl _) (Nat.zero_le _) (by omega) hm
 rwa [List.length_append, List.length_singleton, List.take_zero] at this
theorem makeB_ne {src tgt : Bs} (ht : tgt.length ≤ 300) : makeB src tgt ≠ [] := by
 have hm : makeB src tgt = putN tgt.length ++ [10] ++ mkF src tgt tgt.length 0 0 [] := by rw [makeB, if_neg (by omega), mkF_out]
 rw [hm]; simp
/-- A text that another one goes on from is copied whole. -/
theorem lcp_pre (s t : Bs) : lcpN s (s ++ t) = s.length := by
 induction s with
 | nil => simp [lcpN]
 | cons a s ih => simp [lcpN, ih]
theorem lon_pre {s : Bs} (h : s ≠ []) (t : Bs) : lonB s (s ++ t) = (0, s.length) := by
 have h0 : 0 < s.length := List.length_pos_iff.2 h
 have key : ∀ j, 0 < j → j ≤ s.length → lonF s (s ++ t) j = (0, s.length) := by
  intro j
  induction j with
  | zero => intro h; omega
  | succ j ih =>
    intro _ hj
    rcases Nat.eq_zero_or_pos j with e | e
    · subst e
      simp only [lonF, lonS, List.drop_zero, lcp_pre]
      rw [if_pos h0]
    · rw [lonF, ih e (by omega), lonS, if_neg]
      have := (lcp_le (s.drop j) (s ++ t)).1
      rw [List.length_drop] at this
      dsimp only; omega
 exact key s.length h0 (Nat.le_refl _)
/-- The delta of a text that goes on by a few bytes. -/
theorem make_pre {s t : Bs} (hs : 16 ≤ s.length) (ht : t.length < 16) (h : s.length + t.length ≤ 300) :
    makeB s (s ++ t) = putN (s.length + t.length) ++ [10] ++ copyB s.length 0 [] ++ plainB t ++ putN (chkB (s ++ t)) ++ [59] := by
 have hne : s ≠ [] := fun e => by rw [e] at hs; simp at hs
 have hl : (s ++ t).length = s.length + t.length := List.length_append
 rw [makeB, if_neg (by omega), mkF_step s (s ++ t) (by omega), List.drop_zero, lon_pre hne]
 dsimp only
 rw [if_neg (by omega), Nat.zero_add]
 have key : ∀ k i done out, s.length ≤ i → (s ++ t).length ≤ i + k → mkF s (s ++ t) k i done out = out ++ plainB ((s ++ t).drop done) ++ putN (chkB (s ++ t)) ++ [59] := by
  intro k
  induction k with
  | zero => intro i done out _ _; rfl
  | succ k ih =>
    intro i done out h1 h2
    rw [mkF]
    split
    · rfl
    · have h3 := lonB_le s ((s ++ t).drop i)
      rw [List.length_drop] at h3
      rw [if_pos (by omega)]
      exact ih (i + 1) done out (by omega) (by omega)
 rw [key _ _ _ _ (Nat.le_refl _) (by omega), List.drop_left, hl]
 simp [copyB, plainB]
section
set_option maxRecDepth 100000
section
variable {r : Option Nat} {P : Program} {n : Nat} {ops : Array Oper} {A : List HP} {L : Loc} {Hs : List HP} {ty : TypeId} {d : Nat} {pos : String} {after : Array Edge}
theorem opt_mapsClone {dst : Option Tmp} {t : TypeId} {x : Operand} {g b : Nat} {ks : Ks} {ts : Array TypeId} (hg : ∀ (args : Array Value) (w : World), (callFunc g args).run P w = ((Extern.MapsClone.clone args).run P w).andThen fun v w' => .ok (.value v) w') (hx : ev L x = some (.iface t (.map (some b)))) :
    OpT r P n ⟨dst, .call ⟨.value (.func g), #[x], ts⟩, ty, pos, after, none⟩ A L [MapS b ks] (fun i : Nat => .iface t (.map (some i))) (fun _ => True) (fun i => [Al [MapS b ks, MapS i ks]]) := by
 refine opt_turnX (fun a f w M h1 hf dj tt hm => ?_)
 obtain ⟨es, clock, e1, g'⟩ := hm
 subst e1
 have hb : w.heap[b]? = some (.map es clock) := tt.ow _ _ (by simp [Res.add, Res.one])
 obtain ⟨f1, f2⟩ := fresh_none tt
 have t2 := tt.alloc (.map es clock)
 have hd2 : (Res.one w.heap.size (.map es clock)).dj ((Res.one b (.map es clock)).add hf) := one_dj f2
 obtain ⟨d1, d2⟩ := Res.dj_add_right.1 hd2
 refine ⟨w.heap.size, w.alloc (.map es clock), (Res.one b (.map es clock)).add (Res.one w.heap.size (.map es clock)), trivial, Res.dj_add_left.2 ⟨dj, d2⟩, ?_, ⟨Res.one b (.map es clock), Res.one w.heap.size (.map es clock), Res.dj_comm d1, rfl, ⟨es, clock, rfl, g'⟩, Res.one w.heap.size (.map es clock), Res.emp, Res.dj_emp _, (Res.add_emp _).symm, ⟨es, clock, rfl, g'⟩, trivial⟩, ?_⟩
 · rw [Res.add_comm (Res.dj_comm d1), Res.add_assoc]; exact t2
 · have hc := run_maps_clone_sl (P := P) w t hb
   have hfv : a.eval (.func g) = .func (.func g) #[] #[] := rfl
   have hargs : #[x].map a.eval = #[.iface t (.map (some b))] := by simp [f.ev hx]
   simp only [execOp, resolve, hfv, Deferred.ofValue, hargs, Sem.run_bind, Sem.run_pure, Result.andThen_ok, invoke]
   simp [hg, hc]
theorem pv_mkIface2 {t k e : TypeId} {x : Operand} {v : Value} (hx : ev L x = some v) (ht : P.underlying t = some (.map k e)) : PV P n L (.makeInterface t x) ty (.iface t v) :=
 ⟨by intro c; simp, fun a f w _ _ _ _ => by simp [execOp, f.ev hx, run_makeInterface (P := P) (w := w) t v (by simp [Program.concrete, ht])]⟩
theorem pv_assertMap {x : Operand} {xT t k e : TypeId} {v : Value} (ht : P.underlying t = some (.map k e)) (hx : ev L x = some (.iface t v)) : PV P n L (.typeAssert x xT t false) ty v :=
 ⟨by intro c; simp, fun a f w _ _ _ _ => by simp only [execOp, f.ev hx, Sem.run_bind, run_typeAssert_map_sl w t xT k e v ht, Result.andThen_ok, Sem.run_pure]⟩
end
set_option maxHeartbeats 2000000 in
theorem maps_Clone_sp (b : Nat) (ks : Ks) : Sp Tryz.prog 151 [.map (some b)] [MapS b ks] (X := Nat) (fun i => .map (some i)) (fun _ => True) (fun i => [MapS b ks, MapS i ks]) := by
 refine Sp.body (n := 9) Tryz.call151 Tryz.func151 rfl rfl rfl ?_
 refine Qc (k:=Vv (k:=Wq (Za (k:=Qc (k:=Vv (k:=?_))))))
 refine wo_pv (pv_meql_nil Tryz.underlying93 rfl rfl) rfl ?_
 refine Wq (Zi (t:=fun h4 => ?_) (f:=fun h4 => ?_))
 ·
  simp at h4
  --done
 ·
  refine Zk (k:=Ya (Qc (k:=Vv (k:=?_))))
  refine wo_pv (pv_mkIface2 rfl Tryz.underlying93) rfl ?_
  refine wo_opT (by intro c; simp) (opt_mapsClone (b := b) (ks := ks) (fun args w => run_callFunc_extern Tryz.func186 (by kernel_rfl) (by kernel_rfl) (by kernel_rfl) (e := Extern.MapsClone.clone) (by kernel_rfl) args w) rfl) rfl (fun i _ => ?_)
  refine wo_al ?_
  refine wo_pv (pv_assertMap Tryz.underlying93 rfl) rfl ?_
  refine Vv (k:=Wq (Zt (k:=?_)))
  refine fin_ret i (vs := [_]) (Cs := []) rfl (.tmp rfl .nil) rfl trivial ?_
  exact ent_pick
theorem maps_Keys_sp (m : Option Nat) : Sp Tryz.prog 153 [.map m] [] (X := Nat) (fun b => .func (.func 188) #[] #[.pointer (some ⟨b, 0, none⟩)]) (fun _ => True) (fun b => [Ce b 93 [.map m]]) := by
 refine Sp.body (n := 4) Tryz.call153 Tryz.func153 rfl rfl rfl ?_
 refine Qc (k:=Zx [_] (k:=fun b1 => Vv (k:=Wq (Qc (k:=Qv (k:=Wq (Zt (k:=?_))))))))
 refine fin_ret b1 (vs := [_]) (Cs := []) rfl (.tmp rfl .nil) rfl trivial ?_
 exact ent_pick
abbrev okK (ks : Ks) : List Bs → Bs → Prop := fun pre k => k ∈ ks.map (·.1) ∧ k ∉ pre ∧ pre.length < ks.length
theorem maps_Keys_it (c b : Nat) (ks : Ks) : IterU Tryz.prog 188 [.pointer (some ⟨c, 0, none⟩)] (fun k : Bs => [vS k]) (okK ks) (fun _ => True)
    [Ce c 93 [.map (some b)], MapS b ks] [Ce c 93 [.map (some b)], MapS b ks] (fun l => l.Perm (ks.map (·.1))) (fun _ => .tuple #[]) := by
 intro y J Jx ys
 refine Sp.body (n := 14) Tryz.call188 Tryz.func188 rfl rfl rfl ?_
 refine Qc (k:=Zd (k:=?_))
 refine r_range Tryz.underlying93 rfl rfl (fun b5 => ?_)
 refine Wq (Zb (k:=?_))
 refine p_loop (fun (i : List Bs) => [(0, y), (5, .pointer (some ⟨b5, 0, none⟩))]) (fun (i : List Bs) => [J i, Ce c 93 [.map (some b)], MapIt b b5 ks i]) (fun (i : List Bs) => ks.length - i.length) rfl ([]) ?_ ?_ (fun i => ?_)
 · exact ⟨rfl, rfl, trivial⟩
 ·
  exact ent_pick
 refine wc_know (A := MapIt b b5 ks i) (.there (.there .here)) mapit_len (fun hlen => ?_)
 try dsimp only
 refine Qc (k:=?_)
 refine r_next rfl rfl (fun o6 ho6 => ?_)
 refine wo_pv (pv_nx0 rfl) rfl ?_
 refine Wq (Za (k:=Zi (t:=fun h7 => ?_) (f:=fun h7 => ?_)))
 ·
  obtain ⟨⟨k, v⟩, rfl⟩ := Option.isSome_iff_exists.1 h7
  obtain ⟨hm, hk⟩ := ho6
  have hk1 : k ∈ ks.map (·.1) := List.mem_map_of_mem (f := fun p : Bs × Value => p.1) hm
  have hl2 : i.length < ks.length := by
   have := nodup_len (l := i ++ [k]) (m := ks.map (·.1)) (by rw [List.nodup_append]; exact ⟨hlen.2.1, by simp, fun a ha c hc e => by simp only [List.mem_singleton] at hc; subst hc; subst e; exact hk ha⟩) (fun x hx => by rcases List.mem_append.1 hx with h | h; exact hlen.2.2 x h; simp only [List.mem_singleton] at h; subst h; exact hk1)
   rw [List.length_append, List.length_singleton, List.length_map] at this
   omega
  dsimp only [nxD]
  refine Zk (k:=Ya (Zb (k:=Qc (k:=?_))))
  refine r_entry (b := b) (ks := ks) (done := i) (k := k) (v := v) hm rfl rfl ?_
  refine Qv (k:=Wq (Qc (k:=Qv (k:=?_))))
  refine r_yield ys i k ⟨hk1, hk, hl2⟩ rfl rfl rfl ?_ ?_
  ·
   refine Vv (k:=Wq (Z0 (k:=Zk (k:=Yb ?_))))
   refine to_inv (i ++ [k]) ?_ ⟨rfl, rfl, trivial⟩ ?_
   · rw [List.length_append, List.length_singleton]; omega
   · exact ent_pick
  ·
   refine Vv (k:=Wq (Z1 (k:=Zt (k:=Vb (Vi (Vb ?_))))))
   refine fin_ret (some (i ++ [k]), []) (vs := []) (Cs := []) rfl .nil rfl ⟨fun pre e => trivial, fun e => by cases e⟩ ?_
   simp only [endsAt]
   refine ent_cons (ent_cons ?_)
   refine (mapit_done (i := b5)).trans ?_
   exact ent_pick
 ·
  have hnone : o6 = none := by cases o6 with
   | none => rfl
   | some p => simp at h7
  subst hnone
  dsimp only [nxD]
  refine Ze (k:=Xa (Xi (Xb ?_)))
  refine tw_know (A := MapIt b b5 ks i) .here (fun x => mapit_perm x ho6) (fun hperm => ?_)
  refine fin_end (none, i) (vs := []) (Cs := []) rfl .nil rfl ⟨(fun pre e => by cases e), fun _ => hperm⟩ ?_
  simp only [endsAt]
  refine ent_cons (ent_cons ?_)
  refine (mapit_done (i := b5)).trans ?_
  exact ent_pick
/-- slices.AppendSeq, to nothing, of what is walked to its end. -/
theorem slices_AppendSeq_sp {g : Nat} {lb : List Value} {ok : List Bs → Bs → Prop} {stopped : List Bs → Prop} {As Bs' : List HP} {fin : List Bs → Prop} {val : Option (List Bs) → Value}
    (it : IterU Tryz.prog g lb (fun k : Bs => [vS k]) ok stopped As Bs' fin val) (N : Nat) (hN : N ≤ 4398046511104) (hlim : ∀ pre x, ok pre x → pre.length < N) [hp : PicksC As As []] :
    Sp Tryz.prog 205 [.slice none 0 0, .func (.func g) #[] lb.toArray] As (X := (Option Addr × Nat) × List Bs) (fun x => .slice x.1.1 x.2.length x.1.2) (fun x => fin x.2) (fun x => Row 9 1 (.slice x.1.1 x.2.length x.1.2) x.2.length (x.2.map vS) :: Bs') := by
 refine Sp.body (n := 13) Tryz.call205 Tryz.func205 rfl rfl rfl ?_
 refine Qc (k:=Zx [_] (k:=fun b2 => Vv (k:=Wq (Za (k:=Qc (k:=Vv (k:=Wq (Zb (k:=?_)))))))))
 refine p_rangeFuncU (fun pre => [Ex fun s : Option Addr × Nat => Al [Ce b2 27 [.slice s.1 pre.length s.2], Row 9 1 (.slice s.1 pre.length s.2) pre.length (pre.map vS)]]) (fun j pre => [Pu False]) rfl it rfl (fun _ => by rfl) rfl ?_ (fun l pre k hok => ?_) (fun all hfin => ?_) (fun j pre hs => ?_)
 · (refine ent_app ?_; refine ent_ex (none, 0) (ent_al ?_); exact ent_cons (ent_step row_nil ent_pick))
 ·
  have hpl := hlim pre k hok
  refine wc_exi fun s => wc_al ?_
  refine Zr (k:=Vv (k:=Wg (Zb (k:=Zr (k:=Zd (k:=Vv (k:=Zv [_] (cs := [_]) (k:=fun b10 => ?_))))))))
  refine r_append1 (sz := 1) (bytes := 16) Tryz.underlying27 ti9 rfl rfl rfl rfl rfl rfl rfl (by rfl) (by rfl) (by omega) (by simp only [maxLen]; omega) rfl (fun a11 c11 => ?_)
  refine Zo (k:=Wn (Yb ?_))
  refine to_round ?_
  refine ent_ex (a11, c11) (ent_al ?_)
  simp only [List.length_append, List.length_singleton, List.map_append, List.map_cons, List.map_nil]
  exact ent_pick
 ·
  simp only [List.singleton_append]
  refine Yb (Ya (Za (k:=?_)))
  refine wc_exi fun s => wc_al ?_
  refine Zr (k:=Zd (k:=Vv (k:=Wq (Zt (k:=?_)))))
  refine fin_ret ((s.1, s.2), all) (vs := [_]) (Cs := []) rfl (.tmp rfl .nil) rfl hfin ?_
  rw [List.append_nil]
  exact ent_cons ent_tail
 ·
  exact wc_no (fun s => by obtain ⟨_, _, _, _, a, _⟩ := s; exact a)
theorem slices_Collect_sp {g : Nat} {lb : List Value} {ok : List Bs → Bs → Prop} {stopped : List Bs → Prop} {As Bs' : List HP} {fin : List Bs → Prop} {val : Option (List Bs) → Value}
    (it : IterU Tryz.prog g lb (fun k : Bs => [vS k]) ok stopped As Bs' fin val) (N : Nat) (hN : N ≤ 4398046511104) (hlim : ∀ pre x, ok pre x → pre.length < N) [hp : PicksC As As []] :
    Sp Tryz.prog 187 [.func (.func g) #[] lb.toArray] As (X := (Option Addr × Nat) × List Bs) (fun x => .slice x.1.1 x.2.length x.1.2) (fun x => fin x.2) (fun x => Row 9 1 (.slice x.1.1 x.2.length x.1.2) x.2.length (x.2.map vS) :: Bs') := by
 refine Sp.body (n := 5) Tryz.call187 Tryz.func187 rfl rfl rfl ?_
 refine Qc (k:=Vv (k:=Wq (Qc (k:=Vv (k:=?_)))))
 refine r_callX (slices_AppendSeq_sp it N hN hlim) rfl rfl rfl (fun x hx => ?_)
 refine Vv (k:=Wq (Zt (k:=?_)))
 refine fin_ret x (vs := [_]) (Cs := []) rfl (.tmp rfl .nil) rfl hx ?_
 simp only [List.append_nil]
 exact Ent.refl _
/-! Sorting texts. -/
theorem bits_Len_zero : SpF Tryz.prog 105 [.int .u64 0] (vI 0) := SpF.of_same Tryz.call105 fun w => (Tryz.bits_Len 0 w (by omega) (by omega)).mono fun e w' ⟨h1, h2⟩ => ⟨by rw [h1]; rfl, h2⟩
theorem insertionSort_nil : SpF Tryz.prog 156 [.slice none 0 0, vI 0, vI 0] (.tuple #[]) := by
 refine Sp.body (n := 49) Tryz.call156 Tryz.func156 rfl rfl rfl ?_
 refine Qc (k:=Qv (k:=Vv (k:=Wq (Zb (k:=?_)))))
 refine p_loop (fun (i : Unit) => [(0, .slice none 0 0), (1, vI 0), (2, vI 0), (6, vI 1)]) (fun (i : Unit) => []) (fun (i : Unit) => 0) rfl (()) ?_ ?_ (fun i => ?_)
 · exact ⟨rfl, rfl, rfl, rfl, trivial⟩
 ·
  exact Ent.refl _
 try dsimp only
 refine Za (k:=Qc (k:=Qv (k:=Vv (k:=Wq (Zi (t:=fun h12 => ?_) (f:=fun h12 => ?_))))))
 ·
  simp at h12
  --done
 ·
  refine Ze (k:=Xa (Xi (Xb ?_)))
  exact fin_end () (vs := []) (Cs := []) rfl .nil rfl trivial ent_nil
theorem pdqsort_nil : SpF Tryz.prog 104 [.slice none 0 0, vI 0, vI 0, vI 0] (.tuple #[]) := by
 refine Sp.body (n := 134) Tryz.call104 Tryz.func104 rfl rfl rfl ?_
 refine Qc (k:=Vv (k:=Wq (Qc (k:=Vv (k:=Wq (Zb (k:=?_)))))))
 refine p_loop (fun (i : Unit) => [(0, .slice none 0 0), (1, vI 0), (2, vI 0), (3, vI 0)]) (fun (i : Unit) => []) (fun (i : Unit) => 0) rfl (()) ?_ ?_ (fun i => ?_)
 · exact ⟨rfl, rfl, rfl, rfl, trivial⟩
 ·
  exact Ent.refl _
 try dsimp only
 refine Zb (k:=Qc (k:=Qv (k:=Qv (k:=Wq (Za (k:=Qc (k:=Vv (k:=?_))))))))
 refine Vv (k:=Wq (Zi (t:=fun h23 => ?_) (f:=fun h23 => ?_)))
 ·
  refine Qc (k:=Qv (k:=Vv (k:=?_)))
  refine r_callF insertionSort_nil rfl rfl rfl ?_
  refine Wq (Zt (k:=Va (Vb (Vi (Vb ?_)))))
  exact fin_ret () (vs := []) (Cs := []) rfl .nil rfl trivial ent_nil
 ·
  simp at h23
  --done
theorem slices_Sort_nil : SpF Tryz.prog 55 [.slice none 0 0] (.tuple #[]) := by
 refine Sp.body (n := 11) Tryz.call55 Tryz.func55 rfl rfl rfl ?_
 refine Qc (k:=Qv (k:=Vv (k:=Wq (Zr (k:=Qv (k:=Vv (k:=?_)))))))
 refine wo_pv (pv_conv_in (i := 0) rfl Tryz.underlying3 Tryz.underlying105 (by decide)) rfl ?_
 refine r_callF bits_Len_zero rfl rfl rfl ?_
 refine r_callF pdqsort_nil rfl rfl rfl ?_
 refine Wn ?_
 exact fin_end () (vs := []) (Cs := []) rfl .nil rfl trivial ent_nil
theorem sat_grow {w : World} {M : Kn} {h : Res} (t : Sat w M h) (os : Array Obj) : Sat (Go.Sort.grow w os) M h := by
 have old : ∀ i o, w.heap[i]? = some o → (Go.Sort.grow w os).heap[i]? = some o := fun i o e => by
  rw [Go.Sort.heap_grow_old w os (Array.getElem?_eq_some_iff.1 e).1]; exact e
 exact ⟨fun i o e => old i o (t.im i o e), fun i o e => old i o (t.ow i o e), t.dj, t.env.trans ⟨rfl, rfl, rfl, by simp⟩⟩
def sortB (l : List Bs) : List Bs := l.mergeSort fun x y => decide (x ≤ y)
theorem sortB_len (l : List Bs) : (sortB l).length = l.length := by simp [sortB]
theorem slices_Sort_sp (a : Option Addr) (n c : Nat) (l : List Bs) (hn : l.length = n) (hb : n < 4611686018427387904) :
    Sp1 Tryz.prog 55 [.slice a n c] [Row 9 1 (.slice a n c) n (l.map vS)] (.tuple #[]) [Row 9 1 (.slice a n c) n ((sortB l).map vS)] := by
 subst hn
 refine ⟨Tryz.call55, fun w M h hf d t s => ?_⟩
 obtain ⟨h1, h2, d12, e, hr, _⟩ := s
 subst e
 rcases hr with ⟨hv, hl, hx⟩ | ⟨g, cap, cur, hv, hnc, hcm, hcl, hxl, htk, hh⟩
 · have hl0 : l = [] := List.eq_nil_of_length_eq_zero hl
   subst hl0
   cases hv
   refine (slices_Sort_nil.calls w M (h1.add h2) hf d t trivial).mono ?_
   rintro ee w' ⟨x, M', h', rfl, _, le, dj, t', _⟩
   exact ⟨(), M', h', rfl, trivial, le, dj, t', Res.emp, h', Res.emp_dj _, rfl, .inl ⟨rfl, rfl, by simp [sortB]⟩, trivial⟩
 · cases hv
   subst hh
   rw [Nat.mul_one] at hcl htk
   obtain ⟨d1, d2⟩ := Res.dj_add_left.1 d
   have hg : w.heap[g]? = some (.cells cur.toArray 9 (0, 0)) := t.ow _ _ (by simp [Res.add, Res.one])
   have hlt : g < w.heap.size := (Array.getElem?_eq_some_iff.1 hg).1
   have hH : Go.Sort.Holds encStr w g 0 l.toArray := by
    intro j hj
    have hj' : j < l.length := by simpa using hj
    have hc : cur[j]? = some (vS l[j]) := by
     have := congrArg (fun q => q[j]?) htk
     simp only [List.getElem?_take, hj', if_true, List.getElem?_map, List.getElem?_eq_getElem hj', Option.map_some] at this
     exact this
    refine ⟨?_, ?_⟩
    · simp only [World.cell?, Nat.zero_add, hg]
      simp [hc, hj', encStr]
    · simp [World.frozen?, hg]
   have hcall := Tryz.slices_Sort_string g 0 c l w hH hlt hb
   refine CallsIn.mono (callsIn_wide.2 hcall) ?_
   rintro ee w' ⟨rfl, k, os, rfl⟩
   have hs : (l.mergeSort fun x y => decide (x ≤ y)) = sortB l := rfl
   rw [hs]
   have hsl := sortB_len l
   generalize hq : sortB l = q at hsl ⊢
   have hput : (Go.Sort.putRow encStr (Go.Sort.ahead w k) g 0 q.toArray).heap[g]? = some (.cells (q.map vS ++ cur.drop q.length).toArray 9 (0, 0)) := by
    have h0 : (Go.Sort.ahead w k).heap[g]? = some (.cells cur.toArray 9 (0, 0)) := hg
    simp only [Go.Sort.putRow, Go.Sort.mapBlock, Array.getElem?_modify, if_true, h0, Option.map_some, Go.Sort.onCells]
    congr 2
    apply Array.ext'
    simp only [Go.Sort.putCells, Array.toList_mapIdx]
    apply List.ext_getElem?
    intro j
    simp only [List.getElem?_mapIdx, Nat.zero_le, true_and, Nat.zero_add, List.size_toArray, Nat.sub_zero]
    by_cases hj : j < q.length
    · have hjc : j < cur.length := by have := congrArg List.length htk; simp at this; omega
      rw [List.getElem?_append_left (by simpa using hj)]
      simp [hj, hjc, encStr]
    · rw [List.getElem?_append_right (by simpa using Nat.le_of_not_lt hj)]
      simp only [List.length_map, List.getElem?_drop]
      have e : q.length + (j - q.length) = j := by omega
      rw [e]
      cases hc : cur[j]? with
      | none => simp [hc]
      | some v => simp [hc, hj]
   have hoth : ∀ i, i ≠ g → (Go.Sort.putRow encStr (Go.Sort.ahead w k) g 0 q.toArray).heap[i]? = w.heap[i]? := by
    intro i hi
    simp only [Go.Sort.putRow, Go.Sort.mapBlock, Array.getElem?_modify, Ne.symm hi, if_false]
    rfl
   have t1 : Sat w M ((Res.one g (.cells cur.toArray 9 (0, 0))).add (h2.add hf)) := by rw [← Res.add_assoc]; exact t
   have t2 := Sat.setBlk (Res.dj_add_right.2 ⟨d12, d1⟩) t1 hput hoth ⟨rfl, rfl, rfl, by simp⟩
   have dn : (Res.one g (.cells (q.map vS ++ cur.drop q.length).toArray 9 (0, 0))).dj (h2.add hf) := dj_one_any (Res.dj_add_right.2 ⟨d12, d1⟩)
   obtain ⟨dn1, dn2⟩ := Res.dj_add_right.1 dn
   refine ⟨(), M, (Res.one g (.cells (q.map vS ++ cur.drop q.length).toArray 9 (0, 0))).add h2, rfl, trivial, Kn.le_refl _, Res.dj_add_left.2 ⟨dn2, d2⟩, ?_, Res.one g _, h2, dn1, rfl, .inr ⟨g, c, q.map vS ++ cur.drop q.length, rfl, hnc, hcm, ?_, ?_, ?_, rfl⟩, trivial⟩
   · rw [Res.add_assoc]; exact sat_grow t2 os
   · simp; omega
   · simp; omega
   · rw [Nat.mul_one, ← hsl, List.take_left' (by simp)]
end
section
set_option maxRecDepth 100000
def rowG (o : Option (Rw × Bs)) : Rw := (o.map (·.1)).getD ⟨[], [], false⟩
def rowT (o : Option (Rw × Bs)) : Bs := (o.map (·.2)).getD []
theorem rowV_eq (o : Option (Rw × Bs)) : rowV o = .tuple #[.agg #[vS (rowG o).key, vS (rowG o).val, vB (rowG o).gone], vS (rowT o), vB o.isSome] := by
 cases o with
 | none => rfl
 | some p => obtain ⟨r, t⟩ := p; rfl
theorem store_Read_sp (s : List UInt8) (h : s.length ≤ 1099511627776) : Sp Tryz.prog 88 [vS s] [] (X := Option Addr × Nat) (fun x => .tuple #[.slice x.1 ((readR s).getD []).length x.2, vB (readR s).isSome]) (fun _ => True)
    (fun x => [Row 77 3 (.slice x.1 ((readR s).getD []).length x.2) ((readR s).getD []).length (((readR s).getD []).flatMap rowC)]) := by
 refine Sp.body (n := 24) Tryz.call88 Tryz.func88 rfl rfl rfl ?_
 refine Qc (k:=Qv (k:=Wq (Qc (k:=Vv (k:=Wq (Za (k:=Zb (k:=?_))))))))
 refine p_loop (fun (i : { p : (Option Addr × Nat) × List Rw × Bs // readR s = (readR p.2.2).map (p.2.1 ++ ·) ∧ p.2.1.length + p.2.2.length ≤ s.length }) => [(0, vS i.1.2.2), (4, .slice i.1.1.1 i.1.2.1.length i.1.1.2)]) (fun (i : { p : (Option Addr × Nat) × List Rw × Bs // readR s = (readR p.2.2).map (p.2.1 ++ ·) ∧ p.2.1.length + p.2.2.length ≤ s.length }) => [Row 77 3 (.slice i.1.1.1 i.1.2.1.length i.1.1.2) i.1.2.1.length (i.1.2.1.flatMap rowC)]) (fun (i : { p : (Option Addr × Nat) × List Rw × Bs // readR s = (readR p.2.2).map (p.2.1 ++ ·) ∧ p.2.1.length + p.2.2.length ≤ s.length }) => i.1.2.2.length) rfl (⟨((none, 0), [], s), by cases readR s <;> simp, by simp⟩) ?_ ?_ (fun i => ?_)
 · exact ⟨rfl, rfl, trivial⟩
 ·
  exact row_nil
 obtain ⟨⟨⟨a, c⟩, out, rs⟩, hi, hl⟩ := i
 dsimp only at hi hl
 try dsimp only
 refine Za (k:=Qc (k:=Qv (k:=Wq (Zi (t:=fun h9 => ?_) (f:=fun h9 => ?_)))))
 ·
  refine Zk (k:=Ya (Zb (k:=Za (k:=?_))))
  have hrow := store_row_sp rs (by omega)
  rw [rowV_eq] at hrow
  refine Zr (k:=Vv (k:=?_))
  refine r_callF hrow rfl rfl rfl ?_
  refine Qv (k:=Qv (k:=Zc [vS [], vS [], .bool false] (k:=fun b5 => Zp (k:=Qv (k:=Wq (Za (k:=Qc (k:=?_))))))))
  refine Qv (k:=Wq (Zi (t:=fun h17 => ?_) (f:=fun h17 => ?_)))
  ·
   refine Qc (k:=Qv (k:=Wq (Zt (k:=Va (Vb (Vi (Vb (Va ?_))))))))
   have hn : rowR rs = none := by cases e : rowR rs with
    | none => rfl
    | some q => rw [e] at h17; simp at h17
   have hi2 := readR_none h9 hn
   rw [hi2] at hi
   have hi3 : readR s = none := hi
   rw [hi3]
   refine fin_ret (none, 0) (vs := [_, _]) (Cs := []) rfl (.tmp rfl (.tmp rfl .nil)) rfl trivial ?_
   exact ent_step row_nil ent_nil
  ·
   refine Zk (k:=Ya (Zr (k:=Vv (k:=Zm [_, _, _] (k:=Zv [_] (cs := [_, _, _]) (k:=fun b20 => ?_))))))
   refine r_append1 (sz := 3) (bytes := 40) Tryz.underlying81 ti77 rfl rfl rfl rfl rfl rfl rfl (by rfl) (by rfl) (by omega) (by simp only [maxLen]; omega) rfl (fun a21 c21 => ?_)
   refine Qv (k:=Vv (k:=Wn (Yb ?_)))
   obtain ⟨q, hq⟩ : ∃ q, rowR rs = some q := by cases e : rowR rs with
    | none => rw [e] at h17; simp at h17
    | some q => exact ⟨q, rfl⟩
   obtain ⟨r, t⟩ := q
   have hlt := rowR_lt hq
   have hi2 := readR_some h9 hq
   rw [hq]
   refine to_inv ⟨((a21, c21), out ++ [r], t), ?_, ?_⟩ ?_ ⟨rfl, sl_eq (by simp), trivial⟩ ?_
   · rw [hi, hi2]; cases readR t <;> simp
   · simp only [List.length_append, List.length_singleton]; omega
   · exact hlt
   · simp only [List.flatMap_append, List.length_append, List.length_singleton]
     exact row_norm1 (by rfl) (by rfl)
 ·
  refine Ze (k:=Xa (Xi (Xb (Ya (Qc (k:=Qv (k:=Vv (k:=Wq (Zt (k:=?_))))))))))
  have hrs : rs = [] := by simpa using h9
  subst hrs
  rw [readR_nil] at hi
  have hi3 : readR s = some out := by rw [hi]; simp
  rw [hi3]
  refine fin_ret (a, c) (vs := [_, _]) (Cs := []) rfl (.tmp rfl (.tmp rfl .nil)) rfl trivial ?_
  simp only [Option.getD_some]
  exact ent_pick
end
section
set_option maxRecDepth 100000
theorem fold_newB {p T : Nat} {v0 v1 : Value} {Hs Rs : List HP} [q : OwnC p T [v0, v1] Hs Rs] (hT : T = 174) (h0 : v0 = .pointer none) (h1 : v1 = .slice none 0 0) : Ent Hs (IsB p [] :: Rs) := by
 subst hT; subst h0; subst h1
 refine ent_ex (.pointer none) ?_
 refine ent_ex (.slice none 0 0) ?_
 refine ent_al (ent_pu ⟨.inl rfl, fun _ => rfl⟩ ?_)
 exact ent_step (ent_pick1 q.get) row_nil
theorem textOf_split {l : List Rw} {j : Nat} (h : j < l.length) : textOf l = textOf (l.take j) ++ (rowText l[j] ++ textOf (l.drop (j + 1))) := by
 have e : l = l.take j ++ (l[j] :: l.drop (j + 1)) := by rw [← List.drop_eq_getElem_cons h, List.take_append_drop]
 unfold textOf
 conv => lhs; rw [e]
 rw [List.flatMap_append, List.flatMap_cons]
theorem textOf_succ {l : List Rw} {j : Nat} (h : j < l.length) : textOf (l.take (j + 1)) = textOf (l.take j) ++ rowText l[j] := by
 unfold textOf
 rw [List.take_succ_eq_append_getElem h, List.flatMap_append, List.flatMap_cons, List.flatMap_nil, List.append_nil]
theorem zb94next0 {G : Prop} (h : G := by
    refine to_inv ⟨j + 1, by omega⟩ (by dsimp only; omega) ⟨rfl, rfl, rfl, rfl, trivial⟩ ?_
    dsimp only
    rw [hsu, rowText, h19]
    simp only [List.append_assoc, if_true, Bool.false_eq_true, if_false]
    exact ent_pick) : G := h
theorem store_Text_sp {B : HP} {a : Option Addr} (n c : Nat) (l : List Rw) (sh : SlA B a (l.flatMap rowC)) (hn : l.length = n) (hb : n ≤ 140737488355328) (hk : ∀ r ∈ l, r.key.length ≤ 1073741824 ∧ r.val.length ≤ 1073741824) (ht : (textOf l).length ≤ 4398046511104) :
    Sp1 Tryz.prog 94 [.slice a n c] [B] (vS (textOf l)) [B] := by
 subst hn
 haveI : RdSl a (l.flatMap rowC) [B] := ⟨⟨B, sh, .here⟩⟩
 refine Sp.body (n := 38) Tryz.call94 Tryz.func94 rfl rfl rfl ?_
 refine Qc (k:=Vv (k:=Wq (Qc (k:=Zc [.pointer none, .slice none 0 0] (k:=fun b3 => ?_)))))
 refine wo_ent' (fold_newB (p := b3) (by rfl) (by rfl) (by rfl)) ?_
 refine Wq (Za (k:=Qc (k:=Qv (k:=Vv (k:=Wq (Zb (k:=?_)))))))
 refine p_loop (fun (i : { j : Nat // j ≤ l.length }) => [(3, .pointer (some ⟨b3, 0, none⟩)), (6, .slice a l.length c), (7, vI l.length), (8, vI i.1)]) (fun (i : { j : Nat // j ≤ l.length }) => [IsB b3 (textOf (l.take i.1)), B]) (fun (i : { j : Nat // j ≤ l.length }) => l.length - i.1) rfl (⟨0, Nat.zero_le _⟩) ?_ ?_ (fun i => ?_)
 · exact ⟨rfl, rfl, rfl, rfl, trivial⟩
 ·
  exact Ent.refl _
 obtain ⟨j, hj⟩ := i
 try dsimp only
 refine Qc (k:=Vv (k:=Wq (Za (k:=Zi (t:=fun h9 => ?_) (f:=fun h9 => ?_)))))
 ·
  refine Zk (k:=Ya (Za (k:=Zb (k:=Za (k:=?_)))))
  have hjl : j < l.length := by omega
  have hsp := congrArg List.length (textOf_split hjl)
  obtain ⟨hk1, hk2⟩ := hk l[j] (List.getElem_mem _)
  have hsu := textOf_succ hjl
  rw [List.length_append, List.length_append] at hsp
  have hrl : (rowText l[j]).length = (decN l[j].key.length).length + 1 + (if l[j].gone then 1 + l[j].key.length else (decN l[j].val.length).length + 1 + l[j].key.length + l[j].val.length) := by
   unfold rowText; split <;> simp [*] <;> omega
  refine Zr (k:=Ye 3 (k:=?_))
  refine r_eloada (vs := [_, _, _]) (sz := 3) Tryz.underlying77 rfl ti77 rfl rfl (by rw [flat_len (sz := 3) (fun _ => rfl)]; omega) rfl (by refine get_flat (fun x => ?_) ?_ <;> first | rfl | omega) rfl ?_
  refine Zc [vS [], vS [], .bool false] (k:=fun b5 => Zp (k:=Wq (Qc (k:=Qx 0 9 (k:=Vv (k:=?_))))))
  refine r_callF (digit_Dec_sp l[j].key.length hk1) rfl rfl rfl ?_
  refine Vv (k:=?_)
  refine r_call1 (WriteString_sp b3 (textOf (l.take j)) (decN l[j].key.length ++ [32]) (by simp only [List.length_append, List.length_singleton]; omega)) rfl rfl rfl ?_
  refine Wq (Za (k:=Qc (k:=Qx 2 4 (k:=Wq (Zi (t:=fun h19 => ?_) (f:=fun h19 => ?_))))))
  ·
   refine Za (k:=?_)
   rw [if_pos h19] at hrl
   refine Zr (k:=Qx 0 9 (k:=Vv (k:=?_)))
   refine r_call1 (WriteString_sp b3 (textOf (l.take j) ++ (decN l[j].key.length ++ [32])) ([45] ++ l[j].key) (by simp only [List.length_append, List.length_singleton]; omega)) rfl rfl rfl ?_
   refine Wq (Ze (k:=Xa (Xb (Ya (Zr (k:=Qv (k:=Wn ?_)))))))
   exact zb94next0
  ·
   refine Zk (k:=Ya ?_)
   rw [if_neg (by rw [h19]; simp)] at hrl
   refine Dw [Ce b5 77 [vS l[j].key, vS l[j].val, vB l[j].gone]] (k:=?_)
   refine Di 0 (t:=Uf 1 9) (k:=Di 1 (t:=Ul) (k:=Dv 2 (k:=Di 5 (t:=Uf 0 9) (k:=Di 6 (t:=Ul) (k:=Di 8 (t:=Uf 1 9) (k:=Di 9 (t:=Ul) (k:=Dn 3 (k:=?_))))))))
   refine an_callF (digit_Dec_sp l[j].val.length hk2) rfl rfl rfl ?_
   refine Dv 4 (k:=Dv 7 (k:=Dv 10 (k:=Dn 11 (k:=?_))))
   refine an_call1 (WriteString_sp b3 (textOf (l.take j) ++ (decN l[j].key.length ++ [32])) (decN l[j].val.length ++ [32] ++ l[j].key ++ l[j].val) (by simp only [List.length_append, List.length_singleton]; omega)) rfl rfl rfl ?_
   refine Dd (k:=Yb (Ya (Zr (k:=Qv (k:=Wn ?_)))))
   exact zb94next0
 ·
  refine Ze (k:=Xa (Xi (Xb (Ya (Za (k:=?_))))))
  have hjl : j = l.length := by omega
  subst hjl
  rw [List.take_length]
  refine Zr (k:=?_)
  refine r_call1 (String_sp b3 (textOf l) (by omega)) rfl rfl rfl ?_
  refine Vv (k:=Wq (Zt (k:=?_)))
  refine fin_ret () (vs := [_]) (Cs := []) rfl (.tmp rfl .nil) rfl trivial ?_
  exact ent_pick
end
section
set_option maxRecDepth 100000
def doOne (ks : Ks) (r : Rw) : Ks := if r.gone then mdel ks r.key else mput ks r.key (vS r.val)
def doR (ks : Ks) (l : List Rw) : Ks := l.foldl doOne ks
theorem doR_succ {ks : Ks} {l : List Rw} {j : Nat} (h : j < l.length) : doR ks (l.take (j + 1)) = doOne (doR ks (l.take j)) l[j] := by
 unfold doR
 rw [List.take_succ_eq_append_getElem h, List.foldl_append]; rfl
theorem zb89next0 {G : Prop} (h : G := by
    refine to_inv ⟨j + 1, by omega⟩ (by dsimp only; omega) ⟨rfl, rfl, rfl, rfl, trivial⟩ ?_
    dsimp only
    rw [hsu, doOne, h13]
    simp only [if_true, Bool.false_eq_true, if_false]
    exact ent_pick) : G := h
theorem store_do_sp {B : HP} {a : Option Addr} (p b n c : Nat) (v : Value) (ks : Ks) (l : List Rw) (sh : SlA B a (l.flatMap rowC)) (hn : l.length = n) (hb : n ≤ 140737488355328) :
    Sp1 Tryz.prog 89 [.pointer (some ⟨p, 0, none⟩), .slice a n c] [Ce p 149 [v, .map (some b)], MapS b ks, B] (.tuple #[]) [Ce p 149 [v, .map (some b)], MapS b (doR ks l), B] := by
 subst hn
 haveI : RdSl a (l.flatMap rowC) [B] := ⟨⟨B, sh, .here⟩⟩
 refine Sp.body (n := 29) Tryz.call89 Tryz.func89 rfl rfl rfl ?_
 refine Qc (k:=Qv (k:=Vv (k:=Wq (Zb (k:=?_)))))
 refine p_loop (fun (i : { j : Nat // j ≤ l.length }) => [(0, .pointer (some ⟨p, 0, none⟩)), (6, .slice a l.length c), (7, vI l.length), (8, vI i.1)]) (fun (i : { j : Nat // j ≤ l.length }) => [Ce p 149 [v, .map (some b)], MapS b (doR ks (l.take i.1)), B]) (fun (i : { j : Nat // j ≤ l.length }) => l.length - i.1) rfl (⟨0, Nat.zero_le _⟩) ?_ ?_ (fun i => ?_)
 · exact ⟨rfl, rfl, rfl, rfl, trivial⟩
 ·
  exact Ent.refl _
 obtain ⟨j, hj⟩ := i
 try dsimp only
 refine Qc (k:=Vv (k:=Wq (Za (k:=Zi (t:=fun h9 => ?_) (f:=fun h9 => ?_)))))
 ·
  refine Zk (k:=Ya (Za (k:=Zb (k:=Za (k:=?_)))))
  have hjl : j < l.length := by omega
  have hsu := doR_succ (ks := ks) hjl
  refine Zr (k:=Ye 3 (k:=?_))
  refine r_eloada (vs := [_, _, _]) (sz := 3) Tryz.underlying77 rfl ti77 rfl rfl (by rw [flat_len (sz := 3) (fun _ => rfl)]; omega) rfl (by refine get_flat (fun x => ?_) ?_ <;> first | rfl | omega) rfl ?_
  refine Zc [vS [], vS [], .bool false] (k:=fun b5 => Zp (k:=Wq (Qc (k:=Qx 2 4 (k:=Wq (Zi (t:=fun h13 => ?_) (f:=fun h13 => ?_)))))))
  ·
   refine Dw [Ce p 149 [v, .map (some b)], Ce b5 77 [vS l[j].key, vS l[j].val, vB l[j].gone]] (k:=?_)
   refine Dv 0 (k:=Dv 1 (k:=Di 2 (t:=Uf 1 93) (k:=Di 3 (t:=Ul) (k:=Di 4 (t:=Uf 0 9) (k:=Di 5 (t:=Ul) (k:=Dn 6 (k:=?_)))))))
   refine an_delete Tryz.underlying93 Tryz.underlying9 rfl rfl rfl ?_
   refine Dd (k:=Yb (Ya (Zr (k:=Qv (k:=Wn ?_)))))
   exact zb89next0
  ·
   refine Dw [Ce p 149 [v, .map (some b)], Ce b5 77 [vS l[j].key, vS l[j].val, vB l[j].gone]] (k:=?_)
   refine Dv 0 (k:=Dv 1 (k:=Di 2 (t:=Uf 1 93) (k:=Di 3 (t:=Ul) (k:=Di 4 (t:=Uf 0 9) (k:=Di 5 (t:=Ul) (k:=Di 6 (t:=Uf 1 9) (k:=Di 7 (t:=Ul) (k:=Dn 8 (k:=?_)))))))))
   refine an_mapUpdate Tryz.underlying93 Tryz.underlying9 rfl rfl rfl ?_
   refine Dd (k:=Yb (Ya (Zr (k:=Qv (k:=Wn ?_)))))
   exact zb89next0
 ·
  refine Ze (k:=Xa (Xi (Xb ?_)))
  have hjl : j = l.length := by omega
  subst hjl
  rw [List.take_length]
  refine fin_end () (vs := []) (Cs := []) rfl .nil rfl trivial ?_
  exact ent_pick
end
section
set_option maxRecDepth 100000
/-- A store in memory, over a disk at p. -/
def IsS (s p : Nat) (J : Jn) (ks : Ks) : HP := Ex fun q : Nat => Ex fun b : Nat => Al [Ce s 149 [.pointer (some ⟨q, 0, none⟩), .map (some b)], IsJ q p J, MapS b ks]
theorem fold_isS {s p : Nat} {J : Jn} {ks : Ks} (q b : Nat) {T : Nat} {v0 v1 : Value} {Hs R1 R2 Rs : List HP} [h1 : OwnC s T [v0, v1] Hs R1] [h2 : PickC (IsJ q p J) R1 R2] [h3 : PickC (MapS b ks) R2 Rs] (hT : T = 149) (e0 : v0 = .pointer (some ⟨q, 0, none⟩)) (e1 : v1 = .map (some b)) : Ent Hs (IsS s p J ks :: Rs) := by
 subst hT; subst e0; subst e1
 refine ent_ex q ?_
 refine ent_ex b (ent_al ?_)
 exact ent_step (ent_pick1 h1.get) (ent_step (ent_pick1 h2.get) (ent_pick1 h3.get))
theorem store_Get_sp (s p : Nat) (J : Jn) (ks : Ks) (k : List UInt8) : Sp1 Tryz.prog 38 [.pointer (some ⟨s, 0, none⟩), vS k] [IsS s p J ks] (.tuple #[(mlook ks k).getD (vS []), vB (mlook ks k).isSome]) [IsS s p J ks] := by
 refine Sp.body (n := 19) Tryz.call38 Tryz.func38 rfl rfl rfl ?_
 refine wc_exi fun q => wc_exi fun b => wc_al ?_
 refine Qc (k:=Qv (k:=Wq (Qc (k:=Qv (k:=Qx 1 93 (k:=Vv (k:=?_)))))))
 refine r_lookup Tryz.underlying93 Tryz.underlying9 ti9 rfl rfl rfl rfl rfl ?_
 refine Qv (k:=Qv (k:=Vv (k:=Wq (Qc (k:=Qv (k:=Qv (k:=?_)))))))
 refine Wq (Zt (k:=?_))
 refine fin_ret () (vs := [_, _]) (Cs := []) rfl (.tmp rfl (.tmp rfl .nil)) rfl trivial ?_
 exact fold_isS q b rfl rfl rfl
def openK (ts : List Bs) : Ks := ts.foldl (fun ks t => doR ks ((readR t).getD [])) []
theorem openK_succ {ts : List Bs} {j : Nat} (h : j < ts.length) : openK (ts.take (j + 1)) = doR (openK (ts.take j)) ((readR (ts.getD j [])).getD []) := by
 unfold openK
 rw [List.take_succ_eq_append_getElem h, List.foldl_append]
 simp [h]
theorem readR_len (s : Bs) : ((readR s).getD []).length ≤ s.length := by
 induction h : s.length using Nat.strongRecOn generalizing s with
 | _ n ih =>
   by_cases hs : s = []
   · subst hs; rw [readR_nil]; simp
   · cases hr : rowR s with
     | none => rw [readR_none hs hr]; simp
     | some q =>
       obtain ⟨r, t⟩ := q
       have hlt := rowR_lt hr
       rw [readR_some hs hr]
       have := ih t.length (by omega) t rfl
       cases ht : readR t with
       | none => simp
       | some l => rw [ht] at this; simp at this ⊢; omega
end
section
set_option maxRecDepth 100000
theorem store_Open_sp (p : Nat) (D : Dk) : Sp Tryz.prog 34 [.pointer (some ⟨p, 0, none⟩)] [IsD p D] (X := Nat) (fun s => .pointer (some ⟨s, 0, none⟩)) (fun _ => True) (fun s => [IsS s p (openJ D) (openK (openJ D).l), IsD p D]) := by
 refine Sp.body (n := 28) Tryz.call34 Tryz.func34 rfl rfl rfl ?_
 refine wc_know (A := IsD p D) .here ok_len (fun ok => ?_)
 have hm := ok.many
 have hj := scanS_end D.secs 0 [] [] 0 (Nat.le_refl _) (Nat.le_refl _)
 have hjl : (openJ D).l.length ≤ 2000 := by show (scanS D.secs 0 [] [] 0).1.length ≤ 2000; omega
 have htl : ∀ t ∈ (openJ D).l, t.length ≤ 60000 := scanS_len D.secs 0 [] [] 0 60000 (by simp; omega) (by simp)
 generalize hJ : openJ D = J at *
 refine Qc (k:=Vv (k:=Wq (Qc (k:=Vv (k:=?_)))))
 refine r_callX (journal_Open_sp p D) rfl rfl rfl (fun q _ => ?_)
 rw [hJ]
 refine r_mkmap rfl (fun b9 => ?_)
 refine Vx (Ps [_, _]) (k:=Zx [_, _] (k:=fun b11 => Zc [.pointer none] (k:=fun b3 => Zo (k:=Wq (Za (k:=Qc (k:=Zd (k:=Vv (k:=Qx 0 146 (k:=?_))))))))))
 refine r_callX (journal_All_sp q p J (by omega)) rfl rfl rfl (fun x16 _ => ?_)
 refine Wq (Zb (k:=?_))
 refine p_rangeFunc (fun pre => [Ce b3 72 [.pointer (some ⟨b11, 0, none⟩)], Ce b11 149 [.pointer (some ⟨q, 0, none⟩), .map (some b9)], MapS b9 (openK (J.l.take pre.length)), IsJ q p J, IsD p D]) (fun j pre => [Pu False]) rfl (slices_Values_it (B := SlI x16.2.1 (J.l.map vS)) J.l.length x16.2.2 x16.1 J.l sla_sli rfl (by omega)) rfl (fun _ => by rfl) rfl ?_ (fun l pre i hok => ?_) ?_ (fun j pre hs => ?_)
 · (refine ent_app ?_; simp only [List.length_nil, List.take_zero]; rw [show openK [] = [] from rfl]; exact ent_pick)
 ·
  obtain ⟨hi, hlt⟩ := hok
  have hsu := openK_succ hlt
  have hil : (J.l.getD i []).length ≤ 60000 := by
   have e : J.l.getD i [] = J.l[i] := by simp [hlt]
   rw [e]; exact htl _ (List.getElem_mem _)
  rw [← hi]
  refine Zr (k:=Vv (k:=Wg (Zb (k:=Qc (k:=Vv (k:=?_))))))
  refine r_callX (store_Read_sp (J.l.getD i []) (by omega)) rfl rfl rfl (fun x20 _ => ?_)
  refine wo_frz x20.1 ?_
  refine Qv (k:=Qv (k:=Vv (k:=Wq (Qc (k:=Vv (k:=Wq (Zi (t:=fun h23 => ?_) (f:=fun h23 => ?_))))))))
  ·
   refine Zr (k:=Zd (k:=Vv (k:=?_)))
   refine r_call1 (store_do_sp (B := SlI x20.1 (((readR (J.l.getD i [])).getD []).flatMap rowC)) b11 b9 ((readR (J.l.getD i [])).getD []).length x20.2 (.pointer (some ⟨q, 0, none⟩)) (openK (J.l.take i)) ((readR (J.l.getD i [])).getD []) sla_sli rfl (by have := readR_len (J.l.getD i []); omega)) rfl rfl rfl ?_
   refine Wn (Yb ?_)
   refine to_round ?_
   rw [List.length_append, List.length_singleton, ← hi, hsu]
   first
   | exact ent_pick
   | (have hn : readR (J.l.getD i []) = none := by cases e : readR (J.l.getD i []) with
        | none => rfl
        | some l => rw [e] at h23; simp at h23
      rw [hn]
      show Ent _ [Ce b3 72 [.pointer (some ⟨b11, 0, none⟩)], Ce b11 149 [.pointer (some ⟨q, 0, none⟩), .map (some b9)], MapS b9 (openK (J.l.take i)), IsJ q p J, IsD p D]
      exact ent_pick)
  ·
   refine Zk (k:=Yb ?_)
   refine to_round ?_
   rw [List.length_append, List.length_singleton, ← hi, hsu]
   first
   | exact ent_pick
   | (have hn : readR (J.l.getD i []) = none := by cases e : readR (J.l.getD i []) with
        | none => rfl
        | some l => rw [e] at h23; simp at h23
      rw [hn]
      show Ent _ [Ce b3 72 [.pointer (some ⟨b11, 0, none⟩)], Ce b11 149 [.pointer (some ⟨q, 0, none⟩), .map (some b9)], MapS b9 (openK (J.l.take i)), IsJ q p J, IsD p D]
      exact ent_pick)
 ·
  skip
  refine Yb (Ya (Qc (k:=Zd (k:=Vv (k:=Wq (Zt (k:=?_)))))))
  refine fin_ret b11 (vs := [_]) (Cs := []) rfl (.tmp rfl .nil) rfl trivial ?_
  rw [List.length_range, List.take_length]
  exact ent_step (fold_isS q b9 rfl rfl rfl) ent_pick
 ·
  exact wc_no (fun s => by obtain ⟨_, _, _, _, a, _⟩ := s; exact a)
end
section
set_option maxRecDepth 100000
def mayB (r : Rw) : Bool := decide (r.key ≠ [] ∧ r.key.length ≤ 60)
def commitS (J : Jn) (ks : Ks) (D : Dk) (l : List Rw) : Jn × Ks × Dk × Nat :=
 if l.all mayB = false then (J, ks, D, 1) else
  ((commitJ J D (textOf l)).1, (if (commitJ J D (textOf l)).2.2 = 0 then doR ks l else ks), (commitJ J D (textOf l)).2.1, (commitJ J D (textOf l)).2.2)
theorem zb36ret10 {G : Prop} (h : G := by
    refine fin_ret () (vs := [_]) (Cs := []) rfl (.tmp rfl .nil) rfl trivial ?_
    first
    | (rw [if_pos (by omega)]; exact ent_step (fold_isS q b rfl rfl rfl) ent_pick)
    | (rw [if_neg (by omega)]; exact ent_step (fold_isS q b rfl rfl rfl) ent_pick)) : G := h
theorem store_Commit_sp {B : HP} {a : Option Addr} (s p n c : Nat) (J : Jn) (ks : Ks) (D : Dk) (l : List Rw) (sh : SlA B a (l.flatMap rowC)) (hn : l.length = n) (hb : n ≤ 140737488355328)
    (hk : ∀ r ∈ l, r.key.length ≤ 1073741824 ∧ r.val.length ≤ 1073741824) (ht : (textOf l).length ≤ 4398046511104) (hl : -1152921504606846976 ≤ D.left ∧ D.left ≤ 9223372036854775807) (he : J.e ≤ 1099511627776) (hjl : J.l.length ≤ 1099511627776) :
    Sp1 Tryz.prog 36 [.pointer (some ⟨s, 0, none⟩), .slice a n c] [IsS s p J ks, IsD p D, B] (vI (commitS J ks D l).2.2.2) [IsS s p (commitS J ks D l).1 (commitS J ks D l).2.1, IsD p (commitS J ks D l).2.2.1, B] := by
 subst hn
 haveI : RdSl a (l.flatMap rowC) [B] := ⟨⟨B, sh, .here⟩⟩
 refine Sp.body (n := 32) Tryz.call36 Tryz.func36 rfl rfl rfl ?_
 refine wc_exi fun q => wc_exi fun b => wc_al ?_
 refine Qc (k:=Vv (k:=Wq (Za (k:=Qc (k:=Qv (k:=Vv (k:=Wq (Zb (k:=?_)))))))))
 refine p_loop (fun (i : { j : Nat // j ≤ l.length ∧ (l.take j).all mayB = true }) => [(0, .pointer (some ⟨s, 0, none⟩)), (1, .slice a l.length c), (8, .slice a l.length c), (9, vI l.length), (10, vI i.1)]) (fun (i : { j : Nat // j ≤ l.length ∧ (l.take j).all mayB = true }) => [Ce s 149 [.pointer (some ⟨q, 0, none⟩), .map (some b)], IsJ q p J, MapS b ks, IsD p D, B]) (fun (i : { j : Nat // j ≤ l.length ∧ (l.take j).all mayB = true }) => l.length - i.1) rfl (⟨0, Nat.zero_le _, rfl⟩) ?_ ?_ (fun i => ?_)
 · exact ⟨rfl, rfl, rfl, rfl, rfl, trivial⟩
 ·
  exact ent_pick
 obtain ⟨j, hj, hw⟩ := i
 try dsimp only
 refine Qc (k:=Vv (k:=Wq (Za (k:=Zi (t:=fun h11 => ?_) (f:=fun h11 => ?_)))))
 ·
  refine Zk (k:=Ya (Za (k:=Zb (k:=Za (k:=?_)))))
  have hjlt : j < l.length := by omega
  refine Zr (k:=Ye 3 (k:=?_))
  refine r_eloada (vs := [_, _, _]) (sz := 3) Tryz.underlying77 rfl ti77 rfl rfl (by rw [flat_len (sz := 3) (fun _ => rfl)]; omega) rfl (by refine get_flat (fun x => ?_) ?_ <;> first | rfl | omega) rfl ?_
  refine Zc [vS [], vS [], .bool false] (k:=fun b6 => Zp (k:=Wq (Qc (k:=Qx 0 9 (k:=?_)))))
  refine r_callF (store_may_sp l[j].key) rfl rfl rfl ?_
  refine Vv (k:=Wq (Zi (t:=fun h17 => ?_) (f:=fun h17 => ?_)))
  ·
   refine Qc (k:=Vv (k:=Wq (Zt (k:=Vb (Va (Vi (Vb (Va ?_))))))))
   have hn : commitS J ks D l = (J, ks, D, 1) := by
    have hb2 : l.all mayB = false := by
     cases e : l.all mayB with
     | false => rfl
     | true =>
       have := List.all_eq_true.1 e l[j] (List.getElem_mem _)
       exact absurd (of_decide_eq_true this) h17
    rw [commitS, if_pos hb2]
   rw [hn]
   refine fin_ret () (vs := [_]) (Cs := []) rfl (.tmp rfl .nil) rfl trivial ?_
   exact ent_step (fold_isS q b rfl rfl rfl) ent_pick
  ·
   refine Zk (k:=Yb (Ya (Zr (k:=Qv (k:=Wn ?_)))))
   refine to_inv ⟨j + 1, by omega, ?_⟩ (by dsimp only; omega) ⟨rfl, rfl, rfl, rfl, rfl, trivial⟩ ent_pick
   rw [List.take_succ_eq_append_getElem hjlt, List.all_append, hw]
   have hm : mayB l[j] = true := by
    have h17' := h17
    simp only [Classical.not_not] at h17'
    exact decide_eq_true h17'
   simp [hm]
 ·
  refine Ze (k:=Xa (Xi (Xb (Ya (Za (k:=?_))))))
  have hjl2 : j = l.length := by omega
  subst hjl2
  rw [List.take_length] at hw
  have hcs : commitS J ks D l = ((commitJ J D (textOf l)).1, (if (commitJ J D (textOf l)).2.2 = 0 then doR ks l else ks), (commitJ J D (textOf l)).2.1, (commitJ J D (textOf l)).2.2) := by
   rw [commitS, if_neg (by rw [hw]; simp)]
  rw [hcs]
  refine Dw [Ce s 149 [.pointer (some ⟨q, 0, none⟩), .map (some b)]] (k:=?_)
  refine Dv 0 (k:=Dv 1 (k:=Di 2 (t:=Uf 0 146) (k:=Di 3 (t:=Ul) (k:=Dv 4 (k:=Dn 5 (k:=?_))))))
  refine an_call1 (store_Text_sp l.length c l sh rfl hb hk ht) rfl rfl rfl ?_
  refine Dn 6 (k:=?_)
  refine an_call1 (journal_Commit_sp q p J D (textOf l) ht hl he hjl) rfl rfl rfl ?_
  refine Dv 7 (k:=Dd (k:=Ya (Za (k:=Qc (k:=Qv (k:=Wq (Zi (t:=fun h27 => ?_) (f:=fun h27 => ?_))))))))
  ·
   refine Zr (k:=Qv (k:=?_))
   refine r_call1 (store_do_sp (B := B) s b l.length c (.pointer (some ⟨q, 0, none⟩)) ks l sh rfl hb) rfl rfl rfl ?_
   refine Wq (Qc (k:=Qv (k:=Wq (Zt (k:=?_)))))
   exact zb36ret10
  ·
   refine Zk (k:=Ya (Qc (k:=Qv (k:=Wq (Zt (k:=?_))))))
   exact zb36ret10
end
end Go.Proofs.YtibccdcemcgkeaaGreat
