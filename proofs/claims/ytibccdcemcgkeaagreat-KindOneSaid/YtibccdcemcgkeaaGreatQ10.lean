/- Texts of this proof, put together: SHash3, Slic, SHash4, SIs, SEsc. -/
import Derived.Test.YtibccdcemcgkeaaGreatQ08
import Derived.Test.YtibccdcemcgkeaaGreatQ09
import Derived.Test.YtibccdcemcgkeaaGreatQ07
set_option linter.unusedVariables false
set_option linter.unusedSimpArgs false
section
set_option maxRecDepth 100000
namespace Go.Proofs.YtibccdcemcgkeaaGreat
section
variable {r : Option Nat} {P : Program} {n : Nat} {A : List HP} {L : Loc} {ty : TypeId} {pos : String} {after : Array Edge}
theorem opt_copyS {dst : Option Tmp} {x y : Operand} {dT sT e : TypeId} {g dLen dCap T : Nat} {cur : List Value} {s : Bs} (hu : P.underlying dT = some (.slice e)) (hs : (P.info? e).map (·.size) = some 1)
    (hx : ev L x = some (.slice (some ⟨g, 0, none⟩) dLen dCap)) (hy : ev L y = some (vS s)) (hq : s.length ≤ dLen) (hl : s.length ≤ cur.length) :
    OpT r P n ⟨dst, .call ⟨.builtin .copy, #[x, y], #[dT, sT]⟩, ty, pos, after, none⟩ A L [Ce g T cur] (fun _ : Unit => vI s.length) (fun _ => True) (fun _ => [Ce g T (setAt cur 0 (vUs s))]) := by
 refine opt_turn (fun ac f w M h1 hf dj tt hr => ?_)
 have hr' : h1 = Res.one g _ := hr
 subst hr'
 have hb : w.heap[g]? = some (.cells cur.toArray T (0, 0)) := tt.ow _ _ (by simp [Res.add, Res.one])
 obtain ⟨w', hrun, hb', ho', he'⟩ := run_storeCells_ce (P := P) (vUs s) w cur 0 0 hb (by simp [vUs, oneCell]) (by simp [vUs]; omega)
 refine ⟨w', Res.one g (.cells (setAt cur 0 (vUs s)).toArray T (0, 0)), dj_one_any dj, Sat.setBlk dj tt (by simpa using hb') ho' he', rfl, .inl ?_⟩
 cases hq2 : P.info? e with
 | none => simp [hq2] at hs
 | some i =>
   have hi : i.size = 1 := by simpa [hq2] using hs
   have hsz : (Builtin.lenOf (vS s)).run P w = .ok s.length w := rfl
   have hc : (Builtin.firstCells 1 s.length (vS s)).run P w = .ok (vUs s).toArray w := by
    show Result.ok _ w = Result.ok _ w
    congr 1
    apply Array.ext'
    simp [vUs, ByteArray.data_extract]
   have hm : Nat.min s.length dLen = s.length := Nat.min_eq_left hq
   simp only [execOp, resolve, Array.map, f.ev hx, f.ev hy, invoke, builtin]
   simp [execOp, resolve, f.ev hx, f.ev hy, invoke, builtin, Builtin.copy_, run_underlying hu, sizeOf, typeInfo, program, Sem.run, hq2, hi, hsz, hm, hc, hrun]
   rfl
end
/-- The padding, with so many bytes of the length. -/
def padI (s : Bs) (i : Nat) : Bs := s ++ [0x80] ++ zeros (64 * blocksN s - 9 - s.length) ++ (zeros (8 - i) ++ ((List.range 8).map (len8 s)).drop (8 - i))
theorem padI_len (s : Bs) {i : Nat} (h : i ≤ 8) : (padI s i).length = 64 * blocksN s := by
 simp only [padI, blocksN, zeros, List.length_append, List.length_replicate, List.length_drop, List.length_map, List.length_range, List.length_singleton]
 omega
theorem padI_8 (s : Bs) : padI s 8 = padB s := by simp [padI, padB, zeros]
theorem padI_0 (s : Bs) : ((vUs s ++ List.replicate (64 * blocksN s - s.length) (vU 0)).set s.length (vU 128)) = vUs (padI s 0) := by
 have hb : 64 * blocksN s - s.length = (64 * blocksN s - 9 - s.length) + 8 + 1 := by unfold blocksN; omega
 have hl : (vUs s).length = s.length := by simp [vUs]
 rw [List.set_append_right _ _ (by omega), hl, Nat.sub_self, hb, List.replicate_succ, List.set_cons_zero, ← List.replicate_append_replicate]
 simp [padI, vUs, zeros]
theorem padI_set (s : Bs) {i : Nat} (h : i < 8) : (padI s i).set (64 * blocksN s - 1 - i) (len8 s (7 - i)) = padI s (i + 1) := by
 have hp : (s ++ [0x80] ++ zeros (64 * blocksN s - 9 - s.length)).length = 64 * blocksN s - 8 := by
  simp only [blocksN, zeros, List.length_append, List.length_replicate, List.length_singleton]; omega
 have hb : 64 ≤ 64 * blocksN s := by unfold blocksN; omega
 unfold padI
 rw [List.set_append_right _ _ (by omega), hp, show 64 * blocksN s - 1 - i - (64 * blocksN s - 8) = 7 - i from by omega]
 congr 1
 have hz : zeros (8 - i) = zeros (7 - i) ++ [0] := by
  have : 8 - i = (7 - i) + 1 := by omega
  rw [this, zeros, zeros, List.replicate_succ']
 have hzl : (zeros (7 - i)).length = 7 - i := by simp [zeros]
 have hm : 7 - i < ((List.range 8).map (len8 s)).length := by simp; omega
 have hd : ((List.range 8).map (len8 s)).drop (7 - i) = len8 s (7 - i) :: ((List.range 8).map (len8 s)).drop (8 - i) := by
  rw [List.drop_eq_getElem_cons hm]
  have : 7 - i + 1 = 8 - i := by omega
  rw [this]; simp
 rw [hz, List.append_assoc, List.set_append_right _ _ (by omega), hzl, Nat.sub_self, List.singleton_append, List.set_cons_zero, show 8 - (i + 1) = 7 - i from by omega, hd]
theorem vUs_set {l : Bs} {m : Nat} {c : UInt8} : (vUs l).set m (vU c.toNat) = vUs (l.set m c) := by simp [vUs, List.map_set]
theorem len8_byte {s : Bs} (hs : s.length ≤ 1099511627776) {j : Nat} (hj : j < 8) : IntKind.u8.wrap (Int.fdiv (IntKind.u64.wrap (IntKind.u64.wrap (s.length : Int) * 8)) (2 ^ (min (8 * j) IntKind.u64.bits))) = ((len8 s (7 - j)).toNat : Int) := by
 have w64 : ∀ n : Int, IntKind.u64.wrap n = n % 18446744073709551616 := fun n => by simp [IntKind.wrap, IntKind.signed, IntKind.bits]
 have w8 : ∀ n : Int, IntKind.u8.wrap n = n % 256 := fun n => by simp [IntKind.wrap, IntKind.signed, IntKind.bits]
 have h1 : IntKind.u64.wrap (IntKind.u64.wrap (s.length : Int) * 8) = ((8 * s.length : Nat) : Int) := by rw [w64, w64]; omega
 have h2 : min (8 * j) IntKind.u64.bits = 8 * j := Nat.min_eq_left (by simp only [IntKind.bits]; omega)
 rw [h1, h2, two_pow, Int.fdiv_eq_ediv_of_nonneg _ (Int.natCast_nonneg _), w8, ← Int.natCast_ediv]
 have h3 : 7 - (7 - j) = j := by omega
 simp only [len8, h3, UInt8.toNat_ofNat']
 generalize 8 * s.length / 2 ^ (8 * j) = q
 omega
theorem hash_padded_sp (s : Bs) (hs : s.length ≤ 1099511627776) : Sp Tryz.prog 90 [vS s] [] (X := Nat) (fun g => .slice (some ⟨g, 0, none⟩) (64 * blocksN s) (64 * blocksN s)) (fun _ => True) (fun g => [Ce g 5 (vUs (padB s))]) := by
 have hbn : 64 * blocksN s = ((s.length + 8) / 64 + 1) * 64 := by unfold blocksN; omega
 have hbl : s.length + 9 ≤ 64 * blocksN s := by unfold blocksN; omega
 have hbu : 64 * blocksN s ≤ s.length + 72 := by unfold blocksN; omega
 refine Sp.body (n := 43) Tryz.call90 Tryz.func90 rfl rfl rfl ?_
 refine Za (k:=Zr (k:=Vv (k:=Wq (Za (k:=Zr (k:=Vv (k:=Vv (k:=Vv (k:=Vv (k:=Vv (k:=Vv (k:=?_))))))))))))
 refine Wq (Za (k:=Zr (k:=Vv (k:=Vv (k:=?_)))))
 refine r_makeSlice (m := 64 * blocksN s) (z := .int .u8 0) Tryz.underlying89 ti5 rfl rfl rfl (vI_eq (by omega)) (vI_eq (by omega)) (by omega) (by rw [show Tryz.t5.bytes = 1 from rfl]; omega) rfl (fun b14 => ?_)
 refine Vv (k:=Wq (Za (k:=Zr (k:=Vv (k:=Vv (k:=?_))))))
 refine wo_opT (by intro c; simp) (opt_copyS Tryz.underlying89 rfl rfl rfl (by omega) (by rw [List.length_replicate]; omega) (cur := List.replicate (64 * blocksN s) (vU 0)) (T := 5)) rfl (fun _ _ => ?_)
 have hsa : setAt (List.replicate (64 * blocksN s) (vU 0)) 0 (vUs s) = vUs s ++ List.replicate (64 * blocksN s - s.length) (vU 0) := by
  have h1 : List.replicate (64 * blocksN s) (vU 0) = List.replicate s.length (vU 0) ++ List.replicate (64 * blocksN s - s.length) (vU 0) := by rw [List.replicate_append_replicate]; congr 1; omega
  have := setAt_mid (vUs s) [] (List.replicate s.length (vU 0)) (List.replicate (64 * blocksN s - s.length) (vU 0)) (by simp [vUs])
  rw [h1]; simpa using this
 rw [hsa]
 have hl0 : (vUs s ++ List.replicate (64 * blocksN s - s.length) (vU 0)).length = 64 * blocksN s := by simp [vUs]; omega
 refine Wq (Za (k:=Zr (k:=Vv (k:=Vv (k:=Vv (k:=?_))))))
 refine r_elemAddr (sz := 1) (m := s.length) (kk := s.length) Tryz.underlying89 ti5 rfl rfl rfl rfl (by omega) (by omega) (Nat.mul_one _) rfl ?_
 refine r_store ti5 rfl rfl rfl rfl (show 0 + s.length < _ by omega) ?_
 rw [Nat.zero_add, padI_0]
 refine Wq (Za (k:=Zr (k:=Vv (k:=Vv (k:=?_)))))
 refine wo_pv (pv_conv rfl Tryz.underlying3 Tryz.underlying104) rfl ?_
 refine wo_pv (pv_mulw rfl rfl) rfl ?_
 refine Vv (k:=Wq (Za (k:=Za (k:=Zr (k:=Vv (k:=Wq (Zb (k:=?_))))))))
 refine p_loop (fun (i : { j : Nat // j ≤ 8 }) => [(4, .slice (some ⟨b14, 0, none⟩) (64 * blocksN s) (64 * blocksN s)), (5, .int .u64 (IntKind.u64.wrap (IntKind.u64.wrap (s.length : Int) * 8))), (26, vI i.1)]) (fun (i : { j : Nat // j ≤ 8 }) => [Ce b14 5 (vUs (padI s i.1))]) (fun (i : { j : Nat // j ≤ 8 }) => 8 - i.1) rfl (⟨0, Nat.zero_le _⟩) ?_ ?_ (fun i => ?_)
 · exact ⟨rfl, rfl, rfl, trivial⟩
 ·
  exact ent_pick
 obtain ⟨j, hj⟩ := i
 dsimp only
 have hpl := padI_len s hj
 have hpv : (vUs (padI s j)).length = 64 * blocksN s := by simp [vUs, hpl]
 try dsimp only
 refine Za (k:=Zr (k:=Vv (k:=Wq (Za (k:=Zi (t:=fun h27 => ?_) (f:=fun h27 => ?_))))))
 ·
  refine Zk (k:=Ya (Za (k:=Zb (k:=Za (k:=Zr (k:=Vv (k:=Vv (k:=Wq (Zr (k:=Vv (k:=Vv (k:=?_))))))))))))
  refine Vv (k:=Vv (k:=Vv (k:=Vv (k:=Vv (k:=Vv (k:=Vv (k:=?_)))))))
  refine wo_pv (pv_shr (m := 8 * j) rfl (vI_eq (by omega))) rfl ?_
  refine wo_pv (pv_conv rfl Tryz.underlying104 Tryz.underlying5) rfl ?_
  refine r_elemAddr (sz := 1) (m := 64 * blocksN s - 1 - j) (kk := 64 * blocksN s - 1 - j) Tryz.underlying89 ti5 rfl rfl rfl (by omega) (by omega) (by omega) (Nat.mul_one _) rfl ?_
  refine r_store ti5 rfl rfl rfl rfl (show 0 + (64 * blocksN s - 1 - j) < _ by omega) ?_
  rw [Nat.zero_add, len8_byte hs (by omega), vUs_set, padI_set s (by omega)]
  refine Wn (Yb (Ya (Zr (k:=Vv (k:=Vv (k:=Wn ?_))))))
  exact to_inv ⟨j + 1, by omega⟩ (by dsimp only; omega) ⟨rfl, rfl, rfl, trivial⟩ ent_pick
 ·
  refine Ze (k:=Xa (Xi (Xb (Ya (Za (k:=Zr (k:=Vv (k:=Vv (k:=Wq (Zt (k:=?_)))))))))))
  have hj8 : j = 8 := by omega
  subst hj8
  rw [padI_8]
  refine fin_ret b14 (vs := [_]) (Cs := []) rfl (.tmp rfl .nil) rfl trivial ?_
  exact ent_pick
end Go.Proofs.YtibccdcemcgkeaaGreat
end
section
namespace Go.Proofs.YtibccdcemcgkeaaGreat
/-- The address of a slice that begins so many elements on. -/
def fromA (a : Option Addr) (m cap kk : Nat) : Option Addr := if m < cap then elemA a kk else a
section
variable {r : Option Nat} {P : Program} {n : Nat} {L : Loc} {Hs : List HP} {Q : Out} {ty : TypeId}
theorem pv_slslice_froma {x y : Operand} {a : Option Addr} {len cap m kk : Nat} {k : IntKind} {i : Int} {t e : TypeId} {ti : TypeInfo} {sz : Nat} (ht : P.underlying t = some (.slice e)) (hi : P.info? e = some ti) (hsz : ti.size = sz) (hx : ev L x = some (.slice a len cap)) (hy : ev L y = some (.int k i)) (hm : i = (m : Int)) (hk : m * sz = kk) (h : m ≤ len) (hc : len ≤ cap) (ha : ∀ b, a = some b → b.spot = none) :
    PV P n L (.slice t x (some y) none none) ty (.slice (fromA a m cap kk) (len - m) (cap - m)) := by
 by_cases hlt : m < cap
 · have := pv_slslice_fromm (P := P) (n := n) (ty := ty) ht hi hsz hx hy hm hk h hlt ha
   rw [fromA, if_pos hlt]; exact this
 · subst hm
   have := pv_slslice_from (P := P) (n := n) (ty := ty) ht hi hx hy (by omega) (by omega)
   rw [Int.toNat_natCast, if_pos (by omega)] at this
   rw [fromA, if_neg hlt]; exact this
theorem row_know {e : TypeId} {sz k n' c' : Nat} {a : Option Addr} {xs : List Value} {M : Kn} {h : Res} (x : (Row e sz (.slice a n' c') k xs).at_ M h) : k ≤ c' ∧ xs.length = k * sz ∧ ∀ b, a = some b → b.spot = none := by
 rcases x with ⟨h1, h2, h3⟩ | ⟨g, cap, cur, h1, h2, h3, h4, h5, h6, h7⟩
 · cases h1; subst h2; subst h3
   exact ⟨Nat.zero_le _, by simp, fun b e => by cases e⟩
 · cases h1
   exact ⟨h2, h5, fun b e => by cases e; rfl⟩
theorem sla_take {A : HP} {a : Option Addr} {xs : List Value} (sh : SlA A a xs) (k : Nat) : SlA A a (xs.take k) := fun x => by
 rcases sh x with e | ⟨g, off, l, T, fz, e1, e2, e3⟩
 · left; rw [e]; simp
 · refine .inr ⟨g, off, l, T, fz, e1, e2, ?_⟩
   conv => rhs; rw [← e3]
   rw [List.take_take, List.length_take]
theorem sla_from {e : TypeId} {sz k n' c' m kk : Nat} {a : Option Addr} {xs : List Value} (hk : m * sz = kk) (hm : m ≤ k) : SlA (Row e sz (.slice a n' c') k xs) (fromA a m c' kk) (xs.drop kk) := fun x => by
 obtain ⟨h1, h2, h3⟩ := row_know x
 by_cases hlt : m < c'
 · rcases sla_row x with e | ⟨g, off, l, T, fz, e1, e2, e3⟩
   · left; rw [e]; simp
   · refine .inr ⟨g, off + kk, l, T, fz, ?_, e2, ?_⟩
     · rw [fromA, if_pos hlt, e1]; rfl
     · conv => rhs; rw [← e3]
       rw [List.drop_take, List.drop_drop, List.length_drop]
 · left
   have hmk : m = k := by omega
   subst hmk
   rw [← hk, ← h2, List.drop_length]
end
end Go.Proofs.YtibccdcemcgkeaaGreat
end
section
set_option maxRecDepth 100000
namespace Go.Proofs.YtibccdcemcgkeaaGreat
theorem sla_ceAt {b : Nat} {T : TypeId} {l : List Value} (off k : Nat) : SlA (Ce b T l) (some ⟨b, off, none⟩) ((l.drop off).take k) := fun x => .inr ⟨b, off, l, T, (0, 0), rfl, .inr (by have : _ = Res.one b _ := x; rw [this]; exact Res.one_same _ _), by rw [List.length_take, List.take_eq_take_iff.2]; simp⟩
def hexP (x : UInt32) (j : Nat) : Bs := (List.range j).map fun j => hexD.getD ((x >>> UInt32.ofNat (28 - 4 * j)) &&& 15).toNat 0
theorem hexP_succ (x : UInt32) (j : Nat) : hexP x (j + 1) = hexP x j ++ [hexD.getD ((x >>> UInt32.ofNat (28 - 4 * j)) &&& 15).toNat 0] := by simp [hexP, List.range_succ]
theorem hexP_len (x : UInt32) (j : Nat) : (hexP x j).length = j := by simp [hexP]
theorem and15 (x : UInt32) : (x &&& 15).toNat < 16 := by
 rw [UInt32.toNat_and]; exact Nat.lt_of_le_of_lt Nat.and_le_right (by decide)
theorem hash_Sum_sp (s : Bs) (hs : s.length ≤ 1099511627776) : SpF Tryz.prog 35 [vS s] (vS (shaB s)) := by
 have hpl := padB_len s
 have hbu : blocksN s ≤ 17179869185 := by unfold blocksN; omega
 have hb1 : 1 ≤ blocksN s := by unfold blocksN; omega
 obtain ⟨N, hN⟩ : ∃ N, N = blocksN s := ⟨_, rfl⟩
 obtain ⟨p, hp⟩ : ∃ p, p = padB s := ⟨_, rfl⟩
 have hsha : shaB s = (sumsW p h0W N).list.flatMap hexW := by rw [hN, hp]; rfl
 have hpd := hash_padded_sp s hs
 rw [← hN] at hpl hbu hb1 hpd
 rw [← hp] at hpl hpd
 have hpv : (vUs p).length = 64 * N := by simp [vUs, hpl]
 refine Sp.body (n := 39) Tryz.call35 Tryz.func35 rfl rfl rfl ?_
 refine Za (k:=Zr (k:=Vv (k:=Wq (Za (k:=Zr (k:=?_))))))
 refine wo_pv (pv_buildA (vs := [_, _, _, _, _]) Tryz.underlying103 ti102 rfl rfl rfl ti103 rfl rfl) rfl ?_
 refine Zc [.int .u32 0, .int .u32 0, .int .u32 0, .int .u32 0, .int .u32 0] (k:=fun b3 => Zp (k:=Wq (Za (k:=Za (k:=Zr (k:=Vv (k:=?_)))))))
 refine r_callX hpd rfl rfl rfl (fun g _ => ?_)
 refine Vv (k:=Wq (Zb (k:=?_)))
 refine p_loop (fun (i : { x : Nat × Option Addr // x.1 ≤ N ∧ (x.1 < N → x.2 = some ⟨g, 64 * x.1, none⟩) ∧ ∀ b, x.2 = some b → b.spot = none }) => [(3, .pointer (some ⟨b3, 0, none⟩)), (4, .slice i.1.2 (64 * N - 64 * i.1.1) (64 * N - 64 * i.1.1))]) (fun (i : { x : Nat × Option Addr // x.1 ≤ N ∧ (x.1 < N → x.2 = some ⟨g, 64 * x.1, none⟩) ∧ ∀ b, x.2 = some b → b.spot = none }) => [Ce b3 103 ((sumsW p h0W i.1.1).list.map vW), Ce g 5 (vUs p)]) (fun (i : { x : Nat × Option Addr // x.1 ≤ N ∧ (x.1 < N → x.2 = some ⟨g, 64 * x.1, none⟩) ∧ ∀ b, x.2 = some b → b.spot = none }) => N - i.1.1) rfl (⟨(0, some ⟨g, 0, none⟩), Nat.zero_le _, fun _ => rfl, fun b e => by cases e; rfl⟩) ?_ ?_ (fun i => ?_)
 · exact ⟨rfl, rfl, trivial⟩
 ·
  exact ent_step (ce_norm (by rfl) (by rfl)) ent_pick
 obtain ⟨⟨i, ad⟩, hi, had, hsp⟩ := i
 dsimp only at hi had hsp ⊢
 try dsimp only
 refine Za (k:=Za (k:=Zr (k:=Vv (k:=Vv (k:=Vv (k:=Wq (Zi (t:=fun h14 => ?_) (f:=fun h14 => ?_))))))))
 ·
  refine Zk (k:=Ya (Za (k:=Zb (k:=?_))))
  have hiN : i < N := by omega
  have hal := had hiN
  subst hal
  have hvt : vUs ((p.drop (64 * i)).take 64) = ((vUs p).drop (64 * i)).take 64 := by simp [vUs, List.map_take, List.map_drop]
  refine Zr (k:=Vv (k:=?_))
  refine wo_pv (pv_slslice_tom (m := 64) Tryz.underlying89 ti5 rfl rfl rfl (by omega)) rfl ?_
  refine r_call1 (hash_take_sp (B := Ce g 5 (vUs p)) b3 (64 * N - 64 * i) (sumsW p h0W i) ((p.drop (64 * i)).take 64) (by rw [List.length_take, List.length_drop]; omega) (by rw [hvt]; exact sla_ceAt (64 * i) 64)) rfl rfl rfl ?_
  refine Wn (Yb (Ya (Zr (k:=Vv (k:=?_)))))
  refine wo_pv (pv_slslice_froma (m := 64) (kk := 64) Tryz.underlying89 ti5 rfl rfl rfl rfl rfl (by omega) (Nat.le_refl _) hsp) rfl ?_
  refine Vv (k:=Wn ?_)
  refine to_inv ⟨(i + 1, fromA (some ⟨g, 64 * i, none⟩) 64 (64 * N - 64 * i) 64), by dsimp only; omega, fun h => ?_, fun b e => ?_⟩ (by dsimp only; omega) ⟨rfl, ?_, trivial⟩ ?_
  · dsimp only at h ⊢
    rw [fromA, if_pos (by omega)]
    simp only [elemA]
    congr 2
  · dsimp only at e
    unfold fromA at e
    split at e
    · simp only [elemA, Option.some.injEq] at e; subst e; rfl
    · exact hsp b e
  · dsimp only
    show some (Value.slice _ _ _) = some (Value.slice _ _ _)
    rw [show 64 * N - 64 * i - 64 = 64 * N - 64 * (i + 1) from by omega]
  · dsimp only
    rw [show sumsW p h0W (i + 1) = takeW (sumsW p h0W i) ((p.drop (64 * i)).take 64) from rfl]
    exact ent_pick
 ·
  refine Ze (k:=Xa (Xi (Xb (Ya (Za (k:=?_))))))
  have hiN : i = N := by omega
  subst hiN
  obtain ⟨hl, hhl⟩ : ∃ hl, hl = (sumsW p h0W i).list := ⟨_, rfl⟩
  have hl5 : hl.length = 5 := by rw [hhl]; rfl
  have hag : (Value.agg #[vW (sumsW p h0W i).a, vW (sumsW p h0W i).b, vW (sumsW p h0W i).c, vW (sumsW p h0W i).d, vW (sumsW p h0W i).e]) = .agg (hl.map vW).toArray := by rw [hhl]; rfl
  rw [← hhl] at hsha
  refine Zr (k:=Vv (k:=Wq (Za (k:=Za (k:=Zr (k:=Zm [_, _, _, _, _] (k:=Vv (k:=Wq (Zb (k:=?_))))))))))
  refine p_loop (fun (i : { x : (Option Addr × Nat) × Nat // x.2 ≤ 5 }) => [(5, .slice i.1.1.1 (8 * i.1.2) i.1.1.2), (20, .agg (hl.map vW).toArray), (21, vI i.1.2)]) (fun (i : { x : (Option Addr × Nat) × Nat // x.2 ≤ 5 }) => [Row 5 1 (.slice i.1.1.1 (8 * i.1.2) i.1.1.2) (8 * i.1.2) (vUs ((hl.take i.1.2).flatMap hexW))]) (fun (i : { x : (Option Addr × Nat) × Nat // x.2 ≤ 5 }) => 5 - i.1.2) rfl (⟨((none, 0), 0), Nat.zero_le _⟩) ?_ ?_ (fun i => ?_)
  · exact ⟨rfl, by subst hhl; rfl, rfl, trivial⟩
  ·
   exact ent_step row_nil ent_nil
  obtain ⟨⟨⟨a1, c1⟩, m⟩, hm⟩ := i
  dsimp only at hm ⊢
  try dsimp only
  refine Za (k:=Zr (k:=Vv (k:=Wq (Za (k:=Zi (t:=fun h22 => ?_) (f:=fun h22 => ?_))))))
  ·
   refine Zk (k:=Ya (Za (k:=Zb (k:=Za (k:=Zr (k:=?_))))))
   refine wo_pv (pv_aidx Tryz.underlying103 Tryz.underlying102 ti102 rfl rfl rfl rfl rfl (by omega) (vW_getD (m := m) (by omega))) rfl ?_
   refine Vv (k:=Wq (Za (k:=?_)))
   obtain ⟨x, hx⟩ : ∃ x, x = hl.getD m 0 := ⟨_, rfl⟩
   rw [← hx]
   obtain ⟨xs, hxs⟩ : ∃ xs, xs = (hl.take m).flatMap hexW := ⟨_, rfl⟩
   rw [← hxs]
   refine Zr (k:=Vv (k:=Wq (Zb (k:=?_))))
   refine p_loop (fun (i : { y : (Option Addr × Nat) × Nat // y.2 ≤ 8 }) => [(5, .slice i.1.1.1 (8 * m + i.1.2) i.1.1.2), (7, vW x), (8, vI (28 - 4 * i.1.2)), (20, .agg (hl.map vW).toArray), (21, vI m)]) (fun (i : { y : (Option Addr × Nat) × Nat // y.2 ≤ 8 }) => [Row 5 1 (.slice i.1.1.1 (8 * m + i.1.2) i.1.1.2) (8 * m + i.1.2) (vUs (xs ++ hexP x i.1.2))]) (fun (i : { y : (Option Addr × Nat) × Nat // y.2 ≤ 8 }) => 8 - i.1.2) rfl (⟨((a1, c1), 0), Nat.zero_le _⟩) ?_ ?_ (fun i => ?_)
   · exact ⟨rfl, rfl, rfl, rfl, rfl, trivial⟩
   ·
    dsimp only
    rw [show hexP x 0 = [] from rfl, List.append_nil]
    exact ent_pick
   obtain ⟨⟨⟨a2, c2⟩, j⟩, hj⟩ := i
   dsimp only at hj ⊢
   try dsimp only
   refine Za (k:=Za (k:=Zr (k:=Vv (k:=Vv (k:=Wq (Zi (t:=fun h25 => ?_) (f:=fun h25 => ?_)))))))
   ·
    refine Zk (k:=Ya (Za (k:=Zb (k:=Zr (k:=Vv (k:=Vv (k:=Vv (k:=?_))))))))
    refine wo_pv (pv_shrW (m := 28 - 4 * j) rfl rfl (by omega) (by omega)) rfl ?_
    refine wo_pv (pv_andW (b := 15) rfl rfl) rfl ?_
    refine wo_pv (pv_indexm (l := hexD) (m := ((x >>> UInt32.ofNat (28 - 4 * j)) &&& 15).toNat) Tryz.underlying9 rfl rfl rfl (show _ < 16 from and15 _)) rfl ?_
    refine Zv [_] (cs := [_]) (k:=fun b34 => ?_)
    refine r_append1 (sz := 1) (bytes := 1) Tryz.underlying89 ti5 rfl rfl rfl rfl rfl rfl rfl (by rfl) (by rfl) (by omega) (by simp only [maxLen]; omega) rfl (fun a35 c35 => ?_)
    refine Vv (k:=Wn (Yb (Ya (Zr (k:=Vv (k:=Vv (k:=Vv (k:=Wn ?_))))))))
    refine to_inv ⟨((a35, c35), j + 1), by dsimp only; omega⟩ (by dsimp only; omega) ⟨rfl, rfl, vI_eq (by dsimp only; omega), rfl, rfl, trivial⟩ ?_
    dsimp only
    refine row_norm1 (by omega) ?_
    rw [hexP_succ, ← List.append_assoc]
    simp [vUs]
   ·
    refine Ze (k:=Xa (Xi (Xb (Yb (Ya (Zr (k:=Vv (k:=Vv (k:=Wn ?_)))))))))
    have hj8 : j = 8 := by omega
    subst hj8
    have hml : m < hl.length := by omega
    have hxe : xs ++ hexP x 8 = (hl.take (m + 1)).flatMap hexW := by
     rw [List.take_succ_eq_append_getElem hml, List.flatMap_append, ← hxs]
     have : x = hl[m] := by rw [hx]; simp [hml]
     rw [this]; simp [hexW, hexP]
    refine to_inv ⟨((a2, c2), m + 1), by dsimp only; omega⟩ (by dsimp only; omega) ⟨sl_eq (by dsimp only; omega), rfl, rfl, trivial⟩ ?_
    dsimp only
    rw [← hxe]
    exact ent_pick
  ·
   refine Ze (k:=Xa (Xi (Xb (Ya (Za (k:=?_))))))
   have hm5 : m = 5 := by omega
   subst hm5
   rw [List.take_of_length_le (by omega), ← hsha]
   refine Zr (k:=Vv (k:=?_))
   refine wo_row (fun h => by simp at h) (fun gg cap cur e1 e2 e3 e4 e5 e6 => ?_)
   cases e1
   refine r_b2s (l := shaB s) Tryz.underlying89 Tryz.underlying9 Tryz.underlying5 rfl (by simpa using e6) (by omega) rfl ?_
   refine Vv (k:=Wq (Zt (k:=?_)))
   refine fin_ret () (vs := [_]) (Cs := []) rfl (.tmp rfl .nil) rfl trivial ?_
   exact ent_nil
end Go.Proofs.YtibccdcemcgkeaaGreat
end
section
set_option maxRecDepth 100000
namespace Go.Proofs.YtibccdcemcgkeaaGreat
def isN (s : Bs) : Bool := decide (s.length = 40 ∧ ∀ c ∈ s, c ∈ hexD)
theorem isN_sha (s : Bs) : isN (shaB s) = true := decide_eq_true ⟨shaB_len s, shaB_mem s⟩
theorem index_neg {l : Bs} {c : UInt8} : Lib.indexByte l c < 0 ↔ c ∉ l := by
 rw [indexByte_find]
 cases h : l.findIdx? (· == c) with
 | none =>
   rw [List.findIdx?_eq_none_iff] at h
   simp only [Int.reduceNeg, Int.reduceLT, true_iff]
   intro hm
   have := h c hm
   simp at this
 | some i =>
   have h1 := List.findIdx?_eq_some_iff_getElem.1 h
   obtain ⟨hi, h2, _⟩ := h1
   have : l[i] = c := by simpa using h2
   constructor
   · intro h; dsimp only at h; omega
   · intro hm; exact absurd (this ▸ List.getElem_mem hi) hm
theorem hash_Is_sp (s : Bs) (hs : s.length ≤ 9223372036854775807) : SpF Tryz.prog 120 [vS s] (vB (isN s)) := by
 refine Sp.body (n := 18) Tryz.call120 Tryz.func120 rfl rfl rfl ?_
 refine Za (k:=Zr (k:=Vv (k:=Wq (Za (k:=Za (k:=Zr (k:=Vv (k:=Vv (k:=Vv (k:=Wq (Zb (k:=?_))))))))))))
 refine p_loop (fun (i : { j : Nat // j ≤ s.length ∧ ∀ i (h : i < s.length), i < j → s[i] ∈ hexD }) => [(0, vS s), (5, vI s.length), (6, vI i.1)]) (fun (i : { j : Nat // j ≤ s.length ∧ ∀ i (h : i < s.length), i < j → s[i] ∈ hexD }) => []) (fun (i : { j : Nat // j ≤ s.length ∧ ∀ i (h : i < s.length), i < j → s[i] ∈ hexD }) => s.length - i.1) rfl (⟨0, Nat.zero_le _, fun i h1 h2 => by omega⟩) ?_ ?_ (fun i => ?_)
 · exact ⟨rfl, rfl, rfl, trivial⟩
 ·
  exact ent_pick
 obtain ⟨j, hj, hin⟩ := i
 dsimp only
 try dsimp only
 refine Za (k:=Zr (k:=Vv (k:=Wq (Za (k:=Zi (t:=fun h7 => ?_) (f:=fun h7 => ?_))))))
 ·
  refine Zk (k:=Ya (Za (k:=Zb (k:=Za (k:=Zr (k:=Vv (k:=Vv (k:=Wq (Za (k:=?_))))))))))
  have hjl : j < s.length := by omega
  have hg : ((s.getD j 0).toNat : Int).toNat.toUInt8 = s[j] := by
   have : s.getD j 0 = s[j] := by simp [hjl]
   rw [this]; simp
  refine Zr (k:=Vv (k:=Vv (k:=Vv (k:=?_))))
  refine r_callF (IndexByte_sp hexD ((s.getD j 0).toNat : Int)) rfl rfl rfl ?_
  refine Vv (k:=Wq (Zi (t:=fun h13 => ?_) (f:=fun h13 => ?_)))
  ·
   refine Za (k:=Zr (k:=Vv (k:=Wq (Zt (k:=Vb (Va (Vi (Vb (Va ?_)))))))))
   have hc : s[j] ∉ hexD := by
    have := index_neg.1 h13
    rw [hg] at this; exact this
   refine fin_ret () (vs := [_]) (Cs := []) rfl (.tmp rfl .nil) ?_ trivial ent_nil
   have : isN s = false := decide_eq_false (fun ⟨_, h⟩ => hc (h _ (List.getElem_mem hjl)))
   rw [this]; rfl
  ·
   refine Zk (k:=Yb (Ya (Zr (k:=Vv (k:=Vv (k:=Wn ?_))))))
   refine to_inv ⟨j + 1, by omega, fun i hi h => ?_⟩ (by dsimp only; omega) ⟨rfl, rfl, rfl, trivial⟩ ent_nil
   by_cases he : i = j
   · subst he
     have := h13
     rw [index_neg, hg] at this
     exact Classical.not_not.1 this
   · exact hin i hi (by omega)
 ·
  refine Ze (k:=Xa (Xi (Xb (Ya (Za (k:=Zr (k:=Vv (k:=Vv (k:=Vv (k:=Vv (k:=Wq ?_)))))))))))
  refine Zt (k:=?_)
  refine fin_ret () (vs := [_]) (Cs := []) rfl (.tmp rfl .nil) ?_ trivial ent_nil
  have hall : ∀ c ∈ s, c ∈ hexD := fun c hc => by
   obtain ⟨i, hi, rfl⟩ := List.getElem_of_mem hc
   exact hin i hi (by omega)
  show vB _ = vB _
  congr 1
  rw [isN]
  exact decide_eq_decide.2 ⟨fun h => ⟨by omega, hall⟩, fun h => by omega⟩
end Go.Proofs.YtibccdcemcgkeaaGreat
end
section
set_option maxRecDepth 100000
namespace Go.Proofs.YtibccdcemcgkeaaGreat
theorem WriteByte_sp (p : Nat) (l : List UInt8) (c : UInt8) (h : l.length + 1 ≤ 140737488355328) : Sp1 Tryz.prog 116 [.pointer (some ⟨p, 0, none⟩), vU c.toNat] [IsB p l] .nilIface [IsB p (l ++ [c])] := by
 refine Sp.body (n := 17) Tryz.call116 Tryz.func116 rfl rfl rfl ?_
 refine wc_exi fun q1 => wc_exi fun q2 => wc_al (wc_pu fun hq => ?_)
 refine Za (k:=Zr (k:=Vv (k:=Wq (Za (k:=Zr (k:=Vv (k:=?_)))))))
 refine r_call1 (copyCheck_sp p q1 q2 hq.1) rfl rfl rfl ?_
 refine Wq (Za (k:=Zr (k:=Vv (k:=Vv (k:=Vv (k:=Vf 1 89 (k:=Zd (k:=Vv (k:=Zv [_] (cs := [_]) (k:=fun b13 => ?_))))))))))
 refine r_append1 (sz := 1) (bytes := 1) Tryz.underlying89 ti5 rfl rfl rfl rfl rfl rfl rfl (by rfl) (by rfl) (by omega) (by simp only [maxLen]; omega) rfl (fun a14 c14 => ?_)
 refine Vv (k:=Vf 1 89 (k:=?_))
 refine r_store ti89 rfl rfl rfl rfl (by simp) ?_
 refine Wq (Za (k:=Zr (k:=Vv (k:=Wq (Zt (k:=?_))))))
 refine fin_ret () (vs := [_]) (Cs := []) rfl (.tmp rfl .nil) rfl trivial ?_
 refine ent_ex (.pointer (some ⟨p, 0, none⟩)) ?_
 refine ent_ex (.slice a14 (l.length + 1) c14) ?_
 refine ent_al ?_
 have e1 : (l ++ [c]).length = l.length + 1 := List.length_append
 have e2 : vUs (l ++ [c]) = vUs l ++ [vU c.toNat] := by simp [vUs]
 rw [e1, e2]
 refine ent_pu ⟨.inr rfl, fun e => by omega⟩ ent_pick
theorem escape_Put_sp (s : Bs) (hs : s.length ≤ 1099511627776) : SpF Tryz.prog 77 [vS s] (vS (escB s)) := by
 refine Sp.body (n := 28) Tryz.call77 Tryz.func77 rfl rfl rfl ?_
 refine Za (k:=Zr (k:=Vv (k:=Wq (Za (k:=Zr (k:=Zc [.pointer none, .slice none 0 0] (k:=fun b3 => ?_)))))))
 refine wo_ent' (fold_newB (p := b3) (by rfl) (by rfl) (by rfl)) ?_
 refine Wq (Za (k:=Za (k:=Zr (k:=Vv (k:=Vv (k:=Vv (k:=Wq (Zb (k:=?_)))))))))
 refine p_loop (fun (i : { j : Nat // j ≤ s.length }) => [(0, vS s), (3, .pointer (some ⟨b3, 0, none⟩)), (6, vI s.length), (7, vI i.1)]) (fun (i : { j : Nat // j ≤ s.length }) => [IsB b3 (escB (s.take i.1))]) (fun (i : { j : Nat // j ≤ s.length }) => s.length - i.1) rfl (⟨0, Nat.zero_le _⟩) ?_ ?_ (fun i => ?_)
 · exact ⟨rfl, rfl, rfl, rfl, trivial⟩
 ·
  exact Ent.refl _
 obtain ⟨j, hj⟩ := i
 dsimp only
 try dsimp only
 refine Za (k:=Zr (k:=Vv (k:=Wq (Za (k:=Zi (t:=fun h8 => ?_) (f:=fun h8 => ?_))))))
 ·
  refine Zk (k:=Ya (Za (k:=Zb (k:=Za (k:=?_)))))
  have hjl : j < s.length := by omega
  have htl := (escB_len (s.take j)).2
  rw [List.length_take] at htl
  have hsu : escB (s.take (j + 1)) = escB (s.take j) ++ escC (s.getD j 0) := by
   rw [List.take_succ_eq_append_getElem hjl, escB_app]; simp [escB, hjl]
  refine Zr (k:=Vv (k:=Vv (k:=Wq (Za (k:=Zr (k:=Vv (k:=Vv (k:=Vv (k:=Wq (Zb (k:=Za (k:=?_))))))))))))
  refine Zr (k:=Vv (k:=Vv (k:=Wq (Zi (t:=fun h17 => ?_) (f:=fun h17 => ?_)))))
  ·
   refine Zr (k:=?_)
   refine r_call1 (WriteString_sp b3 (escB (s.take j)) [92, 115] (by simp only [List.length_cons, List.length_nil]; omega)) rfl rfl rfl ?_
   rw [escC, if_pos (by omega)] at hsu
   refine Wn (Yb (Yb (Ya (Zr (k:=Vv (k:=Vv (k:=Wn ?_)))))))
   refine to_inv ⟨j + 1, by omega⟩ (by dsimp only; omega) ⟨rfl, rfl, rfl, rfl, trivial⟩ ?_
   dsimp only
   rw [hsu]
   exact ent_pick
  ·
   refine Za (k:=Zr (k:=Vv (k:=Vv (k:=Wq (Zi (t:=fun h20 => ?_) (f:=fun h20 => ?_))))))
   ·
    refine Zr (k:=?_)
    refine r_call1 (WriteString_sp b3 (escB (s.take j)) [92, 110] (by simp only [List.length_cons, List.length_nil]; omega)) rfl rfl rfl ?_
    rw [escC, if_neg (by omega), if_pos (by omega)] at hsu
    refine Wn (Yb (Yb (Ya (Zr (k:=Vv (k:=Vv (k:=Wn ?_)))))))
    refine to_inv ⟨j + 1, by omega⟩ (by dsimp only; omega) ⟨rfl, rfl, rfl, rfl, trivial⟩ ?_
    dsimp only
    rw [hsu]
    exact ent_pick
   ·
    refine Za (k:=Zr (k:=Vv (k:=Vv (k:=Wq (Zi (t:=fun h23 => ?_) (f:=fun h23 => ?_))))))
    ·
     refine Zr (k:=?_)
     refine r_call1 (WriteString_sp b3 (escB (s.take j)) [92, 92] (by simp only [List.length_cons, List.length_nil]; omega)) rfl rfl rfl ?_
     rw [escC, if_neg (by omega), if_neg (by omega), if_pos (by omega)] at hsu
     refine Wn (Yb (Yb (Ya (Zr (k:=Vv (k:=Vv (k:=Wn ?_)))))))
     refine to_inv ⟨j + 1, by omega⟩ (by dsimp only; omega) ⟨rfl, rfl, rfl, rfl, trivial⟩ ?_
     dsimp only
     rw [hsu]
     exact ent_pick
    ·
     refine Zr (k:=Vv (k:=Vv (k:=Vv (k:=?_))))
     refine r_call1 (WriteByte_sp b3 (escB (s.take j)) (s.getD j 0) (by omega)) rfl rfl rfl ?_
     rw [escC, if_neg (by omega), if_neg (by omega), if_neg (by omega)] at hsu
     refine Wn (Yb (Yb (Ya (Zr (k:=Vv (k:=Vv (k:=Wn ?_)))))))
     refine to_inv ⟨j + 1, by omega⟩ (by dsimp only; omega) ⟨rfl, rfl, rfl, rfl, trivial⟩ ?_
     dsimp only
     rw [hsu]
     exact ent_pick
 ·
  refine Ze (k:=Xa (Xi (Xb (Ya (Za (k:=?_))))))
  have hjl : j = s.length := by omega
  subst hjl
  rw [List.take_length]
  refine Zr (k:=?_)
  refine r_call1 (String_sp b3 (escB s) (by have := (escB_len s).2; omega)) rfl rfl rfl ?_
  refine Vv (k:=Wq (Zt (k:=?_)))
  refine fin_ret () (vs := [_]) (Cs := []) rfl (.tmp rfl .nil) rfl trivial ?_
  exact ent_nil
theorem ref10_Escape_sp (s : Bs) (hs : s.length ≤ 1099511627776) : SpF Tryz.prog 49 [vS s] (vS (escB s)) := by
 refine Sp.body (n := 34) Tryz.call49 Tryz.func49 rfl rfl rfl ?_
 refine Za (k:=Zr (k:=Vv (k:=Wq (Za (k:=Zr (k:=Vv (k:=Wq (Za (k:=Za (k:=Zr (k:=Vv (k:=?_))))))))))))
 refine Wq (Zb (k:=?_))
 refine p_loop (fun (i : { j : Nat // j ≤ s.length }) => [(0, vS s), (3, vS (escB (s.take i.1))), (4, vI i.1)]) (fun (i : { j : Nat // j ≤ s.length }) => []) (fun (i : { j : Nat // j ≤ s.length }) => s.length - i.1) rfl (⟨0, Nat.zero_le _⟩) ?_ ?_ (fun i => ?_)
 · exact ⟨rfl, rfl, rfl, trivial⟩
 ·
  exact ent_nil
 obtain ⟨j, hj⟩ := i
 dsimp only
 have htl := (escB_len (s.take j)).2
 rw [List.length_take] at htl
 try dsimp only
 refine Za (k:=Za (k:=Zr (k:=Vv (k:=Vv (k:=Vv (k:=Vv (k:=Wq (Zi (t:=fun h8 => ?_) (f:=fun h8 => ?_)))))))))
 ·
  refine Zk (k:=Ya (Za (k:=Zb (k:=Za (k:=?_)))))
  have hjl : j < s.length := by omega
  have hsu : escB (s.take (j + 1)) = escB (s.take j) ++ escC (s.getD j 0) := by
   rw [List.take_succ_eq_append_getElem hjl, escB_app]; simp [escB, hjl]
  refine Zr (k:=Vv (k:=Vv (k:=Vv (k:=Wq (Zb (k:=Za (k:=Zr (k:=Vv (k:=Vv (k:=Wq (Zi (t:=fun h21 => ?_) (f:=fun h21 => ?_))))))))))))
  ·
   rw [escC, if_pos (by omega)] at hsu
   refine Zr (k:=Vv (k:=Vv (k:=Vv (k:=Wn (Yb (Yb (Ya (Zr (k:=Vv (k:=Vv (k:=Vv (k:=?_))))))))))))
   refine Wn ?_
   refine to_inv ⟨j + 1, by omega⟩ (by dsimp only; omega) ⟨rfl, by rw [hsu]; rfl, rfl, trivial⟩ ent_nil
  ·
   refine Za (k:=Zr (k:=Vv (k:=Vv (k:=Wq (Zi (t:=fun h25 => ?_) (f:=fun h25 => ?_))))))
   ·
    rw [escC, if_neg (by omega), if_pos (by omega)] at hsu
    refine Zr (k:=Vv (k:=Vv (k:=Vv (k:=Wn (Yb (Yb (Ya (Zr (k:=Vv (k:=Vv (k:=Vv (k:=?_))))))))))))
    refine Wn ?_
    refine to_inv ⟨j + 1, by omega⟩ (by dsimp only; omega) ⟨rfl, by rw [hsu]; rfl, rfl, trivial⟩ ent_nil
   ·
    refine Za (k:=Zr (k:=Vv (k:=Vv (k:=Wq (Zi (t:=fun h29 => ?_) (f:=fun h29 => ?_))))))
    ·
     rw [escC, if_neg (by omega), if_neg (by omega), if_pos (by omega)] at hsu
     refine Zr (k:=Vv (k:=Vv (k:=Vv (k:=Wn (Yb (Yb (Ya (Zr (k:=Vv (k:=Vv (k:=Vv (k:=?_))))))))))))
     refine Wn ?_
     refine to_inv ⟨j + 1, by omega⟩ (by dsimp only; omega) ⟨rfl, by rw [hsu]; rfl, rfl, trivial⟩ ent_nil
    ·
     rw [escC, if_neg (by omega), if_neg (by omega), if_neg (by omega)] at hsu
     refine Zr (k:=Vv (k:=Vv (k:=Vv (k:=Vv (k:=Vv (k:=?_))))))
     refine wo_pv (pv_slice_inm (m := j) (o := j + 1) Tryz.underlying9 rfl rfl rfl rfl (by omega) (by omega) (by omega)) rfl ?_
     have hone : (s.drop j).take (j + 1 - j) = [s.getD j 0] := by
      rw [drop_cons' hjl, show j + 1 - j = 1 from by omega]; rfl
     rw [hone]
     refine Vv (k:=Vv (k:=Wn (Yb (Yb (Ya (Zr (k:=Vv (k:=Vv (k:=Vv (k:=Wn ?_))))))))))
     refine to_inv ⟨j + 1, by omega⟩ (by dsimp only; omega) ⟨rfl, by rw [hsu]; rfl, rfl, trivial⟩ ent_nil
 ·
  refine Ze (k:=Xa (Xi (Xb (Ya (Za (k:=Zr (k:=Vv (k:=Vv (k:=Wq (Zt (k:=?_)))))))))))
  have hjl : j = s.length := by omega
  subst hjl
  rw [List.take_length]
  exact fin_ret () (vs := [_]) (Cs := []) rfl (.tmp rfl .nil) rfl trivial ent_nil
/-- What a word reads as. -/
def unV (s : Bs) : Value := .tuple #[vS ((unescB s).getD []), vB (unescB s).isSome]
theorem map_map_app {x : Option Bs} {a b : Bs} : (x.map (b ++ ·)).map (a ++ ·) = x.map ((a ++ b) ++ ·) := by cases x <;> simp
theorem map_nil_app (x : Option Bs) : x = x.map ([] ++ ·) := by cases x <;> rfl
theorem unesc_len : ∀ (n : Nat) (s t : Bs), s.length ≤ n → unescB s = some t → t.length ≤ s.length := by
 intro n
 induction n with
 | zero =>
   intro s t hs h
   have : s = [] := List.eq_nil_of_length_eq_zero (by omega)
   subst this
   cases h; simp
 | succ n ih =>
   intro s t hs h
   cases s with
   | nil => cases h; simp
   | cons c r =>
     simp only [List.length_cons] at hs ⊢
     rw [unescB_eq] at h
     split at h
     · split at h
       · cases h
       · rename_i d r'
         simp only [List.length_cons] at hs ⊢
         split at h
         · cases h
         · cases e : unescB r' with
           | none => rw [e] at h; cases h
           | some u =>
             rw [e] at h
             cases h
             have := ih r' u (by omega) e
             simp only [List.length_cons]; omega
     · split at h
       · cases h
       · cases e : unescB r with
         | none => rw [e] at h; cases h
         | some u =>
           rw [e] at h
           cases h
           have := ih r u (by omega) e
           simp only [List.length_cons]; omega
theorem unescB_len {s t : Bs} (h : unescB s = some t) : t.length ≤ s.length := unesc_len _ s t (Nat.le_refl _) h
theorem un_plain {s : Bs} {i : Nat} (h : i < s.length) (h1 : (s.getD i 0).toNat ≠ 92) (h2 : (s.getD i 0).toNat ≠ 32) (h3 : (s.getD i 0).toNat ≠ 10) : unescB (s.drop i) = (unescB (s.drop (i + 1))).map ([s.getD i 0] ++ ·) := by
 rw [drop_cons' h, unescB_eq, if_neg h1, if_neg (by omega)]; rfl
theorem un_bad {s : Bs} {i : Nat} (h : i < s.length) (h1 : (s.getD i 0).toNat ≠ 92) (h2 : (s.getD i 0).toNat = 32 ∨ (s.getD i 0).toNat = 10) : unescB (s.drop i) = none := by
 rw [drop_cons' h, unescB_eq, if_neg h1, if_pos h2]
theorem un_last {s : Bs} {i : Nat} (h : i < s.length) (h1 : (s.getD i 0).toNat = 92) (h2 : i + 1 = s.length) : unescB (s.drop i) = none := by
 rw [drop_cons' h, unescB_eq, if_pos h1, h2, List.drop_length]
theorem un_two {s : Bs} {i : Nat} (h : i < s.length) (h1 : (s.getD i 0).toNat = 92) (h2 : i + 1 < s.length) : unescB (s.drop i) = match unC (s.getD (i + 1) 0) with | none => none | some e => (unescB (s.drop (i + 2))).map ([e] ++ ·) := by
 rw [drop_cons' h, unescB_eq, if_pos h1, drop_cons' h2]
 rfl
theorem escape_Read_sp (s : Bs) (hs : s.length ≤ 1099511627776) : SpF Tryz.prog 67 [vS s] (unV s) := by
 refine Sp.body (n := 42) Tryz.call67 Tryz.func67 rfl rfl rfl ?_
 refine Za (k:=Zr (k:=Vv (k:=Vv (k:=Wq (Za (k:=Zr (k:=Zc [.pointer none, .slice none 0 0] (k:=fun b4 => ?_))))))))
 refine wo_ent' (fold_newB (p := b4) (by rfl) (by rfl) (by rfl)) ?_
 refine Wq (Za (k:=Za (k:=Zr (k:=Vv (k:=Wq (Zb (k:=?_)))))))
 refine p_loop (fun (i : { x : Bs × Nat // x.2 ≤ s.length ∧ x.1.length ≤ x.2 ∧ unescB s = (unescB (s.drop x.2)).map (x.1 ++ ·) }) => [(0, vS s), (4, .pointer (some ⟨b4, 0, none⟩)), (5, vI i.1.2)]) (fun (i : { x : Bs × Nat // x.2 ≤ s.length ∧ x.1.length ≤ x.2 ∧ unescB s = (unescB (s.drop x.2)).map (x.1 ++ ·) }) => [IsB b4 i.1.1]) (fun (i : { x : Bs × Nat // x.2 ≤ s.length ∧ x.1.length ≤ x.2 ∧ unescB s = (unescB (s.drop x.2)).map (x.1 ++ ·) }) => s.length - i.1.2) rfl (⟨([], 0), Nat.zero_le _, Nat.zero_le _, map_nil_app (unescB s)⟩) ?_ ?_ (fun i => ?_)
 · exact ⟨rfl, rfl, rfl, trivial⟩
 ·
  exact Ent.refl _
 obtain ⟨⟨out, j⟩, hj, hol, hu⟩ := i
 dsimp only at hj hol hu ⊢
 try dsimp only
 refine Za (k:=Za (k:=Zr (k:=Vv (k:=Vv (k:=Vv (k:=Vv (k:=Wq (Zi (t:=fun h10 => ?_) (f:=fun h10 => ?_)))))))))
 ·
  refine Zk (k:=Ya (Za (k:=Zb (k:=Za (k:=?_)))))
  have hjl : j < s.length := by omega
  refine Zr (k:=Vv (k:=Vv (k:=Vv (k:=Vv (k:=Wq (Za (k:=Za (k:=Zr (k:=Vv (k:=Vv (k:=Wq ?_)))))))))))
  refine Zi (t:=fun h17 => ?_) (f:=fun h17 => ?_)
  ·
   refine Za (k:=Za (k:=Zr (k:=Vv (k:=Vv (k:=Vv (k:=Wq (Za (k:=Zr (k:=Vv (k:=Vv (k:=Vv (k:=?_))))))))))))
   refine Vv (k:=Wq (Zi (t:=fun h23 => ?_) (f:=fun h23 => ?_)))
   ·
    refine Za (k:=Zr (k:=Vv (k:=Vv (k:=Wq (Zt (k:=Va (Va (Vb (Va (Vi (Vb ?_)))))))))))
    refine Va ?_
    rw [un_last hjl (by omega) (by omega)] at hu
    refine fin_ret () (vs := [_, _]) (Cs := []) rfl (.tmp rfl (.tmp rfl .nil)) ?_ trivial ent_nil
    rw [unV, hu]; rfl
   ·
    refine Zk (k:=Ya (Za (k:=?_)))
    have hj1 : j + 1 < s.length := by omega
    rw [un_two hjl (by omega) hj1] at hu
    refine Zr (k:=Vv (k:=Vv (k:=?_)))
    refine wo_pv (pv_indexm (m := j + 1) Tryz.underlying9 rfl rfl (by omega) (by omega)) rfl ?_
    refine Wq (Zb (k:=Za (k:=Zr (k:=Vv (k:=Vv (k:=Wq (Zi (t:=fun h27 => ?_) (f:=fun h27 => ?_))))))))
    ·
     rw [unC, if_pos (by omega)] at hu
     refine Zr (k:=Vv (k:=Wn (Yb (Ya (Zr (k:=Vv (k:=?_)))))))
     first
     | (rw [un_plain hjl (by omega) (by omega) (by omega)] at hu
        refine r_call1 (WriteByte_sp b4 out (s.getD j 0) (by omega)) rfl rfl rfl ?_)
     | refine r_call1 (WriteByte_sp b4 out 32 (by omega)) rfl rfl rfl ?_
     | refine r_call1 (WriteByte_sp b4 out 10 (by omega)) rfl rfl rfl ?_
     | (rw [hc92]; refine r_call1 (WriteByte_sp b4 out 92 (by omega)) rfl rfl rfl ?_)
     refine Wn (Yb (Ya (Zr (k:=Vv (k:=Vv (k:=Vv (k:=Wn ?_)))))))
     rw [map_map_app] at hu
     first
     | exact to_inv ⟨(_, j + 1), by dsimp only; omega, by dsimp only; rw [List.length_append]; simp only [List.length_singleton]; omega, hu⟩ (by dsimp only; omega) ⟨rfl, rfl, rfl, trivial⟩ ent_pick
     | exact to_inv ⟨(_, j + 2), by dsimp only; omega, by dsimp only; rw [List.length_append]; simp only [List.length_singleton]; omega, hu⟩ (by dsimp only; omega) ⟨rfl, rfl, vI_eq (by dsimp only; omega), trivial⟩ ent_pick
    ·
     refine Za (k:=Zr (k:=Vv (k:=Vv (k:=Wq (Zi (t:=fun h29 => ?_) (f:=fun h29 => ?_))))))
     ·
      rw [unC, if_neg (by omega), if_pos (by omega)] at hu
      refine Zr (k:=Vv (k:=Wn (Yb (Ya (Zr (k:=Vv (k:=?_)))))))
      first
      | (rw [un_plain hjl (by omega) (by omega) (by omega)] at hu
         refine r_call1 (WriteByte_sp b4 out (s.getD j 0) (by omega)) rfl rfl rfl ?_)
      | refine r_call1 (WriteByte_sp b4 out 32 (by omega)) rfl rfl rfl ?_
      | refine r_call1 (WriteByte_sp b4 out 10 (by omega)) rfl rfl rfl ?_
      | (rw [hc92]; refine r_call1 (WriteByte_sp b4 out 92 (by omega)) rfl rfl rfl ?_)
      refine Wn (Yb (Ya (Zr (k:=Vv (k:=Vv (k:=Vv (k:=Wn ?_)))))))
      rw [map_map_app] at hu
      first
      | exact to_inv ⟨(_, j + 1), by dsimp only; omega, by dsimp only; rw [List.length_append]; simp only [List.length_singleton]; omega, hu⟩ (by dsimp only; omega) ⟨rfl, rfl, rfl, trivial⟩ ent_pick
      | exact to_inv ⟨(_, j + 2), by dsimp only; omega, by dsimp only; rw [List.length_append]; simp only [List.length_singleton]; omega, hu⟩ (by dsimp only; omega) ⟨rfl, rfl, vI_eq (by dsimp only; omega), trivial⟩ ent_pick
     ·
      refine Za (k:=Zr (k:=Vv (k:=Vv (k:=Wq (Zi (t:=fun h31 => ?_) (f:=fun h31 => ?_))))))
      ·
       rw [unC, if_neg (by omega), if_neg (by omega), if_pos (by omega)] at hu
       have hc92 : s.getD j 0 = 92 := u8eq.2 (show _ = 92 by omega)
       refine Zk (k:=Yb (Ya (Zr (k:=Vv (k:=?_)))))
       first
       | (rw [un_plain hjl (by omega) (by omega) (by omega)] at hu
          refine r_call1 (WriteByte_sp b4 out (s.getD j 0) (by omega)) rfl rfl rfl ?_)
       | refine r_call1 (WriteByte_sp b4 out 32 (by omega)) rfl rfl rfl ?_
       | refine r_call1 (WriteByte_sp b4 out 10 (by omega)) rfl rfl rfl ?_
       | (rw [hc92]; refine r_call1 (WriteByte_sp b4 out 92 (by omega)) rfl rfl rfl ?_)
       refine Wn (Yb (Ya (Zr (k:=Vv (k:=Vv (k:=Vv (k:=Wn ?_)))))))
       rw [map_map_app] at hu
       first
       | exact to_inv ⟨(_, j + 1), by dsimp only; omega, by dsimp only; rw [List.length_append]; simp only [List.length_singleton]; omega, hu⟩ (by dsimp only; omega) ⟨rfl, rfl, rfl, trivial⟩ ent_pick
       | exact to_inv ⟨(_, j + 2), by dsimp only; omega, by dsimp only; rw [List.length_append]; simp only [List.length_singleton]; omega, hu⟩ (by dsimp only; omega) ⟨rfl, rfl, vI_eq (by dsimp only; omega), trivial⟩ ent_pick
      ·
       refine Za (k:=Zr (k:=Vv (k:=Vv (k:=Wq (Zt (k:=Vb (Va (Vb (Va (Vi (Vb ?_)))))))))))
       refine Va ?_
       rw [unC, if_neg (by omega), if_neg (by omega), if_neg (by omega)] at hu
       refine fin_ret () (vs := [_, _]) (Cs := []) rfl (.tmp rfl (.tmp rfl .nil)) ?_ trivial ent_nil
       rw [unV, hu]; rfl
  ·
   refine Za (k:=Zr (k:=Vv (k:=Vv (k:=Vv (k:=Gi 2 (t:=fun h35 => ?_) (f:=fun h35 => ?_))))))
   ·
    refine O1 (k:=O1 (k:=P1 (k:=Wq (Z1 (k:=Za (k:=Zr (k:=Vv (k:=Vv (k:=Wq (Zt (k:=Va ?_)))))))))))
    refine Vb (Va (Vi (Vb (Va ?_))))
    rw [un_bad hjl (by omega) (by omega)] at hu
    refine fin_ret () (vs := [_, _]) (Cs := []) rfl (.tmp rfl (.tmp rfl .nil)) ?_ trivial ent_nil
    rw [unV, hu]; rfl
   ·
    refine I0 (k:=Vv (k:=I0 (k:=Vv (k:=P0 (k:=Wq (Zi (t:=fun h38 => ?_) (f:=fun h38 => ?_)))))))
    ·
     refine Za (k:=Zr (k:=Vv (k:=Vv (k:=Wq (Zt (k:=Va (Vb (Va (Vi (Vb (Va ?_)))))))))))
     rw [un_bad hjl (by omega) (by omega)] at hu
     refine fin_ret () (vs := [_, _]) (Cs := []) rfl (.tmp rfl (.tmp rfl .nil)) ?_ trivial ent_nil
     rw [unV, hu]; rfl
    ·
     refine Zk (k:=Ya (Zr (k:=Vv (k:=?_))))
     first
     | (rw [un_plain hjl (by omega) (by omega) (by omega)] at hu
        refine r_call1 (WriteByte_sp b4 out (s.getD j 0) (by omega)) rfl rfl rfl ?_)
     | refine r_call1 (WriteByte_sp b4 out 32 (by omega)) rfl rfl rfl ?_
     | refine r_call1 (WriteByte_sp b4 out 10 (by omega)) rfl rfl rfl ?_
     | (rw [hc92]; refine r_call1 (WriteByte_sp b4 out 92 (by omega)) rfl rfl rfl ?_)
     refine Wn (Yb (Ya (Zr (k:=Vv (k:=Vv (k:=Vv (k:=Wn ?_)))))))
     rw [map_map_app] at hu
     first
     | exact to_inv ⟨(_, j + 1), by dsimp only; omega, by dsimp only; rw [List.length_append]; simp only [List.length_singleton]; omega, hu⟩ (by dsimp only; omega) ⟨rfl, rfl, rfl, trivial⟩ ent_pick
     | exact to_inv ⟨(_, j + 2), by dsimp only; omega, by dsimp only; rw [List.length_append]; simp only [List.length_singleton]; omega, hu⟩ (by dsimp only; omega) ⟨rfl, rfl, vI_eq (by dsimp only; omega), trivial⟩ ent_pick
 ·
  refine Ze (k:=Xa (Xi (Xb (Ya (Za (k:=?_))))))
  have hjl : j = s.length := by omega
  subst hjl
  rw [unescB_end (Nat.le_refl _)] at hu
  simp only [Option.map_some, List.append_nil] at hu
  refine Zr (k:=?_)
  refine r_call1 (String_sp b4 out (by omega)) rfl rfl rfl ?_
  refine Vv (k:=Vv (k:=Wq (Zt (k:=?_))))
  refine fin_ret () (vs := [_, _]) (Cs := []) rfl (.tmp rfl (.tmp rfl .nil)) ?_ trivial ent_nil
  rw [unV, hu]; rfl
theorem word_not {s : Bs} {j : Nat} (h : j < s.length) (hb : (s.getD j 0).toNat ≤ 32 ∨ 126 < (s.getD j 0).toNat ∨ (s.getD j 0).toNat = 92) : ¬ wordP s := by
 rintro ⟨h1, _⟩
 have := h1 (s.getD j 0) (by simp [h])
 omega
theorem word_all {s : Bs} (h : ∀ i, i < s.length → 32 < (s.getD i 0).toNat ∧ (s.getD i 0).toNat ≤ 126 ∧ (s.getD i 0).toNat ≠ 92) : wordP s ↔ 1 ≤ s.length ∧ s.length ≤ 12 :=
 ⟨fun x => x.2, fun x => ⟨fun c hc => by obtain ⟨i, hi, rfl⟩ := mem_getD (d := 0) hc; exact h i hi, x⟩⟩
theorem escape_Word_sp (s : Bs) (hs : s.length ≤ 9223372036854775807) : SpF Tryz.prog 125 [vS s] (vB (decide (wordP s))) := by
 refine Sp.body (n := 33) Tryz.call125 Tryz.func125 rfl rfl rfl ?_
 refine Za (k:=Zr (k:=Vv (k:=Wq (Za (k:=Za (k:=Zr (k:=Vv (k:=Vv (k:=Vv (k:=Wq (Zb (k:=?_))))))))))))
 refine p_loop (fun (i : { j : Nat // j ≤ s.length ∧ ∀ i, i < j → 32 < (s.getD i 0).toNat ∧ (s.getD i 0).toNat ≤ 126 ∧ (s.getD i 0).toNat ≠ 92 }) => [(0, vS s), (5, vI s.length), (6, vI i.1)]) (fun (i : { j : Nat // j ≤ s.length ∧ ∀ i, i < j → 32 < (s.getD i 0).toNat ∧ (s.getD i 0).toNat ≤ 126 ∧ (s.getD i 0).toNat ≠ 92 }) => []) (fun (i : { j : Nat // j ≤ s.length ∧ ∀ i, i < j → 32 < (s.getD i 0).toNat ∧ (s.getD i 0).toNat ≤ 126 ∧ (s.getD i 0).toNat ≠ 92 }) => s.length - i.1) rfl (⟨0, Nat.zero_le _, fun i h => by omega⟩) ?_ ?_ (fun i => ?_)
 · exact ⟨rfl, rfl, rfl, trivial⟩
 ·
  exact ent_pick
 obtain ⟨j, hj, hin⟩ := i
 dsimp only
 try dsimp only
 refine Za (k:=Zr (k:=Vv (k:=Wq (Za (k:=Zi (t:=fun h7 => ?_) (f:=fun h7 => ?_))))))
 ·
  refine Zk (k:=Ya (Za (k:=Zb (k:=Za (k:=Zr (k:=Vv (k:=Vv (k:=Wq (Za (k:=?_))))))))))
  have hjl : j < s.length := by omega
  refine Zr (k:=Vv (k:=Vv (k:=Vv (k:=Vv (k:=Vv (k:=Gi 4 (t:=fun h13 => ?_) (f:=fun h13 => ?_)))))))
  ·
   refine O1 (k:=O1 (k:=O1 (k:=O1 (k:=P1 (k:=Vv (k:=O1 (k:=O1 (k:=O1 (k:=O1 (k:=P1 (k:=Wq ?_)))))))))))
   refine Z1 (k:=Za (k:=Zr (k:=Vv (k:=Wq (Zt (k:=Vb (Va (Vi (Vb (Va ?_))))))))))
   have hn := word_not hjl (by omega)
   refine fin_ret () (vs := [_]) (Cs := []) rfl (.tmp rfl .nil) ?_ trivial ent_nil
   rw [decide_eq_false hn]; rfl
  ·
   refine I0 (k:=Vv (k:=I0 (k:=Vv (k:=I0 (k:=Vv (k:=I0 (k:=Vv (k:=P0 (k:=Vv (k:=Gi 10 (t:=fun h19 => ?_) (f:=fun h19 => ?_)))))))))))
   ·
    refine O1 (k:=O1 (k:=O1 (k:=O1 (k:=P1 (k:=Wq (Z1 (k:=Za (k:=Zr (k:=Vv (k:=Wq (Zt (k:=?_))))))))))))
    refine Vb (Va (Vi (Vb (Va ?_))))
    have hn := word_not hjl (by omega)
    refine fin_ret () (vs := [_]) (Cs := []) rfl (.tmp rfl .nil) ?_ trivial ent_nil
    rw [decide_eq_false hn]; rfl
   ·
    refine I0 (k:=Vv (k:=I0 (k:=Vv (k:=I0 (k:=Vv (k:=I0 (k:=Vv (k:=P0 (k:=Wq (Zi (t:=fun h24 => ?_) (f:=fun h24 => ?_)))))))))))
    ·
     refine Za (k:=Zr (k:=Vv (k:=Wq (Zt (k:=Vb (Va (Vi (Vb (Va ?_)))))))))
     have hn := word_not hjl (by omega)
     refine fin_ret () (vs := [_]) (Cs := []) rfl (.tmp rfl .nil) ?_ trivial ent_nil
     rw [decide_eq_false hn]; rfl
    ·
     refine Zk (k:=Yb (Ya (Zr (k:=Vv (k:=Vv (k:=Wn ?_))))))
     refine to_inv ⟨j + 1, by omega, fun i hi => ?_⟩ (by dsimp only; omega) ⟨rfl, rfl, rfl, trivial⟩ ent_nil
     by_cases he : i = j
     · subst he; omega
     · exact hin i (by omega)
 ·
  refine Ze (k:=Xa (Xi (Xb (Ya (Za (k:=?_))))))
  have hall := word_all (s := s) fun i hi => hin i (by omega)
  refine Zr (k:=Vv (k:=Vv (k:=Vv (k:=Gi 2 (t:=fun h28 => ?_) (f:=fun h28 => ?_)))))
  ·
   refine I1 (k:=Vv (k:=I1 (k:=Vv (k:=I1 (k:=Vv (k:=P1 (k:=Vv (k:=Wq (Zt (k:=?_))))))))))
   refine fin_ret () (vs := [_]) (Cs := []) rfl (.tmp rfl .nil) ?_ trivial ent_nil
   show vB _ = vB _
   congr 1
   first
   | (have hp := List.length_pos_iff.2 h28
      refine decide_eq_decide.2 (Iff.trans ?_ hall.symm)
      constructor <;> intro h <;> omega)
   | (have hp : s = [] := by simpa using h28
      exact (decide_eq_false (fun h => by have := (hall.1 h).1; rw [hp] at this; simp at this)).symm)
  ·
   refine O0 (k:=O0 (k:=O0 (k:=P0 (k:=Vv (k:=Wq (Zt (k:=?_)))))))
   refine fin_ret () (vs := [_]) (Cs := []) rfl (.tmp rfl .nil) ?_ trivial ent_nil
   show vB _ = vB _
   congr 1
   first
   | (have hp := List.length_pos_iff.2 h28
      refine decide_eq_decide.2 (Iff.trans ?_ hall.symm)
      constructor <;> intro h <;> omega)
   | (have hp : s = [] := by simpa using h28
      exact (decide_eq_false (fun h => by have := (hall.1 h).1; rw [hp] at this; simp at this)).symm)
theorem Index_one_sp (l : List UInt8) (c : UInt8) : SpF Tryz.prog 197 [vS l, vS [c]] (vI (Lib.indexByte l c)) :=
 SpF.of_same Tryz.call197 fun w => Tryz.stringslite_Index_one ⟨⟨l⟩⟩ c w
theorem Contains_one_sp (l : List UInt8) (c : UInt8) : SpF Tryz.prog 175 [vS l, vS [c]] (vB (decide (c ∈ l))) := by
 have e : decide (0 ≤ Lib.indexByte l c) = decide (c ∈ l) := decide_eq_decide.2 ⟨fun h => Classical.byContradiction fun hn => by have := index_neg.2 hn; omega, fun h => Classical.byContradiction fun hn => index_neg.1 (by omega) h⟩
 rw [← e]
 exact SpF.of_same Tryz.call175 fun w => Tryz.strings_Contains_one ⟨⟨l⟩⟩ c w
theorem TrimPrefix_sp (l p : List UInt8) : SpF Tryz.prog 68 [vS l, vS p] (vS (Lib.trimPrefix l p)) :=
 SpF.of_same Tryz.call68 fun w => Tryz.strings_TrimPrefix ⟨⟨l⟩⟩ ⟨⟨p⟩⟩ w
def cutV (d : UInt8) (s : Bs) : Value := .tuple #[vS (cutP d s).1, vS (cutP d s).2.1, vB (cutP d s).2.2]
theorem cutP_index (d : UInt8) (s : Bs) : (Lib.indexByte s d < 0 ∧ cutP d s = (s, [], false)) ∨ ∃ i : Nat, Lib.indexByte s d = (i : Int) ∧ i < s.length ∧ cutP d s = (s.take i, s.drop (i + 1), true) := by
 rw [indexByte_find]
 unfold cutP
 cases h : s.findIdx? (· == d) with
 | none => exact .inl ⟨by decide, rfl⟩
 | some i => exact .inr ⟨i, rfl, (List.findIdx?_eq_some_iff_getElem.1 h).1, rfl⟩
theorem liteCut_sp (s : Bs) (d : UInt8) (hs : s.length ≤ 1099511627776) : SpF Tryz.prog 170 [vS s, vS [d]] (cutV d s) := by
 have hx := index_neg (l := s) (c := d)
 have hc := cutP_index d s
 have hd1 : ([d] : Bs).length = 1 := rfl
 refine Sp.body (n := 23) Tryz.call170 Tryz.func170 rfl rfl rfl ?_
 refine Za (k:=Zr (k:=Vv (k:=Vv (k:=Vv (k:=Wq (Za (k:=Za (k:=Zr (k:=Vv (k:=Vv (k:=?_)))))))))))
 refine r_callF (Index_one_sp s d) rfl rfl rfl ?_
 refine Vv (k:=Wq (Za (k:=Zr (k:=Vv (k:=Vv (k:=Wq (Zi (t:=fun h12 => ?_) (f:=fun h12 => ?_))))))))
 ·
  obtain ⟨i, hi, hil, hcut⟩ := hc.resolve_left (fun h => by omega)
  rw [hi]
  refine Za (k:=Dw [] (k:=?_))
  refine Di 0 (t:=Uv) (k:=Di 1 (t:=Uv) (k:=?_))
  refine d_first 2 rfl rfl rfl (by kernel_rfl) (by kernel_rfl) (tl_pv (pv_slice_tom (m := i) Tryz.underlying9 rfl rfl rfl (by omega))) ?_
  refine Di 3 (t:=Uv) (k:=Di 4 (t:=Uv) (k:=Di 5 (t:=Uv) (k:=Di 6 (t:=Uv) (k:=Di 7 (t:=Uv) (k:=?_)))))
  refine d_first 8 rfl rfl rfl (by kernel_rfl) (by kernel_rfl) (tl_pv (pv_slice_fromm (m := i + 1) Tryz.underlying9 rfl rfl rfl (by omega))) ?_
  refine Di 9 (t:=Uv) (k:=Di 10 (t:=Uv) (k:=Di 11 (t:=Uv) (k:=Dd (k:=Ya (Zt (k:=Va ?_))))))
  refine fin_ret () (vs := [_, _, _]) (Cs := []) rfl (.tmp rfl (.tmp rfl (.tmp rfl .nil))) ?_ trivial ent_nil
  rw [cutV, hcut]; rfl
 ·
  refine Zk (k:=Ya (Za (k:=Zr (k:=Vv (k:=Vv (k:=Vv (k:=Vv (k:=Wq (Zt (k:=?_))))))))))
  refine fin_ret () (vs := [_, _, _]) (Cs := []) rfl (.tmp rfl (.tmp rfl (.tmp rfl .nil))) ?_ trivial ent_nil
  rcases hc with ⟨_, hc⟩ | ⟨i, hi, _, _⟩
  · rw [cutV, hc]; rfl
  · omega
theorem Cut_sp (s : Bs) (d : UInt8) (hs : s.length ≤ 1099511627776) : SpF Tryz.prog 114 [vS s, vS [d]] (cutV d s) := by
 refine Sp.body (n := 13) Tryz.call114 Tryz.func114 rfl rfl rfl ?_
 refine Za (k:=Zr (k:=Vv (k:=Vv (k:=Vv (k:=Wq (Za (k:=Zr (k:=Vv (k:=Vv (k:=?_))))))))))
 refine r_callF (liteCut_sp s d hs) rfl rfl rfl ?_
 refine wo_pv (pv_extract (v := vS (cutP d s).1) rfl rfl) rfl ?_
 refine Vv (k:=Vv (k:=Vv (k:=Vv (k:=Vv (k:=Wq (Zt (k:=?_)))))))
 exact fin_ret () (vs := [_, _, _]) (Cs := []) rfl (.tmp rfl (.tmp rfl (.tmp rfl .nil))) rfl trivial ent_nil
/-! Words that blanks part. -/
theorem escape_Words_sp (s : Bs) : Sp Tryz.prog 115 [vS s] [] (X := Nat) (fun b => .func (.func 171) #[] #[.pointer (some ⟨b, 0, none⟩)]) (fun _ => True) (fun b => [Ce b 9 [vS s]]) := by
 refine Sp.body (n := 4) Tryz.call115 Tryz.func115 rfl rfl rfl ?_
 refine Za (k:=Zr (k:=Zx [_] (k:=fun b1 => Vv (k:=Wq (Za (k:=Zr (k:=Vv (k:=Vv (k:=Wq (Zt (k:=?_)))))))))))
 refine fin_ret b1 (vs := [_]) (Cs := []) rfl (.tmp rfl .nil) rfl trivial ?_
 exact ent_pick
abbrev okW (s : Bs) : List Bs → Bs → Prop := fun pre w => ∃ r, splitB 32 s = pre ++ w :: r
abbrev stopW (s : Bs) : List Bs → Prop := fun pre => ∃ r, splitB 32 s = pre ++ r
theorem escape_Words_it (s : Bs) (hs : s.length ≤ 1099511627776) (b : Nat) :
    Iter Tryz.prog 171 [.pointer (some ⟨b, 0, none⟩)] (fun w : Bs => [vS w]) (okW s) (stopW s) [Ce b 9 [vS s]] [] (splitB 32 s) (fun _ => .tuple #[]) := by
 intro y J Jx ys
 refine Sp.body (n := 21) Tryz.call171 Tryz.func171 rfl rfl rfl ?_
 refine Zb (k:=?_)
 refine p_loop (fun (i : { x : List Bs × Bs // splitB 32 s = x.1 ++ splitB 32 x.2 ∧ x.2.length ≤ s.length }) => [(0, y), (1, .pointer (some ⟨b, 0, none⟩))]) (fun (i : { x : List Bs × Bs // splitB 32 s = x.1 ++ splitB 32 x.2 ∧ x.2.length ≤ s.length }) => [J i.1.1, Ce b 9 [vS i.1.2]]) (fun (i : { x : List Bs × Bs // splitB 32 s = x.1 ++ splitB 32 x.2 ∧ x.2.length ≤ s.length }) => i.1.2.length) rfl (⟨([], s), rfl, Nat.le_refl _⟩) ?_ ?_ (fun i => ?_)
 · exact ⟨rfl, rfl, trivial⟩
 ·
  exact Ent.refl _
 obtain ⟨⟨pre, t⟩, hpre, htl⟩ := i
 dsimp only at hpre htl ⊢
 try dsimp only
 refine Zb (k:=Za (k:=?_))
 have hcc : (∃ r, splitB 32 t = (cutP 32 t).1 :: r) ∧ ((cutP 32 t).2.2 = false → splitB 32 t = [(cutP 32 t).1]) ∧ ((cutP 32 t).2.2 = true → splitB 32 t = (cutP 32 t).1 :: splitB 32 (cutP 32 t).2.1 ∧ (cutP 32 t).2.1.length < t.length) := by
  rcases cutP_cases 32 t with ⟨hn, hc⟩ | ⟨x, r, he, hn, hc⟩
  · rw [hc, splitB_one hn]
    refine ⟨⟨[], rfl⟩, fun _ => rfl, ?_⟩
    intro h; cases h
  · rw [hc, he, splitB_cut hn]
    refine ⟨⟨_, rfl⟩, ?_, ?_⟩
    · intro h; cases h
    · intro _
      refine ⟨rfl, ?_⟩
      simp; omega
 generalize hw : (cutP 32 t).1 = w at hcc
 generalize hr : (cutP 32 t).2.1 = rest at hcc
 generalize hm : (cutP 32 t).2.2 = more at hcc
 obtain ⟨hc1, hc2, hc3⟩ := hcc
 refine Zr (k:=Zd (k:=?_))
 refine r_callF (Cut_sp t 32 (by omega)) rfl rfl rfl ?_
 rw [cutV]
 rw [hw, hr, hm]
 refine Vv (k:=?_)
 refine wo_pv (pv_extract (v := vS w) rfl rfl) rfl ?_
 refine wo_pv (pv_extract (v := vS rest) rfl rfl) rfl ?_
 refine wo_pv (pv_extract (v := vB more) rfl rfl) rfl ?_
 refine Vv (k:=Vv (k:=Vv (k:=Wq (Za (k:=Za (k:=Zr (k:=Vv (k:=Vv (k:=?_)))))))))
 refine r_yield ys pre w (by obtain ⟨r, hr⟩ := hc1; exact ⟨r, by rw [hpre, hr]⟩) rfl rfl rfl ?_ ?_
 ·
  refine Vv (k:=Vv (k:=I0 (k:=Vv (k:=I0 (k:=Vv (k:=P0 (k:=Wq (Zi (t:=fun h19 => ?_) (f:=fun h19 => ?_)))))))))
  ·
   refine Zt (k:=Va (Vb (Vi (Vb ?_))))
   first
   | (refine fin_ret (some (pre ++ [w])) (vs := []) (Cs := []) rfl .nil rfl (fun p e => by cases e; obtain ⟨r, hr⟩ := hc1; exact ⟨r, by rw [hpre, hr]; simp⟩) ?_
      simp only [endsAt]
      exact ent_pick)
   | (have hall : splitB 32 s = pre ++ [w] := by rw [hpre, hc2 (by simpa using h19)]
      refine fin_ret none (vs := []) (Cs := []) rfl .nil rfl (fun p e => by cases e) ?_
      simp only [endsAt]
      rw [hall]
      exact ent_pick)
  ·
   refine Zk (k:=Ya (Zr (k:=Vv (k:=Zo (k:=Wn (Yb ?_))))))
   obtain ⟨h1, h2⟩ := hc3 (by simp_all)
   refine to_inv ⟨(pre ++ [w], rest), ?_, ?_⟩ ?_ ⟨rfl, rfl, trivial⟩ ent_pick
   · dsimp only; rw [hpre, h1]; simp
   · dsimp only; omega
   · dsimp only; omega
 ·
  refine Vv (k:=Vv (k:=O1 (k:=O1 (k:=P1 (k:=Wq (Z1 (k:=Zt (k:=Va (Vb (Vi (Vb ?_)))))))))))
  first
  | (refine fin_ret (some (pre ++ [w])) (vs := []) (Cs := []) rfl .nil rfl (fun p e => by cases e; obtain ⟨r, hr⟩ := hc1; exact ⟨r, by rw [hpre, hr]; simp⟩) ?_
     simp only [endsAt]
     exact ent_pick)
  | (have hall : splitB 32 s = pre ++ [w] := by rw [hpre, hc2 (by simpa using h19)]
     refine fin_ret none (vs := []) (Cs := []) rfl .nil rfl (fun p e => by cases e) ?_
     simp only [endsAt]
     rw [hall]
     exact ent_pick)
end Go.Proofs.YtibccdcemcgkeaaGreat
end
