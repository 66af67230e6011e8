/- Texts of this proof, put together: SHash2, SHash3, Slic, SHash4, SIs. -/
import Derived.Test.YtdnoacgopfcpbaaGreatQ08
set_option linter.unusedVariables false
set_option linter.unusedSimpArgs false
namespace Go.Proofs.YtdnoacgopfcpbaaGreat
section
set_option maxRecDepth 100000
theorem setAt_full {l vs : List Value} (h : l.length = vs.length) : setAt l 0 vs = vs := by
 have := setAt_mid vs [] l [] (by rw [h])
 simpa using this
/-- So many words added. -/
def addL (h s : List UInt32) (i : Nat) : List UInt32 := (List.zipWith (· + ·) h s).take i ++ h.drop i
theorem addL_len {h s : List UInt32} (e : h.length = s.length) {i : Nat} (hi : i ≤ h.length) : (addL h s i).length = h.length := by
 simp [addL, List.length_zipWith, ← e]; omega
theorem addL_get {h s : List UInt32} (e : h.length = s.length) {i : Nat} (hi : i < h.length) : (addL h s i).getD i 0 = h.getD i 0 := by
 have hl : ((List.zipWith (· + ·) h s).take i).length = i := by simp [List.length_zipWith, ← e]; omega
 simp only [addL, List.getD_eq_getElem?_getD]
 rw [List.getElem?_append_right (by omega), hl, Nat.sub_self, List.getElem?_drop, Nat.add_zero]
theorem addL_set {h s : List UInt32} (e : h.length = s.length) {i : Nat} (hi : i < h.length) : (addL h s i).set i (h.getD i 0 + s.getD i 0) = addL h s (i + 1) := by
 have hl : ((List.zipWith (· + ·) h s).take i).length = i := by simp [List.length_zipWith, ← e]; omega
 have hz : i < (List.zipWith (· + ·) h s).length := by simp [List.length_zipWith, ← e]; omega
 have hd : h.drop i = h[i] :: h.drop (i + 1) := List.drop_eq_getElem_cons hi
 unfold addL
 rw [hd, List.set_append_right _ _ (by omega), hl, Nat.sub_self, List.set_cons_zero, List.take_succ_eq_append_getElem hz]
 have h1 : h.getD i 0 = h[i] := by simp [hi]
 have h2 : s.getD i 0 = s[i] := by simp [← e, hi]
 simp [List.getElem_zipWith, hi, ← e]
theorem hash_take_sp {B : HP} {a : Option Addr} (p c : Nat) (h : W5) (b : Bs) (hb : b.length = 64) (sh : SlA B a (vUs b)) : Sp1 Tryz.prog 224 [.pointer (some ⟨p, 0, none⟩), .slice a 64 c] [Ce p 95 (h.list.map vW), B] (.tuple #[]) [Ce p 95 ((takeW h b).list.map vW), B] := by
 have hwl : (spreadL b 80).length = 80 := spreadL_len b 80
 have htk : takeW h b = (let s := roundsW (spreadL b 80) h 80; ⟨h.a + s.a, h.b + s.b, h.c + s.c, h.d + s.d, h.e + s.e⟩) := rfl
 have hsp := hash_spread_sp c b hb sh
 generalize spreadL b 80 = ws at hwl htk hsp
 have hwm : (ws.map vW).length = 80 := by rw [List.length_map, hwl]
 refine Sp.body (n := 88) Tryz.call224 Tryz.func224 rfl rfl rfl ?_
 refine Qc (k:=Vv (k:=?_))
 refine r_call1 hsp rfl rfl rfl ?_
 refine Zc [.int .u32 0, .int .u32 0, .int .u32 0, .int .u32 0, .int .u32 0, .int .u32 0, .int .u32 0, .int .u32 0, .int .u32 0, .int .u32 0, .int .u32 0, .int .u32 0, .int .u32 0, .int .u32 0, .int .u32 0, .int .u32 0, .int .u32 0, .int .u32 0, .int .u32 0, .int .u32 0, .int .u32 0, .int .u32 0, .int .u32 0, .int .u32 0, .int .u32 0, .int .u32 0, .int .u32 0, .int .u32 0, .int .u32 0, .int .u32 0, .int .u32 0, .int .u32 0, .int .u32 0, .int .u32 0, .int .u32 0, .int .u32 0, .int .u32 0, .int .u32 0, .int .u32 0, .int .u32 0, .int .u32 0, .int .u32 0, .int .u32 0, .int .u32 0, .int .u32 0, .int .u32 0, .int .u32 0, .int .u32 0, .int .u32 0, .int .u32 0, .int .u32 0, .int .u32 0, .int .u32 0, .int .u32 0, .int .u32 0, .int .u32 0, .int .u32 0, .int .u32 0, .int .u32 0, .int .u32 0, .int .u32 0, .int .u32 0, .int .u32 0, .int .u32 0, .int .u32 0, .int .u32 0, .int .u32 0, .int .u32 0, .int .u32 0, .int .u32 0, .int .u32 0, .int .u32 0, .int .u32 0, .int .u32 0, .int .u32 0, .int .u32 0, .int .u32 0, .int .u32 0, .int .u32 0, .int .u32 0] (k:=fun b4 => ?_)
 refine r_storea (vs := ws.map vW) ti162 (show Nat.beq 80 (ws.map vW).length = true by rw [hwm]; rfl) rfl rfl (by simp [oneCell]) (show 0 + (ws.map vW).length ≤ _ by rw [hwm]; exact Nat.le_refl 80) ?_
 rw [setAt_full (by rw [hwm]; rfl)]
 refine Wq (Za (k:=Dw [Ce p 95 (h.list.map vW)] (k:=?_)))
 refine Dv 0 (k:=Dv 1 (k:=?_))
 refine d_first 2 rfl rfl rfl (by kernel_rfl) (by kernel_rfl) (tl_pv (pv_aindex1 (m := 0) Tryz.underlying95 ti94 rfl rfl rfl (by first | rfl | omega) (by omega))) ?_
 refine Di 3 (t:=Ul) (k:=Dv 4 (k:=Dv 5 (k:=?_)))
 refine d_first 6 rfl rfl rfl (by kernel_rfl) (by kernel_rfl) (tl_pv (pv_aindex1 (m := 1) Tryz.underlying95 ti94 rfl rfl rfl (by first | rfl | omega) (by omega))) ?_
 refine Di 7 (t:=Ul) (k:=Dv 8 (k:=Dv 9 (k:=?_)))
 refine d_first 10 rfl rfl rfl (by kernel_rfl) (by kernel_rfl) (tl_pv (pv_aindex1 (m := 2) Tryz.underlying95 ti94 rfl rfl rfl (by first | rfl | omega) (by omega))) ?_
 refine Di 11 (t:=Ul) (k:=Dv 12 (k:=Dv 13 (k:=?_)))
 refine d_first 14 rfl rfl rfl (by kernel_rfl) (by kernel_rfl) (tl_pv (pv_aindex1 (m := 3) Tryz.underlying95 ti94 rfl rfl rfl (by first | rfl | omega) (by omega))) ?_
 refine Di 15 (t:=Ul) (k:=Dv 16 (k:=Dv 17 (k:=?_)))
 refine d_first 18 rfl rfl rfl (by kernel_rfl) (by kernel_rfl) (tl_pv (pv_aindex1 (m := 4) Tryz.underlying95 ti94 rfl rfl rfl (by first | rfl | omega) (by omega))) ?_
 refine Di 19 (t:=Ul) (k:=Dv 20 (k:=Dv 21 (k:=Dv 22 (k:=Dv 23 (k:=Dv 24 (k:=Dd (k:=Ya (Za (k:=Qc (k:=Vv (k:=?_)))))))))))
 refine Wq (Zb (k:=?_))
 refine p_loop (fun (i : { j : Nat // j ≤ 80 }) => [(0, .pointer (some ⟨p, 0, none⟩)), (4, .pointer (some ⟨b4, 0, none⟩)), (5, vW (roundsW ws h i.1).a), (6, vW (roundsW ws h i.1).b), (7, vW (roundsW ws h i.1).c), (8, vW (roundsW ws h i.1).d), (9, vW (roundsW ws h i.1).e), (38, vI i.1)]) (fun (i : { j : Nat // j ≤ 80 }) => [Ce p 95 (h.list.map vW), Ce b4 162 (ws.map vW), B]) (fun (i : { j : Nat // j ≤ 80 }) => 80 - i.1) rfl (⟨0, Nat.zero_le _⟩) ?_ ?_ (fun i => ?_)
 · exact ⟨rfl, rfl, rfl, rfl, rfl, rfl, rfl, rfl, trivial⟩
 ·
  exact ent_pick
 obtain ⟨j, hj⟩ := i
 dsimp only
 try dsimp only
 refine Qc (k:=Vv (k:=Wq (Za (k:=Zi (t:=fun h39 => ?_) (f:=fun h39 => ?_)))))
 ·
  refine Zk (k:=Ya (Za (k:=Zb (k:=Za (k:=?_)))))
  obtain ⟨s, hs⟩ : ∃ s, s = roundsW ws h j := ⟨_, rfl⟩
  have hs2 : roundsW ws h (j + 1) = roundW ws j s := by rw [hs]; rfl
  rw [← hs]
  refine Zr (k:=Qv (k:=Wq (Qc (k:=Qv (k:=Qv (k:=?_))))))
  refine r_callF (hash_mixed_sp j s.b s.c s.d (by omega)) rfl rfl rfl ?_
  refine Qv (k:=Qv (k:=Vv (k:=Wq (Za (k:=Dw [Ce b4 162 (ws.map vW)] (k:=?_))))))
  refine Dv 0 (k:=Dv 2 (k:=Dv 4 (k:=Dv 6 (k:=Dv 8 (k:=?_)))))
  refine d_first 9 rfl rfl rfl (by kernel_rfl) (by kernel_rfl) (tl_pv (pv_aindex1 Tryz.underlying162 ti94 rfl rfl rfl (by first | rfl | omega) (by omega))) ?_
  refine d_first 10 rfl rfl rfl (by kernel_rfl) (by kernel_rfl) (tl_load Tryz.underlying94 rfl rfl (vW_getD (m := j) (by omega))) ?_
  refine Dn 1 (k:=?_)
  refine an_callF (RotateLeft32_sp _ 5 (.inr (.inl rfl))) rfl rfl rfl ?_
  refine d_first 3 rfl rfl rfl (by kernel_rfl) (by kernel_rfl) (tl_pv (pv_addW rfl rfl)) ?_
  refine d_first 5 rfl rfl rfl (by kernel_rfl) (by kernel_rfl) (tl_pv (pv_addW rfl rfl)) ?_
  refine d_first 7 rfl rfl rfl (by kernel_rfl) (by kernel_rfl) (tl_pv (pv_addW rfl rfl)) ?_
  refine d_first 11 rfl rfl rfl (by kernel_rfl) (by kernel_rfl) (tl_pv (pv_addW rfl rfl)) ?_
  refine Dv 12 (k:=Dd (k:=Ya (Zr (k:=Qv (k:=Vv (k:=?_))))))
  refine r_callF (RotateLeft32_sp _ 30 (.inr (.inr rfl))) rfl rfl rfl ?_
  refine Qv (k:=Qv (k:=Qv (k:=Vv (k:=Wn (Yb (Ya (Zr (k:=Vv (k:=?_)))))))))
  refine Vv (k:=Wn ?_)
  refine to_inv ⟨j + 1, by omega⟩ (by dsimp only; omega) ?_ ent_pick
  dsimp only
  rw [hs2]
  exact ⟨rfl, rfl, rfl, rfl, rfl, rfl, rfl, rfl, trivial⟩
 ·
  refine Ze (k:=Xa (Xi (Xb (Ya (Za (k:=?_))))))
  have hj80 : j = 80 := by omega
  subst hj80
  obtain ⟨s, hs⟩ : ∃ s, s = roundsW ws h 80 := ⟨_, rfl⟩
  dsimp only at htk
  rw [← hs] at htk ⊢
  have hh5 : h.list.length = 5 := rfl
  have hs5 : s.list.length = 5 := rfl
  refine Zr (k:=Qv (k:=Qv (k:=Vv (k:=?_))))
  refine wo_pv (pv_buildA (vs := [_, _, _, _, _]) Tryz.underlying95 ti94 rfl rfl rfl ti95 rfl rfl) rfl ?_
  refine Vv (k:=Wq (Zb (k:=?_)))
  refine p_loop (fun (i : { m : Nat // m ≤ 5 }) => [(0, .pointer (some ⟨p, 0, none⟩)), (73, .agg (s.list.map vW).toArray), (74, vI i.1)]) (fun (i : { m : Nat // m ≤ 5 }) => [Ce p 95 ((addL h.list s.list i.1).map vW), B]) (fun (i : { m : Nat // m ≤ 5 }) => 5 - i.1) rfl (⟨0, Nat.zero_le _⟩) ?_ ?_ (fun i => ?_)
  · exact ⟨rfl, rfl, rfl, trivial⟩
  ·
   exact ent_step (ce_norm (by rfl) (by rfl)) ent_pick
  obtain ⟨m, hm⟩ := i
  dsimp only
  have hal := addL_len (h := h.list) (s := s.list) (i := m) rfl hm
  try dsimp only
  refine Qc (k:=Vv (k:=Wq (Za (k:=Zi (t:=fun h75 => ?_) (f:=fun h75 => ?_)))))
  ·
   refine Zk (k:=Ya (Za (k:=Zb (k:=Qc (k:=Vv (k:=?_))))))
   refine wo_pv (pv_aidx Tryz.underlying95 Tryz.underlying94 ti94 rfl rfl rfl rfl rfl (by omega) (vW_getD (m := m) (by omega))) rfl ?_
   refine Qv (k:=Wq (Dw [] (k:=?_)))
   refine Dv 0 (k:=Dv 1 (k:=Dv 2 (k:=?_)))
   refine d_first 3 rfl rfl rfl (by kernel_rfl) (by kernel_rfl) (tl_pv (pv_aindex1 Tryz.underlying95 ti94 rfl rfl rfl (by first | rfl | omega) (by omega))) ?_
   refine Dv 5 (k:=Dv 7 (k:=Dn 4 (k:=?_)))
   refine an_load Tryz.underlying94 rfl rfl ((vW_getD (m := m) (by omega)).trans (by rw [addL_get (hh5.trans hs5.symm) (by omega)])) rfl ?_
   refine d_first 6 rfl rfl rfl (by kernel_rfl) (by kernel_rfl) (tl_pv (pv_addW rfl rfl)) ?_
   refine d_first 8 rfl rfl rfl (by kernel_rfl) (by kernel_rfl) (tl_pv (pv_aindex1 Tryz.underlying95 ti94 rfl rfl rfl (by first | rfl | omega) (by omega))) ?_
   refine Dn 9 (k:=No (k:=Dd (k:=Yb (Ya (Zr (k:=Qv (k:=Wn ?_)))))))
   refine to_inv ⟨m + 1, by omega⟩ (by dsimp only; omega) ⟨rfl, rfl, rfl, trivial⟩ ?_
   dsimp only
   rw [← addL_set (hh5.trans hs5.symm) (by omega)]
   exact ent_step (ce_norm (by rfl) (by rw [List.map_set])) ent_pick
  ·
   refine Ze (k:=Xa (Xi (Xb ?_)))
   have hm5 : m = 5 := by omega
   subst hm5
   refine fin_end () (vs := []) (Cs := []) rfl .nil rfl trivial ?_
   rw [htk]
   exact ent_step (ce_norm (by rfl) (by rfl)) ent_pick
end
section
set_option maxRecDepth 100000
section
variable {r : Option Nat} {P : Program} {n : Nat} {A : List HP} {L : Loc} {ty : TypeId} {pos : String} {after : Array Edge}
theorem opt_copyS {dst : Option Tmp} {x y : Operand} {dT sT e : TypeId} {g dLen dCap T : Nat} {cur : List Value} {s : Bs} (hu : P.underlying dT = some (.slice e)) (hs : (P.info? e).map (·.size) = some 1)
    (hx : ev L x = some (.slice (some ⟨g, 0, none⟩) dLen dCap)) (hy : ev L y = some (vS s)) (hq : s.length ≤ dLen) (hl : s.length ≤ cur.length) :
    OpT r P n ⟨dst, .call ⟨.builtin .copy, #[x, y], #[dT, sT]⟩, ty, pos, after, none⟩ A L [Ce g T cur] (fun _ : Unit => vI s.length) (fun _ => True) (fun _ => [Ce g T (setAt cur 0 (vUs s))]) := by
 refine opt_turn (fun ac f w M h1 hf dj tt hr => ?_)
 have hr' : h1 = Res.one g _ := hr
 subst hr'
 have hb : w.heap[g]? = some (.cells cur.toArray T (0, 0)) := tt.ow _ _ (by simp [Res.add, Res.one])
 obtain ⟨w', hrun, hb', ho', he'⟩ := run_storeCells_ce (P := P) (vUs s) w cur 0 0 hb (by simp [vUs, oneCell]) (by simp [vUs]; omega)
 refine ⟨w', Res.one g (.cells (setAt cur 0 (vUs s)).toArray T (0, 0)), dj_one_any dj, Sat.setBlk dj tt (by simpa using hb') ho' he', rfl, .inl ?_⟩
 cases hq2 : P.info? e with
 | none => simp [hq2] at hs
 | some i =>
   have hi : i.size = 1 := by simpa [hq2] using hs
   have hsz : (Builtin.lenOf (vS s)).run P w = .ok s.length w := rfl
   have hc : (Builtin.firstCells 1 s.length (vS s)).run P w = .ok (vUs s).toArray w := by
    show Result.ok _ w = Result.ok _ w
    congr 1
    apply Array.ext'
    simp [vUs, ByteArray.data_extract]
   have hm : Nat.min s.length dLen = s.length := Nat.min_eq_left hq
   simp only [execOp, resolve, Array.map, f.ev hx, f.ev hy, invoke, builtin]
   simp [execOp, resolve, f.ev hx, f.ev hy, invoke, builtin, Builtin.copy_, run_underlying hu, sizeOf, typeInfo, program, Sem.run, hq2, hi, hsz, hm, hc, hrun]
   rfl
end
/-- The padding, with so many bytes of the length. -/
def padI (s : Bs) (i : Nat) : Bs := s ++ [0x80] ++ zeros (64 * blocksN s - 9 - s.length) ++ (zeros (8 - i) ++ ((List.range 8).map (len8 s)).drop (8 - i))
theorem padI_len (s : Bs) {i : Nat} (h : i ≤ 8) : (padI s i).length = 64 * blocksN s := by
 simp only [padI, blocksN, zeros, List.length_append, List.length_replicate, List.length_drop, List.length_map, List.length_range, List.length_singleton]
 omega
theorem padI_8 (s : Bs) : padI s 8 = padB s := by simp [padI, padB, zeros]
theorem padI_0 (s : Bs) : ((vUs s ++ List.replicate (64 * blocksN s - s.length) (vU 0)).set s.length (vU 128)) = vUs (padI s 0) := by
 have hb : 64 * blocksN s - s.length = (64 * blocksN s - 9 - s.length) + 8 + 1 := by unfold blocksN; omega
 have hl : (vUs s).length = s.length := by simp [vUs]
 rw [List.set_append_right _ _ (by omega), hl, Nat.sub_self, hb, List.replicate_succ, List.set_cons_zero, ← List.replicate_append_replicate]
 simp [padI, vUs, zeros]
theorem padI_set (s : Bs) {i : Nat} (h : i < 8) : (padI s i).set (64 * blocksN s - 1 - i) (len8 s (7 - i)) = padI s (i + 1) := by
 have hp : (s ++ [0x80] ++ zeros (64 * blocksN s - 9 - s.length)).length = 64 * blocksN s - 8 := by
  simp only [blocksN, zeros, List.length_append, List.length_replicate, List.length_singleton]; omega
 have hb : 64 ≤ 64 * blocksN s := by unfold blocksN; omega
 unfold padI
 rw [List.set_append_right _ _ (by omega), hp, show 64 * blocksN s - 1 - i - (64 * blocksN s - 8) = 7 - i from by omega]
 congr 1
 have hz : zeros (8 - i) = zeros (7 - i) ++ [0] := by
  have : 8 - i = (7 - i) + 1 := by omega
  rw [this, zeros, zeros, List.replicate_succ']
 have hzl : (zeros (7 - i)).length = 7 - i := by simp [zeros]
 have hm : 7 - i < ((List.range 8).map (len8 s)).length := by simp; omega
 have hd : ((List.range 8).map (len8 s)).drop (7 - i) = len8 s (7 - i) :: ((List.range 8).map (len8 s)).drop (8 - i) := by
  rw [List.drop_eq_getElem_cons hm]
  have : 7 - i + 1 = 8 - i := by omega
  rw [this]; simp
 rw [hz, List.append_assoc, List.set_append_right _ _ (by omega), hzl, Nat.sub_self, List.singleton_append, List.set_cons_zero, show 8 - (i + 1) = 7 - i from by omega, hd]
theorem vUs_set {l : Bs} {m : Nat} {c : UInt8} : (vUs l).set m (vU c.toNat) = vUs (l.set m c) := by simp [vUs, List.map_set]
theorem len8_byte {s : Bs} (hs : s.length ≤ 1099511627776) {j : Nat} (hj : j < 8) : IntKind.u8.wrap (Int.fdiv (IntKind.u64.wrap (IntKind.u64.wrap (s.length : Int) * 8)) (2 ^ (min (8 * j) IntKind.u64.bits))) = ((len8 s (7 - j)).toNat : Int) := by
 have w64 : ∀ n : Int, IntKind.u64.wrap n = n % 18446744073709551616 := fun n => by simp [IntKind.wrap, IntKind.signed, IntKind.bits]
 have w8 : ∀ n : Int, IntKind.u8.wrap n = n % 256 := fun n => by simp [IntKind.wrap, IntKind.signed, IntKind.bits]
 have h1 : IntKind.u64.wrap (IntKind.u64.wrap (s.length : Int) * 8) = ((8 * s.length : Nat) : Int) := by rw [w64, w64]; omega
 have h2 : min (8 * j) IntKind.u64.bits = 8 * j := Nat.min_eq_left (by simp only [IntKind.bits]; omega)
 rw [h1, h2, two_pow, Int.fdiv_eq_ediv_of_nonneg _ (Int.natCast_nonneg _), w8, ← Int.natCast_ediv]
 have h3 : 7 - (7 - j) = j := by omega
 simp only [len8, h3, UInt8.toNat_ofNat']
 generalize 8 * s.length / 2 ^ (8 * j) = q
 omega
theorem hash_padded_sp (s : Bs) (hs : s.length ≤ 1099511627776) : Sp Tryz.prog 223 [vS s] [] (X := Nat) (fun g => .slice (some ⟨g, 0, none⟩) (64 * blocksN s) (64 * blocksN s)) (fun _ => True) (fun g => [Ce g 5 (vUs (padB s))]) := by
 have hbn : 64 * blocksN s = ((s.length + 8) / 64 + 1) * 64 := by unfold blocksN; omega
 have hbl : s.length + 9 ≤ 64 * blocksN s := by unfold blocksN; omega
 have hbu : 64 * blocksN s ≤ s.length + 72 := by unfold blocksN; omega
 refine Sp.body (n := 43) Tryz.call223 Tryz.func223 rfl rfl rfl ?_
 refine Qc (k:=Vv (k:=Wq (Qc (k:=Qv (k:=Qv (k:=Qv (k:=?_)))))))
 refine Wq (Qc (k:=Qv (k:=?_)))
 refine r_makeSlice (m := 64 * blocksN s) (z := .int .u8 0) Tryz.underlying56 ti5 rfl rfl rfl (vI_eq (by omega)) (vI_eq (by omega)) (by omega) (by rw [show Tryz.t5.bytes = 1 from rfl]; omega) rfl (fun b14 => ?_)
 refine Vv (k:=Wq (Qc (k:=Qv (k:=?_))))
 refine wo_opT (by intro c; simp) (opt_copyS Tryz.underlying56 rfl rfl rfl (by omega) (by rw [List.length_replicate]; omega) (cur := List.replicate (64 * blocksN s) (vU 0)) (T := 5)) rfl (fun _ _ => ?_)
 have hsa : setAt (List.replicate (64 * blocksN s) (vU 0)) 0 (vUs s) = vUs s ++ List.replicate (64 * blocksN s - s.length) (vU 0) := by
  have h1 : List.replicate (64 * blocksN s) (vU 0) = List.replicate s.length (vU 0) ++ List.replicate (64 * blocksN s - s.length) (vU 0) := by rw [List.replicate_append_replicate]; congr 1; omega
  have := setAt_mid (vUs s) [] (List.replicate s.length (vU 0)) (List.replicate (64 * blocksN s - s.length) (vU 0)) (by simp [vUs])
  rw [h1]; simpa using this
 rw [hsa]
 have hl0 : (vUs s ++ List.replicate (64 * blocksN s - s.length) (vU 0)).length = 64 * blocksN s := by simp [vUs]; omega
 refine Wq (Qc (k:=Qv (k:=Vv (k:=?_))))
 refine r_elemAddr (sz := 1) (m := s.length) (kk := s.length) Tryz.underlying56 ti5 rfl rfl rfl rfl (by omega) (by omega) (Nat.mul_one _) rfl ?_
 refine r_store ti5 rfl rfl rfl rfl (show 0 + s.length < _ by omega) ?_
 rw [Nat.zero_add, padI_0]
 refine Wq (Qc (k:=Qv (k:=?_)))
 refine wo_pv (pv_conv rfl Tryz.underlying3 Tryz.underlying96) rfl ?_
 refine wo_pv (pv_mulw rfl rfl) rfl ?_
 refine Vv (k:=Wq (Za (k:=Qc (k:=Vv (k:=Wq (Zb (k:=?_)))))))
 refine p_loop (fun (i : { j : Nat // j ≤ 8 }) => [(4, .slice (some ⟨b14, 0, none⟩) (64 * blocksN s) (64 * blocksN s)), (5, .int .u64 (IntKind.u64.wrap (IntKind.u64.wrap (s.length : Int) * 8))), (26, vI i.1)]) (fun (i : { j : Nat // j ≤ 8 }) => [Ce b14 5 (vUs (padI s i.1))]) (fun (i : { j : Nat // j ≤ 8 }) => 8 - i.1) rfl (⟨0, Nat.zero_le _⟩) ?_ ?_ (fun i => ?_)
 · exact ⟨rfl, rfl, rfl, trivial⟩
 ·
  exact ent_pick
 obtain ⟨j, hj⟩ := i
 dsimp only
 have hpl := padI_len s hj
 have hpv : (vUs (padI s j)).length = 64 * blocksN s := by simp [vUs, hpl]
 try dsimp only
 refine Qc (k:=Vv (k:=Wq (Za (k:=Zi (t:=fun h27 => ?_) (f:=fun h27 => ?_)))))
 ·
  refine Zk (k:=Ya (Za (k:=Zb (k:=Qc (k:=Qv (k:=Wq (Zr (k:=Qv (k:=?_)))))))))
  refine Qv (k:=Qv (k:=Qv (k:=Vv (k:=?_))))
  refine wo_pv (pv_shr (m := 8 * j) rfl (vI_eq (by omega))) rfl ?_
  refine wo_pv (pv_conv rfl Tryz.underlying96 Tryz.underlying5) rfl ?_
  refine r_elemAddr (sz := 1) (m := 64 * blocksN s - 1 - j) (kk := 64 * blocksN s - 1 - j) Tryz.underlying56 ti5 rfl rfl rfl (by omega) (by omega) (by omega) (Nat.mul_one _) rfl ?_
  refine r_store ti5 rfl rfl rfl rfl (show 0 + (64 * blocksN s - 1 - j) < _ by omega) ?_
  rw [Nat.zero_add, len8_byte hs (by omega), vUs_set, padI_set s (by omega)]
  refine Wn (Yb (Ya (Zr (k:=Qv (k:=Wn ?_)))))
  exact to_inv ⟨j + 1, by omega⟩ (by dsimp only; omega) ⟨rfl, rfl, rfl, trivial⟩ ent_pick
 ·
  refine Ze (k:=Xa (Xi (Xb (Ya (Qc (k:=Qv (k:=Wq (Zt (k:=?_)))))))))
  have hj8 : j = 8 := by omega
  subst hj8
  rw [padI_8]
  refine fin_ret b14 (vs := [_]) (Cs := []) rfl (.tmp rfl .nil) rfl trivial ?_
  exact ent_pick
end
section
/-- The address of a slice that begins so many elements on. -/
def fromA (a : Option Addr) (m cap kk : Nat) : Option Addr := if m < cap then elemA a kk else a
section
variable {r : Option Nat} {P : Program} {n : Nat} {L : Loc} {Hs : List HP} {Q : Out} {ty : TypeId}
theorem pv_slslice_froma {x y : Operand} {a : Option Addr} {len cap m kk : Nat} {k : IntKind} {i : Int} {t e : TypeId} {ti : TypeInfo} {sz : Nat} (ht : P.underlying t = some (.slice e)) (hi : P.info? e = some ti) (hsz : ti.size = sz) (hx : ev L x = some (.slice a len cap)) (hy : ev L y = some (.int k i)) (hm : i = (m : Int)) (hk : m * sz = kk) (h : m ≤ len) (hc : len ≤ cap) (ha : ∀ b, a = some b → b.spot = none) :
    PV P n L (.slice t x (some y) none none) ty (.slice (fromA a m cap kk) (len - m) (cap - m)) := by
 by_cases hlt : m < cap
 · have := pv_slslice_fromm (P := P) (n := n) (ty := ty) ht hi hsz hx hy hm hk h hlt ha
   rw [fromA, if_pos hlt]; exact this
 · subst hm
   have := pv_slslice_from (P := P) (n := n) (ty := ty) ht hi hx hy (by omega) (by omega)
   rw [Int.toNat_natCast, if_pos (by omega)] at this
   rw [fromA, if_neg hlt]; exact this
theorem row_know {e : TypeId} {sz k n' c' : Nat} {a : Option Addr} {xs : List Value} {M : Kn} {h : Res} (x : (Row e sz (.slice a n' c') k xs).at_ M h) : k ≤ c' ∧ xs.length = k * sz ∧ ∀ b, a = some b → b.spot = none := by
 rcases x with ⟨h1, h2, h3⟩ | ⟨g, cap, cur, h1, h2, h3, h4, h5, h6, h7⟩
 · cases h1; subst h2; subst h3
   exact ⟨Nat.zero_le _, by simp, fun b e => by cases e⟩
 · cases h1
   exact ⟨h2, h5, fun b e => by cases e; rfl⟩
theorem sla_take {A : HP} {a : Option Addr} {xs : List Value} (sh : SlA A a xs) (k : Nat) : SlA A a (xs.take k) := fun x => by
 rcases sh x with e | ⟨g, off, l, T, fz, e1, e2, e3⟩
 · left; rw [e]; simp
 · refine .inr ⟨g, off, l, T, fz, e1, e2, ?_⟩
   conv => rhs; rw [← e3]
   rw [List.take_take, List.length_take]
theorem sla_from {e : TypeId} {sz k n' c' m kk : Nat} {a : Option Addr} {xs : List Value} (hk : m * sz = kk) (hm : m ≤ k) : SlA (Row e sz (.slice a n' c') k xs) (fromA a m c' kk) (xs.drop kk) := fun x => by
 obtain ⟨h1, h2, h3⟩ := row_know x
 by_cases hlt : m < c'
 · rcases sla_row x with e | ⟨g, off, l, T, fz, e1, e2, e3⟩
   · left; rw [e]; simp
   · refine .inr ⟨g, off + kk, l, T, fz, ?_, e2, ?_⟩
     · rw [fromA, if_pos hlt, e1]; rfl
     · conv => rhs; rw [← e3]
       rw [List.drop_take, List.drop_drop, List.length_drop]
 · left
   have hmk : m = k := by omega
   subst hmk
   rw [← hk, ← h2, List.drop_length]
end
end
section
set_option maxRecDepth 100000
theorem sla_ceAt {b : Nat} {T : TypeId} {l : List Value} (off k : Nat) : SlA (Ce b T l) (some ⟨b, off, none⟩) ((l.drop off).take k) := fun x => .inr ⟨b, off, l, T, (0, 0), rfl, .inr (by have : _ = Res.one b _ := x; rw [this]; exact Res.one_same _ _), by rw [List.length_take, List.take_eq_take_iff.2]; simp⟩
def hexP (x : UInt32) (j : Nat) : Bs := (List.range j).map fun j => hexD.getD ((x >>> UInt32.ofNat (28 - 4 * j)) &&& 15).toNat 0
theorem hexP_succ (x : UInt32) (j : Nat) : hexP x (j + 1) = hexP x j ++ [hexD.getD ((x >>> UInt32.ofNat (28 - 4 * j)) &&& 15).toNat 0] := by simp [hexP, List.range_succ]
theorem hexP_len (x : UInt32) (j : Nat) : (hexP x j).length = j := by simp [hexP]
theorem and15 (x : UInt32) : (x &&& 15).toNat < 16 := by
 rw [UInt32.toNat_and]; exact Nat.lt_of_le_of_lt Nat.and_le_right (by decide)
theorem hash_Sum_sp (s : Bs) (hs : s.length ≤ 1099511627776) : SpF Tryz.prog 198 [vS s] (vS (shaB s)) := by
 have hpl := padB_len s
 have hbu : blocksN s ≤ 17179869185 := by unfold blocksN; omega
 have hb1 : 1 ≤ blocksN s := by unfold blocksN; omega
 obtain ⟨N, hN⟩ : ∃ N, N = blocksN s := ⟨_, rfl⟩
 obtain ⟨p, hp⟩ : ∃ p, p = padB s := ⟨_, rfl⟩
 have hsha : shaB s = (sumsW p h0W N).list.flatMap hexW := by rw [hN, hp]; rfl
 have hpd := hash_padded_sp s hs
 rw [← hN] at hpl hbu hb1 hpd
 rw [← hp] at hpl hpd
 have hpv : (vUs p).length = 64 * N := by simp [vUs, hpl]
 refine Sp.body (n := 39) Tryz.call198 Tryz.func198 rfl rfl rfl ?_
 refine Qc (k:=Vv (k:=Wq (Qc (k:=?_))))
 refine wo_pv (pv_buildA (vs := [_, _, _, _, _]) Tryz.underlying95 ti94 rfl rfl rfl ti95 rfl rfl) rfl ?_
 refine Zc [.int .u32 0, .int .u32 0, .int .u32 0, .int .u32 0, .int .u32 0] (k:=fun b3 => Zp (k:=Wq (Za (k:=Qc (k:=Vv (k:=?_))))))
 refine r_callX hpd rfl rfl rfl (fun g _ => ?_)
 refine Vv (k:=Wq (Zb (k:=?_)))
 refine p_loop (fun (i : { x : Nat × Option Addr // x.1 ≤ N ∧ (x.1 < N → x.2 = some ⟨g, 64 * x.1, none⟩) ∧ ∀ b, x.2 = some b → b.spot = none }) => [(3, .pointer (some ⟨b3, 0, none⟩)), (4, .slice i.1.2 (64 * N - 64 * i.1.1) (64 * N - 64 * i.1.1))]) (fun (i : { x : Nat × Option Addr // x.1 ≤ N ∧ (x.1 < N → x.2 = some ⟨g, 64 * x.1, none⟩) ∧ ∀ b, x.2 = some b → b.spot = none }) => [Ce b3 95 ((sumsW p h0W i.1.1).list.map vW), Ce g 5 (vUs p)]) (fun (i : { x : Nat × Option Addr // x.1 ≤ N ∧ (x.1 < N → x.2 = some ⟨g, 64 * x.1, none⟩) ∧ ∀ b, x.2 = some b → b.spot = none }) => N - i.1.1) rfl (⟨(0, some ⟨g, 0, none⟩), Nat.zero_le _, fun _ => rfl, fun b e => by cases e; rfl⟩) ?_ ?_ (fun i => ?_)
 · exact ⟨rfl, rfl, trivial⟩
 ·
  exact ent_step (ce_norm (by rfl) (by rfl)) ent_pick
 obtain ⟨⟨i, ad⟩, hi, had, hsp⟩ := i
 dsimp only at hi had hsp ⊢
 try dsimp only
 refine Za (k:=Qc (k:=Qv (k:=Vv (k:=Wq (Zi (t:=fun h14 => ?_) (f:=fun h14 => ?_))))))
 ·
  refine Zk (k:=Ya (Za (k:=Zb (k:=?_))))
  have hiN : i < N := by omega
  have hal := had hiN
  subst hal
  have hvt : vUs ((p.drop (64 * i)).take 64) = ((vUs p).drop (64 * i)).take 64 := by simp [vUs, List.map_take, List.map_drop]
  refine Zr (k:=Vv (k:=?_))
  refine wo_pv (pv_slslice_tom (m := 64) Tryz.underlying56 ti5 rfl rfl rfl (by omega)) rfl ?_
  refine r_call1 (hash_take_sp (B := Ce g 5 (vUs p)) b3 (64 * N - 64 * i) (sumsW p h0W i) ((p.drop (64 * i)).take 64) (by rw [List.length_take, List.length_drop]; omega) (by rw [hvt]; exact sla_ceAt (64 * i) 64)) rfl rfl rfl ?_
  refine Wn (Yb (Ya (Zr (k:=Vv (k:=?_)))))
  refine wo_pv (pv_slslice_froma (m := 64) (kk := 64) Tryz.underlying56 ti5 rfl rfl rfl rfl rfl (by omega) (Nat.le_refl _) hsp) rfl ?_
  refine Vv (k:=Wn ?_)
  refine to_inv ⟨(i + 1, fromA (some ⟨g, 64 * i, none⟩) 64 (64 * N - 64 * i) 64), by dsimp only; omega, fun h => ?_, fun b e => ?_⟩ (by dsimp only; omega) ⟨rfl, ?_, trivial⟩ ?_
  · dsimp only at h ⊢
    rw [fromA, if_pos (by omega)]
    simp only [elemA]
    congr 2
  · dsimp only at e
    unfold fromA at e
    split at e
    · simp only [elemA, Option.some.injEq] at e; subst e; rfl
    · exact hsp b e
  · dsimp only
    show some (Value.slice _ _ _) = some (Value.slice _ _ _)
    rw [show 64 * N - 64 * i - 64 = 64 * N - 64 * (i + 1) from by omega]
  · dsimp only
    rw [show sumsW p h0W (i + 1) = takeW (sumsW p h0W i) ((p.drop (64 * i)).take 64) from rfl]
    exact ent_pick
 ·
  refine Ze (k:=Xa (Xi (Xb (Ya (Za (k:=?_))))))
  have hiN : i = N := by omega
  subst hiN
  obtain ⟨hl, hhl⟩ : ∃ hl, hl = (sumsW p h0W i).list := ⟨_, rfl⟩
  have hl5 : hl.length = 5 := by rw [hhl]; rfl
  have hag : (Value.agg #[vW (sumsW p h0W i).a, vW (sumsW p h0W i).b, vW (sumsW p h0W i).c, vW (sumsW p h0W i).d, vW (sumsW p h0W i).e]) = .agg (hl.map vW).toArray := by rw [hhl]; rfl
  rw [← hhl] at hsha
  refine Zr (k:=Vv (k:=Wq (Za (k:=Qc (k:=Zm [_, _, _, _, _] (k:=Vv (k:=Wq (Zb (k:=?_)))))))))
  refine p_loop (fun (i : { x : (Option Addr × Nat) × Nat // x.2 ≤ 5 }) => [(5, .slice i.1.1.1 (8 * i.1.2) i.1.1.2), (20, .agg (hl.map vW).toArray), (21, vI i.1.2)]) (fun (i : { x : (Option Addr × Nat) × Nat // x.2 ≤ 5 }) => [Row 5 1 (.slice i.1.1.1 (8 * i.1.2) i.1.1.2) (8 * i.1.2) (vUs ((hl.take i.1.2).flatMap hexW))]) (fun (i : { x : (Option Addr × Nat) × Nat // x.2 ≤ 5 }) => 5 - i.1.2) rfl (⟨((none, 0), 0), Nat.zero_le _⟩) ?_ ?_ (fun i => ?_)
  · exact ⟨rfl, by subst hhl; rfl, rfl, trivial⟩
  ·
   exact ent_step row_nil ent_nil
  obtain ⟨⟨⟨a1, c1⟩, m⟩, hm⟩ := i
  dsimp only at hm ⊢
  try dsimp only
  refine Qc (k:=Vv (k:=Wq (Za (k:=Zi (t:=fun h22 => ?_) (f:=fun h22 => ?_)))))
  ·
   refine Zk (k:=Ya (Za (k:=Zb (k:=Qc (k:=?_)))))
   refine wo_pv (pv_aidx Tryz.underlying95 Tryz.underlying94 ti94 rfl rfl rfl rfl rfl (by omega) (vW_getD (m := m) (by omega))) rfl ?_
   refine Vv (k:=Wq (Za (k:=?_)))
   obtain ⟨x, hx⟩ : ∃ x, x = hl.getD m 0 := ⟨_, rfl⟩
   rw [← hx]
   obtain ⟨xs, hxs⟩ : ∃ xs, xs = (hl.take m).flatMap hexW := ⟨_, rfl⟩
   rw [← hxs]
   refine Zr (k:=Vv (k:=Wq (Zb (k:=?_))))
   refine p_loop (fun (i : { y : (Option Addr × Nat) × Nat // y.2 ≤ 8 }) => [(5, .slice i.1.1.1 (8 * m + i.1.2) i.1.1.2), (7, vW x), (8, vI (28 - 4 * i.1.2)), (20, .agg (hl.map vW).toArray), (21, vI m)]) (fun (i : { y : (Option Addr × Nat) × Nat // y.2 ≤ 8 }) => [Row 5 1 (.slice i.1.1.1 (8 * m + i.1.2) i.1.1.2) (8 * m + i.1.2) (vUs (xs ++ hexP x i.1.2))]) (fun (i : { y : (Option Addr × Nat) × Nat // y.2 ≤ 8 }) => 8 - i.1.2) rfl (⟨((a1, c1), 0), Nat.zero_le _⟩) ?_ ?_ (fun i => ?_)
   · exact ⟨rfl, rfl, rfl, rfl, rfl, trivial⟩
   ·
    dsimp only
    rw [show hexP x 0 = [] from rfl, List.append_nil]
    exact ent_pick
   obtain ⟨⟨⟨a2, c2⟩, j⟩, hj⟩ := i
   dsimp only at hj ⊢
   try dsimp only
   refine Za (k:=Qc (k:=Qv (k:=Wq (Zi (t:=fun h25 => ?_) (f:=fun h25 => ?_)))))
   ·
    refine Zk (k:=Ya (Za (k:=Zb (k:=Zr (k:=Qv (k:=Vv (k:=?_)))))))
    refine wo_pv (pv_shrW (m := 28 - 4 * j) rfl rfl (by omega) (by omega)) rfl ?_
    refine wo_pv (pv_andW (b := 15) rfl rfl) rfl ?_
    refine wo_pv (pv_indexm (l := hexD) (m := ((x >>> UInt32.ofNat (28 - 4 * j)) &&& 15).toNat) Tryz.underlying9 rfl rfl rfl (show _ < 16 from and15 _)) rfl ?_
    refine Zv [_] (cs := [_]) (k:=fun b34 => ?_)
    refine r_append1 (sz := 1) (bytes := 1) Tryz.underlying56 ti5 rfl rfl rfl rfl rfl rfl rfl (by rfl) (by rfl) (by omega) (by simp only [maxLen]; omega) rfl (fun a35 c35 => ?_)
    refine Vv (k:=Wn (Yb (Ya (Zr (k:=Qv (k:=Vv (k:=Wn ?_)))))))
    refine to_inv ⟨((a35, c35), j + 1), by dsimp only; omega⟩ (by dsimp only; omega) ⟨rfl, rfl, vI_eq (by dsimp only; omega), rfl, rfl, trivial⟩ ?_
    dsimp only
    refine row_norm1 (by omega) ?_
    rw [hexP_succ, ← List.append_assoc]
    simp [vUs]
   ·
    refine Ze (k:=Xa (Xi (Xb (Yb (Ya (Zr (k:=Qv (k:=Wn ?_))))))))
    have hj8 : j = 8 := by omega
    subst hj8
    have hml : m < hl.length := by omega
    have hxe : xs ++ hexP x 8 = (hl.take (m + 1)).flatMap hexW := by
     rw [List.take_succ_eq_append_getElem hml, List.flatMap_append, ← hxs]
     have : x = hl[m] := by rw [hx]; simp [hml]
     rw [this]; simp [hexW, hexP]
    refine to_inv ⟨((a2, c2), m + 1), by dsimp only; omega⟩ (by dsimp only; omega) ⟨sl_eq (by dsimp only; omega), rfl, rfl, trivial⟩ ?_
    dsimp only
    rw [← hxe]
    exact ent_pick
  ·
   refine Ze (k:=Xa (Xi (Xb (Ya (Za (k:=?_))))))
   have hm5 : m = 5 := by omega
   subst hm5
   rw [List.take_of_length_le (by omega), ← hsha]
   refine Zr (k:=Vv (k:=?_))
   refine wo_row (fun h => by simp at h) (fun gg cap cur e1 e2 e3 e4 e5 e6 => ?_)
   cases e1
   refine r_b2s (l := shaB s) Tryz.underlying56 Tryz.underlying9 Tryz.underlying5 rfl (by simpa using e6) (by omega) rfl ?_
   refine Vv (k:=Wq (Zt (k:=?_)))
   refine fin_ret () (vs := [_]) (Cs := []) rfl (.tmp rfl .nil) rfl trivial ?_
   exact ent_nil
end
section
set_option maxRecDepth 100000
def isN (s : Bs) : Bool := decide (s.length = 40 ∧ ∀ c ∈ s, c ∈ hexD)
theorem isN_sha (s : Bs) : isN (shaB s) = true := decide_eq_true ⟨shaB_len s, shaB_mem s⟩
theorem index_neg {l : Bs} {c : UInt8} : Lib.indexByte l c < 0 ↔ c ∉ l := by
 rw [indexByte_find]
 cases h : l.findIdx? (· == c) with
 | none =>
   rw [List.findIdx?_eq_none_iff] at h
   simp only [Int.reduceNeg, Int.reduceLT, true_iff]
   intro hm
   have := h c hm
   simp at this
 | some i =>
   have h1 := List.findIdx?_eq_some_iff_getElem.1 h
   obtain ⟨hi, h2, _⟩ := h1
   have : l[i] = c := by simpa using h2
   constructor
   · intro h; dsimp only at h; omega
   · intro hm; exact absurd (this ▸ List.getElem_mem hi) hm
theorem hash_Is_sp (s : Bs) (hs : s.length ≤ 9223372036854775807) : SpF Tryz.prog 207 [vS s] (vB (isN s)) := by
 refine Sp.body (n := 18) Tryz.call207 Tryz.func207 rfl rfl rfl ?_
 refine Qc (k:=Vv (k:=Wq (Za (k:=Qc (k:=Qv (k:=Vv (k:=Wq (Zb (k:=?_)))))))))
 refine p_loop (fun (i : { j : Nat // j ≤ s.length ∧ ∀ i (h : i < s.length), i < j → s[i] ∈ hexD }) => [(0, vS s), (5, vI s.length), (6, vI i.1)]) (fun (i : { j : Nat // j ≤ s.length ∧ ∀ i (h : i < s.length), i < j → s[i] ∈ hexD }) => []) (fun (i : { j : Nat // j ≤ s.length ∧ ∀ i (h : i < s.length), i < j → s[i] ∈ hexD }) => s.length - i.1) rfl (⟨0, Nat.zero_le _, fun i h1 h2 => by omega⟩) ?_ ?_ (fun i => ?_)
 · exact ⟨rfl, rfl, rfl, trivial⟩
 ·
  exact ent_pick
 obtain ⟨j, hj, hin⟩ := i
 dsimp only
 try dsimp only
 refine Qc (k:=Vv (k:=Wq (Za (k:=Zi (t:=fun h7 => ?_) (f:=fun h7 => ?_)))))
 ·
  refine Zk (k:=Ya (Za (k:=Zb (k:=Qc (k:=Qv (k:=Wq (Za (k:=?_))))))))
  have hjl : j < s.length := by omega
  have hg : ((s.getD j 0).toNat : Int).toNat.toUInt8 = s[j] := by
   have : s.getD j 0 = s[j] := by simp [hjl]
   rw [this]; simp
  refine Zr (k:=Qv (k:=Vv (k:=?_)))
  refine r_callF (IndexByte_sp hexD ((s.getD j 0).toNat : Int)) rfl rfl rfl ?_
  refine Vv (k:=Wq (Zi (t:=fun h13 => ?_) (f:=fun h13 => ?_)))
  ·
   refine Qc (k:=Vv (k:=Wq (Zt (k:=Vb (Va (Vi (Vb (Va ?_))))))))
   have hc : s[j] ∉ hexD := by
    have := index_neg.1 h13
    rw [hg] at this; exact this
   refine fin_ret () (vs := [_]) (Cs := []) rfl (.tmp rfl .nil) ?_ trivial ent_nil
   have : isN s = false := decide_eq_false (fun ⟨_, h⟩ => hc (h _ (List.getElem_mem hjl)))
   rw [this]; rfl
  ·
   refine Zk (k:=Yb (Ya (Zr (k:=Qv (k:=Wn ?_)))))
   refine to_inv ⟨j + 1, by omega, fun i hi h => ?_⟩ (by dsimp only; omega) ⟨rfl, rfl, rfl, trivial⟩ ent_nil
   by_cases he : i = j
   · subst he
     have := h13
     rw [index_neg, hg] at this
     exact Classical.not_not.1 this
   · exact hin i hi (by omega)
 ·
  refine Ze (k:=Xa (Xi (Xb (Ya (Qc (k:=Qv (k:=Qv (k:=Wq ?_))))))))
  refine Zt (k:=?_)
  refine fin_ret () (vs := [_]) (Cs := []) rfl (.tmp rfl .nil) ?_ trivial ent_nil
  have hall : ∀ c ∈ s, c ∈ hexD := fun c hc => by
   obtain ⟨i, hi, rfl⟩ := List.getElem_of_mem hc
   exact hin i hi (by omega)
  show vB _ = vB _
  congr 1
  rw [isN]
  exact decide_eq_decide.2 ⟨fun h => ⟨by omega, hall⟩, fun h => by omega⟩
end
end Go.Proofs.YtdnoacgopfcpbaaGreat
