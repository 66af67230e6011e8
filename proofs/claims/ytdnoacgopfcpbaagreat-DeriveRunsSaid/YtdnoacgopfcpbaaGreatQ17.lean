/- Texts of this proof, put together: SRSha2, SR10, SR10b, SRefDec. -/
import Derived.Test.YtdnoacgopfcpbaaGreatQ16
set_option linter.unusedVariables false
set_option linter.unusedSimpArgs false
namespace Go.Proofs.YtdnoacgopfcpbaaGreat
section
set_option maxRecDepth 100000
class RowZC (v : Value) (e k : outParam Nat) (xs : outParam (List Value)) (Hs : List HP) (Rs : outParam (List HP)) : Prop where
 get : Pick (RowZ e v k xs) Hs Rs
instance (priority := 1000) {v : Value} {e k : Nat} {xs : List Value} {r : List HP} : RowZC v e k xs (RowZ e v k xs :: r) r := ⟨.here⟩
instance (priority := 100) {v : Value} {e k : Nat} {xs : List Value} {B : HP} {r s : List HP} [h : RowZC v e k xs r s] : RowZC v e k xs (B :: r) (B :: s) := ⟨.there h.get⟩
instance (priority := 900) {v : Value} {e k : Nat} {xs : List Value} {B B' C : List HP} [h : RowZC v e k xs B B'] : RowZC v e k xs (B ++ C) (B' ++ C) := ⟨pick_left h.get⟩
instance (priority := 800) {v : Value} {e k : Nat} {xs : List Value} {B C C' : List HP} [h : RowZC v e k xs C C'] : RowZC v e k xs (B ++ C) (B ++ C') := ⟨pick_right h.get⟩
theorem rowz_know {e k n' c' : Nat} {a : Option Addr} {xs : List Value} {M : Kn} {h : Res} (x : (RowZ e (.slice a n' c') k xs).at_ M h) : ∃ g, a = some ⟨g, 0, none⟩ ∧ n' = k ∧ k ≤ c' ∧ c' ≤ maxLen ∧ xs.length = k := by
 obtain ⟨g, cap, cur, fz, h1, h2, h3, h4, h5, h6, h7, h8⟩ := x
 cases h1
 exact ⟨g, rfl, rfl, h2, h3, h5⟩
theorem rowz_norm {v : Value} {e k k' : Nat} {xs xs' : List Value} {Hs Rs : List HP} [q : RowZC v e k xs Hs Rs] (hn : k = k') (hx : xs = xs') : Ent Hs (RowZ e v k' xs' :: Rs) := by
 subst hn; subst hx; exact Picks.ent (.cons q.get .nil)
theorem sla_rowzAt {e k n c : Nat} {g : Nat} {xs : List Value} (off m : Nat) : SlA (RowZ e (.slice (some ⟨g, 0, none⟩) n c) k xs) (some ⟨g, off, none⟩) ((xs.drop off).take m) := fun x => by
 obtain ⟨g', cap, cur, fz, h1, h2, h3, h4, h5, h6, h7, h8⟩ := x
 cases h1
 refine .inr ⟨g, off, cur, e, fz, rfl, .inr (by rw [h8]; exact Res.one_same _ _), ?_⟩
 rw [← h6, List.drop_take, List.take_take]
 rw [List.length_take, List.length_drop]
 congr 1
 omega
section
variable {r : Option Nat} {P : Program} {n : Nat} {ops : Array Oper} {os : List Oper} {A : List HP} {L : Loc} {Hs : List HP} {Q : Out} {ty : TypeId} {d : Nat} {pos : String} {after : Array Edge}
theorem r_appendZ {t e : TypeId} {x y : Operand} {i : TypeInfo} {z : Value} (ht : P.underlying t = some (.slice e)) (hi : P.info? e = some i) (hz : i.zero = some z) (hzs : Nat.beq z.cells.size i.size = true) (hsz : i.size = 1) {bytes : Nat} (hby : i.bytes = bytes)
    {v : Value} {k : Nat} {xs : List Value} {b m c T : Nat} {l : List Value} {R1 R2 : List HP} (hx : ev L x = some v) (hy : ev L y = some (.slice (some ⟨b, 0, none⟩) m c)) [h1 : RowZC v e k xs Hs R1] [h2 : OwnC b T l R1 R2]
    (hl : l.length = m) (ho : l.all oneCell = true) (hbytes : (k + m) * bytes ≤ 140737488355328) (h63 : k + m ≤ maxLen) (hd : Nat.blt d n = true)
    (K : ∀ a' c', wo r P n ops os ((d, .slice a' (k + m) c') :: L) (RowZ e (.slice a' (k + m) c') (k + m) (xs ++ l) :: R2) Q) : wo r P n ops (⟨some d, .call ⟨.builtin .append, #[x, y], #[t, t]⟩, ty, pos, after, none⟩ :: os) L Hs Q := by
 haveI : PicksC [RowZ e v k xs, Ce b T l] Hs R2 := ⟨.cons h1.get (.cons h2.get .nil)⟩
 refine wo_opT (by intro c; simp) (opt_appendZ ht hi hz hzs hsz hby hx hy (shows_ce (T := T)) hl (by rw [List.drop_zero, ← hl, List.take_length]) ho hbytes h63 (xs := xs)) (by simpa [dstOk] using hd) (fun v' ⟨a', c', h'⟩ => ?_)
 subst h'
 refine wo_ent' (Gs := RowZ e (.slice a' (k + m) c') (k + m) (xs ++ l) :: R2) ⟨fun s => ?_⟩ (K a' c')
 obtain ⟨g1, g2, dd, e1, hr, s2⟩ := s
 obtain ⟨q1, q2, dq, eq, _, s3⟩ := s2
 refine ⟨g1, g2, dd, e1, hr, ?_⟩
 rw [eq]; exact SL.more dq s3
theorem pv_slslice_in {x y z : Operand} {a : Option Addr} {len cap m o kk : Nat} {k k' : IntKind} {i j : Int} {t e : TypeId} {ti : TypeInfo} {sz : Nat} (ht : P.underlying t = some (.slice e)) (hi : P.info? e = some ti) (hsz : ti.size = sz) (hx : ev L x = some (.slice a len cap)) (hy : ev L y = some (.int k i)) (hz : ev L z = some (.int k' j)) (hm : i = (m : Int)) (ho : j = (o : Int)) (hk : m * sz = kk) (h1 : m ≤ o) (h : o ≤ cap) (ha : ∀ b, a = some b → b.spot = none) :
    PV P n L (.slice t x (some y) (some z) none) ty (.slice (fromA a m cap kk) (o - m) (cap - m)) := by
 subst hm; subst ho; subst hsz; subst hk
 refine ⟨by intro c; simp, fun ac f w _ _ _ _ => ?_⟩
 have b1 := run_sliceBound (P := P) w k (m : Int) o .sliceB (by omega) (by omega)
 have b2 := run_sliceBound (P := P) w k' (o : Int) cap .sliceAcap (by omega) (by omega)
 have e1 : (if cap = m then a else Option.map (fun x : Addr => x.add (m * ti.size)) a) = fromA a m cap (m * ti.size) := by
  unfold fromA
  by_cases hc : cap = m
  · rw [if_pos hc, if_neg (by omega)]
  · rw [if_neg hc, if_pos (by omega)]
    cases a with
    | none => rfl
    | some b =>
      obtain ⟨b, o, s⟩ := b
      have : s = none := ha _ rfl
      subst this
      simp [elemA, addr_add]
 simp [execOp, f.ev hx, f.ev hy, f.ev hz, Instr.sliceAt, Instr.slice, Instr.sliceBounds, run_underlying ht, b1, b2, sizeOf, typeInfo, program, Sem.run, hi, e1]
end
theorem len8_byte' {s : Bs} (hs : s.length ≤ 1099511627776) {j k : Nat} (hj : j < 8) (hk : k = 7 - j) {m : Nat} (hm : m = 8 * j) : IntKind.u8.wrap (Int.fdiv (IntKind.u64.wrap (8 * (s.length : Int))) (2 ^ (min m IntKind.u64.bits))) = ((len8 s k).toNat : Int) := by
 subst hk; subst hm
 rw [← len8_byte hs hj]
 have w64 : ∀ n : Int, IntKind.u64.wrap n = n % 18446744073709551616 := fun n => by simp [IntKind.wrap, IntKind.signed, IntKind.bits]
 congr 2
 rw [w64, w64, w64]; omega
theorem zeros_succ (j : Nat) : zeros (j + 1) = zeros j ++ [0] := by simp [zeros, List.replicate_succ']
def lenP (s : Bs) (k : Nat) : Bs := (List.range k).map (len8 s)
theorem lenP_succ (s : Bs) (k : Nat) : lenP s (k + 1) = lenP s k ++ [len8 s k] := by simp [lenP, List.range_succ]
theorem hexs_len (l : List UInt32) : (l.flatMap hexW).length = 8 * l.length := by
 induction l with
 | nil => rfl
 | cons x l ih => simp [hexW_len, ih]; omega
theorem vUs_app (a b : Bs) : vUs (a ++ b) = vUs a ++ vUs b := by simp [vUs]
set_option maxHeartbeats 400000 in
theorem ref1_Sum_sp (s : Bs) (hs : s.length ≤ 1099511627776) : SpF Tryz.prog 15 [vS s] (vS (shaB s)) := by
 have hpl := padB_len s
 obtain ⟨Z, hZ⟩ : ∃ Z, Z = 64 * blocksN s - 9 - s.length := ⟨_, rfl⟩
 have hN0 : blocksN s = (s.length + 8) / 64 + 1 := rfl
 have hpad : padB s = s ++ [0x80] ++ zeros Z ++ lenP s 8 := by rw [hZ]; rfl
 have hsha : shaB s = (sumsW (padB s) h0W (blocksN s)).list.flatMap hexW := rfl
 generalize padB s = p at hpl hpad hsha
 generalize blocksN s = N at *
 have hpv : (vUs p).length = 64 * N := by simp [vUs, hpl]
 have hsm : maxLen = 9223372036854775807 := rfl
 refine Sp.body (n := 72) Tryz.call15 Tryz.func15 rfl rfl rfl ?_
 refine Qc (k:=Vv (k:=Wq (Qc (k:=?_))))
 refine wo_pv (pv_buildA (vs := [_, _, _, _, _]) Tryz.underlying95 ti94 rfl rfl rfl ti95 rfl rfl) rfl ?_
 refine Zc [.int .u32 0, .int .u32 0, .int .u32 0, .int .u32 0, .int .u32 0] (k:=fun b3 => Zp (k:=Wq (Qc (k:=Vv (k:=?_)))))
 refine r_s2b Tryz.underlying9 Tryz.underlying56 Tryz.underlying5 rfl (by omega) rfl (fun b13 c13 => ?_)
 refine Zv [_] (cs := [_]) (k:=fun b14 => ?_)
 refine r_appendZ (bytes := 1) Tryz.underlying56 ti5 rfl rfl rfl rfl rfl rfl (by rfl) (by rfl) (by omega) (by omega) rfl (fun a15 c15 => ?_)
 refine Vv (k:=Wq (Za (k:=Zb (k:=?_))))
 refine p_loop (fun (i : { x : (Option Addr × Nat) × Nat // x.2 ≤ Z }) => [(0, vS s), (2, vS []), (3, .pointer (some ⟨b3, 0, none⟩)), (4, .slice i.1.1.1 (s.length + 1 + i.1.2) i.1.1.2)]) (fun (i : { x : (Option Addr × Nat) × Nat // x.2 ≤ Z }) => [RowZ 5 (.slice i.1.1.1 (s.length + 1 + i.1.2) i.1.1.2) (s.length + 1 + i.1.2) (vUs (s ++ [0x80] ++ zeros i.1.2)), Ce b3 95 (h0W.list.map vW)]) (fun (i : { x : (Option Addr × Nat) × Nat // x.2 ≤ Z }) => Z - i.1.2) rfl (⟨((a15, c15), 0), Nat.zero_le _⟩) ?_ ?_ (fun i => ?_)
 · exact ⟨rfl, rfl, rfl, rfl, trivial⟩
 ·
  exact ent_step (rowz_norm (by dsimp only) (by rw [show zeros 0 = [] from rfl, List.append_nil, vUs_app]; rfl)) (ent_step (ce_norm (by rfl) (by rfl)) ent_nil)
 obtain ⟨⟨⟨a1, c1⟩, j⟩, hj⟩ := i
 dsimp only at hj ⊢
 try dsimp only
 refine Za (k:=Qc (k:=Qv (k:=Qv (k:=Wq (Zi (t:=fun h19 => ?_) (f:=fun h19 => ?_))))))
 ·
  have hjZ : j < Z := by omega
  refine Zk (k:=Ya (Zb (k:=Zr (k:=Vv (k:=Zv [_] (cs := [_]) (k:=fun b21 => ?_))))))
  refine r_appendZ (bytes := 1) Tryz.underlying56 ti5 rfl rfl rfl rfl rfl rfl (by rfl) (by rfl) (by omega) (by omega) rfl (fun a22 c22 => ?_)
  refine Vv (k:=Wn (Yb ?_))
  refine to_inv ⟨((a22, c22), j + 1), by dsimp only; omega⟩ (by dsimp only; omega) ⟨rfl, rfl, rfl, rfl, trivial⟩ ?_
  dsimp only
  exact ent_step (rowz_norm (by omega) (by rw [zeros_succ, ← List.append_assoc, vUs_app (s ++ [0x80] ++ zeros j)]; rfl)) ent_pick
 ·
  have hjZ : j = Z := by omega
  subst hjZ
  refine Ze (k:=Xa (Xi (Xb (Ya (Za (k:=Qc (k:=Vv (k:=Wq (Zb (k:=?_))))))))))
  refine p_loop (fun (i : { x : (Option Addr × Nat) × Nat // x.2 ≤ 8 }) => [(0, vS s), (2, vS []), (3, .pointer (some ⟨b3, 0, none⟩)), (4, .slice i.1.1.1 (s.length + 1 + j + i.1.2) i.1.1.2), (5, vI (7 - (i.1.2 : Int)))]) (fun (i : { x : (Option Addr × Nat) × Nat // x.2 ≤ 8 }) => [RowZ 5 (.slice i.1.1.1 (s.length + 1 + j + i.1.2) i.1.1.2) (s.length + 1 + j + i.1.2) (vUs (s ++ [0x80] ++ zeros j ++ lenP s i.1.2)), Ce b3 95 (h0W.list.map vW)]) (fun (i : { x : (Option Addr × Nat) × Nat // x.2 ≤ 8 }) => 8 - i.1.2) rfl (⟨((a1, c1), 0), Nat.zero_le _⟩) ?_ ?_ (fun i => ?_)
  · exact ⟨rfl, rfl, rfl, rfl, rfl, trivial⟩
  ·
   dsimp only
   exact ent_step (rowz_norm (by omega) (by rw [show lenP s 0 = [] from rfl, List.append_nil])) ent_pick
  obtain ⟨⟨⟨a2, c2⟩, q⟩, hq⟩ := i
  dsimp only at hq ⊢
  try dsimp only
  refine Za (k:=Qc (k:=Qv (k:=Wq (Zi (t:=fun h24 => ?_) (f:=fun h24 => ?_)))))
  ·
   refine Zk (k:=Ya (Za (k:=Zb (k:=?_))))
   have hq8 : q < 8 := by omega
   refine Zr (k:=Qv (k:=Qv (k:=?_)))
   refine wo_pv (pv_conv rfl Tryz.underlying3 Tryz.underlying96) rfl ?_
   refine Qv (k:=?_)
   refine wo_pv (pv_conv rfl Tryz.underlying3 Tryz.underlying97) rfl ?_
   refine wo_pv (pv_shr (m := 8 * (7 - q)) rfl (show some (Value.int .u64 (IntKind.u64.wrap (8 * (7 - (q : Int))))) = some (Value.int .u64 ((8 * (7 - q) : Nat) : Int)) by congr 2; simp [IntKind.wrap, IntKind.signed, IntKind.bits]; omega)) rfl ?_
   refine wo_pv (pv_conv rfl Tryz.underlying96 Tryz.underlying5) rfl ?_
   rw [len8_byte' hs (j := 7 - q) (k := q) (by omega) (by omega) rfl]
   refine Zv [_] (cs := [_]) (k:=fun b37 => ?_)
   refine r_appendZ (bytes := 1) Tryz.underlying56 ti5 rfl rfl rfl rfl rfl rfl (by rfl) (by rfl) (by omega) (by omega) rfl (fun a38 c38 => ?_)
   refine Vv (k:=Wn (Yb (Ya (Zr (k:=Qv (k:=Vv (k:=Wn ?_)))))))
   refine to_inv ⟨((a38, c38), q + 1), by dsimp only; omega⟩ (by dsimp only; omega) ⟨rfl, rfl, rfl, rfl, vI_eq (by dsimp only; omega), trivial⟩ ?_
   dsimp only
   exact ent_step (rowz_norm (by omega) (by rw [lenP_succ, ← List.append_assoc, vUs_app _ [len8 s q]]; rfl)) ent_pick
  ·
   refine Ze (k:=Xa (Xi (Xb (Ya (Za (k:=Za (k:=?_)))))))
   have hq8 : q = 8 := by omega
   subst hq8
   rw [← hpad]
   refine wc_know (A := RowZ 5 (.slice a2 (s.length + 1 + j + 8) c2) (s.length + 1 + j + 8) (vUs p)) HasC.get rowz_know (fun ok => ?_)
   obtain ⟨g, hg, _, hgc, hcm, _⟩ := ok
   subst hg
   have hlN : s.length + 1 + j + 8 = 64 * N := by omega
   rw [hlN] at hgc ⊢
   refine Zr (k:=Vv (k:=Wq (Zb (k:=?_))))
   refine p_loop (fun (i : { j : Nat // j ≤ N }) => [(0, vS s), (2, vS []), (3, .pointer (some ⟨b3, 0, none⟩)), (4, .slice (some ⟨g, 0, none⟩) (64 * N) c2), (6, vI (64 * (i.1 : Int)))]) (fun (i : { j : Nat // j ≤ N }) => [RowZ 5 (.slice (some ⟨g, 0, none⟩) (64 * N) c2) (64 * N) (vUs p), Ce b3 95 ((sumsW p h0W i.1).list.map vW)]) (fun (i : { j : Nat // j ≤ N }) => N - i.1) rfl (⟨0, Nat.zero_le _⟩) ?_ ?_ (fun i => ?_)
   · exact ⟨rfl, rfl, rfl, rfl, rfl, trivial⟩
   ·
    dsimp only
    rw [show sumsW p h0W 0 = h0W from rfl]
    exact ent_pick
   obtain ⟨i, hi⟩ := i
   dsimp only
   try dsimp only
   refine Za (k:=Qc (k:=Qv (k:=Qv (k:=Wq (Zi (t:=fun h42 => ?_) (f:=fun h42 => ?_))))))
   ·
    refine Zk (k:=Ya (Za (k:=Zb (k:=?_))))
    have hiN : i < N := by omega
    have hvt : vUs ((p.drop (64 * i)).take 64) = ((vUs p).drop (64 * i)).take 64 := by simp [vUs, List.map_take, List.map_drop]
    have hfa : fromA (some ⟨g, 0, none⟩) (64 * i) c2 (64 * i) = some ⟨g, 64 * i, none⟩ := by rw [fromA, if_pos (by omega)]; simp [elemA]
    refine Dw [Ce b3 95 ((sumsW p h0W i).list.map vW)] (k:=?_)
    refine d_first 0 rfl rfl rfl (by kernel_rfl) (by kernel_rfl) (tl_loada (vs := [_, _, _, _, _]) Tryz.underlying95 rfl ti95 rfl (by exact Nat.le_of_ble_eq_true rfl) (by rfl)) ?_
    refine Dv 1 (k:=Dv 2 (k:=Dv 3 (k:=Dv 4 (k:=?_))))
    refine d_first 5 rfl rfl rfl (by kernel_rfl) (by kernel_rfl) (tl_pv (pv_slslice_in (m := 64 * i) (o := 64 * i + 64) (kk := 64 * i) Tryz.underlying56 ti5 rfl rfl rfl rfl (by omega) (by omega) (Nat.mul_one _) (by omega) (by omega) (by intro b e; cases e; rfl))) ?_
    refine Dn 6 (k:=?_)
    rw [hfa, show 64 * i + 64 - 64 * i = 64 from by omega]
    refine an_call1 (ref1_block_sp (B := RowZ 5 (.slice (some ⟨g, 0, none⟩) (64 * N) c2) (64 * N) (vUs p)) (c2 - 64 * i) (sumsW p h0W i) ((p.drop (64 * i)).take 64) (by rw [List.length_take, List.length_drop]; omega) (by rw [hvt]; exact sla_rowzAt (64 * i) 64)) rfl rfl rfl ?_
    refine d_last 7 (by kernel_rfl) rfl (by kernel_rfl) (by kernel_rfl) ?_
    refine an_storea ti95 rfl rfl rfl (by rfl) (by rw [List.length_map, List.length_map]; exact Nat.le_refl 5) ?_
    refine Yb (Ya (Zr (k:=Qv (k:=Vv (k:=Wn ?_)))))
    refine to_inv ⟨i + 1, by omega⟩ (by dsimp only; omega) ⟨rfl, rfl, rfl, rfl, vI_eq (by dsimp only; omega), trivial⟩ ?_
    dsimp only
    rw [show sumsW p h0W (i + 1) = takeW (sumsW p h0W i) ((p.drop (64 * i)).take 64) from rfl]
    generalize takeW (sumsW p h0W i) ((p.drop (64 * i)).take 64) = tk
    exact ent_step (rowz_norm (by rfl) (by rfl)) (ent_step (ce_norm (by rfl) (by rfl)) ent_nil)
   ·
    refine Ze (k:=Xa (Xi (Xb (Ya (Za (k:=?_))))))
    have hiN : i = N := by omega
    subst hiN
    obtain ⟨hl, hhl⟩ : ∃ hl, hl = (sumsW p h0W i).list := ⟨_, rfl⟩
    have hl5 : hl.length = 5 := by rw [hhl]; rfl
    rw [← hhl] at hsha ⊢
    refine Zr (k:=Vv (k:=Wq (Za (k:=Qc (k:=?_)))))
    refine r_loada (vs := hl.map vW) Tryz.underlying95 rfl ti95 rfl (show 0 + 5 ≤ _ by rw [List.length_map]; omega) (show ((hl.map vW).drop 0).take 5 = _ by rw [List.drop_zero]; exact List.take_of_length_le (by rw [List.length_map]; omega)) rfl ?_
    refine Vv (k:=Wq (Zb (k:=?_)))
    refine p_loop (fun (i : { m : Nat // m ≤ 5 }) => [(52, .agg (hl.map vW).toArray), (7, vS ((hl.take i.1).flatMap hexW)), (53, vI i.1)]) (fun (i : { m : Nat // m ≤ 5 }) => []) (fun (i : { m : Nat // m ≤ 5 }) => 5 - i.1) rfl (⟨0, Nat.zero_le _⟩) ?_ ?_ (fun i => ?_)
    · exact ⟨rfl, rfl, rfl, trivial⟩
    ·
     exact ent_nil
    obtain ⟨m, hm⟩ := i
    dsimp only
    try dsimp only
    refine Qc (k:=Vv (k:=Wq (Za (k:=Zi (t:=fun h54 => ?_) (f:=fun h54 => ?_)))))
    ·
     refine Zk (k:=Ya (Za (k:=Zb (k:=Qc (k:=?_)))))
     refine wo_pv (pv_aidx Tryz.underlying95 Tryz.underlying94 ti94 rfl rfl rfl rfl rfl (by omega) (vW_getD (m := m) (by omega))) rfl ?_
     refine Vv (k:=Wq (Za (k:=?_)))
     obtain ⟨x, hx⟩ : ∃ x, x = hl.getD m 0 := ⟨_, rfl⟩
     rw [← hx]
     obtain ⟨xs, hxs⟩ : ∃ xs, xs = (hl.take m).flatMap hexW := ⟨_, rfl⟩
     have hxl : xs.length ≤ 40 := by
      rw [hxs, hexs_len, List.length_take]; omega
     rw [← hxs]
     refine Zr (k:=Vv (k:=Wq (Zb (k:=?_))))
     refine p_loop (fun (i : { j : Nat // j ≤ 8 }) => [(52, .agg (hl.map vW).toArray), (7, vS (xs ++ hexP x i.1)), (9, vW x), (10, vI (28 - 4 * (i.1 : Int))), (53, vI m)]) (fun (i : { j : Nat // j ≤ 8 }) => []) (fun (i : { j : Nat // j ≤ 8 }) => 8 - i.1) rfl (⟨0, Nat.zero_le _⟩) ?_ ?_ (fun i => ?_)
     · exact ⟨rfl, by rw [show hexP x (⟨0, Nat.zero_le _⟩ : { j : Nat // j ≤ 8 }).1 = [] from rfl, List.append_nil]; rfl, rfl, rfl, rfl, trivial⟩
     ·
      exact ent_nil
     obtain ⟨j2, hj2⟩ := i
     dsimp only
     have hpl2 := hexP_len x j2
     try dsimp only
     refine Za (k:=Qc (k:=Qv (k:=Wq (Zi (t:=fun h57 => ?_) (f:=fun h57 => ?_)))))
     ·
      refine Zk (k:=Ya (Za (k:=Zb (k:=Zr (k:=Qv (k:=Vv (k:=?_)))))))
      refine wo_pv (pv_conv rfl Tryz.underlying3 Tryz.underlying97) rfl ?_
      refine wo_pv (pv_shrW (m := 28 - 4 * j2) rfl rfl (by simp [IntKind.wrap, IntKind.signed, IntKind.bits]; omega) (by omega)) rfl ?_
      refine wo_pv (pv_andW (b := 15) rfl rfl) rfl ?_
      refine wo_pv (pv_indexm (l := hexD) (m := ((x >>> UInt32.ofNat (28 - 4 * j2)) &&& 15).toNat) Tryz.underlying9 rfl rfl rfl (show _ < 16 from and15 _)) rfl ?_
      obtain ⟨ch, hch⟩ : ∃ ch, ch = hexD.getD ((x >>> UInt32.ofNat (28 - 4 * j2)) &&& 15).toNat 0 := ⟨_, rfl⟩
      rw [← hch]
      refine Zv [_] (cs := [_]) (k:=fun b67 => ?_)
      refine r_b2s (l := [ch]) Tryz.underlying56 Tryz.underlying9 Tryz.underlying5 rfl (by simp [vUs]) (by simp) rfl ?_
      refine Qv (k:=Wn (Yb (Ya (Zr (k:=Qv (k:=Vv (k:=Wn ?_)))))))
      refine to_inv ⟨j2 + 1, by omega⟩ (by dsimp only; omega) ⟨rfl, ?_, rfl, vI_eq (by dsimp only; omega), rfl, trivial⟩ ent_nil
      dsimp only
      rw [hexP_succ, ← List.append_assoc, ← hch]
      rfl
     ·
      refine Ze (k:=Xa (Xi (Xb (Yb (Ya (Zr (k:=Qv (k:=Wn ?_))))))))
      have hj8 : j2 = 8 := by omega
      subst hj8
      have hxe : (hl.take (m + 1)).flatMap hexW = xs ++ hexP x 8 := by
       have hml : m < hl.length := by omega
       have e1 : hl[m] = x := by rw [hx]; simp [hml]
       rw [List.take_succ_eq_append_getElem hml, List.flatMap_append, hxs, e1, List.flatMap_singleton]
       rfl
      refine to_inv ⟨m + 1, by omega⟩ (by dsimp only; omega) ⟨rfl, ?_, rfl, trivial⟩ ent_nil
      dsimp only
      rw [hxe]
      rfl
    ·
     refine Ze (k:=Xa (Xi (Xb (Ya (Qc (k:=Qv (k:=Wq (Zt (k:=?_)))))))))
     have hm5 : m = 5 := by omega
     subst hm5
     rw [List.take_of_length_le (by omega), ← hsha]
     exact fin_ret () (vs := [_]) (Cs := []) rfl (.tmp rfl .nil) rfl trivial ent_nil
end
section
set_option maxRecDepth 100000
set_option maxHeartbeats 1000000 in
theorem ref10_Print_sp {B : HP} {a : Option Addr} (n cap : Nat) (qs : List CdV) (sh : SlA B a (qs.flatMap CdV.cells)) (hn : qs.length = n) (hz : (bodyB (cdsOf qs)).length ≤ 1073741824) :
    Sp1 Tryz.prog 53 [.slice a n cap] [B, CdM qs] (vS (printB (cdsOf qs))) [B] := by
 subst hn
 obtain ⟨hb, hqa⟩ := cds_sizes hz
 haveI : RdSl a (qs.flatMap CdV.cells) [B, CdM qs] := ⟨⟨B, sh, .here⟩⟩
 obtain ⟨l, hl⟩ : ∃ l, l = cdsOf qs := ⟨_, rfl⟩
 have hll : l.length = qs.length := by rw [hl]; simp [cdsOf]
 have h40 := shaB_len (bodyB l)
 rw [← hl] at hz ⊢
 refine Sp.body (n := 41) Tryz.call53 Tryz.func53 rfl rfl rfl ?_
 refine Qc (k:=Vv (k:=Wq (Qc (k:=Vv (k:=Wq (Za (k:=Qc (k:=Vv (k:=?_)))))))))
 refine Qv (k:=Wq (Zb (k:=?_)))
 refine p_loop (fun (i : { j : Nat // j ≤ qs.length }) => [(3, vS (bodyB (l.take i.1))), (8, .slice a qs.length cap), (9, vI qs.length), (10, vI i.1)]) (fun (i : { j : Nat // j ≤ qs.length }) => [B, CdM qs]) (fun (i : { j : Nat // j ≤ qs.length }) => qs.length - i.1) rfl (⟨0, Nat.zero_le _⟩) ?_ ?_ (fun i => ?_)
 · exact ⟨rfl, rfl, rfl, rfl, trivial⟩
 ·
  exact ent_pick
 obtain ⟨j, hj⟩ := i
 dsimp only
 have hle := body_take_le l j
 try dsimp only
 refine Qc (k:=Vv (k:=Wq (Za (k:=Zi (t:=fun h11 => ?_) (f:=fun h11 => ?_)))))
 ·
  refine Zk (k:=Ya (Za (k:=Zb (k:=Za (k:=?_)))))
  have hjl : j < qs.length := by omega
  have hlj : l.getD j cd0 = qs[j].cd := by rw [hl]; exact cds_getD hjl
  have hbt := body_take (l := l) (j := j) (by omega)
  have hle2 := body_take_le l (j + 1)
  obtain ⟨q, hq⟩ : ∃ q, q = qs[j] := ⟨_, rfl⟩
  have hqm : q ∈ qs := by rw [hq]; exact List.getElem_mem _
  have hqal := hqa q hqm
  rw [hlj, ← hq] at hbt
  have hbl := congrArg List.length hbt
  have hcb : cardB q.cd = q.l :: argsB q.args ++ [10] := rfl
  rw [hcb] at hbt hbl
  simp only [List.length_append, List.length_cons, List.length_nil] at hbl
  obtain ⟨bs, hbs⟩ : ∃ bs, bs = bodyB (l.take j) := ⟨_, rfl⟩
  rw [← hbs] at hbt hbl hle ⊢
  refine wc_ent' (ent_cd hqm HasC.get) ?_
  refine Zr (k:=Ye 2 (k:=?_))
  refine r_eloada (vs := [_, _]) (sz := 2) Tryz.underlying101 rfl ti101 rfl rfl (by rw [flat_len (sz := 2) (fun _ => rfl)]; omega) rfl (by refine get_flat (fun x => ?_) ?_ <;> first | rfl | omega) rfl ?_
  refine Zc [.int .u8 0, .slice none 0 0] (k:=fun b5 => Zp (k:=?_))
  rw [← hq]
  refine Wq (Qc (k:=Vv (k:=Qx 0 5 (k:=Zv [_] (cs := [_]) (k:=fun b17 => ?_)))))
  refine r_b2s (l := [q.l]) Tryz.underlying56 Tryz.underlying9 Tryz.underlying5 rfl (by simp [vUs]) (by simp) rfl ?_
  refine Qv (k:=Wq (Za (k:=Qc (k:=Qx 1 27 (k:=Qv (k:=Wq (Zb (k:=?_))))))))
  refine p_loop (fun (i : { m : Nat // m ≤ q.args.length }) => [(3, vS (bs ++ [q.l] ++ argsB (q.args.take i.1))), (8, .slice a qs.length cap), (9, vI qs.length), (10, vI j), (21, .slice q.a q.args.length q.c), (22, vI q.args.length), (23, vI i.1)]) (fun (i : { m : Nat // m ≤ q.args.length }) => [SlI q.a (q.args.map vS), B, CdM qs]) (fun (i : { m : Nat // m ≤ q.args.length }) => q.args.length - i.1) rfl (⟨0, Nat.zero_le _⟩) ?_ ?_ (fun i => ?_)
  · exact ⟨by rw [show (⟨0, Nat.zero_le _⟩ : { m : Nat // m ≤ q.args.length }).1 = 0 from rfl, List.take_zero, argsB_nil, List.append_nil]; rfl, rfl, rfl, rfl, rfl, rfl, rfl, trivial⟩
  ·
   exact ent_pick
  obtain ⟨m, hm⟩ := i
  dsimp only
  try dsimp only
  refine Qc (k:=Vv (k:=Wq (Za (k:=Zi (t:=fun h24 => ?_) (f:=fun h24 => ?_)))))
  ·
   refine Zk (k:=Ya (Za (k:=Zb (k:=Za (k:=?_)))))
   have hml : m < q.args.length := by omega
   have hat := argsB_take hml
   have hlt : (argsB (q.args.take (m + 1))).length ≤ (argsB q.args).length := by
    conv => rhs; rw [← List.take_append_drop (m + 1) q.args, argsB_app, List.length_append]
    omega
   have hlt2 := congrArg List.length hat
   rw [List.length_append, List.length_cons] at hlt2
   refine Zr (k:=Ye 1 (k:=Yl (hv:=by exact get_mapD [] hml) (k:=Vv (k:=Wq (Zr (k:=Vv (k:=?_)))))))
   refine wo_pv (pv_cat (m := [32]) rfl rfl (by simp only [List.length_append, List.length_cons, List.length_nil]; omega)) rfl ?_
   refine Vv (k:=?_)
   refine wo_pv (pv_cat rfl rfl (by simp only [List.length_append, List.length_cons, List.length_nil]; omega)) rfl ?_
   refine Vv (k:=Wn (Yb (Ya (Zr (k:=Qv (k:=Wn ?_))))))
   refine to_inv ⟨m + 1, by omega⟩ (by dsimp only; omega) ⟨by rw [hat, show bs ++ [q.l] ++ (argsB (q.args.take m) ++ 32 :: q.args.getD m []) = bs ++ [q.l] ++ argsB (q.args.take m) ++ [32] ++ q.args.getD m [] from by simp]; rfl, rfl, rfl, rfl, rfl, rfl, rfl, trivial⟩ ent_pick
  ·
   refine Ze (k:=Xa (Xi (Xb (Ya ?_))))
   have hml : m = q.args.length := by omega
   subst hml
   rw [List.take_length]
   refine Zr (k:=Qv (k:=Vv (k:=Wn (Yb (Ya (Zr (k:=Qv (k:=Wn ?_))))))))
   refine to_inv ⟨j + 1, by omega⟩ (by dsimp only; omega) ⟨by rw [hbt, show bs ++ (q.l :: argsB q.args ++ [10]) = bs ++ [q.l] ++ argsB q.args ++ [10] from by simp]; rfl, rfl, rfl, rfl, trivial⟩ ent_pick
 ·
  refine Ze (k:=Xa (Xi (Xb (Ya (Za (k:=?_))))))
  have hjl : j = qs.length := by omega
  subst hjl
  rw [List.take_of_length_le (by omega)]
  refine Zr (k:=Qv (k:=Vv (k:=?_)))
  refine r_callF (ref1_Sum_sp (bodyB l) (by omega)) rfl rfl rfl ?_
  refine Qv (k:=Vv (k:=Wq (Zt (k:=?_))))
  exact fin_ret () (vs := [_]) (Cs := []) rfl (.tmp rfl .nil) rfl trivial ent_pick
end
section
set_option maxRecDepth 100000
theorem zb52join8 {G : Prop} (h : G := by
    first
    | exact to_inv ⟨((a31, c31), [t.kind :: t.name, t.target, escB t.value]), by simp [tgCard, h25], hk31.1⟩ trivial ⟨rfl, rfl, rfl, rfl, rfl, trivial⟩ ent_pick
    | exact to_inv ⟨((some ⟨b22, 0, none⟩, 2), [t.kind :: t.name, t.target]), by simp [tgCard, Classical.not_not.1 h25], Nat.le_refl _⟩ trivial ⟨rfl, rfl, rfl, rfl, rfl, trivial⟩ ent_pick) : G := h
set_option maxHeartbeats 1000000 in
theorem ref10_ops_sp {B : HP} {a : Option Addr} (n cap : Nat) (l : List Tg) (sh : SlA B a (l.flatMap tgCells)) (hn : l.length = n) (z : TgZ l) :
    Sp Tryz.prog 52 [.slice a n cap] [B] (X := (Option Addr × Nat) × List CdV) cardV (fun x => cdsOf x.2 = l.map tgCard) (fun x => [Row 101 2 (.slice x.1.1 x.2.length x.1.2) x.2.length (x.2.flatMap CdV.cells), CdM x.2, B]) := by
 obtain ⟨hb, hz⟩ := z
 subst hn
 haveI : RdSl a (l.flatMap tgCells) [B] := ⟨⟨B, sh, .here⟩⟩
 refine Sp.body (n := 39) Tryz.call52 Tryz.func52 rfl rfl rfl ?_
 refine Qc (k:=Vv (k:=Wq (Qc (k:=Vv (k:=Wq (Za (k:=Qc (k:=Vv (k:=?_)))))))))
 refine Qv (k:=Wq (Zb (k:=?_)))
 refine p_loop (fun (i : { x : (Option Addr × Nat) × List CdV // x.2.length ≤ l.length ∧ cdsOf x.2 = (l.take x.2.length).map tgCard }) => [(3, .slice i.1.1.1 i.1.2.length i.1.1.2), (7, .slice a l.length cap), (8, vI l.length), (9, vI i.1.2.length)]) (fun (i : { x : (Option Addr × Nat) × List CdV // x.2.length ≤ l.length ∧ cdsOf x.2 = (l.take x.2.length).map tgCard }) => [Row 101 2 (.slice i.1.1.1 i.1.2.length i.1.1.2) i.1.2.length (i.1.2.flatMap CdV.cells), CdM i.1.2, B]) (fun (i : { x : (Option Addr × Nat) × List CdV // x.2.length ≤ l.length ∧ cdsOf x.2 = (l.take x.2.length).map tgCard }) => l.length - i.1.2.length) rfl (⟨((none, 0), []), Nat.zero_le _, rfl⟩) ?_ ?_ (fun i => ?_)
 · exact ⟨rfl, rfl, rfl, rfl, trivial⟩
 ·
  exact (row_nil (e := 101) (sz := 2)).trans (ent_cdm_nil.trans (show Ent _ [Row 101 2 (.slice none 0 0) 0 [], CdM [], B] from ent_pick))
 obtain ⟨⟨⟨oa, oc⟩, qs⟩, hj, hcd⟩ := i
 dsimp only at hj hcd ⊢
 try dsimp only
 refine Qc (k:=Vv (k:=Wq (Za (k:=Zi (t:=fun h10 => ?_) (f:=fun h10 => ?_)))))
 ·
  refine Zk (k:=Ya (Za (k:=Zb (k:=Za (k:=?_)))))
  have hjl : qs.length < l.length := by omega
  obtain ⟨t, ht⟩ : ∃ t, t = l[qs.length] := ⟨_, rfl⟩
  have hzj := hz t (by rw [ht]; exact List.getElem_mem hjl)
  have htk : (l.take (qs.length + 1)).map tgCard = cdsOf qs ++ [tgCard t] := by rw [List.take_succ_eq_append_getElem hjl, List.map_append, ← hcd, ht]; rfl
  refine Zr (k:=Ye 4 (k:=?_))
  refine r_eloada (vs := [_, _, _, _]) (sz := 4) Tryz.underlying60 rfl ti60 rfl rfl (by rw [flat_len (sz := 4) (fun _ => rfl)]; omega) rfl (by refine get_flat (fun x => ?_) ?_ <;> first | rfl | omega) rfl ?_
  rw [← ht]
  refine Zc [.int .u8 0, vS [], vS [], vS []] (k:=fun b5 => Zp (k:=Wq (Qc (k:=Qx 0 5 (k:=Zv [_] (cs := [_]) (k:=fun b15 => ?_))))))
  refine r_b2s (l := [t.kind]) Tryz.underlying56 Tryz.underlying9 Tryz.underlying5 rfl (by simp [vUs]) (by simp) rfl ?_
  refine Qx 1 9 (k:=Vv (k:=Qx 2 9 (k:=Zv [_, _] (cs := [_, _]) (k:=fun b22 => Vv (k:=Wq ?_)))))
  refine p_cut (fun (i : { x : (Option Addr × Nat) × List Bs // x.2 = (tgCard t).args ∧ x.2.length ≤ x.1.2 }) => [(3, .slice oa qs.length oc), (6, .slice i.1.1.1 i.1.2.length i.1.1.2), (7, .slice a l.length cap), (8, vI l.length), (9, vI qs.length)]) (fun (i : { x : (Option Addr × Nat) × List Bs // x.2 = (tgCard t).args ∧ x.2.length ≤ x.1.2 }) => [SlI i.1.1.1 (i.1.2.map vS), Row 101 2 (.slice oa qs.length oc) qs.length (qs.flatMap CdV.cells), CdM qs, B]) rfl (fun i => ?_) ?_
  ·
   obtain ⟨⟨⟨ga, gc⟩, xs⟩, hxs, hxc⟩ := i
   dsimp only at hxs hxc ⊢
   try dsimp only
   refine Zr (k:=Qv (k:=Vx (Ps [_, _]) (k:=Zv [_] (cs := [_, _]) (k:=fun b35 => ?_))))
   refine r_append1 (sz := 2) (bytes := 32) Tryz.underlying99 ti101 rfl rfl rfl rfl rfl rfl rfl (by rfl) (by rfl) (by omega) (by simp only [maxLen]; omega) rfl (fun a36 c36 => ?_)
   refine Vv (k:=Wn (Yb (Ya (Zr (k:=Qv (k:=Wn ?_))))))
   obtain ⟨q, hqq⟩ : ∃ q : CdV, q = ⟨84, ga, gc, xs⟩ := ⟨_, rfl⟩
   have hqc : q.cd = tgCard t := by rw [hqq]; show (⟨84, xs⟩ : Cd) = _; rw [hxs]; rfl
   have hql : (qs ++ [q]).length = qs.length + 1 := by simp
   refine to_inv ⟨((a36, c36), qs ++ [q]), ?_, ?_⟩ ?_ ⟨sl_eq hql.symm, rfl, rfl, vI_eq (by dsimp only; omega), trivial⟩ ?_
   · dsimp only; omega
   · dsimp only; rw [hql, htk, cds_snoc, hqc]
   · dsimp only; omega
   · dsimp only
     rw [hql]
     refine (ent_cdm_snoc (qs := qs) (q := q) HasC.get (by rw [hqq]; exact HasC.get) (by rw [hqq]; exact hxc)).trans ?_
     exact ent_step (row_norm (by rfl) (by rw [hqq]; simp [CdV.cells])) ent_pick
  ·
   refine Qc (k:=Qx 3 9 (k:=Vv (k:=Wq (Zi (t:=fun h25 => ?_) (f:=fun h25 => ?_)))))
   ·
    refine Zr (k:=Vv (k:=Qx 3 9 (k:=?_)))
    refine r_callF (ref10_Escape_sp t.value (by omega)) rfl rfl rfl ?_
    refine Zv [_] (cs := [_]) (k:=fun b30 => ?_)
    refine wo_ent' (ent_row (k := 2) (cap := 2) (sz := 1) (e := 9) (g := b22) (xs := [vS ([t.kind] ++ t.name), vS t.target]) (cur := [vS ([t.kind] ++ t.name), vS t.target]) (Nat.le_refl _) (by simp [maxLen]) rfl rfl rfl) ?_
    refine r_append1 (sz := 1) (bytes := 16) Tryz.underlying27 ti9 rfl rfl rfl rfl rfl rfl rfl (by rfl) (by rfl) (by omega) (by simp only [maxLen]; omega) rfl (fun a31 c31 => ?_)
    refine wo_know (A := Row 9 1 (.slice a31 (2 + 1) c31) (2 + 1) ([vS ([t.kind] ++ t.name), vS t.target] ++ [vS (escB t.value)])) HasC.get row_know (fun hk31 => ?_)
    refine wo_frzR a31 ?_
    rw [show ([vS ([t.kind] ++ t.name), vS t.target] ++ [vS (escB t.value)]) = ([t.kind :: t.name, t.target, escB t.value] : List Bs).map vS from rfl]
    refine Vv (k:=Wn ?_)
    exact zb52join8
   ·
    refine wc_frzC b22 ?_
    rw [show [vS ([t.kind] ++ t.name), vS t.target] = ([t.kind :: t.name, t.target] : List Bs).map vS from rfl]
    refine Zk (k:=?_)
    exact zb52join8
 ·
  refine Ze (k:=Xa (Xi (Xb (Ya (Qc (k:=Qv (k:=Wq (Zt (k:=?_)))))))))
  have hjl : qs.length = l.length := by omega
  rw [hjl, List.take_length] at hcd
  refine fin_ret ((oa, oc), qs) (vs := [_]) (Cs := []) rfl (.tmp rfl .nil) rfl hcd ?_
  exact ent_pick
end
section
set_option maxRecDepth 100000
theorem vUs_dgt (n : Nat) {m : Int} (h : m = 48 + ((n % 10 : Nat) : Int)) : [vU (IntKind.u8.wrap m)] = vUs [dgt n] := by
 have e : IntKind.u8.wrap m = m := u8_in' (by omega)
 have := dgt_toNat n
 rw [e]
 simp only [vUs, List.map_cons, List.map_nil, this]
 rw [h]; congr 2
theorem ref1_Dec_sp (n : Nat) (h : n ≤ 1073741824) : SpF Tryz.prog 51 [vI n] (vS (decN n)) := by
 induction n using Nat.strongRecOn with
 | _ n ih =>
 have hlen := decN_len n
 by_cases h10 : n < 10
 · have hn : decN n = [dgt n] := by rw [decN, if_pos h10]
   refine Sp.body (n := 26) Tryz.call51 Tryz.func51 rfl rfl rfl ?_
   refine Qc (k:=Vv (k:=Wq (Za (k:=Qc (k:=Qv (k:=Vv (k:=Gi 2 (t:=fun h5 => ?_) (f:=fun h5 => ?_))))))))
   ·
    exfalso; omega
    --done
   ·
    refine J0 (k:=J0 (k:=P0 (k:=Wq (Zi (t:=fun h8 => ?_) (f:=fun h8 => ?_)))))
    ·
     exfalso; omega
     --done
    ·
     refine Zk (k:=Ya (Za (k:=Qc (k:=Qv (k:=Wq (Zi (t:=fun h10 => ?_) (f:=fun h10 => ?_)))))))
     ·
      refine Qc (k:=Qv (k:=?_))
      refine wo_pv (pv_conv rfl Tryz.underlying3 Tryz.underlying5) rfl ?_
      refine Zv [_] (cs := [_]) (k:=fun b14 => ?_)
      refine r_b2s (l := [dgt n]) Tryz.underlying56 Tryz.underlying9 Tryz.underlying5 rfl (by exact vUs_dgt n (by omega)) (by simp) rfl ?_
      refine Vv (k:=Wq (Zt (k:=Va ?_)))
      exact fin_ret () (vs := [_]) (Cs := []) rfl (.tmp rfl .nil) (by rw [hn]; rfl) trivial ent_nil
     ·
      exfalso; omega
      --done
 · have hn : decN n = decN (n / 10) ++ [dgt n] := by rw [decN, if_neg h10]
   have hc := ih (n / 10) (by omega) (by omega)
   rw [show (((n / 10 : Nat)) : Int) = (n : Int) / 10 from by omega] at hc
   have hl2 := decN_len (n / 10)
   refine Sp.body (n := 26) Tryz.call51 Tryz.func51 rfl rfl rfl ?_
   refine Qc (k:=Vv (k:=Wq (Za (k:=Qc (k:=Qv (k:=Vv (k:=Gi 2 (t:=fun h5 => ?_) (f:=fun h5 => ?_))))))))
   ·
    exfalso; omega
    --done
   ·
    refine J0 (k:=J0 (k:=P0 (k:=Wq (Zi (t:=fun h8 => ?_) (f:=fun h8 => ?_)))))
    ·
     exfalso; omega
     --done
    ·
     refine Zk (k:=Ya (Za (k:=Qc (k:=Qv (k:=Wq (Zi (t:=fun h10 => ?_) (f:=fun h10 => ?_)))))))
     ·
      exfalso; omega
      --done
     ·
      refine Zk (k:=Ya (Za (k:=Dw [] (k:=?_))))
      refine Dv 0 (k:=Dv 1 (k:=Dv 3 (k:=Dv 4 (k:=Dv 5 (k:=?_)))))
      refine d_first 6 rfl rfl rfl (by kernel_rfl) (by kernel_rfl) (tl_pv (pv_conv rfl Tryz.underlying3 Tryz.underlying5)) ?_
      refine d_next2 2 7 (by kernel_rfl) rfl rfl ?_ ?_
      ·
       refine an_callF hc rfl rfl rfl ?_
       refine Dn 7 (k:=?_)
       refine an_buildSliceI [_] (cs := [_]) Tryz.underlying56 ti5 rfl rfl rfl rfl rfl rfl rfl rfl (fun b23 => ?_)
       refine d_first 8 rfl rfl rfl (by kernel_rfl) (by kernel_rfl) (tl_b2s (l := [dgt n]) Tryz.underlying56 Tryz.underlying9 Tryz.underlying5 rfl (by exact vUs_dgt n (by omega)) (by simp)) ?_
       refine d_first 9 rfl rfl rfl (by kernel_rfl) (by kernel_rfl) (tl_pv (pv_cat rfl rfl (by rw [List.length_singleton]; omega))) ?_
       refine Dv 10 (k:=Dd (k:=Ya (Zt (k:=?_))))
       exact fin_ret () (vs := [_]) (Cs := []) rfl (.tmp rfl .nil) (by rw [hn]; rfl) trivial ent_nil
      ·
       refine an_buildSliceI [_] (cs := [_]) Tryz.underlying56 ti5 rfl rfl rfl rfl rfl rfl rfl rfl (fun b23 => ?_)
       refine d_first 8 rfl rfl rfl (by kernel_rfl) (by kernel_rfl) (tl_b2s (l := [dgt n]) Tryz.underlying56 Tryz.underlying9 Tryz.underlying5 rfl (by exact vUs_dgt n (by omega)) (by simp)) ?_
       refine Dn 2 (k:=?_)
       refine an_callF hc rfl rfl rfl ?_
       refine d_first 9 rfl rfl rfl (by kernel_rfl) (by kernel_rfl) (tl_pv (pv_cat rfl rfl (by rw [List.length_singleton]; omega))) ?_
       refine Dv 10 (k:=Dd (k:=Ya (Zt (k:=?_))))
       exact fin_ret () (vs := [_]) (Cs := []) rfl (.tmp rfl .nil) (by rw [hn]; rfl) trivial ent_nil
end
end Go.Proofs.YtdnoacgopfcpbaaGreat
