/- Texts of this proof, put together: Sto, Cut, W32, Imm, EqS, MapR. -/
import Derived.Laws.BitsAllLaws
import Derived.Laws.StructEq
import Derived.Shelf.SlMaps.Clone
import Derived.Test.YtdnoacgopfcpbaaGreatQ05
set_option linter.unusedVariables false
set_option linter.unusedSimpArgs false
namespace Go.Proofs.YtdnoacgopfcpbaaGreat
section
class RowAC (a : Option Addr) (e sz n' c' n : outParam Nat) (xs : outParam (List Value)) (Hs : List HP) (Rs : outParam (List HP)) : Prop where
 get : Pick (Row e sz (.slice a n' c') n xs) Hs Rs
instance (priority := 1000) {a : Option Addr} {e sz n' c' n : Nat} {xs : List Value} {r : List HP} : RowAC a e sz n' c' n xs (Row e sz (.slice a n' c') n xs :: r) r := ⟨.here⟩
instance (priority := 100) {a : Option Addr} {e sz n' c' n : Nat} {xs : List Value} {B : HP} {r s : List HP} [h : RowAC a e sz n' c' n xs r s] : RowAC a e sz n' c' n xs (B :: r) (B :: s) := ⟨.there h.get⟩
instance (priority := 900) {a : Option Addr} {e sz n' c' n : Nat} {xs : List Value} {B B' C : List HP} [h : RowAC a e sz n' c' n xs B B'] : RowAC a e sz n' c' n xs (B ++ C) (B' ++ C) := ⟨pick_left h.get⟩
instance (priority := 800) {a : Option Addr} {e sz n' c' n : Nat} {xs : List Value} {B C C' : List HP} [h : RowAC a e sz n' c' n xs C C'] : RowAC a e sz n' c' n xs (B ++ C) (B ++ C') := ⟨pick_right h.get⟩
class MapPC (b : Nat) (ks : outParam Ks) (Hs : List HP) (Rs : outParam (List HP)) : Prop where
 get : Pick (MapS b ks) Hs Rs
instance (priority := 1000) {b : Nat} {ks : Ks} {r : List HP} : MapPC b ks (MapS b ks :: r) r := ⟨.here⟩
instance (priority := 100) {b : Nat} {ks : Ks} {B : HP} {r s : List HP} [h : MapPC b ks r s] : MapPC b ks (B :: r) (B :: s) := ⟨.there h.get⟩
instance (priority := 900) {b : Nat} {ks : Ks} {B B' C : List HP} [h : MapPC b ks B B'] : MapPC b ks (B ++ C) (B' ++ C) := ⟨pick_left h.get⟩
instance (priority := 800) {b : Nat} {ks : Ks} {B C C' : List HP} [h : MapPC b ks C C'] : MapPC b ks (B ++ C) (B ++ C') := ⟨pick_right h.get⟩
section
variable {r : Option Nat} {P : Program} {n : Nat} {ops : Array Oper} {os : List Oper} {A : List HP} {L : Loc} {Hs : List HP} {Q : Out} {ty : TypeId} {d : Nat} {pos : String} {after : Array Edge} {c : Code}
theorem setAt_take : ∀ (vs l : List Value) (k m : Nat), k + vs.length ≤ m → (setAt l k vs).take m = setAt (l.take m) k vs := by
 intro vs
 induction vs with
 | nil => intros; rfl
 | cons v vs ih =>
   intro l k m h
   simp only [List.length_cons] at h
   simp only [setAt]
   rw [ih _ _ _ (by omega), List.take_set]
theorem opt_estorea {t : TypeId} {ti : TypeInfo} {x y : Operand} {a : Option Addr} {e sz n' c' k m : Nat} {xs vs : List Value} (hi : P.info? t = some ti) (hs : Nat.beq ti.size vs.length = true) (hv : 0 < vs.length)
    (hx : ev L x = some (.pointer (elemA a m))) {u : Value} (hy : ev L y = some u) (hu : u.cells.toList = vs) (h1 : vs.all oneCell = true) (hm : m + vs.length ≤ xs.length) :
    OpT r P n ⟨none, .store t x y, ty, pos, after, none⟩ A L [Row e sz (.slice a n' c') k xs] (fun _ : Unit => undef) (fun _ => True) (fun _ => [Row e sz (.slice a n' c') k (setAt xs m vs)]) := by
 refine opt_turn (fun ac f w M h1' hf dj tt hr => ?_)
 rcases hr with ⟨_, _, e1⟩ | ⟨g, cap, cur, e1, e2, e3, e4, e5, e6, e7⟩
 · rw [e1, List.length_nil] at hm; omega
 · cases e1
   subst e7
   have hb : w.heap[g]? = some (.cells cur.toArray e (0, 0)) := tt.ow _ _ (by simp [Res.add, Res.one])
   have hcl : (cur.take (n' * sz)).length = n' * sz := by rw [e6, e5]
   have hcm : n' * sz ≤ cur.length := by rw [List.length_take] at hcl; omega
   obtain ⟨w', hr, hb', ho', he'⟩ := run_storeCells_ce (P := P) vs w cur (0 + m) 0 hb h1 (by omega)
   have hsz : ti.size = vs.length := Nat.eq_of_beq_eq_true hs
   refine ⟨w', Res.one g (.cells (setAt cur m vs).toArray e (0, 0)), dj_one_any dj, Sat.setBlk dj tt (by simpa using hb') ho' he', .inr ⟨g, c', setAt cur m vs, rfl, e2, e3, by rw [length_setAt]; exact e4, by rw [length_setAt]; exact e5, ?_, rfl⟩, .inr ⟨?_, rfl⟩⟩
   · rw [setAt_take _ _ _ _ (by omega), e6]
   · have hcs : u.cells = vs.toArray := by rw [← hu]
     simp [execOp, f.ev hx, f.ev hy, elemA, Instr.storeAt, Instr.sureAddr, storeVar, hcs, sizeOf, typeInfo, program, Sem.run, hi, hsz]
     have hr' : (storeCells ⟨g, m, none⟩ vs).run P w = .ok () w' := by simpa using hr
     rw [hr']; rfl
theorem opt_estore {t : TypeId} {ti : TypeInfo} {x y : Operand} {a : Option Addr} {e sz n' c' k m : Nat} {xs : List Value} (hi : P.info? t = some ti) (hs : Nat.beq ti.size 1 = true)
    (hx : ev L x = some (.pointer (elemA a m))) {v : Value} (hy : ev L y = some v) (h1 : oneCell v = true) (hm : m < xs.length) :
    OpT r P n ⟨none, .store t x y, ty, pos, after, none⟩ A L [Row e sz (.slice a n' c') k xs] (fun _ : Unit => undef) (fun _ => True) (fun _ => [Row e sz (.slice a n' c') k (xs.set m v)]) := by
 have hc : v.cells.toList = [v] := by cases v <;> simp_all [Value.cells, oneCell]
 have := opt_estorea (r := r) (n := n) (A := A) (ty := ty) (pos := pos) (after := after) (e := e) (sz := sz) (n' := n') (c' := c') (k := k) (xs := xs) (m := m) (vs := [v]) hi hs (by simp) hx hy hc (by simp [h1]) (by simp only [List.length_singleton]; omega)
 exact this
theorem r_estore {t : TypeId} {ti : TypeInfo} {x y : Operand} {a : Option Addr} {e sz n' c' k m : Nat} {xs : List Value} {Rs : List HP} (hi : P.info? t = some ti) (hs : Nat.beq ti.size 1 = true)
    (hx : ev L x = some (.pointer (elemA a m))) {v : Value} (hy : ev L y = some v) [hp : RowAC a e sz n' c' k xs Hs Rs] (h1 : oneCell v = true) (hm : m < xs.length)
    (K : wo r P n ops os L (Row e sz (.slice a n' c') k (xs.set m v) :: Rs) Q) : wo r P n ops (⟨none, .store t x y, ty, pos, after, none⟩ :: os) L Hs Q := by
 haveI : PicksC [Row e sz (.slice a n' c') k xs] Hs Rs := ⟨.cons hp.get .nil⟩
 exact wo_opT (by intro c; simp) (opt_estore hi hs hx hy h1 hm) rfl (fun _ _ => K)
/-! Appending. -/
theorem r_append1 {t e : TypeId} {x y : Operand} {i : TypeInfo} {z : Value} (ht : P.underlying t = some (.slice e)) (hi : P.info? e = some i) (hz : i.zero = some z) (hzs : Nat.beq z.cells.size i.size = true) {sz : Nat} (hsz : i.size = sz) (hs0 : Nat.blt 0 sz = true) {bytes : Nat} (hby : i.bytes = bytes)
    {v : Value} {k : Nat} {xs : List Value} {b m c T : Nat} {l : List Value} {R1 R2 : List HP} (hx : ev L x = some v) (hy : ev L y = some (.slice (some ⟨b, 0, none⟩) m c)) [h1 : RowC v e sz k xs Hs R1] [h2 : OwnC b T l R1 R2]
    (hl : l.length = m * sz) (ho : l.all oneCell = true) (hbytes : (k + m) * bytes ≤ 140737488355328) (h63 : k + m ≤ maxLen) (hd : Nat.blt d n = true)
    (K : ∀ a' c', wo r P n ops os ((d, .slice a' (k + m) c') :: L) (Row e sz (.slice a' (k + m) c') (k + m) (xs ++ l) :: R2) Q) : wo r P n ops (⟨some d, .call ⟨.builtin .append, #[x, y], #[t, t]⟩, ty, pos, after, none⟩ :: os) L Hs Q := by
 haveI : PicksC [Row e sz v k xs, Ce b T l] Hs R2 := ⟨.cons h1.get (.cons h2.get .nil)⟩
 refine wo_opT (by intro c; simp) (opt_append ht hi hz hzs hsz hs0 hby hx hy (shows_ce (T := T)) hl (by rw [List.drop_zero, ← hl, List.take_length]) ho hbytes h63 (xs := xs)) (by simpa [dstOk] using hd) (fun v' ⟨a', c', h'⟩ => ?_)
 subst h'
 refine wo_ent' (Gs := Row e sz (.slice a' (k + m) c') (k + m) (xs ++ l) :: R2) ⟨fun s => ?_⟩ (K a' c')
 obtain ⟨g1, g2, dd, e1, hr, s2⟩ := s
 obtain ⟨q1, q2, dq, eq, _, s3⟩ := s2
 refine ⟨g1, g2, dd, e1, hr, ?_⟩
 rw [eq]; exact SL.more dq s3
theorem an_append1 {K : Loc → List HP → Prop} {t e : TypeId} {x y : Operand} {i : TypeInfo} {z : Value} (ht : P.underlying t = some (.slice e)) (hi : P.info? e = some i) (hz : i.zero = some z) (hzs : Nat.beq z.cells.size i.size = true) {sz : Nat} (hsz : i.size = sz) (hs0 : Nat.blt 0 sz = true) {bytes : Nat} (hby : i.bytes = bytes)
    {v : Value} {k : Nat} {xs : List Value} {b m c T : Nat} {l : List Value} {R1 R2 : List HP} (hx : ev L x = some v) (hy : ev L y = some (.slice (some ⟨b, 0, none⟩) m c)) [h1 : RowC v e sz k xs Hs R1] [h2 : OwnC b T l R1 R2]
    (hl : l.length = m * sz) (ho : l.all oneCell = true) (hbytes : (k + m) * bytes ≤ 140737488355328) (h63 : k + m ≤ maxLen) (hd : Nat.blt d n = true)
    (k' : ∀ a' c', K ((d, .slice a' (k + m) c') :: L) (Row e sz (.slice a' (k + m) c') (k + m) (xs ++ l) :: Ce b T l :: R2)) : AnOp r P n ops A ⟨some d, .call ⟨.builtin .append, #[x, y], #[t, t]⟩, ty, pos, after, none⟩ K L Hs := by
 haveI : PicksC [Row e sz v k xs, Ce b T l] Hs R2 := ⟨.cons h1.get (.cons h2.get .nil)⟩
 refine an_opT (opt_append ht hi hz hzs hsz hs0 hby hx hy (shows_ce (T := T)) hl (by rw [List.drop_zero, ← hl, List.take_length]) ho hbytes h63 (xs := xs)) (by simpa [dstOk] using hd) (fun v' ⟨a', c', h'⟩ => ?_)
 subst h'
 exact k' a' c'
/-- Something that lets a slice be read, taken out. -/
class PickSl (a : Option Addr) (news : outParam (List Value)) (B : outParam HP) (Hs : List HP) (Rs : outParam (List HP)) : Prop where
 sla : SlA B a news
 get : Pick B Hs Rs
instance (priority := 1000) {a : Option Addr} {xs : List Value} {r : List HP} : PickSl a xs (SlI a xs) (SlI a xs :: r) (SlI a xs :: r) := ⟨sla_sli, .keep (SlI.pers a xs)⟩
instance (priority := 1000) {e : TypeId} {sz k n c : Nat} {a : Option Addr} {xs : List Value} {r : List HP} : PickSl a xs (Row e sz (.slice a n c) k xs) (Row e sz (.slice a n c) k xs :: r) r := ⟨sla_row, .here⟩
instance (priority := 1000) {b : Nat} {T : TypeId} {l : List Value} {r : List HP} : PickSl (some ⟨b, 0, none⟩) l (Ce b T l) (Ce b T l :: r) r := ⟨sla_ce, .here⟩
instance (priority := 100) {a : Option Addr} {xs : List Value} {B C : HP} {r s : List HP} [h : PickSl a xs B r s] : PickSl a xs B (C :: r) (C :: s) := ⟨h.sla, .there h.get⟩
instance (priority := 900) {a : Option Addr} {xs : List Value} {A : HP} {B B' C : List HP} [h : PickSl a xs A B B'] : PickSl a xs A (B ++ C) (B' ++ C) := ⟨h.sla, pick_left h.get⟩
instance (priority := 800) {a : Option Addr} {xs : List Value} {A : HP} {B C C' : List HP} [h : PickSl a xs A C C'] : PickSl a xs A (B ++ C) (B ++ C') := ⟨h.sla, pick_right h.get⟩
theorem r_appendA {t e : TypeId} {x y : Operand} {i : TypeInfo} {z : Value} (ht : P.underlying t = some (.slice e)) (hi : P.info? e = some i) (hz : i.zero = some z) (hzs : Nat.beq z.cells.size i.size = true) {sz : Nat} (hsz : i.size = sz) (hs0 : Nat.blt 0 sz = true) {bytes : Nat} (hby : i.bytes = bytes)
    {v : Value} {k : Nat} {xs news : List Value} {a : Option Addr} {m c : Nat} {B : HP} {R1 R2 : List HP} (hx : ev L x = some v) (hy : ev L y = some (.slice a m c)) [h1 : RowC v e sz k xs Hs R1] [h2 : PickSl a news B R1 R2]
    (hl : news.length = m * sz) (ho : news.all oneCell = true) (hbytes : (k + m) * bytes ≤ 140737488355328) (h63 : k + m ≤ maxLen) (hd : Nat.blt d n = true)
    (K : ∀ a' c', wo r P n ops os ((d, .slice a' (k + m) c') :: L) (Row e sz (.slice a' (k + m) c') (k + m) (xs ++ news) :: B :: R2) Q) : wo r P n ops (⟨some d, .call ⟨.builtin .append, #[x, y], #[t, t]⟩, ty, pos, after, none⟩ :: os) L Hs Q := by
 haveI : PicksC [Row e sz v k xs, B] Hs R2 := ⟨.cons h1.get (.cons h2.get .nil)⟩
 refine wo_opT (by intro c; simp) (opt_appendA ht hi hz hzs hsz hs0 hby hx hy h2.sla hl ho hbytes h63 (xs := xs)) (by simpa [dstOk] using hd) (fun v' ⟨a', c', h'⟩ => ?_)
 subst h'
 exact K a' c'
/-! Reading as one of the things that happen. -/
theorem an_elemAddr {K : Loc → List HP → Prop} {t e : TypeId} {x y : Operand} {a : Option Addr} {k : IntKind} {i : Int} {m len cap kk : Nat} {ti : TypeInfo} {xs : List Value} {sz : Nat} (ht : P.underlying t = some (.slice e)) (hi : P.info? e = some ti) (hsz : ti.size = sz)
    (hx : ev L x = some (.slice a len cap)) (hy : ev L y = some (.int k i)) (hm : i = (m : Int)) (h : m < len) [hr : RdSl a xs Hs] (hne : 0 < xs.length) (hk : m * sz = kk) (hd : Nat.blt d n = true)
    (k' : K ((d, .pointer (elemA a kk)) :: L) Hs) : AnOp r P n ops A ⟨some d, .indexAddr t x y, ty, pos, after, none⟩ K L Hs := by
 obtain ⟨B, sh, hB⟩ := hr.get
 refine an_read hB hd (fun ac f w M h1 h2 hf t' le yy dst pos after guard => ?_) k'
 obtain ⟨g, off, rfl, _⟩ := sla_cell sh t' le yy (fun e => by rw [e] at hne; exact absurd hne (by simp))
 rw [run_elemAddr ht hi hsz f hx hy hm h w dst pos after guard, hk]
 rfl
theorem an_load {K : Loc → List HP → Prop} {t : TypeId} {td : TypeDesc} {x : Operand} {b off : Nat} {l : List Value} {v : Value} (ht : P.underlying t = some td) (hfl : flat td = true)
    (hx : ev L x = some (.pointer (some ⟨b, off, none⟩))) [hr : RdCe b l Hs] (hv : l[off]? = some v) (hd : Nat.blt d n = true)
    (k' : K ((d, v) :: L) Hs) : AnOp r P n ops A ⟨some d, .load t x, ty, pos, after, none⟩ K L Hs := by
 obtain ⟨B, sh, hB⟩ := hr.get
 refine an_read hB hd (fun ac f w M h1 h2 hf t' le yy _ _ _ _ => ?_) k'
 have hc := shows_cell sh t' le yy off
 rw [hv] at hc
 simp [execOp, f.ev hx, Instr.loadAt, Instr.sureAddr, loadVar, isAgg_flat ht hfl, run_load, hc]
theorem wo_frz (a : Option Addr) {e sz n' c' k : Nat} {xs : List Value} {Rs : List HP} [h : RowAC a e sz n' c' k xs Hs Rs] (K : wo r P n ops os L (SlI a xs :: Rs) Q) : wo r P n ops os L Hs Q := wo_freezeRow h.get K
theorem ent_app {As Rs Gs : List HP} [q : AppC As Rs Gs] (e : Ent Hs Gs) : Ent Hs (As ++ Rs) := by rw [q.get]; exact e
theorem wc_ent0 {Gs : List HP} (h : Ent Hs Gs) (k : wc r P n c L Gs Q) : wc r P n c L Hs Q := wc_ent' h k
theorem wc_no (h : ∀ {M : Kn} {x : Res}, SL Hs M x → False) : wc r P n c L Hs Q := fun a M x s => by
 obtain ⟨h1, h2, d, e', y, t⟩ := s.2
 exact (h t).elim
theorem ce_norm {b T T' : Nat} {l l' : List Value} {Rs : List HP} [q : OwnC b T' l Hs Rs] (hT : T' = T) (hl : l = l') : Ent Hs (Ce b T l' :: Rs) := by
 subst hT; subst hl; exact ent_pick1 q.get
/-! Maps that are turned. -/
theorem r_mapUpdate {t kt e : TypeId} {x y z : Operand} {b : Nat} {ks : Ks} {k : List UInt8} {v : Value} {Rs : List HP} (ht : P.underlying t = some (.map kt e)) (hk : P.underlying kt = some .string)
    (hx : ev L x = some (.map (some b))) (hy : ev L y = some (vS k)) (hz : ev L z = some v) [h : MapPC b ks Hs Rs] (K : wo r P n ops os L (MapS b (mput ks k v) :: Rs) Q) : wo r P n ops (⟨none, .mapUpdate t x y z, ty, pos, after, none⟩ :: os) L Hs Q := by
 haveI : PicksC [MapS b ks] Hs Rs := ⟨.cons h.get .nil⟩
 exact wo_opT (by intro c; simp) (opt_mapUpdate ht hk hx hy hz (ks := ks)) rfl (fun _ _ => K)
theorem sl_eq {a : Option Addr} {m m' c : Nat} (h : m = m') : some (Value.slice a m c) = some (.slice a m' c) := by rw [h]
end
end
section
section
variable {r : Option Nat} {P : Program} {n : Nat} {L : Loc} {Hs : List HP} {Q : Out} {c : Code}
theorem p_cut {ι : Type} (Li : ι → Loc) (Hi : ι → List HP) (h : c = .seq (sA c) (sB c)) (k2 : ∀ i, wc r P n (sB c) (Li i) (Hi i) Q) (k1 : wc r P n (sA c) L Hs (invO n Li Hi (fun _ => True) Q)) : wc r P n c L Hs Q := by
 rw [h]
 intro a M m s w hf d t
 refine wpIn_seq (wpIn_mono (k1 a M m s w hf d t) ?_)
 rintro e a' w' ⟨M', h', l, d', t', q⟩
 cases e with
 | normal =>
   obtain ⟨j, _, sj⟩ := q
   exact wout_of (k2 j a' M' h' sj) l d' t'
 | _ => exact ⟨M', h', l, d', t', q⟩
end
section
variable {P : Program} {n : Nat} {L : Loc} {ty : TypeId}
theorem pv_and {x y : Operand} {k : IntKind} {i j : Int} {t yt : TypeId} (hx : ev L x = some (.int k i)) (hy : ev L y = some (.int k j)) :
    PV P n L (.binOp .and t x y yt) ty (.int k (bits .and k i j)) := pv_arith hx hy fun w => by simp [binOp, Op.intBits, bits]
end
end
section
abbrev vW (x : UInt32) : Value := .int .u32 (x.toNat : Int)
theorem u32_wrap (n : Int) : IntKind.u32.wrap n = n % 4294967296 := by simp [IntKind.wrap, IntKind.signed, IntKind.bits]
theorem u32_bv (a : UInt32) : BitVec.ofInt 32 (a.toNat : Int) = a.toBitVec := by
 apply BitVec.eq_of_toNat_eq
 simp
theorem u32_back (r : BitVec 32) : IntKind.u32.wrap (r.toNat : Int) = ((UInt32.ofBitVec r).toNat : Int) := by
 rw [u32_wrap]
 have := r.isLt
 simp; omega
theorem two_pow (m : Nat) : (2 : Int) ^ m = ((2 ^ m : Nat) : Int) := by rw [Int.natCast_pow]; rfl
def rotl (x : UInt32) (k : Nat) : UInt32 := (x <<< UInt32.ofNat k) ||| (x >>> UInt32.ofNat (32 - k))
section
variable {P : Program} {n : Nat} {L : Loc} {ty : TypeId}
theorem pv_andW {x y : Operand} {a b : UInt32} {t yt : TypeId} (hx : ev L x = some (vW a)) (hy : ev L y = some (vW b)) : PV P n L (.binOp .and t x y yt) ty (vW (a &&& b)) := pv_arith hx hy fun w => by
 simp only [binOp, Op.intBits, IntKind.bits, u32_bv, u32_back]; rfl
theorem pv_orW {x y : Operand} {a b : UInt32} {t yt : TypeId} (hx : ev L x = some (vW a)) (hy : ev L y = some (vW b)) : PV P n L (.binOp .or t x y yt) ty (vW (a ||| b)) := pv_arith hx hy fun w => by
 simp only [binOp, Op.intBits, IntKind.bits, u32_bv, u32_back]; rfl
theorem pv_xorW {x y : Operand} {a b : UInt32} {t yt : TypeId} (hx : ev L x = some (vW a)) (hy : ev L y = some (vW b)) : PV P n L (.binOp .xor t x y yt) ty (vW (a ^^^ b)) := pv_arith hx hy fun w => by
 simp only [binOp, Op.intBits, IntKind.bits, u32_bv, u32_back]; rfl
theorem pv_notW {x : Operand} {a : UInt32} {t : TypeId} (hx : ev L x = some (vW a)) : PV P n L (.unOp .xor t x) ty (vW (~~~a)) :=
 ⟨by intro c; simp, fun ac f w _ _ _ _ => by
  have e : BitVec.ofInt 32 4294967295 ^^^ a.toBitVec = (~~~a).toBitVec := by
   have : BitVec.ofInt 32 4294967295 = BitVec.allOnes 32 := by decide
   rw [this, BitVec.allOnes_xor]; rfl
  simp only [execOp, f.ev hx, Op.unary, Op.intBits, IntKind.bits, IntKind.signed, Bool.false_eq_true, if_false, IntKind.max, u32_bv]
  show Result.ok (Next.value (Value.int IntKind.u32 (IntKind.u32.wrap ((BitVec.ofInt 32 4294967295 ^^^ a.toBitVec).toNat : Int)))) w = _
  rw [e, u32_back]⟩
theorem pv_addW {x y : Operand} {a b : UInt32} {t yt : TypeId} (hx : ev L x = some (vW a)) (hy : ev L y = some (vW b)) : PV P n L (.binOp .add t x y yt) ty (vW (a + b)) := by
 have := pv_addw (P := P) (n := n) (t := t) (yt := yt) (ty := ty) hx hy
 rw [u32_wrap] at this
 have e : ((a + b).toNat : Int) = ((a.toNat : Int) + (b.toNat : Int)) % 4294967296 := by rw [UInt32.toNat_add]; omega
 rw [vW, e]; exact this
theorem pv_shlW {x y : Operand} {a : UInt32} {k' : IntKind} {j : Int} {m : Nat} {t yt : TypeId} (hx : ev L x = some (vW a)) (hy : ev L y = some (.int k' j)) (hj : j = (m : Int)) (hm : m < 32) : PV P n L (.binOp .shl t x y yt) ty (vW (a <<< UInt32.ofNat m)) := by
 subst hj
 have := pv_shl (P := P) (n := n) (t := t) (yt := yt) (ty := ty) hx hy
 have e1 : min m IntKind.u32.bits = m := Nat.min_eq_left (by simp only [IntKind.bits]; omega)
 rw [e1, u32_wrap] at this
 have e : ((a <<< UInt32.ofNat m).toNat : Int) = ((a.toNat : Int) * 2 ^ m) % 4294967296 := by
  rw [UInt32.toNat_shiftLeft, UInt32.toNat_ofNat', Nat.mod_eq_of_lt (show m < 2 ^ 32 by omega), Nat.mod_eq_of_lt hm, Nat.shiftLeft_eq]
  rw [two_pow m]
  generalize 2 ^ m = p
  rw [← Int.natCast_mul]
  generalize a.toNat * p = q
  rw [show (2 : Nat) ^ 32 = 4294967296 from rfl]
  omega
 rw [vW, e]; exact this
theorem pv_shrW {x y : Operand} {a : UInt32} {k' : IntKind} {j : Int} {m : Nat} {t yt : TypeId} (hx : ev L x = some (vW a)) (hy : ev L y = some (.int k' j)) (hj : j = (m : Int)) (hm : m < 32) : PV P n L (.binOp .shr t x y yt) ty (vW (a >>> UInt32.ofNat m)) := by
 subst hj
 have := pv_shr (P := P) (n := n) (t := t) (yt := yt) (ty := ty) hx hy
 have e1 : min m IntKind.u32.bits = m := Nat.min_eq_left (by simp only [IntKind.bits]; omega)
 rw [e1] at this
 have e : ((a >>> UInt32.ofNat m).toNat : Int) = Int.fdiv (a.toNat : Int) (2 ^ m) := by
  rw [UInt32.toNat_shiftRight, UInt32.toNat_ofNat', Nat.mod_eq_of_lt (show m < 2 ^ 32 by omega), Nat.mod_eq_of_lt hm, Nat.shiftRight_eq_div_pow]
  rw [two_pow m, Int.fdiv_eq_ediv_of_nonneg _ (Int.natCast_nonneg _)]
  rfl
 rw [vW, e]; exact this
theorem pv_convW {x : Operand} {c : UInt8} {src dst : TypeId} {sd : TypeDesc} (hx : ev L x = some (.int .u8 (c.toNat : Int))) (hs : P.underlying src = some sd) (hd : P.underlying dst = some (.int .u32)) : PV P n L (.convert src dst x) ty (vW c.toUInt32) := by
 have := pv_conv (n := n) (ty := ty) hx hs hd
 rw [u32_wrap] at this
 have h1 := c.toNat_lt
 have e : ((c.toUInt32).toNat : Int) = (c.toNat : Int) % 4294967296 := by rw [UInt8.toNat_toUInt32]; omega
 rw [vW, e]; exact this
/-- An element's address in an array of one's own. -/
theorem pv_aindex1 {t e : TypeId} {x y : Operand} {k : IntKind} {i : Int} {m b len : Nat} {ti : TypeInfo} (ht : P.underlying t = some (.array len e)) (hi : P.info? e = some ti) (hsz : ti.size = 1)
    (hx : ev L x = some (.pointer (some ⟨b, 0, none⟩))) (hy : ev L y = some (.int k i)) (hm : i = (m : Int)) (h : m < len) : PV P n L (.indexAddr t x y) ty (.pointer (some ⟨b, m, none⟩)) :=
 ⟨by intro c; simp, fun a f w _ _ _ _ => by
  subst hm
  have : (⟨b, 0, none⟩ : Addr).add m = ⟨b, m, none⟩ := by
   unfold Addr.add; split <;> simp_all
  simp [execOp, f.ev hx, f.ev hy, Instr.indexAt, asIntOf, run_underlying ht, Instr.sureAddr, h, sizeOf, typeInfo, program, Sem.run, hi, hsz, this]⟩
/-- An element of an array that is a value. -/
theorem pv_aidx {t e : TypeId} {x y : Operand} {k : IntKind} {i : Int} {m len : Nat} {ti : TypeInfo} {td : TypeDesc} {cs : List Value} {v : Value} (ht : P.underlying t = some (.array len e)) (he : P.underlying e = some td) (hi : P.info? e = some ti) (hfl : flat td = true) (hsz : ti.size = 1)
    (hx : ev L x = some (.agg cs.toArray)) (hy : ev L y = some (.int k i)) (hm : i = (m : Int)) (h : m < len) (hv : cs[m]? = some v) : PV P n L (.index t x y) ty v :=
 ⟨by intro c; simp, fun a f w _ _ _ _ => by
  subst hm
  simp [execOp, f.ev hx, f.ev hy, Instr.index, asIntOf, run_underlying ht, h, part, isAgg_flat he hfl, sizeOf, typeInfo, program, Sem.run, hi, hsz, hv]⟩
theorem flat_cells : ∀ {vs : List Value}, vs.all oneCell = true → vs.flatMap (fun v => v.cells.toList) = vs := by
 intro vs
 induction vs with
 | nil => intro _; rfl
 | cons v vs ih =>
   intro h
   rw [List.all_cons, Bool.and_eq_true] at h
   have hc : v.cells.toList = [v] := by cases v <;> simp_all [Value.cells, oneCell]
   rw [List.flatMap_cons, hc, ih h.2]; rfl
/-- An array that is written out. -/
theorem pv_buildA {t e : TypeId} {ps : List (Nat × Operand)} {vs : List Value} {len : Nat} {ti tt : TypeInfo} {z : Value} (ht : P.underlying t = some (.array len e)) (hi : P.info? e = some ti) (hsz : ti.size = 1)
    (hps : evps L ps = some (parts 0 vs)) (h1 : vs.all oneCell = true) (hit : P.info? t = some tt) (hz : tt.zero = some z) (hzs : z.cells.size = vs.length) : PV P n L (.build t ps.toArray) ty (.agg vs.toArray) := by
 refine pv_buildx hps (fun w => ?_)
 have hv : ∀ v ∈ vs, v.cells.size = 1 := fun v hv => by
  have := List.all_eq_true.1 h1 v hv
  cases v <;> simp_all [Value.cells, oneCell]
 have hf := run_fill 1 vs 0 [] z.cells.toList hv (by simp) (by simp [hzs])
 rw [List.nil_append, List.nil_append, flat_cells h1] at hf
 simp only [Array.toArray_toList] at hf
 unfold Instr.build
 simp only [Sem.run_bind, zeroValue, typeInfo, program, Sem.run, hit, hz, Result.andThen_ok, run_underlying ht, sizeOf, hi, hsz, Sem.run_pure]
 rw [hf]; rfl
end
end
section
section
variable {r : Option Nat} {P : Program} {n : Nat} {ops : Array Oper} {A : List HP} {L : Loc} {Hs : List HP} {Q : Out}
theorem opV_mono {R R' : Value → World → Prop} (h : ∀ v w, R v w → R' v w) {res : Result Next} (q : opV r P R res) : opV r P R' res := by
 unfold opV at q ⊢
 split at q
 · exact h _ _ q
 · exact h _ _ q
 · refine q.mono ?_
   rintro e w'' ⟨v, rfl, x⟩
   exact ⟨v, rfl, h _ _ x⟩
 · refine q.mono ?_
   rintro e w'' ⟨v, rfl, x⟩
   exact ⟨v, rfl, h _ _ x⟩
 · exact q.elim
theorem sl_pers {B : HP} (hB : Pers B) {As : List HP} {M : Kn} {h1 h : Res} (b : B.at_ M h1) (s : SL As M h) : SL (B :: As) M h := ⟨Res.emp, h, Res.emp_dj _, (Res.emp_add _).symm, hB b, s⟩
theorem ent_mid {B : HP} (hB : Pers B) : Ent (A ++ (B :: Hs)) ((B :: A) ++ Hs) := ⟨fun {M h} s => by
 obtain ⟨h1, h2, d, e, s1, s2⟩ := SL.split s
 obtain ⟨g1, g2, d', e', b, s3⟩ := s2
 subst e'; subst e
 refine sl_pers hB b ?_
 obtain ⟨d1, d2⟩ := Res.dj_add_right.1 d
 have := SL.append d (s1) (SL.more d' s3)
 exact this⟩
theorem d_known {B : HP} (hB : Pers B) : ∀ {k : Nat} {ls : Array Bool} {L : Loc} {Hs : List HP}, An r P n ops (B :: A) Q k ls L Hs → An r P n ops A Q k ls L (B :: Hs) := by
 intro k
 induction k with
 | zero =>
   intro ls L Hs h
   exact ⟨h.1, fun a M x s => h.2 a M x ⟨s.1, (by
    obtain ⟨g1, g2, d, e, y, t⟩ := s.2
    exact ⟨g1, g2, d, e, y, (ent_mid hB) t⟩)⟩⟩
 | succ k ih =>
   intro ls L Hs h
   refine ⟨fun e a M x s => h.1 e a M x ⟨s.1, (by
    obtain ⟨g1, g2, d, e, y, t⟩ := s.2
    exact ⟨g1, g2, d, e, y, (ent_mid hB) t⟩)⟩, fun i hi => ?_⟩
   obtain ⟨o, ho, hop⟩ := h.2 i hi
   rcases hop with ⟨hd, hop⟩ | ⟨hl, h0, hd, hop⟩
   rotate_left
   · refine ⟨o, ho, .inr ⟨hl, h0, hd, ?_⟩⟩
     rcases hop with ⟨j, want, u, hg, hgd, hne, k'⟩ | ⟨hg, X, val, φ, As, Rs, Bs, he, ht, hk⟩
     · exact .inl ⟨j, want, u, hg, hgd, hne, k'.1, fun a M x s => k'.2 a M x ⟨s.1, (by
         obtain ⟨g1, g2, d, e, y, t⟩ := s.2
         exact ⟨g1, g2, d, e, y, (ent_mid hB) t⟩)⟩⟩
     · exact .inr ⟨hg, X, val, φ, As, Rs, Bs, (ent_mid hB).trans he, ht, hk⟩
   refine ⟨o, ho, .inl ⟨hd, ?_⟩⟩
   rcases hop with ⟨j, want, u, hg, hgd, hne, k'⟩ | ⟨hg, X, val, φ, As, Rs, Bs, he, ht, hk⟩
   · exact .inl ⟨j, want, u, hg, hgd, hne, ih k'⟩
   · refine .inr ⟨hg, X, val, φ, B :: As, Rs, fun x => B :: Bs x, ⟨fun s => ?_⟩, ?_, fun x hx => ih (hk x hx)⟩
     · obtain ⟨g1, g2, d, e, b, s⟩ := s
       exact ⟨g1, g2, d, e, b, he s⟩
     · intro a f w M h hA hf dj dj' s sA t
       obtain ⟨g1, g2, d, e, b, s⟩ := s
       have sx : SL As M h := by rw [e]; exact SL.more d s
       have := ht a f w M h hA hf dj dj' sx (sl_pers hB b sA) t
       refine opV_mono ?_ this
       rintro v w' ⟨x, M', h', e1, p, l, e2, e3, e4, e5⟩
       exact ⟨x, M', h', e1, p, l, e2, e3, e4, sl_pers hB (B.mono l b) e5⟩
/-- A new block that never turns any more. -/
theorem an_newI {k : Nat} {ls : Array Bool} {op : Op} {ty : TypeId} {d : Nat} {pos : String} {after : Array Edge} {e : TypeId} {cs : List Value} {val : Nat → Value} (hd : Nat.blt d n = true)
    (hrun : ∀ (a : Act), Fr n L a → ∀ (w : World) (dst : Option Tmp) (pos : String) (after : Array Edge) (guard : Option (Nat × Bool)),
     (execOp a.eval ⟨dst, op, ty, pos, after, guard⟩).run P w = .ok (.value (val w.heap.size)) (w.alloc (.cells cs.toArray e (0, 0))))
    (kk : ∀ b, An r P n ops (ICe b e cs :: A) Q k ls ((d, val b) :: L) Hs) : AnOp r P n ops A ⟨some d, op, ty, pos, after, none⟩ (fun L' Hs' => An r P n ops A Q k ls L' Hs') L Hs := by
 refine ⟨hd, .inr ⟨.inl rfl, Nat, val, fun _ => True, [], Hs, fun b => [ICe b e cs], Ent.refl _, ?_, fun b _ => d_known (Im.pers b _) (kk b)⟩⟩
 intro a fr w M h hA hf dj dj' s sA t
 rw [hrun a fr w]
 have t2 := t.alloc (.cells cs.toArray e (0, 0))
 obtain ⟨f1, f2⟩ := fresh_none t
 obtain ⟨M', l, him, t3⟩ := freeze_sat (one_dj f2) t2
 exact ⟨w.heap.size, M', h, rfl, trivial, l, dj, dj', t3, Res.emp, h, Res.emp_dj _, (Res.emp_add _).symm, him, trivial⟩
theorem an_buildSliceI {k : Nat} {ls : Array Bool} {t e ty : TypeId} {d : Nat} {pos : String} {after : Array Edge} {ti : TypeInfo} {z : Value} {len : Nat} {ps : List (Nat × Operand)} (vs : List Value) {cs : List Value} (ht : P.underlying t = some (.slice e)) (hi : P.info? e = some ti) (hz : ti.zero = some z) (hzs : Nat.beq z.cells.size ti.size = true)
    (hps : evps L ps = some (parts 0 vs)) (hlen : vs.length = len) (hv : vs.all (fun v => Nat.beq v.cells.size ti.size) = true) (hsm : Nat.ble (vs.length * ti.size) 16777216 = true) (hcs : vs.flatMap (·.cells.toList) = cs) (hd : Nat.blt d n = true)
    (kk : ∀ b, An r P n ops (ICe b e cs :: A) Q k ls ((d, .slice (some ⟨b, 0, none⟩) len len) :: L) Hs) : AnOp r P n ops A ⟨some d, .buildSlice t len ps.toArray, ty, pos, after, none⟩ (fun L' Hs' => An r P n ops A Q k ls L' Hs') L Hs := by
 subst hlen
 refine an_newI (val := fun b => .slice (some ⟨b, 0, none⟩) vs.length vs.length) hd (fun a f w _ _ _ _ => ?_) kk
 rw [← hcs]
 have e1 := f.evpsa hps
 have := run_buildSlice ht hi hz (Nat.eq_of_beq_eq_true hzs) (fun v hv' => Nat.eq_of_beq_eq_true (by have := List.all_eq_true.1 hv v hv'; simpa using this)) (Nat.le_of_ble_eq_true hsm) w
 simp only [execOp]
 rw [show (Array.map (fun x => match x with | (i, x) => (i, a.eval x)) ps.toArray) = (parts 0 vs).toArray from e1]
 simp [this]
theorem tl_b2s {s t e ty : TypeId} {dst : Option Tmp} {pos : String} {after : Array Edge} {x : Operand} {b len cap : Nat} {l : List UInt8} {m : List Value} (hs : P.underlying s = some (.slice e)) (ht : P.underlying t = some .string) (he : P.underlying e = some (.int .u8))
    (hx : ev L x = some (.slice (some ⟨b, 0, none⟩) len cap)) [hr : RdCe b m A] (hm : m.take len = vUs l) (hl : len ≤ m.length) : Tells P n ops ⟨dst, .convert s t x, ty, pos, after, none⟩ A L (vS l) := by
 obtain ⟨B, sh, hB⟩ := hr.get
 have hlen : l.length = len := by have := congrArg List.length hm; simp [vUs] at this; omega
 refine .inr ⟨.inl rfl, fun a f w M hA hf dj sA t' => ?_⟩
 have hc : ∀ j, j < l.length → w.cell? ⟨b, j, none⟩ = some (vU ((l.getD j 0).toNat : Int)) := fun j hj => by
  rw [shows_cell' sh hB sA t' j]
  have : (m.take len)[j]? = (vUs l)[j]? := by rw [hm]
  rw [List.getElem?_take_of_lt (by omega)] at this
  rw [this]; simp [vUs, hj]
 have hb := run_b2s (P := P) (cap := cap) hc hlen.symm
 simp [execOp, f.ev hx, convert, run_underlying hs, run_underlying ht, run_underlying he, hb]
end
end
section
def okCells : List TypeDesc → List Value → List Value → Bool
 | [], [], [] => true
 | .int _ :: r, .int k _ :: xs, .int k' _ :: ys => decide (k = k') && okCells r xs ys
 | .bool :: r, .bool _ :: xs, .bool _ :: ys => okCells r xs ys
 | .string :: r, .string _ :: xs, .string _ :: ys => okCells r xs ys
 | _, _, _ => false
def eqCell : Value → Value → Bool
 | .int _ a, .int _ b => a == b
 | .bool a, .bool b => a == b
 | .string a, .string b => a.toList == b.toList
 | _, _ => false
def eqCells : List Value → List Value → Bool
 | [], [] => true
 | x :: xs, y :: ys => eqCell x y && eqCells xs ys
 | _, _ => false
section
variable {P : Program} {n : Nat} {L : Loc} {ty : TypeId}
theorem run_eqFields {w : World} (d : Nat) : ∀ (tds : List TypeDesc) (fs : List Field) (xs ys px py : List Value),
    fs.map (fun f => (P.underlying f.type, f.name == "_", f.offset)) = (tds.zipIdx px.length).map (fun (td, i) => (some td, false, i)) → px.length = py.length → okCells tds xs ys = true →
    (Op.eqFields (d + 1) (px ++ xs).toArray (py ++ ys).toArray fs).run P w = .ok (eqCells xs ys) w := by
 intro tds
 induction tds with
 | nil =>
   intro fs xs ys px py hf hl ho
   cases fs with
   | cons f fs => simp at hf
   | nil =>
     cases xs <;> cases ys <;> simp [okCells] at ho
     simp [Op.eqFields, eqCells]
 | cons td tds ih =>
   intro fs xs ys px py hf hl ho
   cases fs with
   | nil => simp at hf
   | cons f fs =>
     simp only [List.map_cons, List.zipIdx_cons, List.cons.injEq, Prod.mk.injEq] at hf
     obtain ⟨⟨hu, hn, hof⟩, hf⟩ := hf
     have hn' : f.name ≠ "_" := by
      intro e; rw [e] at hn; simp at hn
     cases xs with
     | nil => cases td <;> simp [okCells] at ho
     | cons x xs =>
     cases ys with
     | nil => cases td <;> cases x <;> simp [okCells] at ho
     | cons y ys =>
     have hfl : flat td = true ∧ okCells tds xs ys = true ∧ (Op.equalIn (d + 1) f.type x y).run P w = .ok (eqCell x y) w := by
      cases td <;> cases x <;> cases y <;> simp [okCells] at ho
      · exact ⟨rfl, ho, run_equalIn_bool' w d _ _ _ hu⟩
      · obtain ⟨e, ho⟩ := ho
        subst e
        exact ⟨rfl, ho, run_equalIn_int w d _ _ _ _ _ hu⟩
      · exact ⟨rfl, ho, run_equalIn_string w d _ _ _ hu⟩
     obtain ⟨h1, h2, h3⟩ := hfl
     have hp : ∀ (pz : List Value) (z : Value) (zs : List Value), pz.length = px.length → (part f.type (pz ++ z :: zs).toArray f.offset).run P w = .ok z w := by
      intro pz z zs hz
      rw [hof]
      simp [part, isAgg_flat hu h1, ← hz]
     have hx := hp px x xs rfl
     have hy := hp py y ys hl.symm
     simp only [Op.eqFields, hn', ne_eq, not_false_eq_true, if_true, Sem.run_bind, hx, hy, h3, Result.andThen_ok]
     have := ih fs xs ys (px ++ [x]) (py ++ [y]) (by rw [List.length_append, List.length_singleton]; exact hf) (by simp [hl]) h2
     simp only [List.append_assoc, List.singleton_append] at this
     cases hb : eqCell x y with
     | false => simp [eqCells, hb]
     | true => simp [eqCells, hb, this]
theorem pv_aneq {x y : Operand} {xs ys : List Value} {t yt : TypeId} {fs : Array Field} (tds : List TypeDesc) (ht : P.underlying t = some (.struct fs)) (hs : P.stoodInHeld t = false) (hg : P.eqGuardType P.depth t = false)
    (hf : fs.toList.map (fun f => (P.underlying f.type, f.name == "_", f.offset)) = tds.zipIdx.map (fun (td, i) => (some td, false, i))) (hx : ev L x = some (.agg xs.toArray)) (hy : ev L y = some (.agg ys.toArray)) (hc : okCells tds xs ys = true) :
    PV P n L (.binOp .neq t x y yt) ty (.bool (!eqCells xs ys)) :=
 pv_vv hx hy (fun w => run_eqGuard_agg _ _ _ _ _ _ _ hg) fun w => by
  have hfo : P.fieldsOf t = fs := by simp [Program.fieldsOf, ht]
  have := run_eqFields (P := P) (w := w) 9998 tds fs.toList xs ys [] [] hf rfl hc
  rw [run_neq_struct, show (10000 : Nat) = 9999 + 1 from rfl, run_equalIn_agg w 9999 t _ _ (by rw [hfo]; exact ht) hs, hfo]
  simp only [List.nil_append] at this
  rw [this]; rfl
theorem eqCell_s (a b : List UInt8) : eqCell (vS a) (vS b) = decide (a = b) := by simp [eqCell, mk_toList, lbeq]
end
end
section
theorem nodup_inj {α : Type} {l : List α} (h : l.Nodup) {i j : Nat} (hi : i < l.length) (hj : j < l.length) (e : l[i] = l[j]) : i = j := by
 have hp := List.pairwise_iff_getElem.1 h
 rcases Nat.lt_trichotomy i j with h1 | h1 | h1
 · exact absurd e (hp i j hi hj h1)
 · exact h1
 · exact absurd e.symm (hp j i hj hi h1)
theorem nodup_len {α : Type} [DecidableEq α] : ∀ {l m : List α}, l.Nodup → (∀ x ∈ l, x ∈ m) → l.length ≤ m.length := by
 intro l
 induction l with
 | nil => intro m _ _; simp
 | cons a l ih =>
   intro m hn hs
   have ha : a ∈ m := hs a (by simp)
   have h1 := ih (m := m.erase a) (List.nodup_cons.1 hn).2 fun x hx => by
    have hne : x ≠ a := fun e => (List.nodup_cons.1 hn).1 (e ▸ hx)
    exact (List.mem_erase_of_ne hne).2 (hs x (by simp [hx]))
   have h2 := List.length_erase_of_mem ha
   have h3 := List.length_pos_of_mem ha
   simp only [List.length_cons]; omega
/-- The entries that a walk over a map has met. -/
structure SeenG (es : Array MapEntry) (ds : List MapEntry) (done : List (List UInt8)) : Prop where
 mem : ∀ d ∈ ds, d ∈ es.toList
 keys : ds.map (·.key) = done.map vS
 nodup : done.Nodup
/-- A map at b that is being walked over by the iterator at r; the keys that were met. -/
def MapIt (b r : Nat) (ks : Ks) (done : List (List UInt8)) : HP :=
 ⟨fun _ h => ∃ (es : Array MapEntry) (clock : Nat) (ds : List MapEntry), b ≠ r ∧ h = (Res.one b (.map es clock)).add (Res.one r (.mapIter (some b) clock (ds.map MapEntry.born).toArray clock)) ∧ MapG es clock ks ∧ SeenG es ds done, fun _ e => e⟩
theorem mapg_key {es : Array MapEntry} {clock : Nat} {ks : Ks} (g : MapG es clock ks) {e : MapEntry} (h : e ∈ es.toList) : ∃ k v, e.key = vS k ∧ e.val = v ∧ (k, v) ∈ ks := by
 have h1 : (e.key, e.val) ∈ es.toList.map (fun e => (e.key, e.val)) := List.mem_map_of_mem (f := fun e => (e.key, e.val)) h
 rw [g.eq] at h1
 obtain ⟨p, hp, hq⟩ := List.mem_map.1 h1
 simp only [Prod.mk.injEq] at hq
 exact ⟨p.1, p.2, hq.1.symm, hq.2.symm, hp⟩
theorem vS_inj {a b : List UInt8} (h : vS a = vS b) : a = b := by
 have := congrArg (fun v => match v with | .string s => s.data.toList | _ => []) h
 exact this
theorem mapg_inj {es : Array MapEntry} {clock : Nat} {ks : Ks} (g : MapG es clock ks) {e f : MapEntry} (he : e ∈ es.toList) (hf : f ∈ es.toList) (h : e.key = f.key) : e = f := by
 have hn : (es.toList.map (·.key)).Nodup := by
  have h1 : es.toList.map (·.key) = (ks.map (·.1)).map vS := by
   have := congrArg (List.map Prod.fst) g.eq
   simpa [List.map_map, Function.comp_def] using this
  rw [h1]
  refine List.Pairwise.map vS (fun a b hab e => hab (vS_inj e)) g.keys
 obtain ⟨i, hi, rfl⟩ := List.getElem_of_mem he
 obtain ⟨j, hj, rfl⟩ := List.getElem_of_mem hf
 have := nodup_inj hn (i := i) (j := j) (by simpa using hi) (by simpa using hj) (by simpa using h)
 subst this; rfl
def nxV : Option (List UInt8 × Value) → Value
 | none => .tuple #[.bool false]
 | some (k, v) => .tuple #[.bool true, vS k, v]
def nxD (done : List (List UInt8)) : Option (List UInt8 × Value) → List (List UInt8)
 | none => done
 | some (k, _) => done ++ [k]
def nxP (ks : Ks) (done : List (List UInt8)) : Option (List UInt8 × Value) → Prop
 | none => ∀ p ∈ ks, p.1 ∈ done
 | some (k, v) => (k, v) ∈ ks ∧ k ∉ done
section
variable {r : Option Nat} {P : Program} {n : Nat} {ops : Array Oper} {os : List Oper} {A : List HP} {L : Loc} {Hs : List HP} {Q : Out} {ty : TypeId} {d : Nat} {pos : String} {after : Array Edge} {c : Code}
theorem opt_turnX {dst : Option Tmp} {op : Op} {X : Type} {B : HP} {val : X → Value} {φ : X → Prop} {C : X → HP} (hrun : ∀ (a : Act), Fr n L a → ∀ (w : World) (M : Kn) (h1 hf : Res), h1.dj hf → Sat w M (h1.add hf) → B.at_ M h1 → ∃ (x : X) (w' : World) (h1' : Res), φ x ∧ h1'.dj hf ∧ Sat w' M (h1'.add hf) ∧ (C x).at_ M h1' ∧
      (execOp a.eval ⟨dst, op, ty, pos, after, none⟩).run P w = .ok (.value (val x)) w') :
    OpT r P n ⟨dst, op, ty, pos, after, none⟩ A L [B] val φ (fun x => [C x]) := by
 intro a f w M h hA hf dj dj' s sA t
 obtain ⟨k1, k2, dk, e, hb, _⟩ := s
 subst e
 obtain ⟨x1, x2⟩ := Res.dj_add_left.1 dj'
 obtain ⟨x3, x4⟩ := Res.dj_add_left.1 x1
 obtain ⟨y1, y2⟩ := Res.dj_add_left.1 dj
 have t2 : Sat w M (k1.add ((k2.add hA).add hf)) := by
  have : ((k1.add k2).add hA).add hf = k1.add ((k2.add hA).add hf) := by simp only [Res.add_assoc]
  rw [← this]; exact t
 obtain ⟨x, w', h', hp, dj3, t3, hc, hr⟩ := hrun a f w M k1 ((k2.add hA).add hf) (Res.dj_add_right.2 ⟨Res.dj_add_right.2 ⟨dk, y1⟩, x3⟩) t2 hb
 obtain ⟨z1, z2⟩ := Res.dj_add_right.1 dj3
 obtain ⟨z3, z4⟩ := Res.dj_add_right.1 z1
 rw [hr]
 refine ⟨x, M, h'.add k2, rfl, hp, Kn.le_refl _, Res.dj_add_left.2 ⟨z4, y2⟩, Res.dj_add_left.2 ⟨Res.dj_add_left.2 ⟨z2, x4⟩, x2⟩, ?_, h', k2, z3, rfl, hc, trivial⟩
 have : ((h'.add k2).add hA).add hf = h'.add ((k2.add hA).add hf) := by simp only [Res.add_assoc]
 rw [this]; exact t3
theorem opt_range {dst : Option Tmp} {t kt e : TypeId} {x : Operand} {b : Nat} {ks : Ks} (ht : P.underlying t = some (.map kt e)) (hx : ev L x = some (.map (some b))) :
    OpT r P n ⟨dst, .range t x, ty, pos, after, none⟩ A L [MapS b ks] (fun i : Nat => .pointer (some ⟨i, 0, none⟩)) (fun _ => True) (fun i => [MapIt b i ks []]) := by
 refine opt_turnX (fun a f w M h1 hf dj tt hm => ?_)
 obtain ⟨es, clock, e1, g⟩ := hm
 subst e1
 have hb : w.heap[b]? = some (.map es clock) := tt.ow _ _ (by simp [Res.add, Res.one])
 have hlt : b < w.heap.size := (Array.getElem?_eq_some_iff.1 hb).1
 obtain ⟨f1, f2⟩ := fresh_none tt
 have t2 := tt.alloc (.mapIter (some b) clock #[] clock)
 have hd2 : (Res.one w.heap.size (.mapIter (some b) clock #[] clock)).dj ((Res.one b (.map es clock)).add hf) := one_dj f2
 obtain ⟨d1, d2⟩ := Res.dj_add_right.1 hd2
 refine ⟨w.heap.size, w.alloc (.mapIter (some b) clock #[] clock), (Res.one b (.map es clock)).add (Res.one w.heap.size (.mapIter (some b) clock #[] clock)), trivial, Res.dj_add_left.2 ⟨dj, d2⟩, ?_, ⟨es, clock, [], by omega, rfl, g, ⟨by simp, rfl, by simp⟩⟩, ?_⟩
 · rw [Res.add_comm (Res.dj_comm d1), Res.add_assoc]; exact t2
 · simp [execOp, f.ev hx, Instr.range, run_underlying ht, MapKept.run_getObj_map hb, newObj, Sem.run]
theorem opt_next {dst : Option Tmp} {x : Operand} {b i : Nat} {ks : Ks} {done : List (List UInt8)} (hx : ev L x = some (.pointer (some ⟨i, 0, none⟩))) :
    OpT r P n ⟨dst, .next x false, ty, pos, after, none⟩ A L [MapIt b i ks done] nxV (nxP ks done) (fun o => [MapIt b i ks (nxD done o)]) := by
 refine opt_turnX (fun a f w M h1 hf dj tt hm => ?_)
 obtain ⟨es, clock, ds, hne, e1, g, sg⟩ := hm
 subst e1
 have hb : w.heap[b]? = some (.map es clock) := tt.ow _ _ (by simp [Res.add, Res.one])
 have hi : w.heap[i]? = some (.mapIter (some b) clock (ds.map MapEntry.born).toArray clock) := tt.ow _ _ (by simp [Res.add, Res.one, Ne.symm hne])
 have hrun : ∀ (v : Value) (w' : World), (Instr.next (.pointer (some ⟨i, 0, none⟩)) false ty).run P w = .ok v w' → (execOp a.eval ⟨dst, .next x false, ty, pos, after, none⟩).run P w = .ok (.value v) w' := by
  intro v w' h
  simp only [execOp, f.ev hx, Sem.run_bind, h, Result.andThen_ok, Sem.run_pure]
 rcases run_next_at (P := P) w ty i b clock clock (ds.map MapEntry.born).toArray es clock hi hb (fun x hx => g.old x hx) (Nat.le_refl _) with ⟨h0, hr⟩ | ⟨e, he, w1, hw1, hr⟩
 · refine ⟨none, w, _, ?_, dj, tt, ⟨es, clock, ds, hne, rfl, g, sg⟩, hrun _ _ hr⟩
   intro p hp
   obtain ⟨j, hj, rfl⟩ := List.getElem_of_mem hp
   have hje : j < es.toList.length := by have := g.size; simp; omega
   have h1 : es.toList[j] ∈ es.toList := List.getElem_mem _
   have h2 : (ds.map MapEntry.born).contains es.toList[j].born = true := by
    apply Classical.byContradiction
    intro hc
    have h3 : es.toList[j] ∈ (leftOf es (ds.map MapEntry.born).toArray).toList := by
     unfold leftOf
     simp only [Array.toList_filter, List.mem_filter]
     refine ⟨h1, ?_⟩
     simpa using hc
    have h4 : (leftOf es (ds.map MapEntry.born).toArray).toList.length = 0 := by simpa using h0
    rw [List.eq_nil_of_length_eq_zero h4] at h3
    simp at h3
   simp only [List.contains_eq_mem, decide_eq_true_eq, List.mem_map] at h2
   obtain ⟨d0, hd0, hdb⟩ := h2
   have hde : d0 = es.toList[j] := by
    obtain ⟨q, hq, hq2⟩ := List.getElem_of_mem (sg.mem d0 hd0)
    have := nodup_inj g.born (i := q) (j := j) (by simpa using hq) (by simpa using hje) (by rw [List.getElem_map, List.getElem_map, hq2, hdb])
    subst this; exact hq2.symm
   have hk : d0.key ∈ ds.map (·.key) := List.mem_map_of_mem (f := fun e : MapEntry => e.key) hd0
   rw [sg.keys] at hk
   obtain ⟨k, hk1, hk2⟩ := List.mem_map.1 hk
   have h5 : (es.toList.map (fun e => (e.key, e.val)))[j]? = (ks.map (fun p => (vS p.1, p.2)))[j]? := by rw [g.eq]
   rw [List.getElem?_map, List.getElem?_map, List.getElem?_eq_getElem hje, List.getElem?_eq_getElem hj] at h5
   simp only [Option.map_some, Option.some.injEq, Prod.mk.injEq] at h5
   have : k = ks[j].1 := vS_inj (by rw [hk2, hde, h5.1])
   rw [← this]; exact hk1
 · have he2 : e ∈ es.toList ∧ ¬ e.born ∈ ds.map MapEntry.born := by
     unfold leftOf at he
     simp only [Array.toList_filter, List.mem_filter] at he
     refine ⟨he.1, ?_⟩
     intro hc
     have := he.2
     simp [hc] at this
   obtain ⟨k, v, hk, hv, hm⟩ := mapg_key g he2.1
   have hkd : k ∉ done := by
    intro hc
    have : vS k ∈ ds.map (·.key) := by rw [sg.keys]; exact List.mem_map_of_mem (f := vS) hc
    obtain ⟨d0, hd0, hd1⟩ := List.mem_map.1 this
    have := mapg_inj g (sg.mem d0 hd0) he2.1 (by rw [hd1, hk])
    subst this
    exact he2.2 (List.mem_map_of_mem (f := fun e : MapEntry => e.born) hd0)
   have tt1 : Sat w1 M (((Res.one b (.map es clock)).add (Res.one i (.mapIter (some b) clock (ds.map MapEntry.born).toArray clock))).add hf) := by
    rcases hw1 with rfl | rfl
    · exact tt
    · exact tt.drew
   obtain ⟨dj1, dj2⟩ := Res.dj_add_left.1 dj
   have dbi : (Res.one b (.map es clock)).dj (Res.one i (.mapIter (some b) clock (ds.map MapEntry.born).toArray clock)) := fun q => by
    by_cases hq : q = b
    · right; subst hq; simp [Res.one, hne]
    · left; simp [Res.one, hq]
   have eq : ∀ o : Obj, ((Res.one b (.map es clock)).add (Res.one i o)).add hf = (Res.one i o).add ((Res.one b (.map es clock)).add hf) := fun o => by
    have d : (Res.one b (.map es clock)).dj (Res.one i o) := fun q => by
     by_cases hq : q = b
     · right; subst hq; simp [Res.one, hne]
     · left; simp [Res.one, hq]
    rw [Res.add_comm d, Res.add_assoc]
   rw [eq] at tt1
   have t3 := sat_setBlock (.mapIter (some b) clock ((ds.map MapEntry.born).toArray.push e.born) clock) (Res.dj_add_right.2 ⟨Res.dj_comm dbi, dj2⟩) tt1
   rw [← eq] at t3
   refine ⟨some (k, v), _, _, ⟨hm, hkd⟩, Res.dj_add_left.2 ⟨dj1, dj_one_any dj2⟩, t3, ⟨es, clock, ds ++ [e], hne, by simp, g, ⟨?_, ?_, ?_⟩⟩, hrun _ _ (by rw [hr, hk, hv]; rfl)⟩
   · intro d0 hd0
     rcases List.mem_append.1 hd0 with h | h
     · exact sg.mem d0 h
     · simp only [List.mem_singleton] at h; subst h; exact he2.1
   · simp [sg.keys, hk, nxD]
   · show (done ++ [k]).Nodup
     rw [List.nodup_append]
     refine ⟨sg.nodup, by simp, ?_⟩
     intro a1 h1 b1 h2 h3
     simp only [List.mem_singleton] at h2
     subst h2; subst h3
     exact hkd h1
theorem tw_know {e : Exit} {A : HP} {p : Prop} (hA : Has A Hs) (hp : ∀ {M : Kn} {h : Res}, A.at_ M h → p) (k : p → tw n Q e L Hs) : tw n Q e L Hs := by
 intro a M m s
 obtain ⟨g1, g2, dg, e, _, s2⟩ := s.2
 obtain ⟨h1, _, x⟩ := hA.sat s2
 exact k (hp x) a M m s
theorem ent_tail {B : HP} {Gs : List HP} : Ent (B :: Gs) Gs := ⟨fun s => by
 obtain ⟨h1, h2, d, e, _, s⟩ := s
 subst e; exact SL.more d s⟩
/-- A map that is walked over, found by its iterator. -/
class MapItC (b : outParam Nat) (i : Nat) (ks : outParam Ks) (done : outParam (List (List UInt8))) (Hs : List HP) (Rs : outParam (List HP)) : Prop where
 get : Pick (MapIt b i ks done) Hs Rs
instance (priority := 1000) {b i : Nat} {ks : Ks} {done : List (List UInt8)} {r : List HP} : MapItC b i ks done (MapIt b i ks done :: r) r := ⟨.here⟩
instance (priority := 100) {b i : Nat} {ks : Ks} {done : List (List UInt8)} {B : HP} {r s : List HP} [h : MapItC b i ks done r s] : MapItC b i ks done (B :: r) (B :: s) := ⟨.there h.get⟩
instance (priority := 900) {b i : Nat} {ks : Ks} {done : List (List UInt8)} {B B' C : List HP} [h : MapItC b i ks done B B'] : MapItC b i ks done (B ++ C) (B' ++ C) := ⟨pick_left h.get⟩
instance (priority := 800) {b i : Nat} {ks : Ks} {done : List (List UInt8)} {B C C' : List HP} [h : MapItC b i ks done C C'] : MapItC b i ks done (B ++ C) (B ++ C') := ⟨pick_right h.get⟩
theorem r_range {t kt e : TypeId} {x : Operand} {b : Nat} {ks : Ks} {Rs : List HP} (ht : P.underlying t = some (.map kt e)) (hx : ev L x = some (.map (some b))) [h : MapPC b ks Hs Rs] (hd : Nat.blt d n = true)
    (K : ∀ i, wo r P n ops os ((d, .pointer (some ⟨i, 0, none⟩)) :: L) (MapIt b i ks [] :: Rs) Q) : wo r P n ops (⟨some d, .range t x, ty, pos, after, none⟩ :: os) L Hs Q := by
 haveI : PicksC [MapS b ks] Hs Rs := ⟨.cons h.get .nil⟩
 exact wo_opT (by intro c; simp) (opt_range ht hx) (by simpa [dstOk] using hd) (fun i _ => K i)
theorem r_next {x : Operand} {b i : Nat} {ks : Ks} {done : List (List UInt8)} {Rs : List HP} (hx : ev L x = some (.pointer (some ⟨i, 0, none⟩))) [h : MapItC b i ks done Hs Rs] (hd : Nat.blt d n = true)
    (K : ∀ o, nxP ks done o → wo r P n ops os ((d, nxV o) :: L) (MapIt b i ks (nxD done o) :: Rs) Q) : wo r P n ops (⟨some d, .next x false, ty, pos, after, none⟩ :: os) L Hs Q := by
 haveI : PicksC [MapIt b i ks done] Hs Rs := ⟨.cons h.get .nil⟩
 exact wo_opT (by intro c; simp) (opt_next hx) (by simpa [dstOk] using hd) (fun o ho => K o ho)
theorem pv_nx0 {x : Operand} {o : Option (List UInt8 × Value)} (hx : ev L x = some (nxV o)) : PV P n L (.extract x 0) ty (.bool o.isSome) := by
 cases o with
 | none => exact pv_extract hx rfl
 | some p => exact pv_extract (vs := #[.bool true, vS p.1, p.2]) hx rfl
theorem pick_has {A : HP} {Hs Rs : List HP} (p : Pick A Hs Rs) : Has A Hs := by
 induction p with
 | here => exact .here
 | keep _ => exact .here
 | there _ ih => exact .there ih
theorem r_entry {x : Operand} {b i : Nat} {ks : Ks} {done : List (List UInt8)} {k : List UInt8} {v : Value} {Rs : List HP} (hm : (k, v) ∈ ks) (hx : ev L x = some (.pointer (some ⟨i, 0, none⟩))) [h : MapItC b i ks (done ++ [k]) Hs Rs] (hd : Nat.blt d n = true)
    (K : wo r P n ops os ((d, .tuple #[vS k, v]) :: L) Hs Q) : wo r P n ops (⟨some d, .entry x, ty, pos, after, none⟩ :: os) L Hs Q := by
 refine wo_read (by intro c; simp) (pick_has h.get) hd (fun a f w M h1 h2 hf t le hm' dst pos after guard => ?_) K
 obtain ⟨es, clock, ds, hne, e1, g, sg⟩ := hm'
 subst e1
 have hb : w.heap[b]? = some (.map es clock) := t.ow _ _ (by have := le b (.map es clock) (by simp [Res.add, Res.one]); simp [Res.add, this])
 have hi : w.heap[i]? = some (.mapIter (some b) clock (ds.map MapEntry.born).toArray clock) := t.ow _ _ (by have := le i (.mapIter (some b) clock (ds.map MapEntry.born).toArray clock) (by simp [Res.add, Res.one, Ne.symm hne]); simp [Res.add, this])
 have hl : ds.length = done.length + 1 := by have := congrArg List.length sg.keys; simpa using this
 obtain ⟨ds', e, rfl⟩ : ∃ ds' e, ds = ds' ++ [e] := by
  rcases List.eq_nil_or_concat ds with h | ⟨l, e, h⟩
  · rw [h] at hl; simp at hl
  · exact ⟨l, e, by simpa using h⟩
 have hk : e.key = vS k := by
  have := sg.keys
  simp only [List.map_append, List.map_cons, List.map_nil] at this
  exact (List.append_inj' this rfl).2 |> fun h => by simpa using h
 have he : e ∈ es.toList := sg.mem e (by simp)
 obtain ⟨k2, v2, hk2, hv2, hm2⟩ := mapg_key g he
 have hkk : k2 = k := vS_inj (by rw [← hk2, hk])
 subst hkk
 have hvv : v2 = v := by
  obtain ⟨p, hp, hp2⟩ := List.getElem_of_mem hm
  obtain ⟨q, hq, hq2⟩ := List.getElem_of_mem hm2
  have := nodup_inj g.keys (i := p) (j := q) (by simpa using hp) (by simpa using hq) (by rw [List.getElem_map, List.getElem_map, hp2, hq2])
  subst this
  rw [hp2] at hq2
  exact (Prod.mk.inj hq2).2.symm
 subst hvv
 have hi2 : w.heap[i]? = some (.mapIter (some b) clock ((ds'.map MapEntry.born).toArray.push e.born) clock) := by rw [hi]; simp
 have := run_entry_at (P := P) w i b clock _ es clock e hi2 hb he g.born
 simp only [execOp, f.ev hx, Sem.run_bind, this, Result.andThen_ok, Sem.run_pure, hk, hv2]
theorem mapit_done {b i : Nat} {ks : Ks} {done : List (List UInt8)} {Rs : List HP} [h : MapItC b i ks done Hs Rs] : Ent Hs (MapS b ks :: Rs) := (Picks.ent (.cons h.get .nil)).trans ⟨fun {M x} s => by
 obtain ⟨h1, h2, d, e, ⟨es, clock, ds, hne, e1, g, sg⟩, s⟩ := s
 subst e1; subst e
 obtain ⟨d1, d2⟩ := Res.dj_add_left.1 d
 have dbi : (Res.one b (.map es clock)).dj (Res.one i (.mapIter (some b) clock (ds.map MapEntry.born).toArray clock)) := fun q => by
  by_cases hq : q = b
  · right; subst hq; simp [Res.one, hne]
  · left; simp [Res.one, hq]
 rw [Res.add_assoc]
 exact ⟨_, _, Res.dj_add_right.2 ⟨dbi, d1⟩, rfl, ⟨es, clock, rfl, g⟩, SL.more d2 s⟩⟩
/-- The keys that were met, once nothing is left. -/
theorem mapit_perm {b i : Nat} {ks : Ks} {done : List (List UInt8)} {M : Kn} {h : Res} (x : (MapIt b i ks done).at_ M h) (hn : nxP ks done none) : done.Perm (ks.map (·.1)) := by
 obtain ⟨es, clock, ds, hne, e1, g, sg⟩ := x
 refine (List.perm_ext_iff_of_nodup sg.nodup g.keys).2 fun k => ⟨fun hk => ?_, fun hk => ?_⟩
 · have : vS k ∈ ds.map (·.key) := by rw [sg.keys]; exact List.mem_map_of_mem (f := vS) hk
   obtain ⟨d0, hd0, hd1⟩ := List.mem_map.1 this
   obtain ⟨k2, v2, hk2, _, hm2⟩ := mapg_key g (sg.mem d0 hd0)
   have : k2 = k := vS_inj (by rw [← hk2, hd1])
   subst this
   exact List.mem_map_of_mem (f := fun p : List UInt8 × Value => p.1) hm2
 · obtain ⟨p, hp, rfl⟩ := List.mem_map.1 hk
   exact hn p hp
theorem mapit_len {b i : Nat} {ks : Ks} {done : List (List UInt8)} {M : Kn} {h : Res} (x : (MapIt b i ks done).at_ M h) : done.length ≤ ks.length ∧ done.Nodup ∧ ∀ k ∈ done, k ∈ ks.map (·.1) := by
 obtain ⟨es, clock, ds, hne, e1, g, sg⟩ := x
 have hsub : ∀ k ∈ done, k ∈ ks.map (·.1) := fun k hk => by
  have : vS k ∈ ds.map (·.key) := by rw [sg.keys]; exact List.mem_map_of_mem (f := vS) hk
  obtain ⟨d0, hd0, hd1⟩ := List.mem_map.1 this
  obtain ⟨k2, v2, hk2, _, hm2⟩ := mapg_key g (sg.mem d0 hd0)
  have : k2 = k := vS_inj (by rw [← hk2, hd1])
  subst this
  exact List.mem_map_of_mem (f := fun p : List UInt8 × Value => p.1) hm2
 refine ⟨?_, sg.nodup, hsub⟩
 have := nodup_len sg.nodup hsub
 simpa using this
end
end
end Go.Proofs.YtdnoacgopfcpbaaGreat
