/- Storing into a row's elements; reading, in a region that draws, what the region turns. -/
import Derived.Test.YtimafngkifakfaaEqs
set_option linter.unusedVariables false
set_option linter.unusedSimpArgs false
namespace Go.Proofs.Ytimafngkifakfaa
class RowAC (a : Option Addr) (e sz n' c' n : outParam Nat) (xs : outParam (List Value)) (Hs : List HP) (Rs : outParam (List HP)) : Prop where
  get : Pick (Row e sz (.slice a n' c') n xs) Hs Rs
instance (priority := 1000) {a : Option Addr} {e sz n' c' n : Nat} {xs : List Value} {r : List HP} : RowAC a e sz n' c' n xs (Row e sz (.slice a n' c') n xs :: r) r := ⟨.here⟩
instance (priority := 100) {a : Option Addr} {e sz n' c' n : Nat} {xs : List Value} {B : HP} {r s : List HP} [h : RowAC a e sz n' c' n xs r s] : RowAC a e sz n' c' n xs (B :: r) (B :: s) := ⟨.there h.get⟩
instance (priority := 900) {a : Option Addr} {e sz n' c' n : Nat} {xs : List Value} {B B' C : List HP} [h : RowAC a e sz n' c' n xs B B'] : RowAC a e sz n' c' n xs (B ++ C) (B' ++ C) := ⟨pick_left h.get⟩
instance (priority := 800) {a : Option Addr} {e sz n' c' n : Nat} {xs : List Value} {B C C' : List HP} [h : RowAC a e sz n' c' n xs C C'] : RowAC a e sz n' c' n xs (B ++ C) (B ++ C') := ⟨pick_right h.get⟩

class MapPC (b : Nat) (ks : outParam Ks) (Hs : List HP) (Rs : outParam (List HP)) : Prop where
  get : Pick (MapS b ks) Hs Rs
instance (priority := 1000) {b : Nat} {ks : Ks} {r : List HP} : MapPC b ks (MapS b ks :: r) r := ⟨.here⟩
instance (priority := 100) {b : Nat} {ks : Ks} {B : HP} {r s : List HP} [h : MapPC b ks r s] : MapPC b ks (B :: r) (B :: s) := ⟨.there h.get⟩
instance (priority := 900) {b : Nat} {ks : Ks} {B B' C : List HP} [h : MapPC b ks B B'] : MapPC b ks (B ++ C) (B' ++ C) := ⟨pick_left h.get⟩
instance (priority := 800) {b : Nat} {ks : Ks} {B C C' : List HP} [h : MapPC b ks C C'] : MapPC b ks (B ++ C) (B ++ C') := ⟨pick_right h.get⟩

section
variable {r : Option Nat} {P : Program} {n : Nat} {ops : Array Oper} {os : List Oper} {A : List HP} {L : Loc} {Hs : List HP} {Q : Out} {ty : TypeId} {d : Nat} {pos : String} {after : Array Edge} {c : Code}

theorem setAt_take : ∀ (vs l : List Value) (k m : Nat), k + vs.length ≤ m → (setAt l k vs).take m = setAt (l.take m) k vs := by
  intro vs
  induction vs with
  | nil => intros; rfl
  | cons v vs ih =>
    intro l k m h
    simp only [List.length_cons] at h
    simp only [setAt]
    rw [ih _ _ _ (by omega), List.take_set]
theorem opt_estorea {t : TypeId} {ti : TypeInfo} {x y : Operand} {a : Option Addr} {e sz n' c' k m : Nat} {xs vs : List Value} (hi : P.info? t = some ti) (hs : Nat.beq ti.size vs.length = true) (hv : 0 < vs.length)
    (hx : ev L x = some (.pointer (elemA a m))) {u : Value} (hy : ev L y = some u) (hu : u.cells.toList = vs) (h1 : vs.all oneCell = true) (hm : m + vs.length ≤ xs.length) :
    OpT r P n ⟨none, .store t x y, ty, pos, after, none⟩ A L [Row e sz (.slice a n' c') k xs] (fun _ : Unit => undef) (fun _ => True) (fun _ => [Row e sz (.slice a n' c') k (setAt xs m vs)]) := by
  refine opt_turn (fun ac f w M h1' hf dj tt hr => ?_)
  rcases hr with ⟨_, _, e1⟩ | ⟨g, cap, cur, e1, e2, e3, e4, e5, e6, e7⟩
  · rw [e1, List.length_nil] at hm; omega
  · cases e1
    subst e7
    have hb : w.heap[g]? = some (.cells cur.toArray e (0, 0)) := tt.ow _ _ (by simp [Res.add, Res.one])
    have hcl : (cur.take (n' * sz)).length = n' * sz := by rw [e6, e5]
    have hcm : n' * sz ≤ cur.length := by rw [List.length_take] at hcl; omega
    obtain ⟨w', hr, hb', ho', he'⟩ := run_storeCells_ce (P := P) vs w cur (0 + m) 0 hb h1 (by omega)
    have hsz : ti.size = vs.length := Nat.eq_of_beq_eq_true hs
    refine ⟨w', Res.one g (.cells (setAt cur m vs).toArray e (0, 0)), dj_one_any dj, Sat.setBlk dj tt (by simpa using hb') ho' he', .inr ⟨g, c', setAt cur m vs, rfl, e2, e3, by rw [length_setAt]; exact e4, by rw [length_setAt]; exact e5, ?_, rfl⟩, .inr ⟨?_, rfl⟩⟩
    · rw [setAt_take _ _ _ _ (by omega), e6]
    · have hcs : u.cells = vs.toArray := by rw [← hu]
      simp [execOp, f.ev hx, f.ev hy, elemA, Instr.storeAt, Instr.sureAddr, storeVar, hcs, sizeOf, typeInfo, program, Sem.run, hi, hsz]
      have hr' : (storeCells ⟨g, m, none⟩ vs).run P w = .ok () w' := by simpa using hr
      rw [hr']; rfl
theorem opt_estore {t : TypeId} {ti : TypeInfo} {x y : Operand} {a : Option Addr} {e sz n' c' k m : Nat} {xs : List Value} (hi : P.info? t = some ti) (hs : Nat.beq ti.size 1 = true)
    (hx : ev L x = some (.pointer (elemA a m))) {v : Value} (hy : ev L y = some v) (h1 : oneCell v = true) (hm : m < xs.length) :
    OpT r P n ⟨none, .store t x y, ty, pos, after, none⟩ A L [Row e sz (.slice a n' c') k xs] (fun _ : Unit => undef) (fun _ => True) (fun _ => [Row e sz (.slice a n' c') k (xs.set m v)]) := by
  have hc : v.cells.toList = [v] := by cases v <;> simp_all [Value.cells, oneCell]
  have := opt_estorea (r := r) (n := n) (A := A) (ty := ty) (pos := pos) (after := after) (e := e) (sz := sz) (n' := n') (c' := c') (k := k) (xs := xs) (m := m) (vs := [v]) hi hs (by simp) hx hy hc (by simp [h1]) (by simp only [List.length_singleton]; omega)
  exact this
theorem r_estore {t : TypeId} {ti : TypeInfo} {x y : Operand} {a : Option Addr} {e sz n' c' k m : Nat} {xs : List Value} {Rs : List HP} (hi : P.info? t = some ti) (hs : Nat.beq ti.size 1 = true)
    (hx : ev L x = some (.pointer (elemA a m))) {v : Value} (hy : ev L y = some v) [hp : RowAC a e sz n' c' k xs Hs Rs] (h1 : oneCell v = true) (hm : m < xs.length)
    (K : wo r P n ops os L (Row e sz (.slice a n' c') k (xs.set m v) :: Rs) Q) : wo r P n ops (⟨none, .store t x y, ty, pos, after, none⟩ :: os) L Hs Q := by
  haveI : PicksC [Row e sz (.slice a n' c') k xs] Hs Rs := ⟨.cons hp.get .nil⟩
  exact wo_opT (by intro c; simp) (opt_estore hi hs hx hy h1 hm) rfl (fun _ _ => K)
theorem an_estore {K : Loc → List HP → Prop} {t : TypeId} {ti : TypeInfo} {x y : Operand} {a : Option Addr} {e sz n' c' k m : Nat} {xs : List Value} {Rs : List HP} (hi : P.info? t = some ti) (hs : Nat.beq ti.size 1 = true)
    (hx : ev L x = some (.pointer (elemA a m))) {v : Value} (hy : ev L y = some v) [hp : RowAC a e sz n' c' k xs Hs Rs] (h1 : oneCell v = true) (hm : m < xs.length)
    (k' : K L (Row e sz (.slice a n' c') k (xs.set m v) :: Rs)) : AnOp r P n ops A ⟨none, .store t x y, ty, pos, after, none⟩ K L Hs := by
  haveI : PicksC [Row e sz (.slice a n' c') k xs] Hs Rs := ⟨.cons hp.get .nil⟩
  exact an_opT (opt_estore hi hs hx hy h1 hm) rfl (fun _ _ => k')
theorem r_estorea {t : TypeId} {ti : TypeInfo} {x y : Operand} {a : Option Addr} {e sz n' c' k m : Nat} {xs vs : List Value} {Rs : List HP} (hi : P.info? t = some ti) (hs : Nat.beq ti.size vs.length = true) (hv : 0 < vs.length)
    (hx : ev L x = some (.pointer (elemA a m))) (hy : ev L y = some (.agg vs.toArray)) [hp : RowAC a e sz n' c' k xs Hs Rs] (h1 : vs.all oneCell = true) (hm : m + vs.length ≤ xs.length)
    (K : wo r P n ops os L (Row e sz (.slice a n' c') k (setAt xs m vs) :: Rs) Q) : wo r P n ops (⟨none, .store t x y, ty, pos, after, none⟩ :: os) L Hs Q := by
  haveI : PicksC [Row e sz (.slice a n' c') k xs] Hs Rs := ⟨.cons hp.get .nil⟩
  exact wo_opT (by intro c; simp) (opt_estorea hi hs hv hx hy rfl h1 hm) rfl (fun _ _ => K)

/-! Appending. -/
theorem r_append1 {t e : TypeId} {x y : Operand} {i : TypeInfo} {z : Value} (ht : P.underlying t = some (.slice e)) (hi : P.info? e = some i) (hz : i.zero = some z) (hzs : Nat.beq z.cells.size i.size = true) {sz : Nat} (hsz : i.size = sz) (hs0 : Nat.blt 0 sz = true) {bytes : Nat} (hby : i.bytes = bytes)
    {v : Value} {k : Nat} {xs : List Value} {b m c T : Nat} {l : List Value} {R1 R2 : List HP} (hx : ev L x = some v) (hy : ev L y = some (.slice (some ⟨b, 0, none⟩) m c)) [h1 : RowC v e sz k xs Hs R1] [h2 : OwnC b T l R1 R2]
    (hl : l.length = m * sz) (ho : l.all oneCell = true) (hbytes : (k + m) * bytes ≤ 140737488355328) (h63 : k + m ≤ maxLen) (hd : Nat.blt d n = true)
    (K : ∀ a' c', wo r P n ops os ((d, .slice a' (k + m) c') :: L) (Row e sz (.slice a' (k + m) c') (k + m) (xs ++ l) :: R2) Q) : wo r P n ops (⟨some d, .call ⟨.builtin .append, #[x, y], #[t, t]⟩, ty, pos, after, none⟩ :: os) L Hs Q := by
  haveI : PicksC [Row e sz v k xs, Ce b T l] Hs R2 := ⟨.cons h1.get (.cons h2.get .nil)⟩
  refine wo_opT (by intro c; simp) (opt_append ht hi hz hzs hsz hs0 hby hx hy (shows_ce (T := T)) hl (by rw [List.drop_zero, ← hl, List.take_length]) ho hbytes h63 (xs := xs)) (by simpa [dstOk] using hd) (fun v' ⟨a', c', h'⟩ => ?_)
  subst h'
  refine wo_ent' (Gs := Row e sz (.slice a' (k + m) c') (k + m) (xs ++ l) :: R2) ⟨fun s => ?_⟩ (K a' c')
  obtain ⟨g1, g2, dd, e1, hr, s2⟩ := s
  obtain ⟨q1, q2, dq, eq, _, s3⟩ := s2
  refine ⟨g1, g2, dd, e1, hr, ?_⟩
  rw [eq]; exact SL.more dq s3
theorem an_append1 {K : Loc → List HP → Prop} {t e : TypeId} {x y : Operand} {i : TypeInfo} {z : Value} (ht : P.underlying t = some (.slice e)) (hi : P.info? e = some i) (hz : i.zero = some z) (hzs : Nat.beq z.cells.size i.size = true) {sz : Nat} (hsz : i.size = sz) (hs0 : Nat.blt 0 sz = true) {bytes : Nat} (hby : i.bytes = bytes)
    {v : Value} {k : Nat} {xs : List Value} {b m c T : Nat} {l : List Value} {R1 R2 : List HP} (hx : ev L x = some v) (hy : ev L y = some (.slice (some ⟨b, 0, none⟩) m c)) [h1 : RowC v e sz k xs Hs R1] [h2 : OwnC b T l R1 R2]
    (hl : l.length = m * sz) (ho : l.all oneCell = true) (hbytes : (k + m) * bytes ≤ 140737488355328) (h63 : k + m ≤ maxLen) (hd : Nat.blt d n = true)
    (k' : ∀ a' c', K ((d, .slice a' (k + m) c') :: L) (Row e sz (.slice a' (k + m) c') (k + m) (xs ++ l) :: Ce b T l :: R2)) : AnOp r P n ops A ⟨some d, .call ⟨.builtin .append, #[x, y], #[t, t]⟩, ty, pos, after, none⟩ K L Hs := by
  haveI : PicksC [Row e sz v k xs, Ce b T l] Hs R2 := ⟨.cons h1.get (.cons h2.get .nil)⟩
  refine an_opT (opt_append ht hi hz hzs hsz hs0 hby hx hy (shows_ce (T := T)) hl (by rw [List.drop_zero, ← hl, List.take_length]) ho hbytes h63 (xs := xs)) (by simpa [dstOk] using hd) (fun v' ⟨a', c', h'⟩ => ?_)
  subst h'
  exact k' a' c'
/-- Something that lets a slice be read, taken out. -/
class PickSl (a : Option Addr) (news : outParam (List Value)) (B : outParam HP) (Hs : List HP) (Rs : outParam (List HP)) : Prop where
  sla : SlA B a news
  get : Pick B Hs Rs
instance (priority := 1000) {a : Option Addr} {xs : List Value} {r : List HP} : PickSl a xs (SlI a xs) (SlI a xs :: r) (SlI a xs :: r) := ⟨sla_sli, .keep (SlI.pers a xs)⟩
instance (priority := 1000) {e : TypeId} {sz k n c : Nat} {a : Option Addr} {xs : List Value} {r : List HP} : PickSl a xs (Row e sz (.slice a n c) k xs) (Row e sz (.slice a n c) k xs :: r) r := ⟨sla_row, .here⟩
instance (priority := 1000) {b : Nat} {T : TypeId} {l : List Value} {r : List HP} : PickSl (some ⟨b, 0, none⟩) l (Ce b T l) (Ce b T l :: r) r := ⟨sla_ce, .here⟩
instance (priority := 100) {a : Option Addr} {xs : List Value} {B C : HP} {r s : List HP} [h : PickSl a xs B r s] : PickSl a xs B (C :: r) (C :: s) := ⟨h.sla, .there h.get⟩
instance (priority := 900) {a : Option Addr} {xs : List Value} {A : HP} {B B' C : List HP} [h : PickSl a xs A B B'] : PickSl a xs A (B ++ C) (B' ++ C) := ⟨h.sla, pick_left h.get⟩
instance (priority := 800) {a : Option Addr} {xs : List Value} {A : HP} {B C C' : List HP} [h : PickSl a xs A C C'] : PickSl a xs A (B ++ C) (B ++ C') := ⟨h.sla, pick_right h.get⟩
theorem r_appendA {t e : TypeId} {x y : Operand} {i : TypeInfo} {z : Value} (ht : P.underlying t = some (.slice e)) (hi : P.info? e = some i) (hz : i.zero = some z) (hzs : Nat.beq z.cells.size i.size = true) {sz : Nat} (hsz : i.size = sz) (hs0 : Nat.blt 0 sz = true) {bytes : Nat} (hby : i.bytes = bytes)
    {v : Value} {k : Nat} {xs news : List Value} {a : Option Addr} {m c : Nat} {B : HP} {R1 R2 : List HP} (hx : ev L x = some v) (hy : ev L y = some (.slice a m c)) [h1 : RowC v e sz k xs Hs R1] [h2 : PickSl a news B R1 R2]
    (hl : news.length = m * sz) (ho : news.all oneCell = true) (hbytes : (k + m) * bytes ≤ 140737488355328) (h63 : k + m ≤ maxLen) (hd : Nat.blt d n = true)
    (K : ∀ a' c', wo r P n ops os ((d, .slice a' (k + m) c') :: L) (Row e sz (.slice a' (k + m) c') (k + m) (xs ++ news) :: B :: R2) Q) : wo r P n ops (⟨some d, .call ⟨.builtin .append, #[x, y], #[t, t]⟩, ty, pos, after, none⟩ :: os) L Hs Q := by
  haveI : PicksC [Row e sz v k xs, B] Hs R2 := ⟨.cons h1.get (.cons h2.get .nil)⟩
  refine wo_opT (by intro c; simp) (opt_appendA ht hi hz hzs hsz hs0 hby hx hy h2.sla hl ho hbytes h63 (xs := xs)) (by simpa [dstOk] using hd) (fun v' ⟨a', c', h'⟩ => ?_)
  subst h'
  exact K a' c'

/-! Reading as one of the things that happen. -/
theorem an_elemAddr {K : Loc → List HP → Prop} {t e : TypeId} {x y : Operand} {a : Option Addr} {k : IntKind} {i : Int} {m len cap kk : Nat} {ti : TypeInfo} {xs : List Value} {sz : Nat} (ht : P.underlying t = some (.slice e)) (hi : P.info? e = some ti) (hsz : ti.size = sz)
    (hx : ev L x = some (.slice a len cap)) (hy : ev L y = some (.int k i)) (hm : i = (m : Int)) (h : m < len) [hr : RdSl a xs Hs] (hne : 0 < xs.length) (hk : m * sz = kk) (hd : Nat.blt d n = true)
    (k' : K ((d, .pointer (elemA a kk)) :: L) Hs) : AnOp r P n ops A ⟨some d, .indexAddr t x y, ty, pos, after, none⟩ K L Hs := by
  obtain ⟨B, sh, hB⟩ := hr.get
  refine an_read hB hd (fun ac f w M h1 h2 hf t' le yy dst pos after guard => ?_) k'
  obtain ⟨g, off, rfl, _⟩ := sla_cell sh t' le yy (fun e => by rw [e] at hne; exact absurd hne (by simp))
  rw [run_elemAddr ht hi hsz f hx hy hm h w dst pos after guard, hk]
  rfl
theorem an_eload {K : Loc → List HP → Prop} {t : TypeId} {td : TypeDesc} {x : Operand} {a : Option Addr} {k : Nat} {xs : List Value} {v : Value} (ht : P.underlying t = some td) (hfl : flat td = true)
    (hx : ev L x = some (.pointer (elemA a k))) [hr : RdSl a xs Hs] (hv : xs[k]? = some v) (hd : Nat.blt d n = true)
    (k' : K ((d, v) :: L) Hs) : AnOp r P n ops A ⟨some d, .load t x, ty, pos, after, none⟩ K L Hs := by
  obtain ⟨B, sh, hB⟩ := hr.get
  have hlt := (List.getElem?_eq_some_iff.1 hv).1
  refine an_read hB hd (fun ac f w M h1 h2 hf t' le yy _ _ _ _ => ?_) k'
  obtain ⟨g, off, rfl, hc⟩ := sla_cell sh t' le yy (fun e => by rw [e] at hlt; exact absurd hlt (by simp))
  have h3 := hc k hlt
  rw [hv] at h3
  simp [execOp, f.ev hx, elemA, Instr.loadAt, Instr.sureAddr, loadVar, isAgg_flat ht hfl, run_load, h3]
theorem an_load {K : Loc → List HP → Prop} {t : TypeId} {td : TypeDesc} {x : Operand} {b off : Nat} {l : List Value} {v : Value} (ht : P.underlying t = some td) (hfl : flat td = true)
    (hx : ev L x = some (.pointer (some ⟨b, off, none⟩))) [hr : RdCe b l Hs] (hv : l[off]? = some v) (hd : Nat.blt d n = true)
    (k' : K ((d, v) :: L) Hs) : AnOp r P n ops A ⟨some d, .load t x, ty, pos, after, none⟩ K L Hs := by
  obtain ⟨B, sh, hB⟩ := hr.get
  refine an_read hB hd (fun ac f w M h1 h2 hf t' le yy _ _ _ _ => ?_) k'
  have hc := shows_cell sh t' le yy off
  rw [hv] at hc
  simp [execOp, f.ev hx, Instr.loadAt, Instr.sureAddr, loadVar, isAgg_flat ht hfl, run_load, hc]
theorem wo_frz (a : Option Addr) {e sz n' c' k : Nat} {xs : List Value} {Rs : List HP} [h : RowAC a e sz n' c' k xs Hs Rs] (K : wo r P n ops os L (SlI a xs :: Rs) Q) : wo r P n ops os L Hs Q := wo_freezeRow h.get K
theorem wc_frz (a : Option Addr) {e sz n' c' k : Nat} {xs : List Value} {Rs : List HP} [h : RowAC a e sz n' c' k xs Hs Rs] (K : wc r P n c L (SlI a xs :: Rs) Q) : wc r P n c L Hs Q := wc_freezeRow h.get K
theorem ent_app {As Rs Gs : List HP} [q : AppC As Rs Gs] (e : Ent Hs Gs) : Ent Hs (As ++ Rs) := by rw [q.get]; exact e
theorem tw_ent {e : Exit} {Gs : List HP} (h : Ent Hs Gs) (k : tw n Q e L Gs) : tw n Q e L Hs := fun a M x s => k a M x ⟨s.1, by
  obtain ⟨h1, h2, d, e', y, t⟩ := s.2
  exact ⟨h1, h2, d, e', y, h t⟩⟩
theorem wc_ent0 {Gs : List HP} (h : Ent Hs Gs) (k : wc r P n c L Gs Q) : wc r P n c L Hs Q := wc_ent' h k
theorem wc_no (h : ∀ {M : Kn} {x : Res}, SL Hs M x → False) : wc r P n c L Hs Q := fun a M x s => by
  obtain ⟨h1, h2, d, e', y, t⟩ := s.2
  exact (h t).elim
theorem ce_norm {b T T' : Nat} {l l' : List Value} {Rs : List HP} [q : OwnC b T' l Hs Rs] (hT : T' = T) (hl : l = l') : Ent Hs (Ce b T l' :: Rs) := by
  subst hT; subst hl; exact ent_pick1 q.get
theorem ce_norm1 {b T T' : Nat} {l l' : List Value} {Rs : List HP} [q : OwnC b T' l Hs Rs] (hT : T' = T) (hl : l = l') : Ent Hs [Ce b T l'] := (ce_norm hT hl).trans (ent_step (Ent.refl _) ent_nil)
/-! Maps that are turned. -/
theorem r_mapUpdate {t kt e : TypeId} {x y z : Operand} {b : Nat} {ks : Ks} {k : List UInt8} {v : Value} {Rs : List HP} (ht : P.underlying t = some (.map kt e)) (hk : P.underlying kt = some .string)
    (hx : ev L x = some (.map (some b))) (hy : ev L y = some (vS k)) (hz : ev L z = some v) [h : MapPC b ks Hs Rs] (K : wo r P n ops os L (MapS b (mput ks k v) :: Rs) Q) : wo r P n ops (⟨none, .mapUpdate t x y z, ty, pos, after, none⟩ :: os) L Hs Q := by
  haveI : PicksC [MapS b ks] Hs Rs := ⟨.cons h.get .nil⟩
  exact wo_opT (by intro c; simp) (opt_mapUpdate ht hk hx hy hz (ks := ks)) rfl (fun _ _ => K)
theorem an_mapUpdate {K : Loc → List HP → Prop} {t kt e : TypeId} {x y z : Operand} {b : Nat} {ks : Ks} {k : List UInt8} {v : Value} {Rs : List HP} (ht : P.underlying t = some (.map kt e)) (hk : P.underlying kt = some .string)
    (hx : ev L x = some (.map (some b))) (hy : ev L y = some (vS k)) (hz : ev L z = some v) [h : MapPC b ks Hs Rs] (k' : K L (MapS b (mput ks k v) :: Rs)) : AnOp r P n ops A ⟨none, .mapUpdate t x y z, ty, pos, after, none⟩ K L Hs := by
  haveI : PicksC [MapS b ks] Hs Rs := ⟨.cons h.get .nil⟩
  exact an_opT (opt_mapUpdate ht hk hx hy hz (ks := ks)) rfl (fun _ _ => k')
theorem r_delete {t kt e kt' : TypeId} {x y : Operand} {b : Nat} {ks : Ks} {k : List UInt8} {Rs : List HP} {dst : Option Tmp} (ht : P.underlying t = some (.map kt e)) (hk : P.underlying kt = some .string)
    (hx : ev L x = some (.map (some b))) (hy : ev L y = some (vS k)) [h : MapPC b ks Hs Rs] (hd : dstOk n dst = true) (K : wo r P n ops os (putL dst (.tuple #[]) L) (MapS b (mdel ks k) :: Rs) Q) : wo r P n ops (⟨dst, .call ⟨.builtin .delete, #[x, y], #[t, kt']⟩, ty, pos, after, none⟩ :: os) L Hs Q := by
  haveI : PicksC [MapS b ks] Hs Rs := ⟨.cons h.get .nil⟩
  exact wo_opT (by intro c; simp) (opt_delete ht hk hx hy (ks := ks)) hd (fun _ _ => K)
theorem an_delete {K : Loc → List HP → Prop} {t kt e kt' : TypeId} {x y : Operand} {b : Nat} {ks : Ks} {k : List UInt8} {Rs : List HP} {dst : Option Tmp} (ht : P.underlying t = some (.map kt e)) (hk : P.underlying kt = some .string)
    (hx : ev L x = some (.map (some b))) (hy : ev L y = some (vS k)) [h : MapPC b ks Hs Rs] (hd : dstOk n dst = true) (k' : K (putL dst (.tuple #[]) L) (MapS b (mdel ks k) :: Rs)) : AnOp r P n ops A ⟨dst, .call ⟨.builtin .delete, #[x, y], #[t, kt']⟩, ty, pos, after, none⟩ K L Hs := by
  haveI : PicksC [MapS b ks] Hs Rs := ⟨.cons h.get .nil⟩
  exact an_opT (opt_delete ht hk hx hy (ks := ks)) hd (fun _ _ => k')
theorem sl_eq {a : Option Addr} {m m' c : Nat} (h : m = m') : some (Value.slice a m c) = some (.slice a m' c) := by rw [h]
theorem vS_eq {l l' : List UInt8} (h : l = l') : some (vS l) = some (vS l') := by rw [h]
theorem vB_eq {b b' : Bool} (h : b = b') : some (vB b) = some (vB b') := by rw [h]
end
end Go.Proofs.Ytimafngkifakfaa
