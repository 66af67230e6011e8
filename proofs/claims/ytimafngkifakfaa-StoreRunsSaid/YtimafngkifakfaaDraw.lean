/- Regions that draw their order. -/
import Derived.Test.YtimafngkifakfaaBuild
import Derived.OrdersIn
set_option linter.unusedVariables false
set_option linter.unusedSimpArgs false
namespace Go.Proofs.Ytimafngkifakfaa

/-- What an operation comes to: a value, and a world of which R holds. -/
def opV (r : Option Nat) (P : Program) (R : Value → World → Prop) : Result Next → Prop
  | .ok (.value v) w' => R v w'
  | .ok .skip w' => R undef w'
  | .ok (.enter f args) w' => CallsIn (WF r) 0 P f args w' fun e w'' => ∃ v, e = .returned v ∧ R v w''
  | .ok (.round l f tmps assign body) w' => RoundIn (WF r) 0 P l f tmps assign body w' fun e w'' => ∃ v, e = .returned v ∧ R v w''
  | _ => False

theorem upon_of_opV {r : Option Nat} {P : Program} {o : Oper} {a : Act} {K : Act → World → Prop} {Q : Exit → Act → World → Prop} {R : Value → World → Prop} (h : ∀ v w, R v w → K (a.put o.dst v) w) :
    ∀ res, opV r P R res → o.uponIn (WF r) 0 P a K Q res := by
  intro res q
  unfold opV at q
  unfold Oper.uponIn
  split at q
  · exact h _ _ q
  · exact h _ _ q
  · refine ⟨fun _ => by simp [WF] at *, q.mono ?_⟩
    rintro e w'' ⟨v, rfl, x⟩
    exact h _ _ x
  · refine ⟨fun _ => by simp [WF] at *, q.mono ?_⟩
    rintro e w'' ⟨v, rfl, x⟩
    exact h _ _ x
  · exact q.elim

def putL : Option Tmp → Value → Loc → Loc
  | some d, v, L => (d, v) :: L
  | none, _, L => L
def dstOk (n : Nat) : Option Tmp → Bool
  | some d => Nat.blt d n
  | none => true
theorem Fr.putL {n : Nat} {L : Loc} {a : Act} (f : Fr n L a) {o : Option Tmp} {v : Value} (h : dstOk n o = true) : Fr n (putL o v L) (a.put o v) := by
  cases o with
  | none => exact f
  | some d => exact f.put h

def noDefer (ops : Array Oper) : Bool := ops.toList.all fun o => match o.op with | .defer _ => false | .select _ _ => false | _ => true
theorem noDefer_at {ops : Array Oper} (h : noDefer ops = true) {i : Nat} {o : Oper} (ho : ops[i]? = some o) : (∀ c, o.op ≠ .defer c) ∧ ∀ cs b, o.op ≠ .select cs b := by
  have hm : o ∈ ops.toList := by
    have := Array.mem_of_getElem? ho
    exact Array.mem_toList_iff.2 this
  have := List.all_eq_true.1 h o hm
  constructor
  · intro c e; simp [e] at this
  · intro cs b e; simp [e] at this

section
variable {r : Option Nat} {P : Program} {n : Nat} {ops : Array Oper} {A : List HP} {L : Loc} {Hs : List HP} {Q : Out}

/-- One operation, with what it takes and what it gives; what lies in A is there for reading. -/
def OpT (r : Option Nat) (P : Program) (n : Nat) (o : Oper) (A : List HP) (L : Loc) (As : List HP) {X : Type} (val : X → Value) (φ : X → Prop) (Bs : X → List HP) : Prop :=
  ∀ (a : Act), Fr n L a → ∀ (w : World) (M : Kn) (h hA hf : Res), h.dj hA → (h.add hA).dj hf → SL As M h → SL A M hA → Sat w M ((h.add hA).add hf) →
    opV r P (fun v w' => ∃ (x : X) (M' : Kn) (h' : Res), v = val x ∧ φ x ∧ M.le M' ∧ h'.dj hA ∧ (h'.add hA).dj hf ∧ Sat w' M' ((h'.add hA).add hf) ∧ SL (Bs x) M' h') ((execOp a.eval o).run P w)

def AnOp (r : Option Nat) (P : Program) (n : Nat) (ops : Array Oper) (A : List HP) (o : Oper) (K : Loc → List HP → Prop) (L : Loc) (Hs : List HP) : Prop :=
  dstOk n o.dst = true ∧
  ((∃ j want b, o.guard = some (j, want) ∧ gd ops L j = some (.bool b) ∧ (b == want) = false ∧ K (putL o.dst undef L) Hs) ∨
   ((o.guard = none ∨ ∃ j b, o.guard = some (j, b) ∧ gd ops L j = some (.bool b)) ∧
    ∃ (X : Type) (val : X → Value) (φ : X → Prop) (As Rs : List HP) (Bs : X → List HP), Ent Hs (As ++ Rs) ∧ OpT r P n o A L As val φ Bs ∧ ∀ x, φ x → K (putL o.dst (val x) L) (Bs x ++ Rs)))

def An (r : Option Nat) (P : Program) (n : Nat) (ops : Array Oper) (A : List HP) (Q : Out) : Nat → Array Bool → Loc → List HP → Prop
  | 0, ls, L, Hs => Region.ready .any ops ls = [] ∧ tw n Q .normal L (A ++ Hs)
  | k + 1, ls, L, Hs => (Region.ready .any ops ls = [] → tw n Q .normal L (A ++ Hs)) ∧
      ∀ i ∈ Region.ready .any ops ls, ∃ o, ops[i]? = some o ∧ AnOp r P n ops A o (fun L' Hs' => An r P n ops A Q k (ls.setIfInBounds i true) L' Hs') L Hs

theorem semAt_nd {o : Oper} (h : ∀ c, o.op ≠ .defer c) (ρ : Operand → Value) : o.semAt (WF r).round ρ = execOp ρ o := Oper.semAt_eq _ _ _ h

theorem An.sound (hnd : noDefer ops = true) : ∀ (k : Nat) (ls : Array Bool) (L : Loc) (Hs : List HP), An r P n ops A Q k ls L Hs → ∀ (a : Act) (M : Kn) (h : Res), St n L (A ++ Hs) a M h →
    ∀ (M0 : Kn) (w : World) (hf : Res), M0.le M → h.dj hf → Sat w M (h.add hf) → wpAnyIn (WF r) 0 P .any ops (lift M0 hf Q) k ls a w := by
  intro k
  induction k with
  | zero =>
    intro ls L Hs an a M h s M0 w hf l dj t
    exact ⟨an.1, M, h, l, dj, t, an.2 a M h s⟩
  | succ k ih =>
    intro ls L Hs an a M h s M0 w hf l dj t
    refine ⟨fun e => ⟨M, h, l, dj, t, an.1 e a M h s⟩, fun i hi => ?_⟩
    obtain ⟨o, ho, hd, hop⟩ := an.2 i hi
    obtain ⟨nd, _⟩ := noDefer_at hnd ho
    unfold wpOpIn
    simp only [ho]
    rcases hop with ⟨j, want, b, hg, hgd, hne, k'⟩ | ⟨hg, X, val, φ, As, Rs, Bs, he, ht, hk⟩
    · have hw : Region.wanted o (yielded ops a.tmps) = false := by
        simp only [Region.wanted, hg, gd_yielded s.1 hgd]
        cases b <;> cases want <;> simp_all
      rw [hw]
      simp only [Bool.false_eq_true, if_false]
      refine ⟨fun _ _ => trivial, ih _ _ _ k' _ M h ⟨s.1.putL hd, ?_⟩ M0 w hf l dj t⟩
      have e : (a.put o.dst undef).defers = a.defers := by cases o.dst <;> rfl
      rw [e]; exact s.2
    · have hw : Region.wanted o (yielded ops a.tmps) = true := by
        rcases hg with hg | ⟨j, b, hg, hgd⟩
        · simp [Region.wanted, hg]
        · simp only [Region.wanted, hg, gd_yielded s.1 hgd]
          cases b <;> rfl
      rw [hw]
      simp only [if_true, Oper.wpIn]
      refine ⟨fun _ _ => trivial, ?_⟩
      rw [semAt_nd nd]
      -- the resources: the marks, A, what is taken, the rest
      obtain ⟨g1, g2, dg, e, sd, s2⟩ := s.2
      subst e
      obtain ⟨hA, h2, dA, e, sA, s3⟩ := SL.split s2
      subst e
      obtain ⟨h3, h4, d34, e, sAs, sRs⟩ := SL.split (he s3)
      subst e
      obtain ⟨dgA, dg2⟩ := Res.dj_add_right.1 dg
      obtain ⟨dg3, dg4⟩ := Res.dj_add_right.1 dg2
      obtain ⟨dA3, dA4⟩ := Res.dj_add_right.1 dA
      obtain ⟨df1, df2⟩ := Res.dj_add_left.1 dj
      obtain ⟨dfA, df3⟩ := Res.dj_add_left.1 df2
      obtain ⟨df4, df5⟩ := Res.dj_add_left.1 df3
      have eq : (g1.add (hA.add (h3.add h4))).add hf = (h3.add hA).add ((g1.add h4).add hf) := by
        have e1 : g1.add (hA.add (h3.add h4)) = (h3.add hA).add (g1.add h4) := by
          rw [← Res.add_assoc hA, Res.add_comm dA3, Res.add_assoc h3, ← Res.add_assoc g1, Res.add_comm dg3, Res.add_assoc h3, ← Res.add_assoc g1, Res.add_comm dgA]
          simp only [Res.add_assoc]
        rw [e1, Res.add_assoc]
      rw [eq] at t
      refine upon_of_opV ?_ _ (ht a s.1 w M h3 hA ((g1.add h4).add hf) (Res.dj_comm dA3) ?_ sAs sA t)
      · rintro v w' ⟨x, M', h', rfl, p, l', dj', djf, t', sB⟩
        obtain ⟨y1, y2⟩ := Res.dj_add_left.1 djf
        obtain ⟨y3, y4⟩ := Res.dj_add_right.1 y1
        obtain ⟨y5, y6⟩ := Res.dj_add_right.1 y3
        refine ih _ _ _ (hk x p) _ M' (g1.add (hA.add (h'.add h4))) ⟨s.1.putL hd, ?_⟩ M0 w' hf (Kn.le_trans l l') ?_ ?_
        · have e : (a.put o.dst (val x)).defers = a.defers := by cases o.dst <;> rfl
          rw [e]
          refine ⟨g1, hA.add (h'.add h4), ?_, rfl, (Al _).mono l' sd, ?_⟩
          · exact Res.dj_add_right.2 ⟨dgA, Res.dj_add_right.2 ⟨Res.dj_comm y5, dg4⟩⟩
          · exact SL.append (Res.dj_add_right.2 ⟨Res.dj_comm dj', dA4⟩) (SL.mono l' sA) (SL.append y6 sB (SL.mono l' sRs))
        · exact Res.dj_add_left.2 ⟨df1, Res.dj_add_left.2 ⟨dfA, Res.dj_add_left.2 ⟨y4, df5⟩⟩⟩
        · have e1 : (g1.add (hA.add (h'.add h4))).add hf = (h'.add hA).add ((g1.add h4).add hf) := by
            have e1 : g1.add (hA.add (h'.add h4)) = (h'.add hA).add (g1.add h4) := by
              rw [← Res.add_assoc hA, Res.add_comm (Res.dj_comm dj'), Res.add_assoc h', ← Res.add_assoc g1, Res.add_comm (Res.dj_comm y5), Res.add_assoc h', ← Res.add_assoc g1, Res.add_comm dgA]
              simp only [Res.add_assoc]
            rw [e1, Res.add_assoc]
          rw [e1]; exact t'
      · refine Res.dj_add_left.2 ⟨Res.dj_add_right.2 ⟨Res.dj_add_right.2 ⟨Res.dj_comm dg3, d34⟩, df4⟩, Res.dj_add_right.2 ⟨Res.dj_add_right.2 ⟨Res.dj_comm dgA, dA4⟩, dfA⟩⟩

/-- The rule. -/
theorem p_draw {c : Code} {id : Nat} {l : List Oper} (hc : c = .region id l.toArray true) (hm : P.follows .mixedOrders = true) (hnd : noDefer l.toArray = true) (A Rs : List HP) (hp : Ent Hs (A ++ Rs))
    (h : An r P n l.toArray A Q l.length (Array.replicate l.length false) L Rs) : wc r P n c L Hs Q := by
  rw [hc]
  intro a M m s w hf d t
  refine wpIn_region_any hm ?_
  have hsz : l.toArray.size = l.length := by simp
  rw [hsz]
  refine An.sound hnd _ _ L Rs h a M m ⟨s.1, ?_⟩ M _ hf (Kn.le_refl _) d ?_
  · obtain ⟨g1, g2, dg, e, sd, s2⟩ := s.2
    exact ⟨g1, g2, dg, e, sd, hp s2⟩
  · exact ⟨t.im, t.ow, t.dj, ⟨t.env.os, t.env.tape, t.env.output, t.env.size⟩⟩

/-! More is known of a frame. -/
def Leq (L L' : Loc) : Prop := ∀ i v, lk L i = some v → lk L' i = some v
theorem Fr.leq {L L' : Loc} {a : Act} (f : Fr n L' a) (l : Leq L L') : Fr n L a := ⟨f.1, fun i v e => f.2 i v (l i v e)⟩
theorem Leq.cons {L L' : Loc} (l : Leq L L') (d : Nat) (v : Value) : Leq ((d, v) :: L) ((d, v) :: L') := fun i u e => by
  simp only [lk] at e ⊢
  cases h : Nat.beq d i with
  | true => rw [h] at e; exact e
  | false => rw [h] at e; exact l i u e
theorem Leq.putL {L L' : Loc} (l : Leq L L') (o : Option Tmp) (v : Value) : Leq (putL o v L) (putL o v L') := by
  cases o with
  | none => exact l
  | some d => exact l.cons d v
theorem gd_leq {L L' : Loc} (l : Leq L L') {j : Nat} {v : Value} (h : gd ops L j = some v) : gd ops L' j = some v := by
  unfold gd at h ⊢
  cases e : (ops[j]?).bind (·.dst) with
  | none => rw [e] at h; cases h
  | some d => rw [e] at h; exact l _ _ h
theorem An.leq : ∀ (k : Nat) (ls : Array Bool) (L L' : Loc) (Hs : List HP), Leq L L' → An r P n ops A Q k ls L Hs → An r P n ops A Q k ls L' Hs := by
  intro k
  induction k with
  | zero => intro ls L L' Hs l an; exact ⟨an.1, fun a M h s => an.2 a M h ⟨s.1.leq l, s.2⟩⟩
  | succ k ih =>
    intro ls L L' Hs l an
    refine ⟨fun e a M h s => an.1 e a M h ⟨s.1.leq l, s.2⟩, fun i hi => ?_⟩
    obtain ⟨o, ho, hd, hop⟩ := an.2 i hi
    refine ⟨o, ho, hd, ?_⟩
    rcases hop with ⟨j, want, b, hg, hgd, hne, k'⟩ | ⟨hg, X, val, φ, As, Rs, Bs, he, ht, hk⟩
    · exact .inl ⟨j, want, b, hg, gd_leq l hgd, hne, ih _ _ _ _ (l.putL _ _) k'⟩
    · refine .inr ⟨?_, X, val, φ, As, Rs, Bs, he, fun a f => ht a (f.leq l), fun x p => ih _ _ _ _ (l.putL _ _) (hk x p)⟩
      rcases hg with hg | ⟨j, b, hg, hgd⟩
      · exact .inl hg
      · exact .inr ⟨j, b, hg, gd_leq l hgd⟩

/-! An operation that only tells something is taken first. -/
/-- It tells v, whenever it runs. -/
def Tells (P : Program) (n : Nat) (ops : Array Oper) (o : Oper) (A : List HP) (L : Loc) (v : Value) : Prop :=
  (∃ j want b, o.guard = some (j, want) ∧ gd ops L j = some (.bool b) ∧ (b == want) = false ∧ v = undef) ∨
  ((o.guard = none ∨ ∃ j b, o.guard = some (j, b) ∧ gd ops L j = some (.bool b)) ∧
   ∀ (a : Act), Fr n L a → ∀ (w : World) (M : Kn) (hA hf : Res), hA.dj hf → SL A M hA → Sat w M (hA.add hf) → (execOp a.eval o).run P w = .ok (.value v) w)

def free (ops : Array Oper) (ls : Array Bool) (i : Nat) (oi : Oper) : Bool :=
  ops.toList.zipIdx.all fun (oj, j) => Nat.beq j i || ls.getD j false || oi.apart ops oj || oj.after.any (fun e => Region.binds .any e && Nat.beq e.on i)

theorem ready_iff {ls : Array Bool} {i : Nat} : i ∈ Region.ready .any ops ls ↔ i < ops.size ∧ ls.getD i true = false ∧ ∃ o, ops[i]? = some o ∧ ∀ e ∈ o.after, Region.binds .any e = true → ls.getD e.on false = true := by
  unfold Region.ready
  rw [List.mem_filter, List.mem_range]
  constructor
  · rintro ⟨h1, h2⟩
    simp only [Bool.and_eq_true, Bool.not_eq_true'] at h2
    refine ⟨h1, h2.1, ops[i], Array.getElem?_eq_getElem h1, fun e he hb => ?_⟩
    have h3 := h2.2
    rw [Array.getElem?_eq_getElem h1] at h3
    simp only [Option.map_some, Option.getD_some, Array.all_eq_true'] at h3
    have := h3 e he
    simpa [hb] using this
  · rintro ⟨h1, h2, o, ho, h3⟩
    refine ⟨h1, ?_⟩
    simp only [h2, Bool.not_false, Bool.true_and, ho, Option.map_some, Option.getD_some, Array.all_eq_true']
    intro e he
    cases hb : Region.binds .any e with
    | false => rfl
    | true => simpa using h3 e he hb

theorem getD_set_self {ls : Array Bool} {i : Nat} (h : i < ls.size) (d : Bool) : (ls.setIfInBounds i true).getD i d = true := by simp [Array.getD, h]
theorem getD_set_other {ls : Array Bool} {i j : Nat} (h : j ≠ i) (d : Bool) : (ls.setIfInBounds i true).getD j d = ls.getD j d := by
  simp only [Array.getD_eq_getD_getElem?]
  rw [Array.getElem?_setIfInBounds_ne (Ne.symm h)]
theorem unlisted_lt {ls : Array Bool} {i : Nat} (h : ls.getD i true = false) : i < ls.size := by
  rcases Nat.lt_or_ge i ls.size with x | x
  · exact x
  · simp [Array.getD, Nat.not_lt.2 x] at h

/-- The slot's elder value put back. -/
theorem back {L : Loc} {a : Act} {d : Nat} {u : Value} (f : Fr n ((d, u) :: L) a) : ∃ v, Fr n L (a.put (some d) v) := by
  refine ⟨(lk L d).getD ((a.tmps[d]?).getD undef), by simp [Act.put]; exact f.1, fun i x e => ?_⟩
  simp only [Act.put, Array.getElem?_setIfInBounds]
  by_cases hi : d = i
  · subst hi
    have : lk ((d, u) :: L) d = some u := by simp [lk, nbeq_self]
    have h2 := f.2 d u this
    have hlt := (Array.getElem?_eq_some_iff.1 h2).1
    simp [hlt, e]
  · rw [if_neg hi]
    exact f.2 i x (by simp only [lk, nbeq hi, cond_false]; exact e)

theorem Tells.later {o o' : Oper} {v u : Value} (hs : ∀ cs b, o.op ≠ .select cs b) (ap : o.apart ops o' = true) (t : Tells P n ops o A L v) : Tells P n ops o A (putL o'.dst u L) v := by
  obtain ⟨_, _, h3⟩ := Oper.apart_spec ap
  have hgd : ∀ {j : Nat} {want : Bool} {x : Value}, o.guard = some (j, want) → gd ops L j = some x → gd ops (putL o'.dst u L) j = some x := by
    intro j want x hg h
    cases hd : o'.dst with
    | none => exact h
    | some d =>
      have hno := h3 d hd
      unfold gd at h ⊢
      cases e : (ops[j]?).bind (·.dst) with
      | none => rw [e] at h; cases h
      | some s =>
        rw [e] at h
        have hne : d ≠ s := fun x => hno (List.mem_append_right _ (by simp [hg, e, x]))
        simp only [Option.bind_some, putL, lk, nbeq hne, cond_false] at h ⊢
        exact h
  rcases t with ⟨j, want, b, hg, hg2, hne, hv⟩ | ⟨hg, run⟩
  · exact .inl ⟨j, want, b, hg, hgd hg hg2, hne, hv⟩
  · refine .inr ⟨?_, ?_⟩
    · rcases hg with hg | ⟨j, b, hg, hg2⟩
      · exact .inl hg
      · exact .inr ⟨j, b, hg, hgd hg hg2⟩
    · intro a f w M hA hf dj s t
      cases hd : o'.dst with
      | none => rw [hd] at f; exact run a f w M hA hf dj s t
      | some d =>
        rw [hd] at f
        obtain ⟨x, f2⟩ := back f
        have := run _ f2 w M hA hf dj s t
        rw [execOp_put (ops := ops) o hs a (some d) x (fun e he => by cases he; exact h3 d hd)] at this
        exact this

theorem putL_swap {L : Loc} {d : Option Tmp} {e : Option Tmp} (h : ∀ x, d = some x → e ≠ some x) (v u : Value) : Leq (putL d v (putL e u L)) (putL e u (putL d v L)) := by
  cases d with
  | none => intro i x y; exact y
  | some d =>
    cases e with
    | none => intro i x y; exact y
    | some e =>
      have hne : d ≠ e := fun x => h d rfl (by rw [x])
      intro i x y
      simp only [putL, lk] at y ⊢
      by_cases h1 : d = i
      · subst h1
        rw [nbeq_self, cond_true] at y
        rw [nbeq (Ne.symm hne), cond_false, nbeq_self, cond_true]; exact y
      · rw [nbeq h1, cond_false] at y
        by_cases h2 : e = i
        · subst h2; rw [nbeq_self, cond_true] at y ⊢; exact y
        · rw [nbeq h2, cond_false] at y ⊢
          rw [nbeq h1, cond_false]; exact y

theorem An.first (hnd : noDefer ops = true) {i : Nat} {o : Oper} {v : Value} (ho : ops[i]? = some o) (hd : dstOk n o.dst = true) : ∀ (k : Nat) (ls : Array Bool) (L : Loc) (Hs : List HP),
    i ∈ Region.ready .any ops ls → free ops ls i o = true → Tells P n ops o A L v → An r P n ops A Q k (ls.setIfInBounds i true) (putL o.dst v L) Hs → An r P n ops A Q (k + 1) ls L Hs := by
  obtain ⟨_, nsel⟩ := noDefer_at hnd ho
  intro k
  induction k with
  | zero =>
    intro ls L Hs hi hfr ht an
    refine ⟨(fun e => by rw [e] at hi; cases hi), fun j hj => ?_⟩
    by_cases hji : j = i
    · subst hji
      refine ⟨o, ho, hd, ?_⟩
      rcases ht with ⟨j', want, b, hg, hg2, hne, hv⟩ | ⟨hg, run⟩
      · exact .inl ⟨j', want, b, hg, hg2, hne, by rw [← hv]; exact an⟩
      · refine .inr ⟨hg, Unit, fun _ => v, fun _ => True, [], Hs, fun _ => [], Ent.refl _, ?_, fun _ _ => an⟩
        intro a f w M h hA hf dj dj' s sA t
        have e1 : (h.add hA).add hf = hA.add (h.add hf) := by rw [Res.add_comm dj, Res.add_assoc]
        have := run a f w M hA (h.add hf) (Res.dj_add_right.2 ⟨Res.dj_comm dj, (Res.dj_add_left.1 dj').2⟩) sA (by rw [← e1]; exact t)
        rw [this]
        exact ⟨(), M, h, rfl, trivial, Kn.le_refl _, dj, dj', t, trivial⟩
    · exfalso
      have hr : j ∈ Region.ready .any ops (ls.setIfInBounds i true) := by
        obtain ⟨h1, h2, oj, hoj, h3⟩ := ready_iff.1 hj
        refine ready_iff.2 ⟨h1, by rw [getD_set_other hji]; exact h2, oj, hoj, fun e he hb => ?_⟩
        by_cases hei : e.on = i
        · rw [hei]; exact getD_set_self (unlisted_lt (ready_iff.1 hi).2.1) _
        · rw [getD_set_other hei]; exact h3 e he hb
      rw [an.1] at hr; cases hr
  | succ k ih =>
    intro ls L Hs hi hfr ht an
    refine ⟨(fun e => by rw [e] at hi; cases hi), fun j hj => ?_⟩
    by_cases hji : j = i
    · subst hji
      refine ⟨o, ho, hd, ?_⟩
      rcases ht with ⟨j', want, b, hg, hg2, hne, hv⟩ | ⟨hg, run⟩
      · exact .inl ⟨j', want, b, hg, hg2, hne, by rw [← hv]; exact an⟩
      · refine .inr ⟨hg, Unit, fun _ => v, fun _ => True, [], Hs, fun _ => [], Ent.refl _, ?_, fun _ _ => an⟩
        intro a f w M h hA hf dj dj' s sA t
        have e1 : (h.add hA).add hf = hA.add (h.add hf) := by rw [Res.add_comm dj, Res.add_assoc]
        have := run a f w M hA (h.add hf) (Res.dj_add_right.2 ⟨Res.dj_comm dj, (Res.dj_add_left.1 dj').2⟩) sA (by rw [← e1]; exact t)
        rw [this]
        exact ⟨(), M, h, rfl, trivial, Kn.le_refl _, dj, dj', t, trivial⟩
    · obtain ⟨h1, h2, oj, hoj, h3⟩ := ready_iff.1 hj
      obtain ⟨i1, i2, oi, hoi, i3⟩ := ready_iff.1 hi
      have hisz := unlisted_lt i2
      have hjsz := unlisted_lt h2
      have hr : j ∈ Region.ready .any ops (ls.setIfInBounds i true) := by
        refine ready_iff.2 ⟨h1, by rw [getD_set_other hji]; exact h2, oj, hoj, fun e he hb => ?_⟩
        by_cases hei : e.on = i
        · rw [hei]; exact getD_set_self hisz _
        · rw [getD_set_other hei]; exact h3 e he hb
      obtain ⟨oj', hoj', hdj, hop⟩ := an.2 j hr
      have e0 : oj' = oj := by rw [hoj] at hoj'; injection hoj' with e; exact e.symm
      subst e0
      obtain ⟨_, nselj⟩ := noDefer_at hnd hoj
      -- they are apart
      have ap : o.apart ops oj' = true := by
        have hm : (oj', j) ∈ ops.toList.zipIdx := by
          rw [List.mem_zipIdx_iff_getElem?]
          simpa using hoj
        have := List.all_eq_true.1 hfr _ hm
        simp only [Bool.or_eq_true] at this
        rcases this with ((h | h) | h) | h
        · exact absurd (Nat.eq_of_beq_eq_true h) hji
        · exfalso
          have : ls.getD j true = true := by
            simp only [Array.getD, hjsz, dif_pos] at h ⊢; exact h
          rw [h2] at this; cases this
        · exact h
        · exfalso
          rw [Array.any_eq_true'] at h
          obtain ⟨e, he, hb⟩ := h
          simp only [Bool.and_eq_true] at hb
          have := h3 e he hb.1
          rw [Nat.eq_of_beq_eq_true hb.2] at this
          have i2' : ls.getD i false = false := by
            simp only [Array.getD, hisz, dif_pos] at i2 ⊢; exact i2
          rw [i2'] at this; cases this
      obtain ⟨a1, a2, a3⟩ := Oper.apart_spec ap
      have hfr' : free ops (ls.setIfInBounds j true) i o = true := by
        unfold free at hfr ⊢
        rw [List.all_eq_true] at hfr ⊢
        rintro ⟨oq, q⟩ hq
        have := hfr _ hq
        simp only [Bool.or_eq_true] at this ⊢
        rcases this with ((h | h) | h) | h
        · exact .inl (.inl (.inl h))
        · by_cases hqj : q = j
          · subst hqj; exact .inl (.inl (.inr (getD_set_self hjsz _)))
          · exact .inl (.inl (.inr (by rw [getD_set_other hqj]; exact h)))
        · exact .inl (.inr h)
        · exact .inr h
      have hi' : i ∈ Region.ready .any ops (ls.setIfInBounds j true) := by
        refine ready_iff.2 ⟨i1, by rw [getD_set_other (Ne.symm hji)]; exact i2, oi, hoi, fun e he hb => ?_⟩
        by_cases hej : e.on = j
        · rw [hej]; exact getD_set_self hjsz _
        · rw [getD_set_other hej]; exact i3 e he hb
      have hcomm : (ls.setIfInBounds i true).setIfInBounds j true = (ls.setIfInBounds j true).setIfInBounds i true := by
        apply Array.ext_getElem?
        intro q
        simp only [Array.getElem?_setIfInBounds, Array.size_setIfInBounds]
        by_cases hqi : i = q <;> by_cases hqj : j = q <;> simp [hqi, hqj]
        all_goals (subst hqi; try subst hqj; simp_all)
      refine ⟨oj', hoj, hdj, ?_⟩
      have gback : ∀ {q : Nat} {want : Bool} {x : Value}, oj'.guard = some (q, want) → gd ops (putL o.dst v L) q = some x → gd ops L q = some x := by
        intro q want x hg h
        cases hdo : o.dst with
        | none => rw [hdo] at h; exact h
        | some d =>
          have hno := a1 d hdo
          rw [hdo] at h
          unfold gd at h ⊢
          cases e : (ops[q]?).bind (·.dst) with
          | none => rw [e] at h; cases h
          | some s =>
            rw [e] at h
            have hne : d ≠ s := fun x => hno (List.mem_append_right _ (by simp [hg, e, x]))
            simp only [Option.bind_some, putL, lk, nbeq hne, cond_false] at h ⊢
            exact h
      have go : ∀ (u : Value) (Gs : List HP), An r P n ops A Q k ((ls.setIfInBounds i true).setIfInBounds j true) (putL oj'.dst u (putL o.dst v L)) Gs → An r P n ops A Q (k + 1) (ls.setIfInBounds j true) (putL oj'.dst u L) Gs := by
        intro u Gs x
        refine ih _ _ _ hi' hfr' (ht.later nsel ap) ?_
        rw [← hcomm]
        refine An.leq _ _ _ _ _ (putL_swap (fun y hy hz => a2 y hz hy) u v) x
      rcases hop with ⟨q, want, b, hg, hgd, hne, k'⟩ | ⟨hg, X, val, φ, As, Rs, Bs, he, htt, hk⟩
      · exact .inl ⟨q, want, b, hg, gback hg hgd, hne, go _ _ k'⟩
      · refine .inr ⟨?_, X, val, φ, As, Rs, Bs, he, ?_, fun x p => go _ _ (hk x p)⟩
        · rcases hg with hg | ⟨q, b, hg, hgd⟩
          · exact .inl hg
          · exact .inr ⟨q, b, hg, gback hg hgd⟩
        · intro a f w M h hA hf dj dj' s sA t
          have := htt (a.put o.dst v) (f.putL hd) w M h hA hf dj dj' s sA t
          rw [execOp_put (ops := ops) oj' nselj a o.dst v (fun d hdd => a1 d hdd)] at this
          exact this
end
end Go.Proofs.Ytimafngkifakfaa
