/- Texts of this proof, put together: Draw, DrawR, Rows0. -/
import Derived.OrdersIn
import Derived.Test.YtdnoacgopfcpbaaGreatQ02
set_option linter.unusedVariables false
set_option linter.unusedSimpArgs false
namespace Go.Proofs.YtdnoacgopfcpbaaGreat
section
/-- What an operation comes to: a value, and a world of which R holds. -/
def opV (r : Option Nat) (P : Program) (R : Value → World → Prop) : Result Next → Prop
 | .ok (.value v) w' => R v w'
 | .ok .skip w' => R undef w'
 | .ok (.enter f args) w' => CallsIn (WF r) 0 P f args w' fun e w'' => ∃ v, e = .returned v ∧ R v w''
 | .ok (.round l f tmps assign body) w' => RoundIn (WF r) 0 P l f tmps assign body w' fun e w'' => ∃ v, e = .returned v ∧ R v w''
 | _ => False
theorem upon_of_opV {r : Option Nat} {P : Program} {o : Oper} {a : Act} {K : Act → World → Prop} {Q : Exit → Act → World → Prop} {R : Value → World → Prop} (h : ∀ v w, R v w → K (a.put o.dst v) w) :
    ∀ res, opV r P R res → o.uponIn (WF r) 0 P a K Q res := by
 intro res q
 unfold opV at q
 unfold Oper.uponIn
 split at q
 · exact h _ _ q
 · exact h _ _ q
 · refine ⟨fun _ => by simp [WF] at *, q.mono ?_⟩
   rintro e w'' ⟨v, rfl, x⟩
   exact h _ _ x
 · refine ⟨fun _ => by simp [WF] at *, q.mono ?_⟩
   rintro e w'' ⟨v, rfl, x⟩
   exact h _ _ x
 · exact q.elim
def putL : Option Tmp → Value → Loc → Loc
 | some d, v, L => (d, v) :: L
 | none, _, L => L
def dstOk (n : Nat) : Option Tmp → Bool
 | some d => Nat.blt d n
 | none => true
theorem Fr.putL {n : Nat} {L : Loc} {a : Act} (f : Fr n L a) {o : Option Tmp} {v : Value} (h : dstOk n o = true) : Fr n (putL o v L) (a.put o v) := by
 cases o with
 | none => exact f
 | some d => exact f.put h
def noDefer (ops : Array Oper) : Bool := ops.toList.all fun o => match o.op with | .defer _ => false | .select _ _ => false | _ => true
theorem noDefer_at {ops : Array Oper} (h : noDefer ops = true) {i : Nat} {o : Oper} (ho : ops[i]? = some o) : (∀ c, o.op ≠ .defer c) ∧ ∀ cs b, o.op ≠ .select cs b := by
 have hm : o ∈ ops.toList := by
  have := Array.mem_of_getElem? ho
  exact Array.mem_toList_iff.2 this
 have := List.all_eq_true.1 h o hm
 constructor
 · intro c e; simp [e] at this
 · intro cs b e; simp [e] at this
section
variable {r : Option Nat} {P : Program} {n : Nat} {ops : Array Oper} {A : List HP} {L : Loc} {Hs : List HP} {Q : Out}
/-- One operation, with what it takes and what it gives; what lies in A is there for reading. -/
def OpT (r : Option Nat) (P : Program) (n : Nat) (o : Oper) (A : List HP) (L : Loc) (As : List HP) {X : Type} (val : X → Value) (φ : X → Prop) (Bs : X → List HP) : Prop :=
 ∀ (a : Act), Fr n L a → ∀ (w : World) (M : Kn) (h hA hf : Res), h.dj hA → (h.add hA).dj hf → SL As M h → SL A M hA → Sat w M ((h.add hA).add hf) →
  opV r P (fun v w' => ∃ (x : X) (M' : Kn) (h' : Res), v = val x ∧ φ x ∧ M.le M' ∧ h'.dj hA ∧ (h'.add hA).dj hf ∧ Sat w' M' ((h'.add hA).add hf) ∧ SL (Bs x) M' h') ((execOp a.eval o).run P w)
def AnOp (r : Option Nat) (P : Program) (n : Nat) (ops : Array Oper) (A : List HP) (o : Oper) (K : Loc → List HP → Prop) (L : Loc) (Hs : List HP) : Prop :=
 dstOk n o.dst = true ∧
 ((∃ j want u, o.guard = some (j, want) ∧ gd ops L j = some u ∧ outv u want = true ∧ K (putL o.dst undef L) Hs) ∨
  ((o.guard = none ∨ ∃ j b, o.guard = some (j, b) ∧ gd ops L j = some (.bool b)) ∧
   ∃ (X : Type) (val : X → Value) (φ : X → Prop) (As Rs : List HP) (Bs : X → List HP), Ent Hs (As ++ Rs) ∧ OpT r P n o A L As val φ Bs ∧ ∀ x, φ x → K (putL o.dst (val x) L) (Bs x ++ Rs)))
/-- The operation that comes behind all others. -/
def lastOp (ops : Array Oper) (i : Nat) (o : Oper) : Bool := ops.toList.zipIdx.all fun (_, j) => Nat.beq j i || o.after.any (fun e => Region.binds .any e && Nat.beq e.on j)
def An (r : Option Nat) (P : Program) (n : Nat) (ops : Array Oper) (A : List HP) (Q : Out) : Nat → Array Bool → Loc → List HP → Prop
 | 0, ls, L, Hs => Region.ready .any ops ls = [] ∧ tw n Q .normal L (A ++ Hs)
 | k + 1, ls, L, Hs => (Region.ready .any ops ls = [] → tw n Q .normal L (A ++ Hs)) ∧
     ∀ i ∈ Region.ready .any ops ls, ∃ o, ops[i]? = some o ∧ (AnOp r P n ops A o (fun L' Hs' => An r P n ops A Q k (ls.setIfInBounds i true) L' Hs') L Hs ∨
      (lastOp ops i o = true ∧ k = 0 ∧ AnOp r P n ops [] o (fun L' Hs' => Region.ready .any ops (ls.setIfInBounds i true) = [] ∧ tw n Q .normal L' Hs') L (A ++ Hs)))
theorem semAt_nd {o : Oper} (h : ∀ c, o.op ≠ .defer c) (ρ : Operand → Value) : o.semAt (WF r).round ρ = execOp ρ o := Oper.semAt_eq _ _ _ h
theorem An.sound (hnd : noDefer ops = true) : ∀ (k : Nat) (ls : Array Bool) (L : Loc) (Hs : List HP), An r P n ops A Q k ls L Hs → ∀ (a : Act) (M : Kn) (h : Res), St n L (A ++ Hs) a M h →
    ∀ (M0 : Kn) (w : World) (hf : Res), M0.le M → h.dj hf → Sat w M (h.add hf) → wpAnyIn (WF r) 0 P .any ops (lift M0 hf Q) k ls a w := by
 intro k
 induction k with
 | zero =>
   intro ls L Hs an a M h s M0 w hf l dj t
   exact ⟨an.1, M, h, l, dj, t, an.2 a M h s⟩
 | succ k ih =>
   intro ls L Hs an a M h s M0 w hf l dj t
   refine ⟨fun e => ⟨M, h, l, dj, t, an.1 e a M h s⟩, fun i hi => ?_⟩
   obtain ⟨o, ho, hop⟩ := an.2 i hi
   obtain ⟨nd, _⟩ := noDefer_at hnd ho
   have step : ∀ (A : List HP) (Hs : List HP) (K : Loc → List HP → Prop), AnOp r P n ops A o K L Hs → (∀ (L' : Loc) (Gs : List HP), K L' Gs → ∀ (a : Act) (M : Kn) (h : Res), St n L' (A ++ Gs) a M h →
       ∀ (M0 : Kn) (w : World) (hf : Res), M0.le M → h.dj hf → Sat w M (h.add hf) → wpAnyIn (WF r) 0 P .any ops (lift M0 hf Q) k (ls.setIfInBounds i true) a w) → St n L (A ++ Hs) a M h → wpOpIn (WF r) 0 P ops (lift M0 hf Q) i (wpAnyIn (WF r) 0 P .any ops (lift M0 hf Q) k (ls.setIfInBounds i true)) a w := by
    intro A Hs K hop ih' s'
    obtain ⟨hd, hop⟩ := hop
    unfold wpOpIn
    simp only [ho]
    rcases hop with ⟨j, want, b, hg, hgd, hne, k'⟩ | ⟨hg, X, val, φ, As, Rs, Bs, he, ht, hk⟩
    · have hw : Region.wanted o (yielded ops a.tmps) = false := by
        simp only [Region.wanted, hg]
        exact gd_outv s'.1 hgd hne
      rw [hw]
      simp only [Bool.false_eq_true, if_false]
      refine ⟨fun _ _ => trivial, ih' _ _ k' _ M h ⟨s'.1.putL hd, ?_⟩ M0 w hf l dj t⟩
      have e : (a.put o.dst undef).defers = a.defers := by cases o.dst <;> rfl
      rw [e]; exact s'.2
    · have hw : Region.wanted o (yielded ops a.tmps) = true := by
        rcases hg with hg | ⟨j, b, hg, hgd⟩
        · simp [Region.wanted, hg]
        · simp only [Region.wanted, hg, gd_yielded s'.1 hgd]
          cases b <;> rfl
      rw [hw]
      simp only [if_true, Oper.wpIn]
      refine ⟨fun _ _ => trivial, ?_⟩
      rw [semAt_nd nd]
      -- the resources: the marks, A, what is taken, the rest
      obtain ⟨g1, g2, dg, e, sd, s2⟩ := s'.2
      subst e
      obtain ⟨hA, h2, dA, e, sA, s3⟩ := SL.split s2
      subst e
      obtain ⟨h3, h4, d34, e, sAs, sRs⟩ := SL.split (he s3)
      subst e
      obtain ⟨dgA, dg2⟩ := Res.dj_add_right.1 dg
      obtain ⟨dg3, dg4⟩ := Res.dj_add_right.1 dg2
      obtain ⟨dA3, dA4⟩ := Res.dj_add_right.1 dA
      obtain ⟨df1, df2⟩ := Res.dj_add_left.1 dj
      obtain ⟨dfA, df3⟩ := Res.dj_add_left.1 df2
      obtain ⟨df4, df5⟩ := Res.dj_add_left.1 df3
      have eq : (g1.add (hA.add (h3.add h4))).add hf = (h3.add hA).add ((g1.add h4).add hf) := by
       have e1 : g1.add (hA.add (h3.add h4)) = (h3.add hA).add (g1.add h4) := by
        rw [← Res.add_assoc hA, Res.add_comm dA3, Res.add_assoc h3, ← Res.add_assoc g1, Res.add_comm dg3, Res.add_assoc h3, ← Res.add_assoc g1, Res.add_comm dgA]
        simp only [Res.add_assoc]
       rw [e1, Res.add_assoc]
      rw [eq] at t
      refine upon_of_opV ?_ _ (ht a s'.1 w M h3 hA ((g1.add h4).add hf) (Res.dj_comm dA3) ?_ sAs sA t)
      · rintro v w' ⟨x, M', h', rfl, p, l', dj', djf, t', sB⟩
        obtain ⟨y1, y2⟩ := Res.dj_add_left.1 djf
        obtain ⟨y3, y4⟩ := Res.dj_add_right.1 y1
        obtain ⟨y5, y6⟩ := Res.dj_add_right.1 y3
        refine ih' _ _ (hk x p) _ M' (g1.add (hA.add (h'.add h4))) ⟨s'.1.putL hd, ?_⟩ M0 w' hf (Kn.le_trans l l') ?_ ?_
        · have e : (a.put o.dst (val x)).defers = a.defers := by cases o.dst <;> rfl
          rw [e]
          refine ⟨g1, hA.add (h'.add h4), ?_, rfl, (Al _).mono l' sd, ?_⟩
          · exact Res.dj_add_right.2 ⟨dgA, Res.dj_add_right.2 ⟨Res.dj_comm y5, dg4⟩⟩
          · exact SL.append (Res.dj_add_right.2 ⟨Res.dj_comm dj', dA4⟩) (SL.mono l' sA) (SL.append y6 sB (SL.mono l' sRs))
        · exact Res.dj_add_left.2 ⟨df1, Res.dj_add_left.2 ⟨dfA, Res.dj_add_left.2 ⟨y4, df5⟩⟩⟩
        · have e1 : (g1.add (hA.add (h'.add h4))).add hf = (h'.add hA).add ((g1.add h4).add hf) := by
            have e1 : g1.add (hA.add (h'.add h4)) = (h'.add hA).add (g1.add h4) := by
             rw [← Res.add_assoc hA, Res.add_comm (Res.dj_comm dj'), Res.add_assoc h', ← Res.add_assoc g1, Res.add_comm (Res.dj_comm y5), Res.add_assoc h', ← Res.add_assoc g1, Res.add_comm dgA]
             simp only [Res.add_assoc]
            rw [e1, Res.add_assoc]
          rw [e1]; exact t'
      · refine Res.dj_add_left.2 ⟨Res.dj_add_right.2 ⟨Res.dj_add_right.2 ⟨Res.dj_comm dg3, d34⟩, df4⟩, Res.dj_add_right.2 ⟨Res.dj_add_right.2 ⟨Res.dj_comm dgA, dA4⟩, dfA⟩⟩
   rcases hop with hop | ⟨_, hk0, hop⟩
   · exact step A Hs _ hop (fun L' Gs x => ih _ _ _ x) s
   · subst hk0
     exact step [] (A ++ Hs) _ hop (fun L' Gs x a M h s' M0 w hf l dj t => ⟨x.1, M, h, l, dj, t, x.2 a M h s'⟩) s
/-- The rule. -/
theorem p_draw {c : Code} {id : Nat} {l : List Oper} (hc : c = .region id l.toArray true) (hm : P.follows .mixedOrders = true) (hnd : noDefer l.toArray = true) (A Rs : List HP) (hp : Ent Hs (A ++ Rs))
    (h : An r P n l.toArray A Q l.length (Array.replicate l.length false) L Rs) : wc r P n c L Hs Q := by
 rw [hc]
 intro a M m s w hf d t
 refine wpIn_region_any hm ?_
 have hsz : l.toArray.size = l.length := by simp
 rw [hsz]
 refine An.sound hnd _ _ L Rs h a M m ⟨s.1, ?_⟩ M _ hf (Kn.le_refl _) d ?_
 · obtain ⟨g1, g2, dg, e, sd, s2⟩ := s.2
   exact ⟨g1, g2, dg, e, sd, hp s2⟩
 · exact ⟨t.im, t.ow, t.dj, ⟨t.env.os, t.env.tape, t.env.output, t.env.size, up_add 1 t.env.up⟩⟩
/-! More is known of a frame. -/
def Leq (L L' : Loc) : Prop := ∀ i v, lk L i = some v → lk L' i = some v
theorem Fr.leq {L L' : Loc} {a : Act} (f : Fr n L' a) (l : Leq L L') : Fr n L a := ⟨f.1, fun i v e => f.2 i v (l i v e)⟩
theorem Leq.cons {L L' : Loc} (l : Leq L L') (d : Nat) (v : Value) : Leq ((d, v) :: L) ((d, v) :: L') := fun i u e => by
 simp only [lk] at e ⊢
 cases h : Nat.beq d i with
 | true => rw [h] at e; exact e
 | false => rw [h] at e; exact l i u e
theorem Leq.putL {L L' : Loc} (l : Leq L L') (o : Option Tmp) (v : Value) : Leq (putL o v L) (putL o v L') := by
 cases o with
 | none => exact l
 | some d => exact l.cons d v
theorem gd_leq {L L' : Loc} (l : Leq L L') {j : Nat} {v : Value} (h : gd ops L j = some v) : gd ops L' j = some v := by
 unfold gd at h ⊢
 cases e : (ops[j]?).bind (·.dst) with
 | none => rw [e] at h; cases h
 | some d => rw [e] at h; exact l _ _ h
theorem AnOp.leq {A : List HP} {o : Oper} {K K' : Loc → List HP → Prop} {L L' : Loc} {Hs : List HP} (l : Leq L L') (hK : ∀ v Gs, K (putL o.dst v L) Gs → K' (putL o.dst v L') Gs) (h : AnOp r P n ops A o K L Hs) : AnOp r P n ops A o K' L' Hs := by
 obtain ⟨hd, hop⟩ := h
 refine ⟨hd, ?_⟩
 rcases hop with ⟨j, want, b, hg, hgd, hne, k'⟩ | ⟨hg, X, val, φ, As, Rs, Bs, he, ht, hk⟩
 · exact .inl ⟨j, want, b, hg, gd_leq l hgd, hne, hK _ _ k'⟩
 · refine .inr ⟨?_, X, val, φ, As, Rs, Bs, he, fun a f => ht a (f.leq l), fun x p => hK _ _ (hk x p)⟩
   rcases hg with hg | ⟨j, b, hg, hgd⟩
   · exact .inl hg
   · exact .inr ⟨j, b, hg, gd_leq l hgd⟩
theorem An.leq : ∀ (k : Nat) (ls : Array Bool) (L L' : Loc) (Hs : List HP), Leq L L' → An r P n ops A Q k ls L Hs → An r P n ops A Q k ls L' Hs := by
 intro k
 induction k with
 | zero => intro ls L L' Hs l an; exact ⟨an.1, fun a M h s => an.2 a M h ⟨s.1.leq l, s.2⟩⟩
 | succ k ih =>
   intro ls L L' Hs l an
   refine ⟨fun e a M h s => an.1 e a M h ⟨s.1.leq l, s.2⟩, fun i hi => ?_⟩
   obtain ⟨o, ho, hop⟩ := an.2 i hi
   refine ⟨o, ho, ?_⟩
   rcases hop with hop | ⟨h1, h2, hop⟩
   · exact .inl (hop.leq l fun v Gs x => ih _ _ _ _ (l.putL _ _) x)
   · exact .inr ⟨h1, h2, hop.leq l fun v Gs x => ⟨x.1, fun a M h s => x.2 a M h ⟨s.1.leq (l.putL _ _), s.2⟩⟩⟩
/-! An operation that only tells something is taken first. -/
/-- It tells v, whenever it runs. -/
def Tells (P : Program) (n : Nat) (ops : Array Oper) (o : Oper) (A : List HP) (L : Loc) (v : Value) : Prop :=
 (∃ j want u, o.guard = some (j, want) ∧ gd ops L j = some u ∧ outv u want = true ∧ v = undef) ∨
 ((o.guard = none ∨ ∃ j b, o.guard = some (j, b) ∧ gd ops L j = some (.bool b)) ∧
  ∀ (a : Act), Fr n L a → ∀ (w : World) (M : Kn) (hA hf : Res), hA.dj hf → SL A M hA → Sat w M (hA.add hf) → (execOp a.eval o).run P w = .ok (.value v) w)
def free (ops : Array Oper) (ls : Array Bool) (i : Nat) (oi : Oper) : Bool :=
 ops.toList.zipIdx.all fun (oj, j) => Nat.beq j i || ls.getD j false || oi.apart ops oj || oj.after.any (fun e => Region.binds .any e && Nat.beq e.on i)
theorem ready_iff {ls : Array Bool} {i : Nat} : i ∈ Region.ready .any ops ls ↔ i < ops.size ∧ ls.getD i true = false ∧ ∃ o, ops[i]? = some o ∧ ∀ e ∈ o.after, Region.binds .any e = true → ls.getD e.on false = true := by
 unfold Region.ready
 rw [List.mem_filter, List.mem_range]
 constructor
 · rintro ⟨h1, h2⟩
   simp only [Bool.and_eq_true, Bool.not_eq_true'] at h2
   refine ⟨h1, h2.1, ops[i], Array.getElem?_eq_getElem h1, fun e he hb => ?_⟩
   have h3 := h2.2
   rw [Array.getElem?_eq_getElem h1] at h3
   simp only [Option.map_some, Option.getD_some, Array.all_eq_true'] at h3
   have := h3 e he
   simpa [hb] using this
 · rintro ⟨h1, h2, o, ho, h3⟩
   refine ⟨h1, ?_⟩
   simp only [h2, Bool.not_false, Bool.true_and, ho, Option.map_some, Option.getD_some, Array.all_eq_true']
   intro e he
   cases hb : Region.binds .any e with
   | false => rfl
   | true => simpa using h3 e he hb
theorem getD_set_self {ls : Array Bool} {i : Nat} (h : i < ls.size) (d : Bool) : (ls.setIfInBounds i true).getD i d = true := by simp [Array.getD, h]
theorem getD_set_other {ls : Array Bool} {i j : Nat} (h : j ≠ i) (d : Bool) : (ls.setIfInBounds i true).getD j d = ls.getD j d := by
 simp only [Array.getD_eq_getD_getElem?]
 rw [Array.getElem?_setIfInBounds_ne (Ne.symm h)]
theorem unlisted_lt {ls : Array Bool} {i : Nat} (h : ls.getD i true = false) : i < ls.size := by
 rcases Nat.lt_or_ge i ls.size with x | x
 · exact x
 · simp [Array.getD, Nat.not_lt.2 x] at h
/-- The slot's elder value put back. -/
theorem back {L : Loc} {a : Act} {d : Nat} {u : Value} (f : Fr n ((d, u) :: L) a) : ∃ v, Fr n L (a.put (some d) v) := by
 refine ⟨(lk L d).getD ((a.tmps[d]?).getD undef), by simp [Act.put]; exact f.1, fun i x e => ?_⟩
 simp only [Act.put, Array.getElem?_setIfInBounds]
 by_cases hi : d = i
 · subst hi
   have : lk ((d, u) :: L) d = some u := by simp [lk, nbeq_self]
   have h2 := f.2 d u this
   have hlt := (Array.getElem?_eq_some_iff.1 h2).1
   simp [hlt, e]
 · rw [if_neg hi]
   exact f.2 i x (by simp only [lk, nbeq hi, cond_false]; exact e)
theorem Tells.later {o o' : Oper} {v u : Value} (hs : ∀ cs b, o.op ≠ .select cs b) (ap : o.apart ops o' = true) (t : Tells P n ops o A L v) : Tells P n ops o A (putL o'.dst u L) v := by
 obtain ⟨_, _, h3⟩ := Oper.apart_spec ap
 have hgd : ∀ {j : Nat} {want : Bool} {x : Value}, o.guard = some (j, want) → gd ops L j = some x → gd ops (putL o'.dst u L) j = some x := by
  intro j want x hg h
  cases hd : o'.dst with
  | none => exact h
  | some d =>
    have hno := h3 d hd
    unfold gd at h ⊢
    cases e : (ops[j]?).bind (·.dst) with
    | none => rw [e] at h; cases h
    | some s =>
      rw [e] at h
      have hne : d ≠ s := fun x => hno (List.mem_append_right _ (by simp [hg, e, x]))
      simp only [Option.bind_some, putL, lk, nbeq hne, cond_false] at h ⊢
      exact h
 rcases t with ⟨j, want, b, hg, hg2, hne, hv⟩ | ⟨hg, run⟩
 · exact .inl ⟨j, want, b, hg, hgd hg hg2, hne, hv⟩
 · refine .inr ⟨?_, ?_⟩
   · rcases hg with hg | ⟨j, b, hg, hg2⟩
     · exact .inl hg
     · exact .inr ⟨j, b, hg, hgd hg hg2⟩
   · intro a f w M hA hf dj s t
     cases hd : o'.dst with
     | none => rw [hd] at f; exact run a f w M hA hf dj s t
     | some d =>
       rw [hd] at f
       obtain ⟨x, f2⟩ := back f
       have := run _ f2 w M hA hf dj s t
       rw [execOp_put (ops := ops) o hs a (some d) x (fun e he => by cases he; exact h3 d hd)] at this
       exact this
theorem putL_swap {L : Loc} {d : Option Tmp} {e : Option Tmp} (h : ∀ x, d = some x → e ≠ some x) (v u : Value) : Leq (putL d v (putL e u L)) (putL e u (putL d v L)) := by
 cases d with
 | none => intro i x y; exact y
 | some d =>
   cases e with
   | none => intro i x y; exact y
   | some e =>
     have hne : d ≠ e := fun x => h d rfl (by rw [x])
     intro i x y
     simp only [putL, lk] at y ⊢
     by_cases h1 : d = i
     · subst h1
       rw [nbeq_self, cond_true] at y
       rw [nbeq (Ne.symm hne), cond_false, nbeq_self, cond_true]; exact y
     · rw [nbeq h1, cond_false] at y
       by_cases h2 : e = i
       · subst h2; rw [nbeq_self, cond_true] at y ⊢; exact y
       · rw [nbeq h2, cond_false] at y ⊢
         rw [nbeq h1, cond_false]; exact y
theorem An.first (hnd : noDefer ops = true) {i : Nat} {o : Oper} {v : Value} (ho : ops[i]? = some o) (hd : dstOk n o.dst = true) : ∀ (k : Nat) (ls : Array Bool) (L : Loc) (Hs : List HP),
    i ∈ Region.ready .any ops ls → free ops ls i o = true → Tells P n ops o A L v → An r P n ops A Q k (ls.setIfInBounds i true) (putL o.dst v L) Hs → An r P n ops A Q (k + 1) ls L Hs := by
 obtain ⟨_, nsel⟩ := noDefer_at hnd ho
 intro k
 induction k with
 | zero =>
   intro ls L Hs hi hfr ht an
   refine ⟨(fun e => by rw [e] at hi; cases hi), fun j hj => ?_⟩
   by_cases hji : j = i
   · subst hji
     refine ⟨o, ho, .inl ⟨hd, ?_⟩⟩
     rcases ht with ⟨j', want, b, hg, hg2, hne, hv⟩ | ⟨hg, run⟩
     · exact .inl ⟨j', want, b, hg, hg2, hne, by rw [← hv]; exact an⟩
     · refine .inr ⟨hg, Unit, fun _ => v, fun _ => True, [], Hs, fun _ => [], Ent.refl _, ?_, fun _ _ => an⟩
       intro a f w M h hA hf dj dj' s sA t
       have e1 : (h.add hA).add hf = hA.add (h.add hf) := by rw [Res.add_comm dj, Res.add_assoc]
       have := run a f w M hA (h.add hf) (Res.dj_add_right.2 ⟨Res.dj_comm dj, (Res.dj_add_left.1 dj').2⟩) sA (by rw [← e1]; exact t)
       rw [this]
       exact ⟨(), M, h, rfl, trivial, Kn.le_refl _, dj, dj', t, trivial⟩
   · exfalso
     have hr : j ∈ Region.ready .any ops (ls.setIfInBounds i true) := by
      obtain ⟨h1, h2, oj, hoj, h3⟩ := ready_iff.1 hj
      refine ready_iff.2 ⟨h1, by rw [getD_set_other hji]; exact h2, oj, hoj, fun e he hb => ?_⟩
      by_cases hei : e.on = i
      · rw [hei]; exact getD_set_self (unlisted_lt (ready_iff.1 hi).2.1) _
      · rw [getD_set_other hei]; exact h3 e he hb
     rw [an.1] at hr; cases hr
 | succ k ih =>
   intro ls L Hs hi hfr ht an
   refine ⟨(fun e => by rw [e] at hi; cases hi), fun j hj => ?_⟩
   by_cases hji : j = i
   · subst hji
     refine ⟨o, ho, .inl ⟨hd, ?_⟩⟩
     rcases ht with ⟨j', want, b, hg, hg2, hne, hv⟩ | ⟨hg, run⟩
     · exact .inl ⟨j', want, b, hg, hg2, hne, by rw [← hv]; exact an⟩
     · refine .inr ⟨hg, Unit, fun _ => v, fun _ => True, [], Hs, fun _ => [], Ent.refl _, ?_, fun _ _ => an⟩
       intro a f w M h hA hf dj dj' s sA t
       have e1 : (h.add hA).add hf = hA.add (h.add hf) := by rw [Res.add_comm dj, Res.add_assoc]
       have := run a f w M hA (h.add hf) (Res.dj_add_right.2 ⟨Res.dj_comm dj, (Res.dj_add_left.1 dj').2⟩) sA (by rw [← e1]; exact t)
       rw [this]
       exact ⟨(), M, h, rfl, trivial, Kn.le_refl _, dj, dj', t, trivial⟩
   · obtain ⟨h1, h2, oj, hoj, h3⟩ := ready_iff.1 hj
     obtain ⟨i1, i2, oi, hoi, i3⟩ := ready_iff.1 hi
     have hisz := unlisted_lt i2
     have hjsz := unlisted_lt h2
     have hr : j ∈ Region.ready .any ops (ls.setIfInBounds i true) := by
      refine ready_iff.2 ⟨h1, by rw [getD_set_other hji]; exact h2, oj, hoj, fun e he hb => ?_⟩
      by_cases hei : e.on = i
      · rw [hei]; exact getD_set_self hisz _
      · rw [getD_set_other hei]; exact h3 e he hb
     obtain ⟨oj', hoj', hop⟩ := an.2 j hr
     have e0 : oj' = oj := by rw [hoj] at hoj'; injection hoj' with e; exact e.symm
     subst e0
     obtain ⟨_, nselj⟩ := noDefer_at hnd hoj
     replace hop := hop.resolve_right (fun hl => by
      have hm : (oi, i) ∈ ops.toList.zipIdx := by
       rw [List.mem_zipIdx_iff_getElem?]
       simpa using hoi
      have := List.all_eq_true.1 hl.1 _ hm
      simp only [Bool.or_eq_true] at this
      rcases this with h | h
      · exact hji (Nat.eq_of_beq_eq_true h).symm
      · rw [Array.any_eq_true'] at h
        obtain ⟨e, he, hb⟩ := h
        simp only [Bool.and_eq_true] at hb
        have := h3 e he hb.1
        rw [Nat.eq_of_beq_eq_true hb.2] at this
        have i2' : ls.getD i false = false := by
         simp only [Array.getD, hisz, dif_pos] at i2 ⊢; exact i2
        rw [i2'] at this; cases this)
     obtain ⟨hdj, hop⟩ := hop
     -- they are apart
     have ap : o.apart ops oj' = true := by
      have hm : (oj', j) ∈ ops.toList.zipIdx := by
       rw [List.mem_zipIdx_iff_getElem?]
       simpa using hoj
      have := List.all_eq_true.1 hfr _ hm
      simp only [Bool.or_eq_true] at this
      rcases this with ((h | h) | h) | h
      · exact absurd (Nat.eq_of_beq_eq_true h) hji
      · exfalso
        have : ls.getD j true = true := by
         simp only [Array.getD, hjsz, dif_pos] at h ⊢; exact h
        rw [h2] at this; cases this
      · exact h
      · exfalso
        rw [Array.any_eq_true'] at h
        obtain ⟨e, he, hb⟩ := h
        simp only [Bool.and_eq_true] at hb
        have := h3 e he hb.1
        rw [Nat.eq_of_beq_eq_true hb.2] at this
        have i2' : ls.getD i false = false := by
         simp only [Array.getD, hisz, dif_pos] at i2 ⊢; exact i2
        rw [i2'] at this; cases this
     obtain ⟨a1, a2, a3⟩ := Oper.apart_spec ap
     have hfr' : free ops (ls.setIfInBounds j true) i o = true := by
      unfold free at hfr ⊢
      rw [List.all_eq_true] at hfr ⊢
      rintro ⟨oq, q⟩ hq
      have := hfr _ hq
      simp only [Bool.or_eq_true] at this ⊢
      rcases this with ((h | h) | h) | h
      · exact .inl (.inl (.inl h))
      · by_cases hqj : q = j
        · subst hqj; exact .inl (.inl (.inr (getD_set_self hjsz _)))
        · exact .inl (.inl (.inr (by rw [getD_set_other hqj]; exact h)))
      · exact .inl (.inr h)
      · exact .inr h
     have hi' : i ∈ Region.ready .any ops (ls.setIfInBounds j true) := by
      refine ready_iff.2 ⟨i1, by rw [getD_set_other (Ne.symm hji)]; exact i2, oi, hoi, fun e he hb => ?_⟩
      by_cases hej : e.on = j
      · rw [hej]; exact getD_set_self hjsz _
      · rw [getD_set_other hej]; exact i3 e he hb
     have hcomm : (ls.setIfInBounds i true).setIfInBounds j true = (ls.setIfInBounds j true).setIfInBounds i true := by
      apply Array.ext_getElem?
      intro q
      simp only [Array.getElem?_setIfInBounds, Array.size_setIfInBounds]
      by_cases hqi : i = q <;> by_cases hqj : j = q <;> simp [hqi, hqj]
      all_goals (subst hqi; try subst hqj; simp_all)
     refine ⟨oj', hoj, .inl ⟨hdj, ?_⟩⟩
     have gback : ∀ {q : Nat} {want : Bool} {x : Value}, oj'.guard = some (q, want) → gd ops (putL o.dst v L) q = some x → gd ops L q = some x := by
      intro q want x hg h
      cases hdo : o.dst with
      | none => rw [hdo] at h; exact h
      | some d =>
        have hno := a1 d hdo
        rw [hdo] at h
        unfold gd at h ⊢
        cases e : (ops[q]?).bind (·.dst) with
        | none => rw [e] at h; cases h
        | some s =>
          rw [e] at h
          have hne : d ≠ s := fun x => hno (List.mem_append_right _ (by simp [hg, e, x]))
          simp only [Option.bind_some, putL, lk, nbeq hne, cond_false] at h ⊢
          exact h
     have go : ∀ (u : Value) (Gs : List HP), An r P n ops A Q k ((ls.setIfInBounds i true).setIfInBounds j true) (putL oj'.dst u (putL o.dst v L)) Gs → An r P n ops A Q (k + 1) (ls.setIfInBounds j true) (putL oj'.dst u L) Gs := by
      intro u Gs x
      refine ih _ _ _ hi' hfr' (ht.later nsel ap) ?_
      rw [← hcomm]
      refine An.leq _ _ _ _ _ (putL_swap (fun y hy hz => a2 y hz hy) u v) x
     rcases hop with ⟨q, want, b, hg, hgd, hne, k'⟩ | ⟨hg, X, val, φ, As, Rs, Bs, he, htt, hk⟩
     · exact .inl ⟨q, want, b, hg, gback hg hgd, hne, go _ _ k'⟩
     · refine .inr ⟨?_, X, val, φ, As, Rs, Bs, he, ?_, fun x p => go _ _ (hk x p)⟩
       · rcases hg with hg | ⟨q, b, hg, hgd⟩
         · exact .inl hg
         · exact .inr ⟨q, b, hg, gback hg hgd⟩
       · intro a f w M h hA hf dj dj' s sA t
         have := htt (a.put o.dst v) (f.putL hd) w M h hA hf dj dj' s sA t
         rw [execOp_put (ops := ops) oj' nselj a o.dst v (fun d hdd => a1 d hdd)] at this
         exact this
end
end
section
section
variable {r : Option Nat} {P : Program} {n : Nat} {ops : Array Oper} {A : List HP} {L : Loc} {Hs : List HP} {Q : Out}
theorem d_draw {c : Code} {id : Nat} {l : List Oper} {Rs : List HP} (hc : c = .region id l.toArray true) (hm : P.follows .mixedOrders = true) (hnd : noDefer l.toArray = true) (A : List HP) [hp : PicksC A Hs Rs]
    (h : An r P n l.toArray A Q l.length (Array.replicate l.length false) L Rs) : wc r P n c L Hs Q := p_draw hc hm hnd A Rs hp.get.ent h
/-- A quiet operation, taken first. -/
theorem d_first (i : Nat) {o : Oper} {v : Value} {k : Nat} {ls : Array Bool} (hnd : noDefer ops = true) (ho : ops[i]? = some o) (hd : dstOk n o.dst = true) (hr : (Region.ready .any ops ls).contains i = true) (hf : free ops ls i o = true)
    (t : Tells P n ops o A L v) (h : An r P n ops A Q k (ls.setIfInBounds i true) (putL o.dst v L) Hs) : An r P n ops A Q (k + 1) ls L Hs :=
 An.first hnd ho hd k ls L Hs (by simpa using hr) hf t h
theorem tl_pv {op : Op} {ty : TypeId} {v : Value} {dst : Option Tmp} {pos : String} {after : Array Edge} (h : PV P n L op ty v) : Tells P n ops ⟨dst, op, ty, pos, after, none⟩ A L v :=
 .inr ⟨.inl rfl, fun a f w M hA hf dj s t => h.run a f w _ _ _ _⟩
theorem tl_out {op : Op} {ty : TypeId} {dst : Option Tmp} {pos : String} {after : Array Edge} {j : Nat} {b want : Bool} (hj : gd ops L j = some (.bool b)) (hb : (b == want) = false) : Tells P n ops ⟨dst, op, ty, pos, after, some (j, want)⟩ A L undef :=
 .inl ⟨j, want, .bool b, rfl, hj, by simp [outv, hb], rfl⟩
theorem tl_outU {op : Op} {ty : TypeId} {dst : Option Tmp} {pos : String} {after : Array Edge} {j : Nat} {u : Value} {want : Bool} (hj : gd ops L j = some u) (hu : outv u want = true) : Tells P n ops ⟨dst, op, ty, pos, after, some (j, want)⟩ A L undef :=
 .inl ⟨j, want, u, rfl, hj, hu, rfl⟩
theorem shows_cell' {B : HP} {b : Nat} {l : List Value} (sh : Shows B b l) (hB : Has B A) {w : World} {M : Kn} {hA hf : Res} (s : SL A M hA) (t : Sat w M (hA.add hf)) (off : Nat) : w.cell? ⟨b, off, none⟩ = l[off]? := by
 obtain ⟨h1, le, x⟩ := hB.sat s
 exact shows_cell sh t le x off
theorem tl_load {t ty : TypeId} {td : TypeDesc} {x : Operand} {b off : Nat} {l : List Value} {v : Value} {dst : Option Tmp} {pos : String} {after : Array Edge} (ht : P.underlying t = some td) (hfl : flat td = true)
    (hx : ev L x = some (.pointer (some ⟨b, off, none⟩))) [hr : RdCe b l A] (hv : l[off]? = some v) : Tells P n ops ⟨dst, .load t x, ty, pos, after, none⟩ A L v := by
 obtain ⟨B, sh, hB⟩ := hr.get
 refine .inr ⟨.inl rfl, fun a f w M hA hf dj s t' => ?_⟩
 have hc := shows_cell' sh hB s t' off
 rw [hv] at hc
 simp [execOp, f.ev hx, Instr.loadAt, Instr.sureAddr, loadVar, isAgg_flat ht hfl, run_load, hc]
theorem tl_loada {t ty : TypeId} {td : TypeDesc} {x : Operand} {b off : Nat} {l vs : List Value} {ti : TypeInfo} {dst : Option Tmp} {pos : String} {after : Array Edge} (ht : P.underlying t = some td) (hfl : flat td = false) (hi : P.info? t = some ti)
    (hx : ev L x = some (.pointer (some ⟨b, off, none⟩))) [hr : RdCe b l A] (hl : off + ti.size ≤ l.length) (hv : (l.drop off).take ti.size = vs) : Tells P n ops ⟨dst, .load t x, ty, pos, after, none⟩ A L (.agg vs.toArray) := by
 obtain ⟨B, sh, hB⟩ := hr.get
 refine .inr ⟨.inl rfl, fun a f w M hA hf dj s t' => ?_⟩
 have hc := run_loadCells_at (P := P) (sz := ti.size) (fun j => shows_cell' sh hB s t' (off + j)) hl
 rw [hv] at hc
 simp [execOp, f.ev hx, Instr.loadAt, Instr.sureAddr, loadVar, isAgg_agg ht hfl, sizeOf, typeInfo, program, Sem.run, hi, hc]
/-- A guard that is let through is no matter. -/
theorem tl_in {op : Op} {ty : TypeId} {v : Value} {dst : Option Tmp} {pos : String} {after : Array Edge} {j : Nat} {b : Bool} (hj : gd ops L j = some (.bool b)) (h : Tells P n ops ⟨dst, op, ty, pos, after, none⟩ A L v) :
    Tells P n ops ⟨dst, op, ty, pos, after, some (j, b)⟩ A L v := by
 rcases h with ⟨j', want, b', hg, _⟩ | ⟨_, run⟩
 · cases hg
 · exact .inr ⟨.inr ⟨j, b, rfl, hj⟩, run⟩
/-- One operation is next, and no other. -/
theorem d_next (j : Nat) {o : Oper} {k : Nat} {ls : Array Bool} (hr : Region.ready .any ops ls = [j]) (ho : ops[j]? = some o) (h : AnOp r P n ops A o (fun L' Hs' => An r P n ops A Q k (ls.setIfInBounds j true) L' Hs') L Hs) :
    An r P n ops A Q (k + 1) ls L Hs := ⟨(fun e => by rw [hr] at e; cases e), fun i hi => by
     rw [hr] at hi
     have : i = j := by simpa using hi
     subst this
     exact ⟨o, ho, .inl h⟩⟩
theorem d_next2 (j1 j2 : Nat) {o1 o2 : Oper} {k : Nat} {ls : Array Bool} (hr : Region.ready .any ops ls = [j1, j2]) (ho1 : ops[j1]? = some o1) (ho2 : ops[j2]? = some o2)
    (h1 : AnOp r P n ops A o1 (fun L' Hs' => An r P n ops A Q k (ls.setIfInBounds j1 true) L' Hs') L Hs)
    (h2 : AnOp r P n ops A o2 (fun L' Hs' => An r P n ops A Q k (ls.setIfInBounds j2 true) L' Hs') L Hs) :
    An r P n ops A Q (k + 1) ls L Hs := ⟨(fun e => by rw [hr] at e; cases e), fun i hi => by
     rw [hr] at hi
     simp only [List.mem_cons, List.not_mem_nil, or_false] at hi
     rcases hi with rfl | rfl
     · exact ⟨o1, ho1, .inl h1⟩
     · exact ⟨o2, ho2, .inl h2⟩⟩
theorem d_done {ls : Array Bool} (hr : Region.ready .any ops ls = []) (h : tw n Q .normal L (A ++ Hs)) : An r P n ops A Q 0 ls L Hs := ⟨hr, h⟩
theorem AnOp.mono {A : List HP} {o : Oper} {K K' : Loc → List HP → Prop} (hK : ∀ L' Gs, K L' Gs → K' L' Gs) (h : AnOp r P n ops A o K L Hs) : AnOp r P n ops A o K' L Hs :=
 ⟨h.1, h.2.imp (fun ⟨j, want, u, hg, hgd, hne, k⟩ => ⟨j, want, u, hg, hgd, hne, hK _ _ k⟩) (fun ⟨hg, X, val, φ, As, Rs, Bs, he, ht, hk⟩ => ⟨hg, X, val, φ, As, Rs, Bs, he, ht, fun x p => hK _ _ (hk x p)⟩)⟩
/-- The last operation, behind all others: it may turn what was there for reading. -/
theorem d_last (j : Nat) {o : Oper} {ls : Array Bool} (hr : Region.ready .any ops ls = [j]) (ho : ops[j]? = some o) (hl : lastOp ops j o = true) (he : Region.ready .any ops (ls.setIfInBounds j true) = []) (h : AnOp r P n ops [] o (fun L' Hs' => tw n Q .normal L' Hs') L (A ++ Hs)) :
    An r P n ops A Q 1 ls L Hs := ⟨(fun e => by rw [hr] at e; cases e), fun i hi => by
     rw [hr] at hi
     have : i = j := by simpa using hi
     subst this
     exact ⟨o, ho, .inr ⟨hl, rfl, h.mono fun _ _ x => ⟨he, x⟩⟩⟩⟩
/-! Operations with effects. -/
theorem an_in {K : Loc → List HP → Prop} {op : Op} {ty : TypeId} {dst : Option Tmp} {pos : String} {after : Array Edge} {j : Nat} {b : Bool} (hj : gd ops L j = some (.bool b)) (h : AnOp r P n ops A ⟨dst, op, ty, pos, after, none⟩ K L Hs) :
    AnOp r P n ops A ⟨dst, op, ty, pos, after, some (j, b)⟩ K L Hs := by
 obtain ⟨hd, h⟩ := h
 refine ⟨hd, ?_⟩
 rcases h with ⟨j', want, b', hg, _⟩ | ⟨_, rest⟩
 · cases hg
 · exact .inr ⟨.inr ⟨j, b, rfl, hj⟩, rest⟩
theorem an_call {K : Loc → List HP → Prop} {f : Operand} {args : Array Operand} {argTypes : Array TypeId} {ty : TypeId} {d g : Nat} {pos : String} {after : Array Edge} {vs cap : List Value}
    {As Rs : List HP} {X : Type} {val : X → Value} {φ : X → Prop} {Bs : X → List HP}
    (sp : Sp P g (vs ++ cap) As val φ Bs) (hf : ev L f = some (.func (.func g) #[] cap.toArray)) (ha : evs L args.toList = some vs) (hd : Nat.blt d n = true) [hp : PicksC As Hs Rs]
    (k : ∀ x, φ x → K ((d, val x) :: L) (Bs x ++ Rs)) : AnOp r P n ops A ⟨some d, .call ⟨.value f, args, argTypes⟩, ty, pos, after, none⟩ K L Hs := by
 refine ⟨hd, .inr ⟨.inl rfl, X, val, φ, As, Rs, Bs, hp.get.ent, ?_, k⟩⟩
 intro a fr w M h hA hfr dj dj' s sA t
 have hargs : args.map a.eval = vs.toArray := by
  have := fr.evs _ ha
  apply Array.ext'
  simp [this]
 have hrun : (execOp a.eval ⟨some d, .call ⟨.value f, args, argTypes⟩, ty, pos, after, none⟩).run P w = .ok (.enter g (vs ++ cap).toArray) w := by
  simp only [execOp, resolve, fr.ev hf, Deferred.ofValue, hargs, Sem.run_bind, Sem.run_pure, Result.andThen_ok, invoke]
  have := sp.enters (vs ++ cap).toArray w
  simpa using this
 rw [hrun]
 obtain ⟨x1, x2⟩ := Res.dj_add_left.1 dj'
 have c := sp.calls w M h (hA.add hfr) (Res.dj_add_right.2 ⟨dj, x1⟩) (by rw [← Res.add_assoc]; exact t) s
 refine CallsIn.mono (F := WF none) c ?_
 rintro e w' ⟨x, M', h', rfl, p, l, dj2, t', s'⟩
 obtain ⟨y1, y2⟩ := Res.dj_add_right.1 dj2
 exact ⟨_, rfl, x, M', h', rfl, p, l, y1, Res.dj_add_left.2 ⟨y2, x2⟩, by rw [Res.add_assoc]; exact t', s'⟩
theorem an_callF {K : Loc → List HP → Prop} {f : Operand} {args : Array Operand} {argTypes : Array TypeId} {ty : TypeId} {d g : Nat} {pos : String} {after : Array Edge} {vs : List Value} {v : Value}
    (sp : SpF P g vs v) (hf : ev L f = some (.func (.func g) #[] #[])) (ha : evs L args.toList = some vs) (hd : Nat.blt d n = true)
    (k : K ((d, v) :: L) Hs) : AnOp r P n ops A ⟨some d, .call ⟨.value f, args, argTypes⟩, ty, pos, after, none⟩ K L Hs :=
 an_call (cap := []) (As := []) (Rs := Hs) (by rw [List.append_nil]; exact sp) hf ha hd (fun _ _ => k)
theorem an_call1 {K : Loc → List HP → Prop} {f : Operand} {args : Array Operand} {argTypes : Array TypeId} {ty : TypeId} {d g : Nat} {pos : String} {after : Array Edge} {vs : List Value} {v : Value} {As Bs Rs : List HP}
    (sp : Sp1 P g vs As v Bs) (hf : ev L f = some (.func (.func g) #[] #[])) (ha : evs L args.toList = some vs) (hd : Nat.blt d n = true) [hp : PicksC As Hs Rs]
    (k : K ((d, v) :: L) (Bs ++ Rs)) : AnOp r P n ops A ⟨some d, .call ⟨.value f, args, argTypes⟩, ty, pos, after, none⟩ K L Hs :=
 an_call (cap := []) (by rw [List.append_nil]; exact sp) hf ha hd (fun _ _ => k)
/-- A new block. -/
theorem an_new {K : Loc → List HP → Prop} {op : Op} {ty : TypeId} {d : Nat} {pos : String} {after : Array Edge} {o : Obj} {val : Nat → Value} (hd : Nat.blt d n = true)
    (hrun : ∀ (a : Act), Fr n L a → ∀ (w : World) (dst : Option Tmp) (pos : String) (after : Array Edge) (guard : Option (Nat × Bool)),
     (execOp a.eval ⟨dst, op, ty, pos, after, guard⟩).run P w = .ok (.value (val w.heap.size)) (w.alloc o))
    (k : ∀ b, K ((d, val b) :: L) (Blk b o :: Hs)) : AnOp r P n ops A ⟨some d, op, ty, pos, after, none⟩ K L Hs := by
 refine ⟨hd, .inr ⟨.inl rfl, Nat, val, fun _ => True, [], Hs, fun b => [Blk b o], Ent.refl _, ?_, fun b _ => k b⟩⟩
 intro a fr w M h hA hf dj dj' s sA t
 rw [hrun a fr w]
 have t2 := t.alloc o
 obtain ⟨f1, f2⟩ := fresh_none t
 obtain ⟨f3, f4⟩ := Res.add_none.1 f2
 obtain ⟨f5, f6⟩ := Res.add_none.1 f3
 refine ⟨w.heap.size, M, (Res.one w.heap.size o).add h, rfl, trivial, Kn.le_refl _, Res.dj_add_left.2 ⟨one_dj f6, dj⟩, ?_, ?_, Res.one w.heap.size o, h, one_dj f5, rfl, rfl, trivial⟩
 · obtain ⟨x1, x2⟩ := Res.dj_add_left.1 dj'
   exact Res.dj_add_left.2 ⟨Res.dj_add_left.2 ⟨one_dj f4, x1⟩, x2⟩
 · rw [Res.add_assoc, Res.add_assoc]
   rw [Res.add_assoc] at t2
   exact t2
theorem an_alloc {K : Loc → List HP → Prop} {t ty : TypeId} {d : Nat} {pos : String} {after : Array Edge} {ti : TypeInfo} {z : Value} {zs : List Value} (hi : P.info? t = some ti) (hz : ti.zero = some z) (hzs : z.cells.toList = zs) (hd : Nat.blt d n = true)
    (k : ∀ b, K ((d, .pointer (some ⟨b, 0, none⟩)) :: L) (Ce b t zs :: Hs)) : AnOp r P n ops A ⟨some d, .alloc t, ty, pos, after, none⟩ K L Hs := by
 refine an_new (o := .cells zs.toArray t (0, 0)) (val := fun b => .pointer (some ⟨b, 0, none⟩)) hd (fun a f w _ _ _ _ => ?_) k
 subst hzs
 simp [execOp, Instr.alloc, zeroValue, typeInfo, program, Sem.run, hi, hz, newVar, newRow, newObj]
theorem an_buildSliceL {K : Loc → List HP → Prop} {t e ty : TypeId} {d : Nat} {pos : String} {after : Array Edge} {ti : TypeInfo} {z : Value} {len : Nat} {ps : List (Nat × Operand)} (vs : List Value) {cs : List Value} (ht : P.underlying t = some (.slice e)) (hi : P.info? e = some ti) (hz : ti.zero = some z) (hzs : Nat.beq z.cells.size ti.size = true)
    (hps : evps L ps = some (parts 0 vs)) (hlen : vs.length = len) (hv : vs.all (fun v => Nat.beq v.cells.size ti.size) = true) (hsm : Nat.ble (vs.length * ti.size) 16777216 = true) (hcs : vs.flatMap (·.cells.toList) = cs) (hd : Nat.blt d n = true)
    (k : ∀ b, K ((d, .slice (some ⟨b, 0, none⟩) len len) :: L) (Ce b e cs :: Hs)) : AnOp r P n ops A ⟨some d, .buildSlice t len ps.toArray, ty, pos, after, none⟩ K L Hs := by
 subst hlen
 refine an_new (o := .cells cs.toArray e (0, 0)) (val := fun b => .slice (some ⟨b, 0, none⟩) vs.length vs.length) hd (fun a f w _ _ _ _ => ?_) k
 rw [← hcs]
 have e1 := f.evpsa hps
 have := run_buildSlice ht hi hz (Nat.eq_of_beq_eq_true hzs) (fun v hv' => Nat.eq_of_beq_eq_true (by have := List.all_eq_true.1 hv v hv'; simpa using this)) (Nat.le_of_ble_eq_true hsm) w
 simp only [execOp]
 rw [show (Array.map (fun x => match x with | (i, x) => (i, a.eval x)) ps.toArray) = (parts 0 vs).toArray from e1]
 simp [this]
/-- What only reads its own. -/
theorem an_read {K : Loc → List HP → Prop} {B : HP} {op : Op} {ty : TypeId} {d : Nat} {pos : String} {after : Array Edge} {v : Value} (hB : Has B Hs) (hd : Nat.blt d n = true)
    (hrun : ∀ (a : Act), Fr n L a → ∀ (w : World) (M : Kn) (h h1 hf : Res), Sat w M (h.add hf) → h1.le h → B.at_ M h1 → ∀ (dst : Option Tmp) (pos : String) (after : Array Edge) (guard : Option (Nat × Bool)),
     (execOp a.eval ⟨dst, op, ty, pos, after, guard⟩).run P w = .ok (.value v) w)
    (k : K ((d, v) :: L) Hs) : AnOp r P n ops A ⟨some d, op, ty, pos, after, none⟩ K L Hs := by
 refine ⟨hd, .inr ⟨.inl rfl, Unit, fun _ => v, fun _ => True, Hs, [], fun _ => Hs, by rw [List.append_nil]; exact Ent.refl Hs, ?_, fun _ _ => by simpa [putL] using k⟩⟩
 intro a fr w M h hA hf dj dj' s sA t
 obtain ⟨h1, le, x⟩ := hB.sat s
 rw [Res.add_assoc] at t
 rw [hrun a fr w M h h1 (hA.add hf) t le x]
 exact ⟨(), M, h, rfl, trivial, Kn.le_refl _, dj, dj', by rw [Res.add_assoc]; exact t, s⟩
/-- One block is turned. -/
theorem an_turn {K : Loc → List HP → Prop} {B C : HP} {Gs : List HP} {op : Op} {ty : TypeId} {pos : String} {after : Array Edge} (hu : Upd B C Hs Gs)
    (hrun : ∀ (a : Act), Fr n L a → ∀ (w : World) (M : Kn) (h1 hf : Res), h1.dj hf → Sat w M (h1.add hf) → B.at_ M h1 → ∃ (w' : World) (M' : Kn) (h1' : Res), M.le M' ∧ h1'.dj hf ∧ Sat w' M' (h1'.add hf) ∧ C.at_ M' h1' ∧
     ∀ (dst : Option Tmp) (pos : String) (after : Array Edge) (guard : Option (Nat × Bool)), (execOp a.eval ⟨dst, op, ty, pos, after, guard⟩).run P w = .ok .skip w')
    (k : K L Gs) : AnOp r P n ops A ⟨none, op, ty, pos, after, none⟩ K L Hs := by
 refine ⟨rfl, .inr ⟨.inl rfl, Unit, fun _ => undef, fun _ => True, Hs, [], fun _ => Gs, by rw [List.append_nil]; exact Ent.refl Hs, ?_, fun _ _ => by simpa [putL] using k⟩⟩
 intro a fr w M h hA hf dj dj' s sA t
 obtain ⟨h1, h2, d12, e, hb, upd⟩ := hu.sat s
 subst e
 obtain ⟨x1, x2⟩ := Res.dj_add_left.1 dj'
 obtain ⟨x3, x4⟩ := Res.dj_add_left.1 x1
 obtain ⟨y1, y2⟩ := Res.dj_add_left.1 dj
 have eq : ((h1.add h2).add hA).add hf = h1.add ((h2.add hA).add hf) := by simp only [Res.add_assoc]
 rw [eq] at t
 obtain ⟨w', M', h1', le, dj2, t', hc, hr⟩ := hrun a fr w M h1 ((h2.add hA).add hf) (Res.dj_add_right.2 ⟨Res.dj_add_right.2 ⟨d12, y1⟩, x3⟩) t hb
 rw [hr]
 obtain ⟨z1, z2⟩ := Res.dj_add_right.1 dj2
 obtain ⟨z3, z4⟩ := Res.dj_add_right.1 z1
 refine ⟨(), M', h1'.add h2, rfl, trivial, le, Res.dj_add_left.2 ⟨z4, y2⟩, Res.dj_add_left.2 ⟨Res.dj_add_left.2 ⟨z2, x4⟩, x2⟩, ?_, upd M' h1' le z3 hc⟩
 have eq2 : ((h1'.add h2).add hA).add hf = h1'.add ((h2.add hA).add hf) := by simp only [Res.add_assoc]
 rw [eq2]; exact t'
theorem an_store {K : Loc → List HP → Prop} {t ty : TypeId} {ti : TypeInfo} {x y : Operand} {b off : Nat} {T : TypeId} {l : List Value} {v : Value} {Gs : List HP} {pos : String} {after : Array Edge} (hi : P.info? t = some ti) (hs : Nat.beq ti.size 1 = true)
    (hx : ev L x = some (.pointer (some ⟨b, off, none⟩))) (hy : ev L y = some v) [hu : StC b off v T l Hs Gs] (h1 : oneCell v = true) (ho : off < l.length)
    (k : K L Gs) : AnOp r P n ops A ⟨none, .store t x y, ty, pos, after, none⟩ K L Hs := by
 refine an_turn hu.get (fun a f w M m hf dj s ha => ?_) k
 have ha' : m = Res.one b _ := ha
 subst ha'
 have hb : w.heap[b]? = some (.cells l.toArray T (0, 0)) := s.ow _ _ (by simp [Res.add, Res.one])
 refine ⟨w.setCell ⟨b, off, none⟩ v, M, Res.one b (.cells (l.set off v).toArray T (0, 0)), Kn.le_refl _, dj_one_any dj, Sat.setBlk dj s (setCell_at hb) (fun i hi => setCell_other hi) (env_setCell _ _ _), rfl, fun _ _ _ _ => ?_⟩
 have hsz : ti.size = 1 := Nat.eq_of_beq_eq_true hs
 have hvc : v.cells = #[v] := by cases v <;> simp_all [Value.cells, oneCell]
 have hst := run_store_ce (P := P) hb h1 ho
 simp [execOp, f.ev hx, f.ev hy, Instr.storeAt, Instr.sureAddr, storeVar, hvc, sizeOf, typeInfo, program, Sem.run, hi, hsz, storeCells, addr_add, hst]
theorem an_storea {K : Loc → List HP → Prop} {t ty : TypeId} {ti : TypeInfo} {x y : Operand} {b off : Nat} {T : TypeId} {l vs : List Value} {Gs : List HP} {pos : String} {after : Array Edge} (hi : P.info? t = some ti) (hs : Nat.beq ti.size vs.length = true)
    (hx : ev L x = some (.pointer (some ⟨b, off, none⟩))) (hy : ev L y = some (.agg vs.toArray)) [hu : StsC b off vs T l Hs Gs] (h1 : vs.all oneCell = true) (ho : off + vs.length ≤ l.length)
    (k : K L Gs) : AnOp r P n ops A ⟨none, .store t x y, ty, pos, after, none⟩ K L Hs := by
 refine an_turn hu.get (fun a f w M m hf dj s ha => ?_) k
 have ha' : m = Res.one b _ := ha
 subst ha'
 have hb : w.heap[b]? = some (.cells l.toArray T (0, 0)) := s.ow _ _ (by simp [Res.add, Res.one])
 obtain ⟨w', hr, hb', ho', he'⟩ := run_storeCells_ce (P := P) vs w l off 0 hb h1 ho
 refine ⟨w', M, Res.one b (.cells (setAt l off vs).toArray T (0, 0)), Kn.le_refl _, dj_one_any dj, Sat.setBlk dj s hb' ho' he', rfl, fun _ _ _ _ => ?_⟩
 have hsz : ti.size = vs.length := Nat.eq_of_beq_eq_true hs
 simp [execOp, f.ev hx, f.ev hy, Instr.storeAt, Instr.sureAddr, storeVar, Value.cells, sizeOf, typeInfo, program, Sem.run, hi, hsz, hr]
theorem d_gsplit {j s : Nat} {b : Bool} {k : Nat} {ls : Array Bool} (hj : (ops[j]?).bind (·.dst) = some s) (hs : lk L s = some (.bool b))
    (ht : b = true → An r P n ops A Q k ls ((s, .bool true) :: L) Hs) (hf : b = false → An r P n ops A Q k ls ((s, .bool false) :: L) Hs) : An r P n ops A Q k ls L Hs := by
 have key : ∀ u : Bool, b = u → An r P n ops A Q k ls ((s, .bool u) :: L) Hs → An r P n ops A Q k ls L Hs := by
  intro u e h
  refine An.leq _ _ _ _ _ (fun i v hv => ?_) h
  simp only [lk] at hv
  by_cases hi : s = i
  · subst hi
    rw [nbeq_self, cond_true] at hv
    rw [hs, e]; exact hv
  · rw [nbeq hi, cond_false] at hv; exact hv
 cases e : b with
 | true => exact key true e (ht e)
 | false => exact key false e (hf e)
/-- One operation with its triple: in a region that draws; in one that doesn't. -/
theorem an_opT {K : Loc → List HP → Prop} {op : Op} {ty : TypeId} {dst : Option Tmp} {pos : String} {after : Array Edge} {X : Type} {val : X → Value} {φ : X → Prop} {As Rs : List HP} {Bs : X → List HP}
    (t : OpT r P n ⟨dst, op, ty, pos, after, none⟩ A L As val φ Bs) (hd : dstOk n dst = true) [hp : PicksC As Hs Rs] (k : ∀ x, φ x → K (putL dst (val x) L) (Bs x ++ Rs)) : AnOp r P n ops A ⟨dst, op, ty, pos, after, none⟩ K L Hs :=
 ⟨hd, .inr ⟨.inl rfl, X, val, φ, As, Rs, Bs, hp.get.ent, t, k⟩⟩
theorem wo_opT {op : Op} {ty : TypeId} {dst : Option Tmp} {pos : String} {after : Array Edge} {os : List Oper} {X : Type} {val : X → Value} {φ : X → Prop} {As Rs : List HP} {Bs : X → List HP}
    (nd : ∀ c, op ≠ .defer c) (t : OpT r P n ⟨dst, op, ty, pos, after, none⟩ [] L As val φ Bs) (hd : dstOk n dst = true) [hp : PicksC As Hs Rs]
    (k : ∀ x, φ x → wo r P n ops os (putL dst (val x) L) (Bs x ++ Rs) Q) : wo r P n ops (⟨dst, op, ty, pos, after, none⟩ :: os) L Hs Q := by
 intro a M m s w hf dj t'
 simp only [wpL, Region.wanted, if_true]
 rw [Oper.semAt_eq _ _ _ nd]
 obtain ⟨h1, h2, h3, d12, d3, e, sd, sr, sa⟩ := split_call s.2 hp.get
 subst e
 obtain ⟨dj1, dj2⟩ := Res.dj_add_left.1 dj
 refine upon_of_opV ?_ _ (t a s.1 w M h3 Res.emp ((h1.add h2).add hf) (Res.dj_emp _) ?_ sa trivial ?_)
 · rintro v w' ⟨x, M', h', rfl, p, l, _, djf, t2, sB⟩
   rw [Res.add_emp] at djf t2
   obtain ⟨y1, y2⟩ := Res.dj_add_right.1 djf
   obtain ⟨y3, y4⟩ := Res.dj_add_right.1 y1
   obtain ⟨z1, z2⟩ := Res.dj_add_left.1 dj2
   obtain ⟨g1, g2, dg, e, y, _⟩ := sd
   subst e
   obtain ⟨x1, x2⟩ := Res.dj_add_left.1 d12
   obtain ⟨x3, x4⟩ := Res.dj_add_right.1 y3
   refine wo_on (k x p) (a := a.put dst (val x)) (M := M') (h := (g1.add g2).add (h'.add h2)) ⟨s.1.putL hd, ?_⟩ l ?_ ?_
   · have hdef : (a.put dst (val x)).defers = a.defers := by cases dst <;> rfl
     rw [hdef, Res.add_assoc]
     refine ⟨g1, g2.add (h'.add h2), ?_, rfl, (Al _).mono l y, SL.more ?_ (SL.append y4 sB (SL.mono l sr))⟩
     · exact Res.dj_add_right.2 ⟨dg, Res.dj_add_right.2 ⟨Res.dj_comm x3, x1⟩⟩
     · exact Res.dj_add_right.2 ⟨Res.dj_comm x4, x2⟩
   · exact Res.dj_add_left.2 ⟨z1, Res.dj_add_left.2 ⟨y2, z2⟩⟩
   · have : ((g1.add g2).add (h'.add h2)).add hf = h'.add (((g1.add g2).add h2).add hf) := by
       rw [← Res.add_assoc (g1.add g2) h' h2, Res.add_comm (Res.dj_comm y3)]
       simp only [Res.add_assoc]
     rw [this]; exact t2
 · rw [Res.add_emp]; exact Res.dj_add_right.2 ⟨d3, dj1⟩
 · rw [Res.add_emp, ← Res.add_assoc]; exact t'
theorem r_callX {f : Operand} {args : Array Operand} {argTypes : Array TypeId} {g : Nat} {vs : List Value} {ty : TypeId} {d : Nat} {pos : String} {after : Array Edge} {os : List Oper}
    {As Rs : List HP} {X : Type} {val : X → Value} {φ : X → Prop} {Bs : X → List HP}
    (sp : Sp P g vs As val φ Bs) (hf : ev L f = some (.func (.func g) #[] #[])) (ha : evs L args.toList = some vs) (hd : Nat.blt d n = true) [hp : PicksC As Hs Rs]
    (k : ∀ x, φ x → wo r P n ops os ((d, val x) :: L) (Bs x ++ Rs) Q) :
    wo r P n ops (⟨some d, .call ⟨.value f, args, argTypes⟩, ty, pos, after, none⟩ :: os) L Hs Q := wo_call (cap := []) (by rw [List.append_nil]; exact sp) hf ha hd hp.get k
theorem an_callX {K : Loc → List HP → Prop} {f : Operand} {args : Array Operand} {argTypes : Array TypeId} {ty : TypeId} {d g : Nat} {pos : String} {after : Array Edge} {vs : List Value}
    {As Rs : List HP} {X : Type} {val : X → Value} {φ : X → Prop} {Bs : X → List HP}
    (sp : Sp P g vs As val φ Bs) (hf : ev L f = some (.func (.func g) #[] #[])) (ha : evs L args.toList = some vs) (hd : Nat.blt d n = true) [hp : PicksC As Hs Rs]
    (k : ∀ x, φ x → K ((d, val x) :: L) (Bs x ++ Rs)) : AnOp r P n ops A ⟨some d, .call ⟨.value f, args, argTypes⟩, ty, pos, after, none⟩ K L Hs :=
 an_call (cap := []) (by rw [List.append_nil]; exact sp) hf ha hd k
end
end
section
/-- A slice of n elements of type e, of sz cells each, that is one's own: its cells; room behind. -/
def RowAt (e : TypeId) (sz : Nat) (v : Value) (n : Nat) (xs : List Value) (M : Kn) (h : Res) : Prop :=
 (v = .slice none 0 0 ∧ n = 0 ∧ xs = []) ∨
 ∃ g cap cur, v = .slice (some ⟨g, 0, none⟩) n cap ∧ n ≤ cap ∧ cap ≤ maxLen ∧ List.length cur = cap * sz ∧ xs.length = n * sz ∧ cur.take (n * sz) = xs ∧ h = Res.one g (.cells cur.toArray e (0, 0))
def Row (e : TypeId) (sz : Nat) (v : Value) (n : Nat) (xs : List Value) : HP := ⟨RowAt e sz v n xs, fun _ e => e⟩
theorem RowAt.slice {e : TypeId} {sz : Nat} {v : Value} {n : Nat} {xs : List Value} {M : Kn} {h : Res} (r : RowAt e sz v n xs M h) : ∃ a c, v = .slice a n c := by
 rcases r with ⟨rfl, rfl, _⟩ | ⟨g, cap, _, rfl, _⟩
 · exact ⟨_, _, rfl⟩
 · exact ⟨_, _, rfl⟩
theorem oneCell_iff {v : Value} : oneCell v = true ↔ v.oneCell' = true := by cases v <;> simp [oneCell, Value.oneCell']
section
variable {r : Option Nat} {P : Program} {n : Nat} {ops : Array Oper} {A : List HP} {L : Loc} {Hs : List HP} {Q : Out}
theorem Sat.drew {w : World} {M : Kn} {h : Res} (t : Sat w M h) : Sat w.drew M h := ⟨t.im, t.ow, t.dj, ⟨t.env.os, t.env.tape, t.env.output, t.env.size, up_add 1 t.env.up⟩⟩
/-- append(s, x...) where x's cells can be read and s is one's own. -/
theorem run_append_row {t ty e : TypeId} {i : TypeInfo} {z : Value} (ht : P.underlying t = some (.slice e)) (hi : P.info? e = some i) (hz : i.zero = some z) (hzs : z.cells.size = i.size) (hsz : 0 < i.size)
    {v : Value} {k : Nat} {xs : List Value} {w : World} {M : Kn} {h hf : Res} (dj : h.dj hf) (s : Sat w M (h.add hf)) (hr : RowAt e i.size v k xs M h)
    {a : Addr} {m c : Nat} {news : List Value} (hl : news.length = m * i.size) (hnews : ∀ j u, news[j]? = some u → w.cell? (a.add j) = some u) (h1 : ∀ u ∈ news, oneCell u = true)
    (hbytes : (k + m) * i.bytes ≤ 140737488355328) (h63 : k + m ≤ maxLen) :
    ∃ v' w' h', (Builtin.append_ #[t, t] ty #[v, .slice (some a) m c]).run P w = .ok v' w' ∧ h'.dj hf ∧ Sat w' M (h'.add hf) ∧ RowAt e i.size v' (k + m) (xs ++ news) M h' := by
 have h1' : ∀ u ∈ news, u.oneCell' = true := fun u hu => oneCell_iff.1 (h1 u hu)
 have hsmall : k + m ≤ 9223372036854775807 := by simp only [maxLen] at h63; omega
 have grown : ∀ (old : Nat), old < k + m → xs.length = k * i.size → ∃ h', h'.dj hf ∧ Sat (w.drew.alloc (.cells (xs.toArray ++ news.toArray ++ Builtin.zeroCells z.cells (grownCap w (k + m) old e - (k + m))) e)) M (h'.add hf) ∧
     RowAt e i.size (.slice (some ⟨w.heap.size, 0, none⟩) (k + m) (grownCap w (k + m) old e)) (k + m) (xs ++ news) M h' := by
  intro old ho hxl
  have hge := grownCap_ge w (k + m) old e
  have hcm : grownCap w (k + m) old e ≤ maxLen := grownCap_le_maxLen w (k + m) old e h63
  have s2 := s.drew.alloc (.cells (xs.toArray ++ news.toArray ++ Builtin.zeroCells z.cells (grownCap w (k + m) old e - (k + m))) e)
  obtain ⟨f1, f2⟩ := fresh_none s.drew
  obtain ⟨f3, f4⟩ := Res.add_none.1 f2
  refine ⟨Res.one w.heap.size (.cells (xs.toArray ++ news.toArray ++ Builtin.zeroCells z.cells (grownCap w (k + m) old e - (k + m))) e), one_dj f4, s2.le ?_, .inr ⟨w.heap.size, _, xs ++ news ++ (Builtin.zeroCells z.cells (grownCap w (k + m) old e - (k + m))).toList, rfl, hge, hcm, ?_, ?_, ?_, ?_⟩⟩
  · intro b o e
    simp only [Res.add] at e ⊢
    show (match Res.one w.heap.size _ b with | some o => some o | none => _) = _
    cases eb : Res.one w.heap.size (Obj.cells (xs.toArray ++ news.toArray ++ Builtin.zeroCells z.cells (grownCap w (k + m) old _ - (k + m))) _) b with
    | some u => rw [eb] at e; simpa using e
    | none =>
      rw [eb] at e
      rcases dj b with x | x
      · simpa [x] using e
      · have e' : hf b = some o := e
        rw [x] at e'; cases e'
  · simp only [List.length_append, Array.length_toList, size_zeroCells, hzs, hxl, hl, ← Nat.add_mul]
    congr 1
    omega
  · simp [hxl, hl, Nat.add_mul]
  · have : (xs ++ news).length = (k + m) * i.size := by simp [hxl, hl, Nat.add_mul]
    rw [← this]
    exact List.take_left
  · congr 2
    apply Array.ext'
    simp
 rcases hr with ⟨rfl, rfl, rfl⟩ | ⟨g, cap, cur, rfl, hkc, hcm, hcl, hxl, htake, rfl⟩
 · by_cases hm : m = 0
   · subst hm
     have hn : news = [] := List.eq_nil_of_length_eq_zero (by simpa using hl)
     subst hn
     refine ⟨.slice none 0 0, w, h, ?_, dj, s, .inl ⟨rfl, rfl, rfl⟩⟩
     simp [Builtin.append_, run_underlying ht, sizeOf, typeInfo, hi, Builtin.lenOf, Builtin.firstCells, loadCells, loadCellsFrom]
   · have hr := run_append_nil (P := P) w t ty e i z ht hi hz a m c news hl hnews (by omega) (by omega) (by simp only [Nat.zero_add] at hbytes; omega)
     obtain ⟨h', d', s', r'⟩ := grown 0 (by omega) (by simp)
     simp only [Nat.zero_add, List.nil_append, Array.empty_append] at d' s' r' ⊢
     exact ⟨_, _, h', hr, d', s', r'⟩
 · have hg : w.heap[g]? = some (.cells cur.toArray e (0, 0)) := s.ow _ _ (by simp [Res.add, Res.one])
   by_cases hroom : k + m ≤ cap
   · have hfit : k * i.size + news.length ≤ cur.toArray.size := by simp only [List.size_toArray]; rw [hl, hcl, ← Nat.add_mul]; exact Nat.mul_le_mul_right _ hroom
     have hr := run_append_room (P := P) w t ty e i ht hi g k cap cur.toArray hg a m c news hl hnews h1' hroom hfit
     refine ⟨_, _, Res.one g (.cells (cur.take (k * i.size) ++ news ++ cur.drop (k * i.size + news.length)).toArray e (0, 0)), hr, dj_one_any dj, Sat.setBlk dj s ?_ (fun j hj => ?_) ⟨rfl, rfl, rfl, by simp [World.setRow], up_rfl⟩, .inr ⟨g, cap, cur.take (k * i.size) ++ news ++ cur.drop (k * i.size + news.length), rfl, hroom, hcm, ?_, ?_, ?_, rfl⟩⟩
     · exact setRow_heap w g cur.toArray _ e _ hg
     · exact setRow_other w g j _ (fun x => hj x)
     · simp only [List.size_toArray] at hfit
       simp only [List.length_append, List.length_take, List.length_drop]
       omega
     · simp [hxl, hl, Nat.add_mul]
     · rw [htake]
       have : (xs ++ news).length = (k + m) * i.size := by simp [hxl, hl, Nat.add_mul]
       rw [← this]
       exact List.take_left
   · have holds : ∀ j u, xs[j]? = some u → w.cell? ((⟨g, 0, none⟩ : Addr).add j) = some u := by
       intro j u hj
       have hlt := (List.getElem?_eq_some_iff.1 hj).1
       rw [addr_add, Nat.zero_add]
       simp only [World.cell?, hg]
       rw [← htake, List.getElem?_take_of_lt (by omega)] at hj
       simpa using hj
     have hr := run_append_grow (P := P) w t ty e i z ht hi hz ⟨g, 0, none⟩ k cap xs hxl holds a m c news hl hnews (by omega) (by omega) (growslice_fits (by omega) hbytes)
     obtain ⟨h', d', s', r'⟩ := grown cap (by omega) hxl
     exact ⟨_, _, h', hr, d', s', r'⟩
/-- What is appended: cells of a block of one's own, or of one that never turns. -/
theorem opt_append {dst : Option Tmp} {ty t e : TypeId} {pos : String} {after : Array Edge} {x y : Operand} {i : TypeInfo} {z : Value} (ht : P.underlying t = some (.slice e)) (hi : P.info? e = some i) (hz : i.zero = some z) (hzs : Nat.beq z.cells.size i.size = true) {sz : Nat} (hsz : i.size = sz) (hs0 : Nat.blt 0 sz = true) {bytes : Nat} (hby : i.bytes = bytes)
    {v : Value} {k : Nat} {xs : List Value} {b off m c : Nat} {l news : List Value} {B : HP} (hx : ev L x = some v) (hy : ev L y = some (.slice (some ⟨b, off, none⟩) m c)) (sh : Shows B b l)
    (hl : news.length = m * sz) (hnews : (l.drop off).take (m * sz) = news) (h1 : news.all oneCell = true)
    (hbytes : (k + m) * bytes ≤ 140737488355328) (h63 : k + m ≤ maxLen) :
    OpT r P n ⟨dst, .call ⟨.builtin .append, #[x, y], #[t, t]⟩, ty, pos, after, none⟩ A L [Row e sz v k xs, B] (fun v' => v') (fun v' => ∃ a c, v' = .slice a (k + m) c) (fun v' => [Row e sz v' (k + m) (xs ++ news), B]) := by
 subst hsz; subst hby
 intro a f w M h hA hf dj dj' s sA t'
 obtain ⟨g1, g2, dg, e1, hrow, s2⟩ := s
 obtain ⟨g3, g4, dg2, e2, hB, _⟩ := s2
 subst e2; subst e1
 obtain ⟨d1, d2⟩ := Res.dj_add_right.1 dg
 obtain ⟨d3, d4⟩ := Res.dj_add_left.1 dj
 obtain ⟨d5, d6⟩ := Res.dj_add_left.1 dj'
 obtain ⟨d7, d8⟩ := Res.dj_add_left.1 d5
 have eq : ((g1.add (g3.add g4)).add hA).add hf = g1.add (((g3.add g4).add hA).add hf) := by simp only [Res.add_assoc]
 rw [eq] at t'
 have hcell : ∀ j u, news[j]? = some u → w.cell? ((⟨b, off, none⟩ : Addr).add j) = some u := by
  intro j u hj
  have hle : g3.le (((g3.add g4).add hA).add hf) := fun i o e => by simp [Res.add, e]
  have t2 : Sat w M ((((g3.add g4).add hA).add hf).add Res.emp) := by
   rw [Res.add_emp]
   exact t'.le (Res.le_add_right (Res.dj_add_right.2 ⟨Res.dj_add_right.2 ⟨dg, d3⟩, d7⟩))
  rw [addr_add, shows_cell sh t2 hle hB (off + j), ← drop_get]
  have hlt := (List.getElem?_eq_some_iff.1 hj).1
  rw [← hnews, List.getElem?_take_of_lt (by omega)] at hj
  exact hj
 obtain ⟨v', w', h', hr, djn, sn, rn⟩ := run_append_row (P := P) ht hi hz (Nat.eq_of_beq_eq_true hzs) (by simpa using hs0) (hf := ((g3.add g4).add hA).add hf) (Res.dj_add_right.2 ⟨Res.dj_add_right.2 ⟨dg, d3⟩, d7⟩) t' hrow hl hcell (fun u hu => List.all_eq_true.1 h1 u hu) hbytes h63 (ty := ty) (c := c)
 have hrun : (execOp a.eval ⟨dst, .call ⟨.builtin .append, #[x, y], #[t, t]⟩, ty, pos, after, none⟩).run P w = .ok (.value v') w' := by
  simp [execOp, resolve, f.ev hx, f.ev hy, invoke, builtin, hr]
 rw [hrun]
 obtain ⟨y1, y2⟩ := Res.dj_add_right.1 djn
 obtain ⟨y3, y4⟩ := Res.dj_add_right.1 y1
 refine ⟨v', M, h'.add (g3.add g4), rfl, rn.slice, Kn.le_refl _, Res.dj_add_left.2 ⟨y4, d4⟩, Res.dj_add_left.2 ⟨Res.dj_add_left.2 ⟨y2, d8⟩, d6⟩, ?_, h', g3.add g4, y3, rfl, rn, g3, g4, dg2, rfl, hB, trivial⟩
 have eq2 : ((h'.add (g3.add g4)).add hA).add hf = h'.add (((g3.add g4).add hA).add hf) := by simp only [Res.add_assoc]
 rw [eq2]; exact sn
theorem row_nil {e : TypeId} {sz : Nat} : Ent Hs (Row e sz (.slice none 0 0) 0 [] :: Hs) := ⟨fun {M h} s => ⟨Res.emp, h, Res.emp_dj _, rfl, .inl ⟨rfl, rfl, rfl⟩, s⟩⟩
end
end
end Go.Proofs.YtdnoacgopfcpbaaGreat
