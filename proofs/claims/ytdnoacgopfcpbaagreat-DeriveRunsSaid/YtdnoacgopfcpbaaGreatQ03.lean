/- Texts of this proof, put together: DrawR, Rows0, Bridge, Struct. -/
import Derived.Below
import Derived.Test.YtdnoacgopfcpbaaGreatQ02
set_option linter.unusedVariables false
set_option linter.unusedSimpArgs false
namespace Go.Proofs.YtdnoacgopfcpbaaGreat
section
section
variable {r : Option Nat} {P : Program} {n : Nat} {ops : Array Oper} {A : List HP} {L : Loc} {Hs : List HP} {Q : Out}
theorem d_draw {c : Code} {id : Nat} {l : List Oper} {Rs : List HP} (hc : c = .region id l.toArray true) (hm : P.follows .mixedOrders = true) (hnd : noDefer l.toArray = true) (A : List HP) [hp : PicksC A Hs Rs]
    (h : An r P n l.toArray A Q l.length (Array.replicate l.length false) L Rs) : wc r P n c L Hs Q := p_draw hc hm hnd A Rs hp.get.ent h
/-- A quiet operation, taken first. -/
theorem d_first (i : Nat) {o : Oper} {v : Value} {k : Nat} {ls : Array Bool} (hnd : noDefer ops = true) (ho : ops[i]? = some o) (hd : dstOk n o.dst = true) (hr : (Region.ready .any ops ls).contains i = true) (hf : free ops ls i o = true)
    (t : Tells P n ops o A L v) (h : An r P n ops A Q k (ls.setIfInBounds i true) (putL o.dst v L) Hs) : An r P n ops A Q (k + 1) ls L Hs :=
 An.first hnd ho hd k ls L Hs (by simpa using hr) hf t h
theorem tl_pv {op : Op} {ty : TypeId} {v : Value} {dst : Option Tmp} {pos : String} {after : Array Edge} (h : PV P n L op ty v) : Tells P n ops ⟨dst, op, ty, pos, after, none⟩ A L v :=
 .inr ⟨.inl rfl, fun a f w M hA hf dj s t => h.run a f w _ _ _ _⟩
theorem tl_out {op : Op} {ty : TypeId} {dst : Option Tmp} {pos : String} {after : Array Edge} {j : Nat} {b want : Bool} (hj : gd ops L j = some (.bool b)) (hb : (b == want) = false) : Tells P n ops ⟨dst, op, ty, pos, after, some (j, want)⟩ A L undef :=
 .inl ⟨j, want, .bool b, rfl, hj, by simp [outv, hb], rfl⟩
theorem tl_outU {op : Op} {ty : TypeId} {dst : Option Tmp} {pos : String} {after : Array Edge} {j : Nat} {u : Value} {want : Bool} (hj : gd ops L j = some u) (hu : outv u want = true) : Tells P n ops ⟨dst, op, ty, pos, after, some (j, want)⟩ A L undef :=
 .inl ⟨j, want, u, rfl, hj, hu, rfl⟩
theorem shows_cell' {B : HP} {b : Nat} {l : List Value} (sh : Shows B b l) (hB : Has B A) {w : World} {M : Kn} {hA hf : Res} (s : SL A M hA) (t : Sat w M (hA.add hf)) (off : Nat) : w.cell? ⟨b, off, none⟩ = l[off]? := by
 obtain ⟨h1, le, x⟩ := hB.sat s
 exact shows_cell sh t le x off
theorem tl_load {t ty : TypeId} {td : TypeDesc} {x : Operand} {b off : Nat} {l : List Value} {v : Value} {dst : Option Tmp} {pos : String} {after : Array Edge} (ht : P.underlying t = some td) (hfl : flat td = true)
    (hx : ev L x = some (.pointer (some ⟨b, off, none⟩))) [hr : RdCe b l A] (hv : l[off]? = some v) : Tells P n ops ⟨dst, .load t x, ty, pos, after, none⟩ A L v := by
 obtain ⟨B, sh, hB⟩ := hr.get
 refine .inr ⟨.inl rfl, fun a f w M hA hf dj s t' => ?_⟩
 have hc := shows_cell' sh hB s t' off
 rw [hv] at hc
 simp [execOp, f.ev hx, Instr.loadAt, Instr.sureAddr, loadVar, isAgg_flat ht hfl, run_load, hc]
theorem tl_loada {t ty : TypeId} {td : TypeDesc} {x : Operand} {b off : Nat} {l vs : List Value} {ti : TypeInfo} {dst : Option Tmp} {pos : String} {after : Array Edge} (ht : P.underlying t = some td) (hfl : flat td = false) (hi : P.info? t = some ti)
    (hx : ev L x = some (.pointer (some ⟨b, off, none⟩))) [hr : RdCe b l A] (hl : off + ti.size ≤ l.length) (hv : (l.drop off).take ti.size = vs) : Tells P n ops ⟨dst, .load t x, ty, pos, after, none⟩ A L (.agg vs.toArray) := by
 obtain ⟨B, sh, hB⟩ := hr.get
 refine .inr ⟨.inl rfl, fun a f w M hA hf dj s t' => ?_⟩
 have hc := run_loadCells_at (P := P) (sz := ti.size) (fun j => shows_cell' sh hB s t' (off + j)) hl
 rw [hv] at hc
 simp [execOp, f.ev hx, Instr.loadAt, Instr.sureAddr, loadVar, isAgg_agg ht hfl, sizeOf, typeInfo, program, Sem.run, hi, hc]
/-- A guard that is let through is no matter. -/
theorem tl_in {op : Op} {ty : TypeId} {v : Value} {dst : Option Tmp} {pos : String} {after : Array Edge} {j : Nat} {b : Bool} (hj : gd ops L j = some (.bool b)) (h : Tells P n ops ⟨dst, op, ty, pos, after, none⟩ A L v) :
    Tells P n ops ⟨dst, op, ty, pos, after, some (j, b)⟩ A L v := by
 rcases h with ⟨j', want, b', hg, _⟩ | ⟨_, run⟩
 · cases hg
 · exact .inr ⟨.inr ⟨j, b, rfl, hj⟩, run⟩
/-- One operation is next, and no other. -/
theorem d_next (j : Nat) {o : Oper} {k : Nat} {ls : Array Bool} (hr : Region.ready .any ops ls = [j]) (ho : ops[j]? = some o) (h : AnOp r P n ops A o (fun L' Hs' => An r P n ops A Q k (ls.setIfInBounds j true) L' Hs') L Hs) :
    An r P n ops A Q (k + 1) ls L Hs := ⟨(fun e => by rw [hr] at e; cases e), fun i hi => by
     rw [hr] at hi
     have : i = j := by simpa using hi
     subst this
     exact ⟨o, ho, .inl h⟩⟩
theorem d_next2 (j1 j2 : Nat) {o1 o2 : Oper} {k : Nat} {ls : Array Bool} (hr : Region.ready .any ops ls = [j1, j2]) (ho1 : ops[j1]? = some o1) (ho2 : ops[j2]? = some o2)
    (h1 : AnOp r P n ops A o1 (fun L' Hs' => An r P n ops A Q k (ls.setIfInBounds j1 true) L' Hs') L Hs)
    (h2 : AnOp r P n ops A o2 (fun L' Hs' => An r P n ops A Q k (ls.setIfInBounds j2 true) L' Hs') L Hs) :
    An r P n ops A Q (k + 1) ls L Hs := ⟨(fun e => by rw [hr] at e; cases e), fun i hi => by
     rw [hr] at hi
     simp only [List.mem_cons, List.not_mem_nil, or_false] at hi
     rcases hi with rfl | rfl
     · exact ⟨o1, ho1, .inl h1⟩
     · exact ⟨o2, ho2, .inl h2⟩⟩
theorem d_done {ls : Array Bool} (hr : Region.ready .any ops ls = []) (h : tw n Q .normal L (A ++ Hs)) : An r P n ops A Q 0 ls L Hs := ⟨hr, h⟩
theorem AnOp.mono {A : List HP} {o : Oper} {K K' : Loc → List HP → Prop} (hK : ∀ L' Gs, K L' Gs → K' L' Gs) (h : AnOp r P n ops A o K L Hs) : AnOp r P n ops A o K' L Hs :=
 ⟨h.1, h.2.imp (fun ⟨j, want, u, hg, hgd, hne, k⟩ => ⟨j, want, u, hg, hgd, hne, hK _ _ k⟩) (fun ⟨hg, X, val, φ, As, Rs, Bs, he, ht, hk⟩ => ⟨hg, X, val, φ, As, Rs, Bs, he, ht, fun x p => hK _ _ (hk x p)⟩)⟩
/-- The last operation, behind all others: it may turn what was there for reading. -/
theorem d_last (j : Nat) {o : Oper} {ls : Array Bool} (hr : Region.ready .any ops ls = [j]) (ho : ops[j]? = some o) (hl : lastOp ops j o = true) (he : Region.ready .any ops (ls.setIfInBounds j true) = []) (h : AnOp r P n ops [] o (fun L' Hs' => tw n Q .normal L' Hs') L (A ++ Hs)) :
    An r P n ops A Q 1 ls L Hs := ⟨(fun e => by rw [hr] at e; cases e), fun i hi => by
     rw [hr] at hi
     have : i = j := by simpa using hi
     subst this
     exact ⟨o, ho, .inr ⟨hl, rfl, h.mono fun _ _ x => ⟨he, x⟩⟩⟩⟩
/-! Operations with effects. -/
theorem an_in {K : Loc → List HP → Prop} {op : Op} {ty : TypeId} {dst : Option Tmp} {pos : String} {after : Array Edge} {j : Nat} {b : Bool} (hj : gd ops L j = some (.bool b)) (h : AnOp r P n ops A ⟨dst, op, ty, pos, after, none⟩ K L Hs) :
    AnOp r P n ops A ⟨dst, op, ty, pos, after, some (j, b)⟩ K L Hs := by
 obtain ⟨hd, h⟩ := h
 refine ⟨hd, ?_⟩
 rcases h with ⟨j', want, b', hg, _⟩ | ⟨_, rest⟩
 · cases hg
 · exact .inr ⟨.inr ⟨j, b, rfl, hj⟩, rest⟩
theorem an_call {K : Loc → List HP → Prop} {f : Operand} {args : Array Operand} {argTypes : Array TypeId} {ty : TypeId} {d g : Nat} {pos : String} {after : Array Edge} {vs cap : List Value}
    {As Rs : List HP} {X : Type} {val : X → Value} {φ : X → Prop} {Bs : X → List HP}
    (sp : Sp P g (vs ++ cap) As val φ Bs) (hf : ev L f = some (.func (.func g) #[] cap.toArray)) (ha : evs L args.toList = some vs) (hd : Nat.blt d n = true) [hp : PicksC As Hs Rs]
    (k : ∀ x, φ x → K ((d, val x) :: L) (Bs x ++ Rs)) : AnOp r P n ops A ⟨some d, .call ⟨.value f, args, argTypes⟩, ty, pos, after, none⟩ K L Hs := by
 refine ⟨hd, .inr ⟨.inl rfl, X, val, φ, As, Rs, Bs, hp.get.ent, ?_, k⟩⟩
 intro a fr w M h hA hfr dj dj' s sA t
 have hargs : args.map a.eval = vs.toArray := by
  have := fr.evs _ ha
  apply Array.ext'
  simp [this]
 have hrun : (execOp a.eval ⟨some d, .call ⟨.value f, args, argTypes⟩, ty, pos, after, none⟩).run P w = .ok (.enter g (vs ++ cap).toArray) w := by
  simp only [execOp, resolve, fr.ev hf, Deferred.ofValue, hargs, Sem.run_bind, Sem.run_pure, Result.andThen_ok, invoke]
  have := sp.enters (vs ++ cap).toArray w
  simpa using this
 rw [hrun]
 obtain ⟨x1, x2⟩ := Res.dj_add_left.1 dj'
 have c := sp.calls w M h (hA.add hfr) (Res.dj_add_right.2 ⟨dj, x1⟩) (by rw [← Res.add_assoc]; exact t) s
 refine CallsIn.mono (F := WF none) c ?_
 rintro e w' ⟨x, M', h', rfl, p, l, dj2, t', s'⟩
 obtain ⟨y1, y2⟩ := Res.dj_add_right.1 dj2
 exact ⟨_, rfl, x, M', h', rfl, p, l, y1, Res.dj_add_left.2 ⟨y2, x2⟩, by rw [Res.add_assoc]; exact t', s'⟩
theorem an_callF {K : Loc → List HP → Prop} {f : Operand} {args : Array Operand} {argTypes : Array TypeId} {ty : TypeId} {d g : Nat} {pos : String} {after : Array Edge} {vs : List Value} {v : Value}
    (sp : SpF P g vs v) (hf : ev L f = some (.func (.func g) #[] #[])) (ha : evs L args.toList = some vs) (hd : Nat.blt d n = true)
    (k : K ((d, v) :: L) Hs) : AnOp r P n ops A ⟨some d, .call ⟨.value f, args, argTypes⟩, ty, pos, after, none⟩ K L Hs :=
 an_call (cap := []) (As := []) (Rs := Hs) (by rw [List.append_nil]; exact sp) hf ha hd (fun _ _ => k)
theorem an_call1 {K : Loc → List HP → Prop} {f : Operand} {args : Array Operand} {argTypes : Array TypeId} {ty : TypeId} {d g : Nat} {pos : String} {after : Array Edge} {vs : List Value} {v : Value} {As Bs Rs : List HP}
    (sp : Sp1 P g vs As v Bs) (hf : ev L f = some (.func (.func g) #[] #[])) (ha : evs L args.toList = some vs) (hd : Nat.blt d n = true) [hp : PicksC As Hs Rs]
    (k : K ((d, v) :: L) (Bs ++ Rs)) : AnOp r P n ops A ⟨some d, .call ⟨.value f, args, argTypes⟩, ty, pos, after, none⟩ K L Hs :=
 an_call (cap := []) (by rw [List.append_nil]; exact sp) hf ha hd (fun _ _ => k)
/-- A new block. -/
theorem an_new {K : Loc → List HP → Prop} {op : Op} {ty : TypeId} {d : Nat} {pos : String} {after : Array Edge} {o : Obj} {val : Nat → Value} (hd : Nat.blt d n = true)
    (hrun : ∀ (a : Act), Fr n L a → ∀ (w : World) (dst : Option Tmp) (pos : String) (after : Array Edge) (guard : Option (Nat × Bool)),
     (execOp a.eval ⟨dst, op, ty, pos, after, guard⟩).run P w = .ok (.value (val w.heap.size)) (w.alloc o))
    (k : ∀ b, K ((d, val b) :: L) (Blk b o :: Hs)) : AnOp r P n ops A ⟨some d, op, ty, pos, after, none⟩ K L Hs := by
 refine ⟨hd, .inr ⟨.inl rfl, Nat, val, fun _ => True, [], Hs, fun b => [Blk b o], Ent.refl _, ?_, fun b _ => k b⟩⟩
 intro a fr w M h hA hf dj dj' s sA t
 rw [hrun a fr w]
 have t2 := t.alloc o
 obtain ⟨f1, f2⟩ := fresh_none t
 obtain ⟨f3, f4⟩ := Res.add_none.1 f2
 obtain ⟨f5, f6⟩ := Res.add_none.1 f3
 refine ⟨w.heap.size, M, (Res.one w.heap.size o).add h, rfl, trivial, Kn.le_refl _, Res.dj_add_left.2 ⟨one_dj f6, dj⟩, ?_, ?_, Res.one w.heap.size o, h, one_dj f5, rfl, rfl, trivial⟩
 · obtain ⟨x1, x2⟩ := Res.dj_add_left.1 dj'
   exact Res.dj_add_left.2 ⟨Res.dj_add_left.2 ⟨one_dj f4, x1⟩, x2⟩
 · rw [Res.add_assoc, Res.add_assoc]
   rw [Res.add_assoc] at t2
   exact t2
theorem an_alloc {K : Loc → List HP → Prop} {t ty : TypeId} {d : Nat} {pos : String} {after : Array Edge} {ti : TypeInfo} {z : Value} {zs : List Value} (hi : P.info? t = some ti) (hz : ti.zero = some z) (hzs : z.cells.toList = zs) (hd : Nat.blt d n = true)
    (k : ∀ b, K ((d, .pointer (some ⟨b, 0, none⟩)) :: L) (Ce b t zs :: Hs)) : AnOp r P n ops A ⟨some d, .alloc t, ty, pos, after, none⟩ K L Hs := by
 refine an_new (o := .cells zs.toArray t (0, 0)) (val := fun b => .pointer (some ⟨b, 0, none⟩)) hd (fun a f w _ _ _ _ => ?_) k
 subst hzs
 simp [execOp, Instr.alloc, zeroValue, typeInfo, program, Sem.run, hi, hz, newVar, newRow, newObj]
theorem an_buildSliceL {K : Loc → List HP → Prop} {t e ty : TypeId} {d : Nat} {pos : String} {after : Array Edge} {ti : TypeInfo} {z : Value} {len : Nat} {ps : List (Nat × Operand)} (vs : List Value) {cs : List Value} (ht : P.underlying t = some (.slice e)) (hi : P.info? e = some ti) (hz : ti.zero = some z) (hzs : Nat.beq z.cells.size ti.size = true)
    (hps : evps L ps = some (parts 0 vs)) (hlen : vs.length = len) (hv : vs.all (fun v => Nat.beq v.cells.size ti.size) = true) (hsm : Nat.ble (vs.length * ti.size) 16777216 = true) (hcs : vs.flatMap (·.cells.toList) = cs) (hd : Nat.blt d n = true)
    (k : ∀ b, K ((d, .slice (some ⟨b, 0, none⟩) len len) :: L) (Ce b e cs :: Hs)) : AnOp r P n ops A ⟨some d, .buildSlice t len ps.toArray, ty, pos, after, none⟩ K L Hs := by
 subst hlen
 refine an_new (o := .cells cs.toArray e (0, 0)) (val := fun b => .slice (some ⟨b, 0, none⟩) vs.length vs.length) hd (fun a f w _ _ _ _ => ?_) k
 rw [← hcs]
 have e1 := f.evpsa hps
 have := run_buildSlice ht hi hz (Nat.eq_of_beq_eq_true hzs) (fun v hv' => Nat.eq_of_beq_eq_true (by have := List.all_eq_true.1 hv v hv'; simpa using this)) (Nat.le_of_ble_eq_true hsm) w
 simp only [execOp]
 rw [show (Array.map (fun x => match x with | (i, x) => (i, a.eval x)) ps.toArray) = (parts 0 vs).toArray from e1]
 simp [this]
/-- What only reads its own. -/
theorem an_read {K : Loc → List HP → Prop} {B : HP} {op : Op} {ty : TypeId} {d : Nat} {pos : String} {after : Array Edge} {v : Value} (hB : Has B Hs) (hd : Nat.blt d n = true)
    (hrun : ∀ (a : Act), Fr n L a → ∀ (w : World) (M : Kn) (h h1 hf : Res), Sat w M (h.add hf) → h1.le h → B.at_ M h1 → ∀ (dst : Option Tmp) (pos : String) (after : Array Edge) (guard : Option (Nat × Bool)),
     (execOp a.eval ⟨dst, op, ty, pos, after, guard⟩).run P w = .ok (.value v) w)
    (k : K ((d, v) :: L) Hs) : AnOp r P n ops A ⟨some d, op, ty, pos, after, none⟩ K L Hs := by
 refine ⟨hd, .inr ⟨.inl rfl, Unit, fun _ => v, fun _ => True, Hs, [], fun _ => Hs, by rw [List.append_nil]; exact Ent.refl Hs, ?_, fun _ _ => by simpa [putL] using k⟩⟩
 intro a fr w M h hA hf dj dj' s sA t
 obtain ⟨h1, le, x⟩ := hB.sat s
 rw [Res.add_assoc] at t
 rw [hrun a fr w M h h1 (hA.add hf) t le x]
 exact ⟨(), M, h, rfl, trivial, Kn.le_refl _, dj, dj', by rw [Res.add_assoc]; exact t, s⟩
/-- One block is turned. -/
theorem an_turn {K : Loc → List HP → Prop} {B C : HP} {Gs : List HP} {op : Op} {ty : TypeId} {pos : String} {after : Array Edge} (hu : Upd B C Hs Gs)
    (hrun : ∀ (a : Act), Fr n L a → ∀ (w : World) (M : Kn) (h1 hf : Res), h1.dj hf → Sat w M (h1.add hf) → B.at_ M h1 → ∃ (w' : World) (M' : Kn) (h1' : Res), M.le M' ∧ h1'.dj hf ∧ Sat w' M' (h1'.add hf) ∧ C.at_ M' h1' ∧
     ∀ (dst : Option Tmp) (pos : String) (after : Array Edge) (guard : Option (Nat × Bool)), (execOp a.eval ⟨dst, op, ty, pos, after, guard⟩).run P w = .ok .skip w')
    (k : K L Gs) : AnOp r P n ops A ⟨none, op, ty, pos, after, none⟩ K L Hs := by
 refine ⟨rfl, .inr ⟨.inl rfl, Unit, fun _ => undef, fun _ => True, Hs, [], fun _ => Gs, by rw [List.append_nil]; exact Ent.refl Hs, ?_, fun _ _ => by simpa [putL] using k⟩⟩
 intro a fr w M h hA hf dj dj' s sA t
 obtain ⟨h1, h2, d12, e, hb, upd⟩ := hu.sat s
 subst e
 obtain ⟨x1, x2⟩ := Res.dj_add_left.1 dj'
 obtain ⟨x3, x4⟩ := Res.dj_add_left.1 x1
 obtain ⟨y1, y2⟩ := Res.dj_add_left.1 dj
 have eq : ((h1.add h2).add hA).add hf = h1.add ((h2.add hA).add hf) := by simp only [Res.add_assoc]
 rw [eq] at t
 obtain ⟨w', M', h1', le, dj2, t', hc, hr⟩ := hrun a fr w M h1 ((h2.add hA).add hf) (Res.dj_add_right.2 ⟨Res.dj_add_right.2 ⟨d12, y1⟩, x3⟩) t hb
 rw [hr]
 obtain ⟨z1, z2⟩ := Res.dj_add_right.1 dj2
 obtain ⟨z3, z4⟩ := Res.dj_add_right.1 z1
 refine ⟨(), M', h1'.add h2, rfl, trivial, le, Res.dj_add_left.2 ⟨z4, y2⟩, Res.dj_add_left.2 ⟨Res.dj_add_left.2 ⟨z2, x4⟩, x2⟩, ?_, upd M' h1' le z3 hc⟩
 have eq2 : ((h1'.add h2).add hA).add hf = h1'.add ((h2.add hA).add hf) := by simp only [Res.add_assoc]
 rw [eq2]; exact t'
theorem an_store {K : Loc → List HP → Prop} {t ty : TypeId} {ti : TypeInfo} {x y : Operand} {b off : Nat} {T : TypeId} {l : List Value} {v : Value} {Gs : List HP} {pos : String} {after : Array Edge} (hi : P.info? t = some ti) (hs : Nat.beq ti.size 1 = true)
    (hx : ev L x = some (.pointer (some ⟨b, off, none⟩))) (hy : ev L y = some v) [hu : StC b off v T l Hs Gs] (h1 : oneCell v = true) (ho : off < l.length)
    (k : K L Gs) : AnOp r P n ops A ⟨none, .store t x y, ty, pos, after, none⟩ K L Hs := by
 refine an_turn hu.get (fun a f w M m hf dj s ha => ?_) k
 have ha' : m = Res.one b _ := ha
 subst ha'
 have hb : w.heap[b]? = some (.cells l.toArray T (0, 0)) := s.ow _ _ (by simp [Res.add, Res.one])
 refine ⟨w.setCell ⟨b, off, none⟩ v, M, Res.one b (.cells (l.set off v).toArray T (0, 0)), Kn.le_refl _, dj_one_any dj, Sat.setBlk dj s (setCell_at hb) (fun i hi => setCell_other hi) (env_setCell _ _ _), rfl, fun _ _ _ _ => ?_⟩
 have hsz : ti.size = 1 := Nat.eq_of_beq_eq_true hs
 have hvc : v.cells = #[v] := by cases v <;> simp_all [Value.cells, oneCell]
 have hst := run_store_ce (P := P) hb h1 ho
 simp [execOp, f.ev hx, f.ev hy, Instr.storeAt, Instr.sureAddr, storeVar, hvc, sizeOf, typeInfo, program, Sem.run, hi, hsz, storeCells, addr_add, hst]
theorem an_storea {K : Loc → List HP → Prop} {t ty : TypeId} {ti : TypeInfo} {x y : Operand} {b off : Nat} {T : TypeId} {l vs : List Value} {Gs : List HP} {pos : String} {after : Array Edge} (hi : P.info? t = some ti) (hs : Nat.beq ti.size vs.length = true)
    (hx : ev L x = some (.pointer (some ⟨b, off, none⟩))) (hy : ev L y = some (.agg vs.toArray)) [hu : StsC b off vs T l Hs Gs] (h1 : vs.all oneCell = true) (ho : off + vs.length ≤ l.length)
    (k : K L Gs) : AnOp r P n ops A ⟨none, .store t x y, ty, pos, after, none⟩ K L Hs := by
 refine an_turn hu.get (fun a f w M m hf dj s ha => ?_) k
 have ha' : m = Res.one b _ := ha
 subst ha'
 have hb : w.heap[b]? = some (.cells l.toArray T (0, 0)) := s.ow _ _ (by simp [Res.add, Res.one])
 obtain ⟨w', hr, hb', ho', he'⟩ := run_storeCells_ce (P := P) vs w l off 0 hb h1 ho
 refine ⟨w', M, Res.one b (.cells (setAt l off vs).toArray T (0, 0)), Kn.le_refl _, dj_one_any dj, Sat.setBlk dj s hb' ho' he', rfl, fun _ _ _ _ => ?_⟩
 have hsz : ti.size = vs.length := Nat.eq_of_beq_eq_true hs
 simp [execOp, f.ev hx, f.ev hy, Instr.storeAt, Instr.sureAddr, storeVar, Value.cells, sizeOf, typeInfo, program, Sem.run, hi, hsz, hr]
theorem d_gsplit {j s : Nat} {b : Bool} {k : Nat} {ls : Array Bool} (hj : (ops[j]?).bind (·.dst) = some s) (hs : lk L s = some (.bool b))
    (ht : b = true → An r P n ops A Q k ls ((s, .bool true) :: L) Hs) (hf : b = false → An r P n ops A Q k ls ((s, .bool false) :: L) Hs) : An r P n ops A Q k ls L Hs := by
 have key : ∀ u : Bool, b = u → An r P n ops A Q k ls ((s, .bool u) :: L) Hs → An r P n ops A Q k ls L Hs := by
  intro u e h
  refine An.leq _ _ _ _ _ (fun i v hv => ?_) h
  simp only [lk] at hv
  by_cases hi : s = i
  · subst hi
    rw [nbeq_self, cond_true] at hv
    rw [hs, e]; exact hv
  · rw [nbeq hi, cond_false] at hv; exact hv
 cases e : b with
 | true => exact key true e (ht e)
 | false => exact key false e (hf e)
/-- One operation with its triple: in a region that draws; in one that doesn't. -/
theorem an_opT {K : Loc → List HP → Prop} {op : Op} {ty : TypeId} {dst : Option Tmp} {pos : String} {after : Array Edge} {X : Type} {val : X → Value} {φ : X → Prop} {As Rs : List HP} {Bs : X → List HP}
    (t : OpT r P n ⟨dst, op, ty, pos, after, none⟩ A L As val φ Bs) (hd : dstOk n dst = true) [hp : PicksC As Hs Rs] (k : ∀ x, φ x → K (putL dst (val x) L) (Bs x ++ Rs)) : AnOp r P n ops A ⟨dst, op, ty, pos, after, none⟩ K L Hs :=
 ⟨hd, .inr ⟨.inl rfl, X, val, φ, As, Rs, Bs, hp.get.ent, t, k⟩⟩
theorem wo_opT {op : Op} {ty : TypeId} {dst : Option Tmp} {pos : String} {after : Array Edge} {os : List Oper} {X : Type} {val : X → Value} {φ : X → Prop} {As Rs : List HP} {Bs : X → List HP}
    (nd : ∀ c, op ≠ .defer c) (t : OpT r P n ⟨dst, op, ty, pos, after, none⟩ [] L As val φ Bs) (hd : dstOk n dst = true) [hp : PicksC As Hs Rs]
    (k : ∀ x, φ x → wo r P n ops os (putL dst (val x) L) (Bs x ++ Rs) Q) : wo r P n ops (⟨dst, op, ty, pos, after, none⟩ :: os) L Hs Q := by
 intro a M m s w hf dj t'
 simp only [wpL, Region.wanted, if_true]
 rw [Oper.semAt_eq _ _ _ nd]
 obtain ⟨h1, h2, h3, d12, d3, e, sd, sr, sa⟩ := split_call s.2 hp.get
 subst e
 obtain ⟨dj1, dj2⟩ := Res.dj_add_left.1 dj
 refine upon_of_opV ?_ _ (t a s.1 w M h3 Res.emp ((h1.add h2).add hf) (Res.dj_emp _) ?_ sa trivial ?_)
 · rintro v w' ⟨x, M', h', rfl, p, l, _, djf, t2, sB⟩
   rw [Res.add_emp] at djf t2
   obtain ⟨y1, y2⟩ := Res.dj_add_right.1 djf
   obtain ⟨y3, y4⟩ := Res.dj_add_right.1 y1
   obtain ⟨z1, z2⟩ := Res.dj_add_left.1 dj2
   obtain ⟨g1, g2, dg, e, y, _⟩ := sd
   subst e
   obtain ⟨x1, x2⟩ := Res.dj_add_left.1 d12
   obtain ⟨x3, x4⟩ := Res.dj_add_right.1 y3
   refine wo_on (k x p) (a := a.put dst (val x)) (M := M') (h := (g1.add g2).add (h'.add h2)) ⟨s.1.putL hd, ?_⟩ l ?_ ?_
   · have hdef : (a.put dst (val x)).defers = a.defers := by cases dst <;> rfl
     rw [hdef, Res.add_assoc]
     refine ⟨g1, g2.add (h'.add h2), ?_, rfl, (Al _).mono l y, SL.more ?_ (SL.append y4 sB (SL.mono l sr))⟩
     · exact Res.dj_add_right.2 ⟨dg, Res.dj_add_right.2 ⟨Res.dj_comm x3, x1⟩⟩
     · exact Res.dj_add_right.2 ⟨Res.dj_comm x4, x2⟩
   · exact Res.dj_add_left.2 ⟨z1, Res.dj_add_left.2 ⟨y2, z2⟩⟩
   · have : ((g1.add g2).add (h'.add h2)).add hf = h'.add (((g1.add g2).add h2).add hf) := by
       rw [← Res.add_assoc (g1.add g2) h' h2, Res.add_comm (Res.dj_comm y3)]
       simp only [Res.add_assoc]
     rw [this]; exact t2
 · rw [Res.add_emp]; exact Res.dj_add_right.2 ⟨d3, dj1⟩
 · rw [Res.add_emp, ← Res.add_assoc]; exact t'
theorem r_callX {f : Operand} {args : Array Operand} {argTypes : Array TypeId} {g : Nat} {vs : List Value} {ty : TypeId} {d : Nat} {pos : String} {after : Array Edge} {os : List Oper}
    {As Rs : List HP} {X : Type} {val : X → Value} {φ : X → Prop} {Bs : X → List HP}
    (sp : Sp P g vs As val φ Bs) (hf : ev L f = some (.func (.func g) #[] #[])) (ha : evs L args.toList = some vs) (hd : Nat.blt d n = true) [hp : PicksC As Hs Rs]
    (k : ∀ x, φ x → wo r P n ops os ((d, val x) :: L) (Bs x ++ Rs) Q) :
    wo r P n ops (⟨some d, .call ⟨.value f, args, argTypes⟩, ty, pos, after, none⟩ :: os) L Hs Q := wo_call (cap := []) (by rw [List.append_nil]; exact sp) hf ha hd hp.get k
theorem an_callX {K : Loc → List HP → Prop} {f : Operand} {args : Array Operand} {argTypes : Array TypeId} {ty : TypeId} {d g : Nat} {pos : String} {after : Array Edge} {vs : List Value}
    {As Rs : List HP} {X : Type} {val : X → Value} {φ : X → Prop} {Bs : X → List HP}
    (sp : Sp P g vs As val φ Bs) (hf : ev L f = some (.func (.func g) #[] #[])) (ha : evs L args.toList = some vs) (hd : Nat.blt d n = true) [hp : PicksC As Hs Rs]
    (k : ∀ x, φ x → K ((d, val x) :: L) (Bs x ++ Rs)) : AnOp r P n ops A ⟨some d, .call ⟨.value f, args, argTypes⟩, ty, pos, after, none⟩ K L Hs :=
 an_call (cap := []) (by rw [List.append_nil]; exact sp) hf ha hd k
end
end
section
/-- A slice of n elements of type e, of sz cells each, that is one's own: its cells; room behind. -/
def RowAt (e : TypeId) (sz : Nat) (v : Value) (n : Nat) (xs : List Value) (M : Kn) (h : Res) : Prop :=
 (v = .slice none 0 0 ∧ n = 0 ∧ xs = []) ∨
 ∃ g cap cur, v = .slice (some ⟨g, 0, none⟩) n cap ∧ n ≤ cap ∧ cap ≤ maxLen ∧ List.length cur = cap * sz ∧ xs.length = n * sz ∧ cur.take (n * sz) = xs ∧ h = Res.one g (.cells cur.toArray e (0, 0))
def Row (e : TypeId) (sz : Nat) (v : Value) (n : Nat) (xs : List Value) : HP := ⟨RowAt e sz v n xs, fun _ e => e⟩
theorem RowAt.slice {e : TypeId} {sz : Nat} {v : Value} {n : Nat} {xs : List Value} {M : Kn} {h : Res} (r : RowAt e sz v n xs M h) : ∃ a c, v = .slice a n c := by
 rcases r with ⟨rfl, rfl, _⟩ | ⟨g, cap, _, rfl, _⟩
 · exact ⟨_, _, rfl⟩
 · exact ⟨_, _, rfl⟩
theorem oneCell_iff {v : Value} : oneCell v = true ↔ v.oneCell' = true := by cases v <;> simp [oneCell, Value.oneCell']
section
variable {r : Option Nat} {P : Program} {n : Nat} {ops : Array Oper} {A : List HP} {L : Loc} {Hs : List HP} {Q : Out}
theorem Sat.drew {w : World} {M : Kn} {h : Res} (t : Sat w M h) : Sat w.drew M h := ⟨t.im, t.ow, t.dj, ⟨t.env.os, t.env.tape, t.env.output, t.env.size, up_add 1 t.env.up⟩⟩
/-- append(s, x...) where x's cells can be read and s is one's own. -/
theorem run_append_row {t ty e : TypeId} {i : TypeInfo} {z : Value} (ht : P.underlying t = some (.slice e)) (hi : P.info? e = some i) (hz : i.zero = some z) (hzs : z.cells.size = i.size) (hsz : 0 < i.size)
    {v : Value} {k : Nat} {xs : List Value} {w : World} {M : Kn} {h hf : Res} (dj : h.dj hf) (s : Sat w M (h.add hf)) (hr : RowAt e i.size v k xs M h)
    {a : Addr} {m c : Nat} {news : List Value} (hl : news.length = m * i.size) (hnews : ∀ j u, news[j]? = some u → w.cell? (a.add j) = some u) (h1 : ∀ u ∈ news, oneCell u = true)
    (hbytes : (k + m) * i.bytes ≤ 140737488355328) (h63 : k + m ≤ maxLen) :
    ∃ v' w' h', (Builtin.append_ #[t, t] ty #[v, .slice (some a) m c]).run P w = .ok v' w' ∧ h'.dj hf ∧ Sat w' M (h'.add hf) ∧ RowAt e i.size v' (k + m) (xs ++ news) M h' := by
 have h1' : ∀ u ∈ news, u.oneCell' = true := fun u hu => oneCell_iff.1 (h1 u hu)
 have hsmall : k + m ≤ 9223372036854775807 := by simp only [maxLen] at h63; omega
 have grown : ∀ (old : Nat), old < k + m → xs.length = k * i.size → ∃ h', h'.dj hf ∧ Sat (w.drew.alloc (.cells (xs.toArray ++ news.toArray ++ Builtin.zeroCells z.cells (grownCap w (k + m) old e - (k + m))) e)) M (h'.add hf) ∧
     RowAt e i.size (.slice (some ⟨w.heap.size, 0, none⟩) (k + m) (grownCap w (k + m) old e)) (k + m) (xs ++ news) M h' := by
  intro old ho hxl
  have hge := grownCap_ge w (k + m) old e
  have hcm : grownCap w (k + m) old e ≤ maxLen := grownCap_le_maxLen w (k + m) old e h63
  have s2 := s.drew.alloc (.cells (xs.toArray ++ news.toArray ++ Builtin.zeroCells z.cells (grownCap w (k + m) old e - (k + m))) e)
  obtain ⟨f1, f2⟩ := fresh_none s.drew
  obtain ⟨f3, f4⟩ := Res.add_none.1 f2
  refine ⟨Res.one w.heap.size (.cells (xs.toArray ++ news.toArray ++ Builtin.zeroCells z.cells (grownCap w (k + m) old e - (k + m))) e), one_dj f4, s2.le ?_, .inr ⟨w.heap.size, _, xs ++ news ++ (Builtin.zeroCells z.cells (grownCap w (k + m) old e - (k + m))).toList, rfl, hge, hcm, ?_, ?_, ?_, ?_⟩⟩
  · intro b o e
    simp only [Res.add] at e ⊢
    show (match Res.one w.heap.size _ b with | some o => some o | none => _) = _
    cases eb : Res.one w.heap.size (Obj.cells (xs.toArray ++ news.toArray ++ Builtin.zeroCells z.cells (grownCap w (k + m) old _ - (k + m))) _) b with
    | some u => rw [eb] at e; simpa using e
    | none =>
      rw [eb] at e
      rcases dj b with x | x
      · simpa [x] using e
      · have e' : hf b = some o := e
        rw [x] at e'; cases e'
  · simp only [List.length_append, Array.length_toList, size_zeroCells, hzs, hxl, hl, ← Nat.add_mul]
    congr 1
    omega
  · simp [hxl, hl, Nat.add_mul]
  · have : (xs ++ news).length = (k + m) * i.size := by simp [hxl, hl, Nat.add_mul]
    rw [← this]
    exact List.take_left
  · congr 2
    apply Array.ext'
    simp
 rcases hr with ⟨rfl, rfl, rfl⟩ | ⟨g, cap, cur, rfl, hkc, hcm, hcl, hxl, htake, rfl⟩
 · by_cases hm : m = 0
   · subst hm
     have hn : news = [] := List.eq_nil_of_length_eq_zero (by simpa using hl)
     subst hn
     refine ⟨.slice none 0 0, w, h, ?_, dj, s, .inl ⟨rfl, rfl, rfl⟩⟩
     simp [Builtin.append_, run_underlying ht, sizeOf, typeInfo, hi, Builtin.lenOf, Builtin.firstCells, loadCells, loadCellsFrom]
   · have hr := run_append_nil (P := P) w t ty e i z ht hi hz a m c news hl hnews (by omega) (by omega) (by simp only [Nat.zero_add] at hbytes; omega)
     obtain ⟨h', d', s', r'⟩ := grown 0 (by omega) (by simp)
     simp only [Nat.zero_add, List.nil_append, Array.empty_append] at d' s' r' ⊢
     exact ⟨_, _, h', hr, d', s', r'⟩
 · have hg : w.heap[g]? = some (.cells cur.toArray e (0, 0)) := s.ow _ _ (by simp [Res.add, Res.one])
   by_cases hroom : k + m ≤ cap
   · have hfit : k * i.size + news.length ≤ cur.toArray.size := by simp only [List.size_toArray]; rw [hl, hcl, ← Nat.add_mul]; exact Nat.mul_le_mul_right _ hroom
     have hr := run_append_room (P := P) w t ty e i ht hi g k cap cur.toArray hg a m c news hl hnews h1' hroom hfit
     refine ⟨_, _, Res.one g (.cells (cur.take (k * i.size) ++ news ++ cur.drop (k * i.size + news.length)).toArray e (0, 0)), hr, dj_one_any dj, Sat.setBlk dj s ?_ (fun j hj => ?_) ⟨rfl, rfl, rfl, by simp [World.setRow], up_rfl⟩, .inr ⟨g, cap, cur.take (k * i.size) ++ news ++ cur.drop (k * i.size + news.length), rfl, hroom, hcm, ?_, ?_, ?_, rfl⟩⟩
     · exact setRow_heap w g cur.toArray _ e _ hg
     · exact setRow_other w g j _ (fun x => hj x)
     · simp only [List.size_toArray] at hfit
       simp only [List.length_append, List.length_take, List.length_drop]
       omega
     · simp [hxl, hl, Nat.add_mul]
     · rw [htake]
       have : (xs ++ news).length = (k + m) * i.size := by simp [hxl, hl, Nat.add_mul]
       rw [← this]
       exact List.take_left
   · have holds : ∀ j u, xs[j]? = some u → w.cell? ((⟨g, 0, none⟩ : Addr).add j) = some u := by
       intro j u hj
       have hlt := (List.getElem?_eq_some_iff.1 hj).1
       rw [addr_add, Nat.zero_add]
       simp only [World.cell?, hg]
       rw [← htake, List.getElem?_take_of_lt (by omega)] at hj
       simpa using hj
     have hr := run_append_grow (P := P) w t ty e i z ht hi hz ⟨g, 0, none⟩ k cap xs hxl holds a m c news hl hnews (by omega) (by omega) (growslice_fits (by omega) hbytes)
     obtain ⟨h', d', s', r'⟩ := grown cap (by omega) hxl
     exact ⟨_, _, h', hr, d', s', r'⟩
/-- What is appended: cells of a block of one's own, or of one that never turns. -/
theorem opt_append {dst : Option Tmp} {ty t e : TypeId} {pos : String} {after : Array Edge} {x y : Operand} {i : TypeInfo} {z : Value} (ht : P.underlying t = some (.slice e)) (hi : P.info? e = some i) (hz : i.zero = some z) (hzs : Nat.beq z.cells.size i.size = true) {sz : Nat} (hsz : i.size = sz) (hs0 : Nat.blt 0 sz = true) {bytes : Nat} (hby : i.bytes = bytes)
    {v : Value} {k : Nat} {xs : List Value} {b off m c : Nat} {l news : List Value} {B : HP} (hx : ev L x = some v) (hy : ev L y = some (.slice (some ⟨b, off, none⟩) m c)) (sh : Shows B b l)
    (hl : news.length = m * sz) (hnews : (l.drop off).take (m * sz) = news) (h1 : news.all oneCell = true)
    (hbytes : (k + m) * bytes ≤ 140737488355328) (h63 : k + m ≤ maxLen) :
    OpT r P n ⟨dst, .call ⟨.builtin .append, #[x, y], #[t, t]⟩, ty, pos, after, none⟩ A L [Row e sz v k xs, B] (fun v' => v') (fun v' => ∃ a c, v' = .slice a (k + m) c) (fun v' => [Row e sz v' (k + m) (xs ++ news), B]) := by
 subst hsz; subst hby
 intro a f w M h hA hf dj dj' s sA t'
 obtain ⟨g1, g2, dg, e1, hrow, s2⟩ := s
 obtain ⟨g3, g4, dg2, e2, hB, _⟩ := s2
 subst e2; subst e1
 obtain ⟨d1, d2⟩ := Res.dj_add_right.1 dg
 obtain ⟨d3, d4⟩ := Res.dj_add_left.1 dj
 obtain ⟨d5, d6⟩ := Res.dj_add_left.1 dj'
 obtain ⟨d7, d8⟩ := Res.dj_add_left.1 d5
 have eq : ((g1.add (g3.add g4)).add hA).add hf = g1.add (((g3.add g4).add hA).add hf) := by simp only [Res.add_assoc]
 rw [eq] at t'
 have hcell : ∀ j u, news[j]? = some u → w.cell? ((⟨b, off, none⟩ : Addr).add j) = some u := by
  intro j u hj
  have hle : g3.le (((g3.add g4).add hA).add hf) := fun i o e => by simp [Res.add, e]
  have t2 : Sat w M ((((g3.add g4).add hA).add hf).add Res.emp) := by
   rw [Res.add_emp]
   exact t'.le (Res.le_add_right (Res.dj_add_right.2 ⟨Res.dj_add_right.2 ⟨dg, d3⟩, d7⟩))
  rw [addr_add, shows_cell sh t2 hle hB (off + j), ← drop_get]
  have hlt := (List.getElem?_eq_some_iff.1 hj).1
  rw [← hnews, List.getElem?_take_of_lt (by omega)] at hj
  exact hj
 obtain ⟨v', w', h', hr, djn, sn, rn⟩ := run_append_row (P := P) ht hi hz (Nat.eq_of_beq_eq_true hzs) (by simpa using hs0) (hf := ((g3.add g4).add hA).add hf) (Res.dj_add_right.2 ⟨Res.dj_add_right.2 ⟨dg, d3⟩, d7⟩) t' hrow hl hcell (fun u hu => List.all_eq_true.1 h1 u hu) hbytes h63 (ty := ty) (c := c)
 have hrun : (execOp a.eval ⟨dst, .call ⟨.builtin .append, #[x, y], #[t, t]⟩, ty, pos, after, none⟩).run P w = .ok (.value v') w' := by
  simp [execOp, resolve, f.ev hx, f.ev hy, invoke, builtin, hr]
 rw [hrun]
 obtain ⟨y1, y2⟩ := Res.dj_add_right.1 djn
 obtain ⟨y3, y4⟩ := Res.dj_add_right.1 y1
 refine ⟨v', M, h'.add (g3.add g4), rfl, rn.slice, Kn.le_refl _, Res.dj_add_left.2 ⟨y4, d4⟩, Res.dj_add_left.2 ⟨Res.dj_add_left.2 ⟨y2, d8⟩, d6⟩, ?_, h', g3.add g4, y3, rfl, rn, g3, g4, dg2, rfl, hB, trivial⟩
 have eq2 : ((h'.add (g3.add g4)).add hA).add hf = h'.add (((g3.add g4).add hA).add hf) := by simp only [Res.add_assoc]
 rw [eq2]; exact sn
theorem row_nil {e : TypeId} {sz : Nat} : Ent Hs (Row e sz (.slice none 0 0) 0 [] :: Hs) := ⟨fun {M h} s => ⟨Res.emp, h, Res.emp_dj _, rfl, .inl ⟨rfl, rfl, rfl⟩, s⟩⟩
end
end
section
open Go.RowKit (Below)
theorem SpF.of_same {P : Program} {f : FuncId} {args : List Value} {v : Value} (en : ∀ (args : Array Value) (w : World), (callFunc f args).run P w = .ok (.enter f args) w)
    (h : ∀ w, Calls P f args.toArray w fun e w' => e = .returned v ∧ w' = w) : SpF P f args v := by
 refine ⟨en, fun w M m hf d t s => callsIn_wide.2 ((h w).mono ?_)⟩
 rintro e w' ⟨rfl, rfl⟩
 exact ⟨(), M, m, rfl, trivial, Kn.le_refl _, d, t, trivial⟩
/-- A law's contract: all that there was is as it was. -/
theorem Sp.law {P : Program} {f : FuncId} {args : List Value} {As : List HP} {v : Value} {Bs : Unit → List HP} (sp : Sp P f args As (X := Unit) (fun _ => v) (fun _ => True) Bs) (w : World)
    (hA : SL As ⟨fun b => w.heap[b]?, w⟩ Res.emp) : Calls P f args.toArray w fun e w' => e = .returned v ∧ Below w.heap.size w w' := by
 have t : Sat w ⟨fun b => w.heap[b]?, w⟩ (Res.emp.add Res.emp) := ⟨fun _ _ e => e, fun _ _ e => by simp [Res.add, Res.emp] at e, fun _ => .inr rfl, Env.refl w⟩
 refine (callsIn_wide.1 (sp.calls w _ Res.emp Res.emp (Res.dj_emp _) t hA)).mono ?_
 rintro e w' ⟨x, M', h', rfl, _, l, _, t', _⟩
 have en := t'.env
 rw [← l.2] at en
 refine ⟨rfl, en.os, en.tape, en.output, en.size, fun k hk => ?_⟩
 have e1 : w.heap[k]? = some w.heap[k] := Array.getElem?_eq_getElem hk
 rw [e1]
 exact t'.im k _ (l.1 k _ e1)
end
section
open Go.RowKit (Below)
instance (priority := 900) {b : Nat} {l : List Value} {B C : List HP} [h : RdCe b l B] : RdCe b l (B ++ C) := ⟨by
 obtain ⟨A, s, p⟩ := h.get
 refine ⟨A, s, ?_⟩
 clear h s
 induction p with
 | here => exact .here
 | there _ ih => exact .there ih⟩
instance (priority := 800) {b : Nat} {l : List Value} {B C : List HP} [h : RdCe b l C] : RdCe b l (B ++ C) := ⟨by
 obtain ⟨A, s, p⟩ := h.get
 refine ⟨A, s, ?_⟩
 clear h s
 induction B with
 | nil => exact p
 | cons _ _ ih => exact .there ih⟩
instance (priority := 900) {b : Nat} {T : TypeId} {l l' : List Value} {B B' C : List HP} [h : UpCe b T l l' B B'] : UpCe b T l l' (B ++ C) (B' ++ C) := ⟨by
 have u := h.get
 clear h
 induction u with
 | here => exact .here
 | there _ ih => exact .there ih⟩
instance (priority := 800) {b : Nat} {T : TypeId} {l l' : List Value} {B C C' : List HP} [h : UpCe b T l l' C C'] : UpCe b T l l' (B ++ C) (B ++ C') := ⟨by
 have u := h.get
 clear h
 induction B with
 | nil => exact u
 | cons _ _ ih => exact .there ih⟩
instance (priority := 900) {b off : Nat} {v : Value} {T : TypeId} {l : List Value} {B B' C : List HP} [h : StC b off v T l B B'] : StC b off v T l (B ++ C) (B' ++ C) := ⟨by
 have u := h.get
 clear h
 induction u with
 | here => exact .here
 | there _ ih => exact .there ih⟩
instance (priority := 800) {b off : Nat} {v : Value} {T : TypeId} {l : List Value} {B C C' : List HP} [h : StC b off v T l C C'] : StC b off v T l (B ++ C) (B ++ C') := ⟨by
 have u := h.get
 clear h
 induction B with
 | nil => exact u
 | cons _ _ ih => exact .there ih⟩
instance (priority := 900) {b off : Nat} {vs : List Value} {T : TypeId} {l : List Value} {B B' C : List HP} [h : StsC b off vs T l B B'] : StsC b off vs T l (B ++ C) (B' ++ C) := ⟨by
 have u := h.get
 clear h
 induction u with
 | here => exact .here
 | there _ ih => exact .there ih⟩
instance (priority := 800) {b off : Nat} {vs : List Value} {T : TypeId} {l : List Value} {B C C' : List HP} [h : StsC b off vs T l C C'] : StsC b off vs T l (B ++ C) (B ++ C') := ⟨by
 have u := h.get
 clear h
 induction B with
 | nil => exact u
 | cons _ _ ih => exact .there ih⟩
instance (priority := 900) {A : HP} {B B' C : List HP} [h : PickC A B B'] : PickC A (B ++ C) (B' ++ C) := ⟨by
 have u := h.get
 clear h
 induction u with
 | here => exact .here
 | keep p => exact .keep p
 | there _ ih => exact .there ih⟩
instance (priority := 800) {A : HP} {B C C' : List HP} [h : PickC A C C'] : PickC A (B ++ C) (B ++ C') := ⟨by
 have u := h.get
 clear h
 induction B with
 | nil => exact u
 | cons _ _ ih => exact .there ih⟩
instance (priority := 900) {A : HP} {B C : List HP} [h : HasC A B] : HasC A (B ++ C) := ⟨by
 have u := h.get
 clear h
 induction u with
 | here => exact .here
 | there _ ih => exact .there ih⟩
instance (priority := 800) {A : HP} {B C : List HP} [h : HasC A C] : HasC A (B ++ C) := ⟨by
 have u := h.get
 clear h
 induction B with
 | nil => exact u
 | cons _ _ ih => exact .there ih⟩
theorem sl_ex {X : Type} {f : X → HP} {Hs : List HP} {M : Kn} {h : Res} (s : SL (Ex f :: Hs) M h) : ∃ x, SL (f x :: Hs) M h := by
 obtain ⟨h1, h2, d, e, ⟨x, a⟩, t⟩ := s
 exact ⟨x, h1, h2, d, e, a, t⟩
theorem sl_al {As Hs : List HP} {M : Kn} {h : Res} (s : SL (Al As :: Hs) M h) : SL (As ++ Hs) M h := by
 obtain ⟨h1, h2, d, e, a, t⟩ := s
 subst e
 exact SL.append d a t
theorem sl_pu {p : Prop} {Hs : List HP} {M : Kn} {h : Res} (s : SL (Pu p :: Hs) M h) : p ∧ SL Hs M h := by
 obtain ⟨h1, h2, d, e, a, t⟩ := s
 subst e
 exact ⟨a, SL.more d t⟩
/-! Shutting. -/
theorem ent_ex {X : Type} {f : X → HP} {Hs Rs : List HP} (x : X) (e : Ent Hs (f x :: Rs)) : Ent Hs (Ex f :: Rs) := ⟨fun s => by
 obtain ⟨h1, h2, d, e', a, t⟩ := e s
 exact ⟨h1, h2, d, e', ⟨x, a⟩, t⟩⟩
theorem ent_al {As Hs Rs Gs : List HP} [q : AppC As Rs Gs] (e : Ent Hs Gs) : Ent Hs (Al As :: Rs) := ⟨fun s => by
 have s2 := e s
 rw [← q.get] at s2
 obtain ⟨h1, h2, d, e', a, t⟩ := SL.split s2
 exact ⟨h1, h2, d, e', a, t⟩⟩
theorem ent_pu {p : Prop} {Hs Rs : List HP} (hp : p) (e : Ent Hs Rs) : Ent Hs (Pu p :: Rs) := ⟨fun {M h} s => ⟨Res.emp, h, Res.emp_dj _, rfl, hp, e s⟩⟩
/-- First what is picked; the rest out of what is left. -/
theorem ent_cons {A : HP} {Hs Rs Gs : List HP} [h : PickC A Hs Rs] (e : Ent Rs Gs) : Ent Hs (A :: Gs) := ⟨fun s => by
 obtain ⟨h1, h2, d, e', a, t⟩ := h.get.sat s
 exact ⟨h1, h2, d, e', a, e t⟩⟩
theorem ent_step {A : HP} {Hs Rs Gs : List HP} (e : Ent Hs (A :: Rs)) (k : Ent Rs Gs) : Ent Hs (A :: Gs) := ⟨fun s => by
 obtain ⟨h1, h2, d, e', a, t⟩ := e s
 exact ⟨h1, h2, d, e', a, k t⟩⟩
section
variable {r : Option Nat} {P : Program} {n : Nat} {ops : Array Oper} {os : List Oper} {L : Loc} {Hs : List HP} {Q : Out} {c : Code}
theorem wc_exi {X : Type} {f : X → HP} (k : ∀ x, wc r P n c L (f x :: Hs) Q) : wc r P n c L (Ex f :: Hs) Q := wc_ex sl_ex k
theorem wc_al {As Rs : List HP} [q : AppC As Hs Rs] (k : wc r P n c L Rs Q) : wc r P n c L (Al As :: Hs) Q := wc_ent' ⟨fun s => by rw [← q.get]; exact sl_al s⟩ k
theorem wo_al {As Rs : List HP} [q : AppC As Hs Rs] (k : wo r P n ops os L Rs Q) : wo r P n ops os L (Al As :: Hs) Q := wo_ent' ⟨fun s => by rw [← q.get]; exact sl_al s⟩ k
theorem wc_pu {p : Prop} (k : p → wc r P n c L Hs Q) : wc r P n c L (Pu p :: Hs) Q := by
 intro a M m s
 obtain ⟨g1, g2, dg, e, y, s2⟩ := s.2
 obtain ⟨hp, s3⟩ := sl_pu s2
 exact k hp a M m ⟨s.1, g1, g2, dg, e, y, s3⟩
theorem wc_front (A : HP) {Rs : List HP} [h : PickC A Hs Rs] (k : wc r P n c L (A :: Rs) Q) : wc r P n c L Hs Q := wc_ent' (Picks.ent (.cons h.get .nil)) k
theorem wo_front (A : HP) {Rs : List HP} [h : PickC A Hs Rs] (k : wo r P n ops os L (A :: Rs) Q) : wo r P n ops os L Hs Q := wo_ent' (Picks.ent (.cons h.get .nil)) k
/-- A block is given up for good: all may read it from now on. -/
theorem freeze_sat {b : Nat} {o : Obj} {w : World} {M : Kn} {h : Res} (d : (Res.one b o).dj h) (t : Sat w M ((Res.one b o).add h)) : ∃ M' : Kn, M.le M' ∧ M'.im b = some o ∧ Sat w M' h := by
 have hM : M.im b = none := by
  rcases t.dj b with e | e
  · exact e
  · simp [Res.add, Res.one] at e
 have hh : h b = none := by
  rcases d b with e | e
  · simp [Res.one] at e
  · exact e
 refine ⟨⟨fun i => if i = b then some o else M.im i, M.g⟩, ⟨fun i u e => ?_, rfl⟩, by simp, ⟨fun i u e => ?_, fun i u e => ?_, fun i => ?_, t.env⟩⟩
 · have : i ≠ b := fun x => by subst x; rw [hM] at e; cases e
   simp [this, e]
 · by_cases hi : i = b
   · subst hi; simp at e; subst e; exact t.ow _ _ (by simp [Res.add, Res.one])
   · simp only [hi, if_false] at e; exact t.im i u e
 · exact t.ow i u (Res.le_add_right d i u e)
 · by_cases hi : i = b
   · subst hi; exact .inr hh
   · rcases t.dj i with e | e
     · exact .inl (by simp [hi, e])
     · exact .inr (by simpa [Res.add, Res.one, hi] using e)
end
end
end Go.Proofs.YtdnoacgopfcpbaaGreat
