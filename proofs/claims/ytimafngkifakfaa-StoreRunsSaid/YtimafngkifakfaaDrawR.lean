/- Rules for regions that draw, as the printed walks use them. -/
import Derived.Test.YtimafngkifakfaaDraw
set_option linter.unusedVariables false
set_option linter.unusedSimpArgs false
namespace Go.Proofs.Ytimafngkifakfaa
section
variable {r : Option Nat} {P : Program} {n : Nat} {ops : Array Oper} {A : List HP} {L : Loc} {Hs : List HP} {Q : Out}

theorem d_draw {c : Code} {id : Nat} {l : List Oper} {Rs : List HP} (hc : c = .region id l.toArray true) (hm : P.follows .mixedOrders = true) (hnd : noDefer l.toArray = true) (A : List HP) [hp : PicksC A Hs Rs]
    (h : An r P n l.toArray A Q l.length (Array.replicate l.length false) L Rs) : wc r P n c L Hs Q := p_draw hc hm hnd A Rs hp.get.ent h

/-- A quiet operation, taken first. -/
theorem d_first (i : Nat) {o : Oper} {v : Value} {k : Nat} {ls : Array Bool} (hnd : noDefer ops = true) (ho : ops[i]? = some o) (hd : dstOk n o.dst = true) (hr : (Region.ready .any ops ls).contains i = true) (hf : free ops ls i o = true)
    (t : Tells P n ops o A L v) (h : An r P n ops A Q k (ls.setIfInBounds i true) (putL o.dst v L) Hs) : An r P n ops A Q (k + 1) ls L Hs :=
  An.first hnd ho hd k ls L Hs (by simpa using hr) hf t h

theorem tl_pv {op : Op} {ty : TypeId} {v : Value} {dst : Option Tmp} {pos : String} {after : Array Edge} (h : PV P n L op ty v) : Tells P n ops ⟨dst, op, ty, pos, after, none⟩ A L v :=
  .inr ⟨.inl rfl, fun a f w M hA hf dj s t => h.run a f w _ _ _ _⟩
theorem tl_pvg {op : Op} {ty : TypeId} {v : Value} {dst : Option Tmp} {pos : String} {after : Array Edge} {j : Nat} {b : Bool} (hj : gd ops L j = some (.bool b)) (h : PV P n L op ty v) : Tells P n ops ⟨dst, op, ty, pos, after, some (j, b)⟩ A L v :=
  .inr ⟨.inr ⟨j, b, rfl, hj⟩, fun a f w M hA hf dj s t => h.run a f w _ _ _ _⟩
theorem tl_out {op : Op} {ty : TypeId} {dst : Option Tmp} {pos : String} {after : Array Edge} {j : Nat} {b want : Bool} (hj : gd ops L j = some (.bool b)) (hb : (b == want) = false) : Tells P n ops ⟨dst, op, ty, pos, after, some (j, want)⟩ A L undef :=
  .inl ⟨j, want, b, rfl, hj, hb, rfl⟩
theorem shows_cell' {B : HP} {b : Nat} {l : List Value} (sh : Shows B b l) (hB : Has B A) {w : World} {M : Kn} {hA hf : Res} (s : SL A M hA) (t : Sat w M (hA.add hf)) (off : Nat) : w.cell? ⟨b, off, none⟩ = l[off]? := by
  obtain ⟨h1, le, x⟩ := hB.sat s
  exact shows_cell sh t le x off
theorem tl_load {t ty : TypeId} {td : TypeDesc} {x : Operand} {b off : Nat} {l : List Value} {v : Value} {dst : Option Tmp} {pos : String} {after : Array Edge} (ht : P.underlying t = some td) (hfl : flat td = true)
    (hx : ev L x = some (.pointer (some ⟨b, off, none⟩))) [hr : RdCe b l A] (hv : l[off]? = some v) : Tells P n ops ⟨dst, .load t x, ty, pos, after, none⟩ A L v := by
  obtain ⟨B, sh, hB⟩ := hr.get
  refine .inr ⟨.inl rfl, fun a f w M hA hf dj s t' => ?_⟩
  have hc := shows_cell' sh hB s t' off
  rw [hv] at hc
  simp [execOp, f.ev hx, Instr.loadAt, Instr.sureAddr, loadVar, isAgg_flat ht hfl, run_load, hc]
theorem tl_loada {t ty : TypeId} {td : TypeDesc} {x : Operand} {b off : Nat} {l vs : List Value} {ti : TypeInfo} {dst : Option Tmp} {pos : String} {after : Array Edge} (ht : P.underlying t = some td) (hfl : flat td = false) (hi : P.info? t = some ti)
    (hx : ev L x = some (.pointer (some ⟨b, off, none⟩))) [hr : RdCe b l A] (hl : off + ti.size ≤ l.length) (hv : (l.drop off).take ti.size = vs) : Tells P n ops ⟨dst, .load t x, ty, pos, after, none⟩ A L (.agg vs.toArray) := by
  obtain ⟨B, sh, hB⟩ := hr.get
  refine .inr ⟨.inl rfl, fun a f w M hA hf dj s t' => ?_⟩
  have hc := run_loadCells_at (P := P) (sz := ti.size) (fun j => shows_cell' sh hB s t' (off + j)) hl
  rw [hv] at hc
  simp [execOp, f.ev hx, Instr.loadAt, Instr.sureAddr, loadVar, isAgg_agg ht hfl, sizeOf, typeInfo, program, Sem.run, hi, hc]
/-- A guard that is let through is no matter. -/
theorem tl_in {op : Op} {ty : TypeId} {v : Value} {dst : Option Tmp} {pos : String} {after : Array Edge} {j : Nat} {b : Bool} (hj : gd ops L j = some (.bool b)) (h : Tells P n ops ⟨dst, op, ty, pos, after, none⟩ A L v) :
    Tells P n ops ⟨dst, op, ty, pos, after, some (j, b)⟩ A L v := by
  rcases h with ⟨j', want, b', hg, _⟩ | ⟨_, run⟩
  · cases hg
  · exact .inr ⟨.inr ⟨j, b, rfl, hj⟩, run⟩

/-- One operation is next, and no other. -/
theorem d_next (j : Nat) {o : Oper} {k : Nat} {ls : Array Bool} (hr : Region.ready .any ops ls = [j]) (ho : ops[j]? = some o) (h : AnOp r P n ops A o (fun L' Hs' => An r P n ops A Q k (ls.setIfInBounds j true) L' Hs') L Hs) :
    An r P n ops A Q (k + 1) ls L Hs := ⟨(fun e => by rw [hr] at e; cases e), fun i hi => by
      rw [hr] at hi
      have : i = j := by simpa using hi
      subst this
      exact ⟨o, ho, h⟩⟩
theorem d_next2 (j1 j2 : Nat) {o1 o2 : Oper} {k : Nat} {ls : Array Bool} (hr : Region.ready .any ops ls = [j1, j2]) (ho1 : ops[j1]? = some o1) (ho2 : ops[j2]? = some o2)
    (h1 : AnOp r P n ops A o1 (fun L' Hs' => An r P n ops A Q k (ls.setIfInBounds j1 true) L' Hs') L Hs)
    (h2 : AnOp r P n ops A o2 (fun L' Hs' => An r P n ops A Q k (ls.setIfInBounds j2 true) L' Hs') L Hs) :
    An r P n ops A Q (k + 1) ls L Hs := ⟨(fun e => by rw [hr] at e; cases e), fun i hi => by
      rw [hr] at hi
      simp only [List.mem_cons, List.not_mem_nil, or_false] at hi
      rcases hi with rfl | rfl
      · exact ⟨o1, ho1, h1⟩
      · exact ⟨o2, ho2, h2⟩⟩
theorem d_next3 (j1 j2 j3 : Nat) {o1 o2 o3 : Oper} {k : Nat} {ls : Array Bool} (hr : Region.ready .any ops ls = [j1, j2, j3]) (ho1 : ops[j1]? = some o1) (ho2 : ops[j2]? = some o2) (ho3 : ops[j3]? = some o3)
    (h1 : AnOp r P n ops A o1 (fun L' Hs' => An r P n ops A Q k (ls.setIfInBounds j1 true) L' Hs') L Hs)
    (h2 : AnOp r P n ops A o2 (fun L' Hs' => An r P n ops A Q k (ls.setIfInBounds j2 true) L' Hs') L Hs)
    (h3 : AnOp r P n ops A o3 (fun L' Hs' => An r P n ops A Q k (ls.setIfInBounds j3 true) L' Hs') L Hs) :
    An r P n ops A Q (k + 1) ls L Hs := ⟨(fun e => by rw [hr] at e; cases e), fun i hi => by
      rw [hr] at hi
      simp only [List.mem_cons, List.not_mem_nil, or_false] at hi
      rcases hi with rfl | rfl | rfl
      · exact ⟨o1, ho1, h1⟩
      · exact ⟨o2, ho2, h2⟩
      · exact ⟨o3, ho3, h3⟩⟩
theorem d_done {ls : Array Bool} (hr : Region.ready .any ops ls = []) (h : tw n Q .normal L (A ++ Hs)) : An r P n ops A Q 0 ls L Hs := ⟨hr, h⟩

/-! Operations with effects. -/
theorem an_in {K : Loc → List HP → Prop} {op : Op} {ty : TypeId} {dst : Option Tmp} {pos : String} {after : Array Edge} {j : Nat} {b : Bool} (hj : gd ops L j = some (.bool b)) (h : AnOp r P n ops A ⟨dst, op, ty, pos, after, none⟩ K L Hs) :
    AnOp r P n ops A ⟨dst, op, ty, pos, after, some (j, b)⟩ K L Hs := by
  obtain ⟨hd, h⟩ := h
  refine ⟨hd, ?_⟩
  rcases h with ⟨j', want, b', hg, _⟩ | ⟨_, rest⟩
  · cases hg
  · exact .inr ⟨.inr ⟨j, b, rfl, hj⟩, rest⟩
theorem an_out {K : Loc → List HP → Prop} {op : Op} {ty : TypeId} {dst : Option Tmp} {pos : String} {after : Array Edge} {j : Nat} {b want : Bool} (hj : gd ops L j = some (.bool b)) (hb : (b == want) = false) (hd : dstOk n dst = true) (h : K (putL dst undef L) Hs) :
    AnOp r P n ops A ⟨dst, op, ty, pos, after, some (j, want)⟩ K L Hs := ⟨hd, .inl ⟨j, want, b, rfl, hj, hb, h⟩⟩

theorem an_call {K : Loc → List HP → Prop} {f : Operand} {args : Array Operand} {argTypes : Array TypeId} {ty : TypeId} {d g : Nat} {pos : String} {after : Array Edge} {vs cap : List Value}
    {As Rs : List HP} {X : Type} {val : X → Value} {φ : X → Prop} {Bs : X → List HP}
    (sp : Sp P g (vs ++ cap) As val φ Bs) (hf : ev L f = some (.func (.func g) #[] cap.toArray)) (ha : evs L args.toList = some vs) (hd : Nat.blt d n = true) [hp : PicksC As Hs Rs]
    (k : ∀ x, φ x → K ((d, val x) :: L) (Bs x ++ Rs)) : AnOp r P n ops A ⟨some d, .call ⟨.value f, args, argTypes⟩, ty, pos, after, none⟩ K L Hs := by
  refine ⟨hd, .inr ⟨.inl rfl, X, val, φ, As, Rs, Bs, hp.get.ent, ?_, k⟩⟩
  intro a fr w M h hA hfr dj dj' s sA t
  have hargs : args.map a.eval = vs.toArray := by
    have := fr.evs _ ha
    apply Array.ext'
    simp [this]
  have hrun : (execOp a.eval ⟨some d, .call ⟨.value f, args, argTypes⟩, ty, pos, after, none⟩).run P w = .ok (.enter g (vs ++ cap).toArray) w := by
    simp only [execOp, resolve, fr.ev hf, Deferred.ofValue, hargs, Sem.run_bind, Sem.run_pure, Result.andThen_ok, invoke]
    have := sp.enters (vs ++ cap).toArray w
    simpa using this
  rw [hrun]
  obtain ⟨x1, x2⟩ := Res.dj_add_left.1 dj'
  have c := sp.calls w M h (hA.add hfr) (Res.dj_add_right.2 ⟨dj, x1⟩) (by rw [← Res.add_assoc]; exact t) s
  refine CallsIn.mono (F := WF none) c ?_
  rintro e w' ⟨x, M', h', rfl, p, l, dj2, t', s'⟩
  obtain ⟨y1, y2⟩ := Res.dj_add_right.1 dj2
  exact ⟨_, rfl, x, M', h', rfl, p, l, y1, Res.dj_add_left.2 ⟨y2, x2⟩, by rw [Res.add_assoc]; exact t', s'⟩
theorem an_callF {K : Loc → List HP → Prop} {f : Operand} {args : Array Operand} {argTypes : Array TypeId} {ty : TypeId} {d g : Nat} {pos : String} {after : Array Edge} {vs : List Value} {v : Value}
    (sp : SpF P g vs v) (hf : ev L f = some (.func (.func g) #[] #[])) (ha : evs L args.toList = some vs) (hd : Nat.blt d n = true)
    (k : K ((d, v) :: L) Hs) : AnOp r P n ops A ⟨some d, .call ⟨.value f, args, argTypes⟩, ty, pos, after, none⟩ K L Hs :=
  an_call (cap := []) (As := []) (Rs := Hs) (by rw [List.append_nil]; exact sp) hf ha hd (fun _ _ => k)
theorem an_call1 {K : Loc → List HP → Prop} {f : Operand} {args : Array Operand} {argTypes : Array TypeId} {ty : TypeId} {d g : Nat} {pos : String} {after : Array Edge} {vs : List Value} {v : Value} {As Bs Rs : List HP}
    (sp : Sp1 P g vs As v Bs) (hf : ev L f = some (.func (.func g) #[] #[])) (ha : evs L args.toList = some vs) (hd : Nat.blt d n = true) [hp : PicksC As Hs Rs]
    (k : K ((d, v) :: L) (Bs ++ Rs)) : AnOp r P n ops A ⟨some d, .call ⟨.value f, args, argTypes⟩, ty, pos, after, none⟩ K L Hs :=
  an_call (cap := []) (by rw [List.append_nil]; exact sp) hf ha hd (fun _ _ => k)

/-- A new block. -/
theorem an_new {K : Loc → List HP → Prop} {op : Op} {ty : TypeId} {d : Nat} {pos : String} {after : Array Edge} {o : Obj} {val : Nat → Value} (hd : Nat.blt d n = true)
    (hrun : ∀ (a : Act), Fr n L a → ∀ (w : World) (dst : Option Tmp) (pos : String) (after : Array Edge) (guard : Option (Nat × Bool)),
      (execOp a.eval ⟨dst, op, ty, pos, after, guard⟩).run P w = .ok (.value (val w.heap.size)) (w.alloc o))
    (k : ∀ b, K ((d, val b) :: L) (Blk b o :: Hs)) : AnOp r P n ops A ⟨some d, op, ty, pos, after, none⟩ K L Hs := by
  refine ⟨hd, .inr ⟨.inl rfl, Nat, val, fun _ => True, [], Hs, fun b => [Blk b o], Ent.refl _, ?_, fun b _ => k b⟩⟩
  intro a fr w M h hA hf dj dj' s sA t
  rw [hrun a fr w]
  have t2 := t.alloc o
  obtain ⟨f1, f2⟩ := fresh_none t
  obtain ⟨f3, f4⟩ := Res.add_none.1 f2
  obtain ⟨f5, f6⟩ := Res.add_none.1 f3
  refine ⟨w.heap.size, M, (Res.one w.heap.size o).add h, rfl, trivial, Kn.le_refl _, Res.dj_add_left.2 ⟨one_dj f6, dj⟩, ?_, ?_, Res.one w.heap.size o, h, one_dj f5, rfl, rfl, trivial⟩
  · obtain ⟨x1, x2⟩ := Res.dj_add_left.1 dj'
    exact Res.dj_add_left.2 ⟨Res.dj_add_left.2 ⟨one_dj f4, x1⟩, x2⟩
  · rw [Res.add_assoc, Res.add_assoc]
    rw [Res.add_assoc] at t2
    exact t2
theorem an_alloc {K : Loc → List HP → Prop} {t ty : TypeId} {d : Nat} {pos : String} {after : Array Edge} {ti : TypeInfo} {z : Value} {zs : List Value} (hi : P.info? t = some ti) (hz : ti.zero = some z) (hzs : z.cells.toList = zs) (hd : Nat.blt d n = true)
    (k : ∀ b, K ((d, .pointer (some ⟨b, 0, none⟩)) :: L) (Ce b t zs :: Hs)) : AnOp r P n ops A ⟨some d, .alloc t, ty, pos, after, none⟩ K L Hs := by
  refine an_new (o := .cells zs.toArray t (0, 0)) (val := fun b => .pointer (some ⟨b, 0, none⟩)) hd (fun a f w _ _ _ _ => ?_) k
  subst hzs
  simp [execOp, Instr.alloc, zeroValue, typeInfo, program, Sem.run, hi, hz, newVar, newRow, newObj]
theorem an_box {K : Loc → List HP → Prop} {t ty : TypeId} {d : Nat} {pos : String} {after : Array Edge} {x : Operand} {v : Value} {vs : List Value} (hx : ev L x = some v) (hv : v.cells.toList = vs) (hd : Nat.blt d n = true)
    (k : ∀ b, K ((d, .pointer (some ⟨b, 0, none⟩)) :: L) (Ce b t vs :: Hs)) : AnOp r P n ops A ⟨some d, .box t x, ty, pos, after, none⟩ K L Hs := by
  refine an_new (o := .cells vs.toArray t (0, 0)) (val := fun b => .pointer (some ⟨b, 0, none⟩)) hd (fun a f w _ _ _ _ => ?_) k
  subst hv
  simp [execOp, f.ev hx, Instr.box, newVar, newRow, newObj, Sem.run]
theorem an_buildSliceL {K : Loc → List HP → Prop} {t e ty : TypeId} {d : Nat} {pos : String} {after : Array Edge} {ti : TypeInfo} {z : Value} {len : Nat} {ps : List (Nat × Operand)} (vs : List Value) {cs : List Value} (ht : P.underlying t = some (.slice e)) (hi : P.info? e = some ti) (hz : ti.zero = some z) (hzs : Nat.beq z.cells.size ti.size = true)
    (hps : evps L ps = some (parts 0 vs)) (hlen : vs.length = len) (hv : vs.all (fun v => Nat.beq v.cells.size ti.size) = true) (hsm : Nat.ble (vs.length * ti.size) 16777216 = true) (hcs : vs.flatMap (·.cells.toList) = cs) (hd : Nat.blt d n = true)
    (k : ∀ b, K ((d, .slice (some ⟨b, 0, none⟩) len len) :: L) (Ce b e cs :: Hs)) : AnOp r P n ops A ⟨some d, .buildSlice t len ps.toArray, ty, pos, after, none⟩ K L Hs := by
  subst hlen
  refine an_new (o := .cells cs.toArray e (0, 0)) (val := fun b => .slice (some ⟨b, 0, none⟩) vs.length vs.length) hd (fun a f w _ _ _ _ => ?_) k
  rw [← hcs]
  have e1 := f.evpsa hps
  have := run_buildSlice ht hi hz (Nat.eq_of_beq_eq_true hzs) (fun v hv' => Nat.eq_of_beq_eq_true (by have := List.all_eq_true.1 hv v hv'; simpa using this)) (Nat.le_of_ble_eq_true hsm) w
  simp only [execOp]
  rw [show (Array.map (fun x => match x with | (i, x) => (i, a.eval x)) ps.toArray) = (parts 0 vs).toArray from e1]
  simp [this]

/-- What only reads its own. -/
theorem an_read {K : Loc → List HP → Prop} {B : HP} {op : Op} {ty : TypeId} {d : Nat} {pos : String} {after : Array Edge} {v : Value} (hB : Has B Hs) (hd : Nat.blt d n = true)
    (hrun : ∀ (a : Act), Fr n L a → ∀ (w : World) (M : Kn) (h h1 hf : Res), Sat w M (h.add hf) → h1.le h → B.at_ M h1 → ∀ (dst : Option Tmp) (pos : String) (after : Array Edge) (guard : Option (Nat × Bool)),
      (execOp a.eval ⟨dst, op, ty, pos, after, guard⟩).run P w = .ok (.value v) w)
    (k : K ((d, v) :: L) Hs) : AnOp r P n ops A ⟨some d, op, ty, pos, after, none⟩ K L Hs := by
  refine ⟨hd, .inr ⟨.inl rfl, Unit, fun _ => v, fun _ => True, Hs, [], fun _ => Hs, by rw [List.append_nil]; exact Ent.refl Hs, ?_, fun _ _ => by simpa [putL] using k⟩⟩
  intro a fr w M h hA hf dj dj' s sA t
  obtain ⟨h1, le, x⟩ := hB.sat s
  rw [Res.add_assoc] at t
  rw [hrun a fr w M h h1 (hA.add hf) t le x]
  exact ⟨(), M, h, rfl, trivial, Kn.le_refl _, dj, dj', by rw [Res.add_assoc]; exact t, s⟩
theorem an_b2s {K : Loc → List HP → Prop} {s t e ty : TypeId} {d : Nat} {pos : String} {after : Array Edge} {x : Operand} {b len cap : Nat} {l : List UInt8} {m : List Value} (hs : P.underlying s = some (.slice e)) (ht : P.underlying t = some .string) (he : P.underlying e = some (.int .u8))
    (hx : ev L x = some (.slice (some ⟨b, 0, none⟩) len cap)) [hr : RdCe b m Hs] (hm : m.take len = vUs l) (hl : len ≤ m.length) (hd : Nat.blt d n = true)
    (k : K ((d, vS l) :: L) Hs) : AnOp r P n ops A ⟨some d, .convert s t x, ty, pos, after, none⟩ K L Hs := by
  obtain ⟨B, sh, hB⟩ := hr.get
  have hlen : l.length = len := by have := congrArg List.length hm; simp [vUs] at this; omega
  refine an_read hB hd (fun a f w M h h1 hf t' le y _ _ _ _ => ?_) k
  have hc : ∀ j, j < l.length → w.cell? ⟨b, j, none⟩ = some (vU ((l.getD j 0).toNat : Int)) := fun j hj => by
    rw [shows_cell sh t' le y j]
    have : (m.take len)[j]? = (vUs l)[j]? := by rw [hm]
    rw [List.getElem?_take_of_lt (by omega)] at this
    rw [this]; simp [vUs, hj]
  have hb := run_b2s (P := P) (cap := cap) hc hlen.symm
  simp [execOp, f.ev hx, convert, run_underlying hs, run_underlying ht, run_underlying he, hb]

/-- One block is turned. -/
theorem an_turn {K : Loc → List HP → Prop} {B C : HP} {Gs : List HP} {op : Op} {ty : TypeId} {pos : String} {after : Array Edge} (hu : Upd B C Hs Gs)
    (hrun : ∀ (a : Act), Fr n L a → ∀ (w : World) (M : Kn) (h1 hf : Res), h1.dj hf → Sat w M (h1.add hf) → B.at_ M h1 → ∃ (w' : World) (M' : Kn) (h1' : Res), M.le M' ∧ h1'.dj hf ∧ Sat w' M' (h1'.add hf) ∧ C.at_ M' h1' ∧
      ∀ (dst : Option Tmp) (pos : String) (after : Array Edge) (guard : Option (Nat × Bool)), (execOp a.eval ⟨dst, op, ty, pos, after, guard⟩).run P w = .ok .skip w')
    (k : K L Gs) : AnOp r P n ops A ⟨none, op, ty, pos, after, none⟩ K L Hs := by
  refine ⟨rfl, .inr ⟨.inl rfl, Unit, fun _ => undef, fun _ => True, Hs, [], fun _ => Gs, by rw [List.append_nil]; exact Ent.refl Hs, ?_, fun _ _ => by simpa [putL] using k⟩⟩
  intro a fr w M h hA hf dj dj' s sA t
  obtain ⟨h1, h2, d12, e, hb, upd⟩ := hu.sat s
  subst e
  obtain ⟨x1, x2⟩ := Res.dj_add_left.1 dj'
  obtain ⟨x3, x4⟩ := Res.dj_add_left.1 x1
  obtain ⟨y1, y2⟩ := Res.dj_add_left.1 dj
  have eq : ((h1.add h2).add hA).add hf = h1.add ((h2.add hA).add hf) := by simp only [Res.add_assoc]
  rw [eq] at t
  obtain ⟨w', M', h1', le, dj2, t', hc, hr⟩ := hrun a fr w M h1 ((h2.add hA).add hf) (Res.dj_add_right.2 ⟨Res.dj_add_right.2 ⟨d12, y1⟩, x3⟩) t hb
  rw [hr]
  obtain ⟨z1, z2⟩ := Res.dj_add_right.1 dj2
  obtain ⟨z3, z4⟩ := Res.dj_add_right.1 z1
  refine ⟨(), M', h1'.add h2, rfl, trivial, le, Res.dj_add_left.2 ⟨z4, y2⟩, Res.dj_add_left.2 ⟨Res.dj_add_left.2 ⟨z2, x4⟩, x2⟩, ?_, upd M' h1' le z3 hc⟩
  have eq2 : ((h1'.add h2).add hA).add hf = h1'.add ((h2.add hA).add hf) := by simp only [Res.add_assoc]
  rw [eq2]; exact t'
theorem an_store {K : Loc → List HP → Prop} {t ty : TypeId} {ti : TypeInfo} {x y : Operand} {b off : Nat} {T : TypeId} {l : List Value} {v : Value} {Gs : List HP} {pos : String} {after : Array Edge} (hi : P.info? t = some ti) (hs : Nat.beq ti.size 1 = true)
    (hx : ev L x = some (.pointer (some ⟨b, off, none⟩))) (hy : ev L y = some v) [hu : StC b off v T l Hs Gs] (h1 : oneCell v = true) (ho : off < l.length)
    (k : K L Gs) : AnOp r P n ops A ⟨none, .store t x y, ty, pos, after, none⟩ K L Hs := by
  refine an_turn hu.get (fun a f w M m hf dj s ha => ?_) k
  have ha' : m = Res.one b _ := ha
  subst ha'
  have hb : w.heap[b]? = some (.cells l.toArray T (0, 0)) := s.ow _ _ (by simp [Res.add, Res.one])
  refine ⟨w.setCell ⟨b, off, none⟩ v, M, Res.one b (.cells (l.set off v).toArray T (0, 0)), Kn.le_refl _, dj_one_any dj, Sat.setBlk dj s (setCell_at hb) (fun i hi => setCell_other hi) (env_setCell _ _ _), rfl, fun _ _ _ _ => ?_⟩
  have hsz : ti.size = 1 := Nat.eq_of_beq_eq_true hs
  have hvc : v.cells = #[v] := by cases v <;> simp_all [Value.cells, oneCell]
  have hst := run_store_ce (P := P) hb h1 ho
  simp [execOp, f.ev hx, f.ev hy, Instr.storeAt, Instr.sureAddr, storeVar, hvc, sizeOf, typeInfo, program, Sem.run, hi, hsz, storeCells, addr_add, hst]
theorem an_storea {K : Loc → List HP → Prop} {t ty : TypeId} {ti : TypeInfo} {x y : Operand} {b off : Nat} {T : TypeId} {l vs : List Value} {Gs : List HP} {pos : String} {after : Array Edge} (hi : P.info? t = some ti) (hs : Nat.beq ti.size vs.length = true)
    (hx : ev L x = some (.pointer (some ⟨b, off, none⟩))) (hy : ev L y = some (.agg vs.toArray)) [hu : StsC b off vs T l Hs Gs] (h1 : vs.all oneCell = true) (ho : off + vs.length ≤ l.length)
    (k : K L Gs) : AnOp r P n ops A ⟨none, .store t x y, ty, pos, after, none⟩ K L Hs := by
  refine an_turn hu.get (fun a f w M m hf dj s ha => ?_) k
  have ha' : m = Res.one b _ := ha
  subst ha'
  have hb : w.heap[b]? = some (.cells l.toArray T (0, 0)) := s.ow _ _ (by simp [Res.add, Res.one])
  obtain ⟨w', hr, hb', ho', he'⟩ := run_storeCells_ce (P := P) vs w l off 0 hb h1 ho
  refine ⟨w', M, Res.one b (.cells (setAt l off vs).toArray T (0, 0)), Kn.le_refl _, dj_one_any dj, Sat.setBlk dj s hb' ho' he', rfl, fun _ _ _ _ => ?_⟩
  have hsz : ti.size = vs.length := Nat.eq_of_beq_eq_true hs
  simp [execOp, f.ev hx, f.ev hy, Instr.storeAt, Instr.sureAddr, storeVar, Value.cells, sizeOf, typeInfo, program, Sem.run, hi, hsz, hr]
theorem d_gsplit {j s : Nat} {b : Bool} {k : Nat} {ls : Array Bool} (hj : (ops[j]?).bind (·.dst) = some s) (hs : lk L s = some (.bool b))
    (ht : b = true → An r P n ops A Q k ls ((s, .bool true) :: L) Hs) (hf : b = false → An r P n ops A Q k ls ((s, .bool false) :: L) Hs) : An r P n ops A Q k ls L Hs := by
  have key : ∀ u : Bool, b = u → An r P n ops A Q k ls ((s, .bool u) :: L) Hs → An r P n ops A Q k ls L Hs := by
    intro u e h
    refine An.leq _ _ _ _ _ (fun i v hv => ?_) h
    simp only [lk] at hv
    by_cases hi : s = i
    · subst hi
      rw [nbeq_self, cond_true] at hv
      rw [hs, e]; exact hv
    · rw [nbeq hi, cond_false] at hv; exact hv
  cases e : b with
  | true => exact key true e (ht e)
  | false => exact key false e (hf e)
theorem d_gite {j s : Nat} {p : Prop} [Decidable p] {k : Nat} {ls : Array Bool} (hj : (ops[j]?).bind (·.dst) = some s) (hs : lk L s = some (.bool (decide p)))
    (ht : p → An r P n ops A Q k ls ((s, .bool true) :: L) Hs) (hf : ¬ p → An r P n ops A Q k ls ((s, .bool false) :: L) Hs) : An r P n ops A Q k ls L Hs :=
  d_gsplit hj hs (fun h => ht (of_decide_eq_true h)) (fun h => hf (of_decide_eq_false h))

/-- One operation with its triple: in a region that draws; in one that doesn't. -/
theorem an_opT {K : Loc → List HP → Prop} {op : Op} {ty : TypeId} {dst : Option Tmp} {pos : String} {after : Array Edge} {X : Type} {val : X → Value} {φ : X → Prop} {As Rs : List HP} {Bs : X → List HP}
    (t : OpT r P n ⟨dst, op, ty, pos, after, none⟩ A L As val φ Bs) (hd : dstOk n dst = true) [hp : PicksC As Hs Rs] (k : ∀ x, φ x → K (putL dst (val x) L) (Bs x ++ Rs)) : AnOp r P n ops A ⟨dst, op, ty, pos, after, none⟩ K L Hs :=
  ⟨hd, .inr ⟨.inl rfl, X, val, φ, As, Rs, Bs, hp.get.ent, t, k⟩⟩
theorem wo_opT {op : Op} {ty : TypeId} {dst : Option Tmp} {pos : String} {after : Array Edge} {os : List Oper} {X : Type} {val : X → Value} {φ : X → Prop} {As Rs : List HP} {Bs : X → List HP}
    (nd : ∀ c, op ≠ .defer c) (t : OpT r P n ⟨dst, op, ty, pos, after, none⟩ [] L As val φ Bs) (hd : dstOk n dst = true) [hp : PicksC As Hs Rs]
    (k : ∀ x, φ x → wo r P n ops os (putL dst (val x) L) (Bs x ++ Rs) Q) : wo r P n ops (⟨dst, op, ty, pos, after, none⟩ :: os) L Hs Q := by
  intro a M m s w hf dj t'
  simp only [wpL, Region.wanted, if_true]
  rw [Oper.semAt_eq _ _ _ nd]
  obtain ⟨h1, h2, h3, d12, d3, e, sd, sr, sa⟩ := split_call s.2 hp.get
  subst e
  obtain ⟨dj1, dj2⟩ := Res.dj_add_left.1 dj
  refine upon_of_opV ?_ _ (t a s.1 w M h3 Res.emp ((h1.add h2).add hf) (Res.dj_emp _) ?_ sa trivial ?_)
  · rintro v w' ⟨x, M', h', rfl, p, l, _, djf, t2, sB⟩
    rw [Res.add_emp] at djf t2
    obtain ⟨y1, y2⟩ := Res.dj_add_right.1 djf
    obtain ⟨y3, y4⟩ := Res.dj_add_right.1 y1
    obtain ⟨z1, z2⟩ := Res.dj_add_left.1 dj2
    obtain ⟨g1, g2, dg, e, y, _⟩ := sd
    subst e
    obtain ⟨x1, x2⟩ := Res.dj_add_left.1 d12
    obtain ⟨x3, x4⟩ := Res.dj_add_right.1 y3
    refine wo_on (k x p) (a := a.put dst (val x)) (M := M') (h := (g1.add g2).add (h'.add h2)) ⟨s.1.putL hd, ?_⟩ l ?_ ?_
    · have hdef : (a.put dst (val x)).defers = a.defers := by cases dst <;> rfl
      rw [hdef, Res.add_assoc]
      refine ⟨g1, g2.add (h'.add h2), ?_, rfl, (Al _).mono l y, SL.more ?_ (SL.append y4 sB (SL.mono l sr))⟩
      · exact Res.dj_add_right.2 ⟨dg, Res.dj_add_right.2 ⟨Res.dj_comm x3, x1⟩⟩
      · exact Res.dj_add_right.2 ⟨Res.dj_comm x4, x2⟩
    · exact Res.dj_add_left.2 ⟨z1, Res.dj_add_left.2 ⟨y2, z2⟩⟩
    · have : ((g1.add g2).add (h'.add h2)).add hf = h'.add (((g1.add g2).add h2).add hf) := by
        rw [← Res.add_assoc (g1.add g2) h' h2, Res.add_comm (Res.dj_comm y3)]
        simp only [Res.add_assoc]
      rw [this]; exact t2
  · rw [Res.add_emp]; exact Res.dj_add_right.2 ⟨d3, dj1⟩
  · rw [Res.add_emp, ← Res.add_assoc]; exact t'
theorem r_callX {f : Operand} {args : Array Operand} {argTypes : Array TypeId} {g : Nat} {vs : List Value} {ty : TypeId} {d : Nat} {pos : String} {after : Array Edge} {os : List Oper}
    {As Rs : List HP} {X : Type} {val : X → Value} {φ : X → Prop} {Bs : X → List HP}
    (sp : Sp P g vs As val φ Bs) (hf : ev L f = some (.func (.func g) #[] #[])) (ha : evs L args.toList = some vs) (hd : Nat.blt d n = true) [hp : PicksC As Hs Rs]
    (k : ∀ x, φ x → wo r P n ops os ((d, val x) :: L) (Bs x ++ Rs) Q) :
    wo r P n ops (⟨some d, .call ⟨.value f, args, argTypes⟩, ty, pos, after, none⟩ :: os) L Hs Q := wo_call (cap := []) (by rw [List.append_nil]; exact sp) hf ha hd hp.get k
theorem an_callX {K : Loc → List HP → Prop} {f : Operand} {args : Array Operand} {argTypes : Array TypeId} {ty : TypeId} {d g : Nat} {pos : String} {after : Array Edge} {vs : List Value}
    {As Rs : List HP} {X : Type} {val : X → Value} {φ : X → Prop} {Bs : X → List HP}
    (sp : Sp P g vs As val φ Bs) (hf : ev L f = some (.func (.func g) #[] #[])) (ha : evs L args.toList = some vs) (hd : Nat.blt d n = true) [hp : PicksC As Hs Rs]
    (k : ∀ x, φ x → K ((d, val x) :: L) (Bs x ++ Rs)) : AnOp r P n ops A ⟨some d, .call ⟨.value f, args, argTypes⟩, ty, pos, after, none⟩ K L Hs :=
  an_call (cap := []) (by rw [List.append_nil]; exact sp) hf ha hd k
end
end Go.Proofs.Ytimafngkifakfaa
