/- Maps whose keys are texts; making slices; copying. -/
import Derived.Test.YtimafngkifakfaaScope
import Derived.Maps.RangeRun
set_option linter.unusedVariables false
set_option linter.unusedSimpArgs false
namespace Go.Proofs.Ytimafngkifakfaa

abbrev Ks := List (List UInt8 × Value)
def mlook : Ks → List UInt8 → Option Value
  | [], _ => none
  | p :: r, k => if p.1 = k then some p.2 else mlook r k
def mput : Ks → List UInt8 → Value → Ks
  | [], k, v => [(k, v)]
  | p :: r, k, v => if p.1 = k then (k, v) :: r else p :: mput r k v
def mdel : Ks → List UInt8 → Ks
  | [], _ => []
  | p :: r, k => if p.1 = k then r else p :: mdel r k
def mfind : Ks → List UInt8 → Nat → Option (Nat × Value)
  | [], _, _ => none
  | p :: r, k, i => if p.1 = k then some (i, p.2) else mfind r k (i + 1)

theorem mfind_none {ks : Ks} {k : List UInt8} : ∀ {i : Nat}, mfind ks k i = none → mlook ks k = none ∧ (∀ v, mput ks k v = ks ++ [(k, v)]) ∧ mdel ks k = ks ∧ k ∉ ks.map (·.1) := by
  induction ks with
  | nil => intro i h; exact ⟨rfl, fun v => rfl, rfl, by simp⟩
  | cons p r ih =>
    intro i h
    simp only [mfind] at h
    split at h
    · cases h
    · rename_i hp
      obtain ⟨h1, h2, h3, h4⟩ := ih h
      simp only [mlook, mput, mdel, hp, if_false, h1, h2, h3, true_and]
      refine ⟨fun v => by simp, ?_⟩
      simp only [List.map_cons, List.mem_cons, not_or]
      exact ⟨fun e => hp e.symm, h4⟩
theorem mfind_some {ks : Ks} {k : List UInt8} {v : Value} : ∀ {i j : Nat}, mfind ks k i = some (j, v) → ∃ m, j = i + m ∧ m < ks.length ∧ mlook ks k = some v ∧ ks[m]? = some (k, v) ∧ (∀ u, mput ks k u = ks.set m (k, u)) ∧ mdel ks k = ks.eraseIdx m := by
  induction ks with
  | nil => intro i j h; simp [mfind] at h
  | cons p r ih =>
    intro i j h
    simp only [mfind] at h
    split at h
    · rename_i hp
      simp only [Option.some.injEq, Prod.mk.injEq] at h
      obtain ⟨rfl, rfl⟩ := h
      refine ⟨0, rfl, by simp, by simp [mlook, hp], by simp [← hp], fun u => by simp [mput, hp], by simp [mdel, hp]⟩
    · rename_i hp
      obtain ⟨m, rfl, h2, h3, h4, h5, h6⟩ := ih h
      refine ⟨m + 1, by omega, by simp; omega, by simp [mlook, hp, h3], by simpa using h4, fun u => by simp [mput, hp, h5], by simp [mdel, hp, h6]⟩

/-- A map's entries, and what they are taken for. -/
structure MapG (es : Array MapEntry) (clock : Nat) (ks : Ks) : Prop where
  eq : es.toList.map (fun e => (e.key, e.val)) = ks.map (fun p => (vS p.1, p.2))
  old : ∀ e ∈ es.toList, e.born < clock
  born : (es.toList.map (·.born)).Nodup
  keys : (ks.map (·.1)).Nodup
theorem MapG.nil : MapG #[] 0 [] := ⟨rfl, by simp, by simp, by simp⟩
theorem MapG.size {es : Array MapEntry} {clock : Nat} {ks : Ks} (g : MapG es clock ks) : es.size = ks.length := by
  have := congrArg List.length g.eq
  simpa using this
def MapS (b : Nat) (ks : Ks) : HP := ⟨fun _ h => ∃ es clock, h = Res.one b (.map es clock) ∧ MapG es clock ks, fun _ e => e⟩

theorem findNow_eq (k : List UInt8) : ∀ (es : List MapEntry) (ks : Ks) (i : Nat), es.map (fun e => (e.key, e.val)) = ks.map (fun p => (vS p.1, p.2)) → Instr.findNow .string (vS k) es i = some (mfind ks k i) := by
  intro es
  induction es with
  | nil => intro ks i h; cases ks with
    | nil => rfl
    | cons _ _ => simp at h
  | cons e es ih =>
    intro ks i h
    cases ks with
    | nil => simp at h
    | cons p r =>
      simp only [List.map_cons, List.cons.injEq, Prod.mk.injEq] at h
      obtain ⟨⟨h1, h2⟩, h3⟩ := h
      have e1 : Instr.sameNow .string (vS k) e.key = some (decide (k = p.1)) := by rw [h1]; simp [Instr.sameNow, mk_eq]
      simp only [Instr.findNow, e1, mfind]
      by_cases hk : p.1 = k
      · simp [hk, h2]
      · have : k ≠ p.1 := fun e => hk e.symm
        simp only [this, decide_false, hk, if_false]
        exact ih r (i + 1) h3
theorem run_checkKey {P : Program} {kt : TypeId} (hk : P.underlying kt = some .string) (b : Bool) (k : List UInt8) (w : World) : ∀ d : Nat, (Instr.checkKey b (d + 1) kt (vS k)).run P w = .ok () w := fun d => by
  simp [Instr.checkKey, run_underlying hk]
theorem run_findKey {P : Program} {kt : TypeId} (hk : P.underlying kt = some .string) {es : Array MapEntry} {clock : Nat} {ks : Ks} (g : MapG es clock ks) (k : List UInt8) (w : World) : (Instr.findKey kt (vS k) es.toList).run P w = .ok (mfind ks k 0) w := by
  simp [Instr.findKey, run_underlying hk, findNow_eq k es.toList ks 0 g.eq]
theorem run_keyStays {P : Program} (k : List UInt8) (w : World) : (Instr.keyThatStays (vS k) (vS k)).run P w = .ok (vS k) w := by
  have h : ∀ d, Instr.sameBits d (vS k) (vS k) = true := fun d => by cases d <;> simp [Instr.sameBits, mk_eq]
  simp [Instr.keyThatStays, h 10000]

theorem MapG.put {es : Array MapEntry} {clock : Nat} {ks : Ks} (g : MapG es clock ks) (k : List UInt8) (v : Value) (h : mfind ks k 0 = none) : MapG (es.push { key := vS k, val := v, born := clock }) (clock + 1) (mput ks k v) := by
  obtain ⟨_, h2, _, h4⟩ := mfind_none h
  rw [h2]
  refine ⟨by simp [g.eq], ?_, ?_, ?_⟩
  · intro e he
    simp only [Array.toList_push, List.mem_append, List.mem_singleton] at he
    rcases he with he | rfl
    · have := g.old e he; omega
    · simp
  · simp only [Array.toList_push, List.map_append, List.map_cons, List.map_nil]
    rw [List.nodup_append]
    refine ⟨g.born, by simp, ?_⟩
    intro a ha c hc
    simp only [List.mem_singleton] at hc
    obtain ⟨e, he, rfl⟩ := List.mem_map.1 ha
    have := g.old e he
    omega
  · rw [List.map_append, List.nodup_append]
    refine ⟨g.keys, by simp, ?_⟩
    intro a ha c hc e
    simp at hc
    subst hc; subst e
    exact h4 ha
theorem MapG.set {es : Array MapEntry} {clock : Nat} {ks : Ks} (g : MapG es clock ks) {k : List UInt8} {u : Value} {j : Nat} (v : Value) (h : mfind ks k 0 = some (j, u)) : MapG (es.modify j fun e => { e with key := vS k, val := v }) clock (mput ks k v) := by
  obtain ⟨m, hj, hm, _, h4, h5, _⟩ := mfind_some h
  simp only [Nat.zero_add] at hj
  subst hj
  rw [h5]
  have hsz := g.size
  have hlt : j < es.toList.length := by rw [Array.length_toList, hsz]; exact hm
  have e1 : (es.modify j fun e => { e with key := vS k, val := v }).toList = es.toList.set j ⟨vS k, v, es.toList[j].born⟩ := by
    rw [Array.toList_modify]
    apply List.ext_getElem?
    intro i
    rw [List.getElem?_modify, List.getElem?_set]
    by_cases hi : j = i
    · subst hi
      have h6 : es.toList[j]? = some es.toList[j] := List.getElem?_eq_getElem hlt
      simp [h6, hlt]
      simpa using hlt
    · simp [hi]
  refine ⟨?_, ?_, ?_, ?_⟩
  · rw [e1, List.map_set, g.eq, List.map_set]
  · intro e he
    rw [e1] at he
    rcases List.mem_or_eq_of_mem_set he with he | rfl
    · exact g.old e he
    · show es.toList[j].born < clock
      exact g.old _ (List.getElem_mem hlt)
  · rw [e1, List.map_set]
    have : (es.toList.map (·.born)).set j es.toList[j].born = es.toList.map (·.born) := by
      apply List.ext_getElem?
      intro i
      rw [List.getElem?_set]
      by_cases hi : j = i
      · subst hi
        have h6 : es.toList[j]? = some es.toList[j] := List.getElem?_eq_getElem hlt
        rw [List.getElem?_map, h6]; simp
        simpa using hlt
      · simp [hi]
    rw [this]; exact g.born
  · rw [List.map_set]
    have : (ks.map (·.1)).set j k = ks.map (·.1) := by
      apply List.ext_getElem?
      intro i
      rw [List.getElem?_set]
      by_cases hi : j = i
      · subst hi; rw [List.getElem?_map, h4]; simp [hm]
      · simp [hi]
    rw [this]; exact g.keys
theorem map_eraseIdx' {α β : Type} (f : α → β) : ∀ (l : List α) (j : Nat), (l.eraseIdx j).map f = (l.map f).eraseIdx j
  | [], _ => by simp
  | _ :: _, 0 => by simp
  | _ :: l, j + 1 => by simp [map_eraseIdx' f l j]
theorem MapG.del {es : Array MapEntry} {clock : Nat} {ks : Ks} (g : MapG es clock ks) {k : List UInt8} {u : Value} {j : Nat} (h : mfind ks k 0 = some (j, u)) : MapG (es.eraseIdxIfInBounds j) clock (mdel ks k) := by
  obtain ⟨m, hj, hm, _, h4, _, h6⟩ := mfind_some h
  simp only [Nat.zero_add] at hj
  subst hj
  rw [h6]
  have hsz := g.size
  have hlt : j < es.size := by rw [hsz]; exact hm
  have e1 : (es.eraseIdxIfInBounds j).toList = es.toList.eraseIdx j := by
    rw [Array.eraseIdxIfInBounds, dif_pos hlt, Array.toList_eraseIdx]
  refine ⟨?_, ?_, ?_, ?_⟩
  · rw [e1, map_eraseIdx', g.eq, map_eraseIdx']
  · intro e he
    rw [e1] at he
    exact g.old e (List.mem_of_mem_eraseIdx he)
  · rw [e1, map_eraseIdx']
    exact List.Nodup.sublist (List.eraseIdx_sublist _ _) g.born
  · rw [map_eraseIdx']
    exact List.Nodup.sublist (List.eraseIdx_sublist _ _) g.keys

class RdMap (b : Nat) (ks : outParam Ks) (Hs : List HP) : Prop where
  get : Has (MapS b ks) Hs
instance (priority := 1000) {b : Nat} {ks : Ks} {r : List HP} : RdMap b ks (MapS b ks :: r) := ⟨.here⟩
instance (priority := 100) {b : Nat} {ks : Ks} {B : HP} {r : List HP} [h : RdMap b ks r] : RdMap b ks (B :: r) := ⟨.there h.get⟩
instance (priority := 900) {b : Nat} {ks : Ks} {B C : List HP} [h : RdMap b ks B] : RdMap b ks (B ++ C) := ⟨has_left h.get⟩
instance (priority := 800) {b : Nat} {ks : Ks} {B C : List HP} [h : RdMap b ks C] : RdMap b ks (B ++ C) := ⟨has_right h.get⟩

theorem maps_at {b : Nat} {ks : Ks} {w : World} {M : Kn} {h hf h1 : Res} (t : Sat w M (h.add hf)) (le : h1.le h) (x : (MapS b ks).at_ M h1) : ∃ es clock, w.heap[b]? = some (.map es clock) ∧ MapG es clock ks := by
  obtain ⟨es, clock, e, g⟩ := x
  exact ⟨es, clock, t.ow _ _ (Res.le_add_left _ _ _ _ (le _ _ (by rw [e]; exact Res.one_same _ _))), g⟩

section
variable {r : Option Nat} {P : Program} {n : Nat} {ops : Array Oper} {os : List Oper} {A : List HP} {L : Loc} {Hs : List HP} {Q : Out} {ty : TypeId} {d : Nat} {pos : String} {after : Array Edge} {c : Code}

theorem run_mlook {t kt e : TypeId} {i : TypeInfo} {z : Value} (ht : P.underlying t = some (.map kt e)) (hk : P.underlying kt = some .string) (hi : P.info? e = some i) (hz : i.zero = some z) {w : World} {b : Nat} {es : Array MapEntry} {clock : Nat} {ks : Ks} (hb : w.heap[b]? = some (.map es clock)) (g : MapG es clock ks) (k : List UInt8) (ok : Bool) :
    (Instr.lookup t (.map (some b)) (vS k) ok).run P w = .ok (if ok then .tuple #[(mlook ks k).getD z, .bool (mlook ks k).isSome] else (mlook ks k).getD z) w := by
  have hc := run_checkKey (P := P) hk es.isEmpty k w 9999
  have hf := run_findKey (P := P) hk g k w
  have hzv : (zeroValue e).run P w = .ok z w := by simp [zeroValue, typeInfo, program, Sem.run, hi, hz]
  cases hm : mfind ks k 0 with
  | none =>
    obtain ⟨h1, _⟩ := mfind_none hm
    rw [hm] at hf
    simp only [Instr.lookup, run_underlying ht, Sem.run_bind, Result.andThen_ok, MapKept.run_getObj_map hb, hc, hf, h1, hzv, Sem.run_pure]
    cases ok <;> rfl
  | some p =>
    obtain ⟨j, u⟩ := p
    obtain ⟨m, _, _, h3, _⟩ := mfind_some hm
    rw [hm] at hf
    simp only [Instr.lookup, run_underlying ht, Sem.run_bind, Result.andThen_ok, MapKept.run_getObj_map hb, hc, hf, h3, Sem.run_pure]
    cases ok <;> rfl
theorem r_lookup {t kt e : TypeId} {i : TypeInfo} {z : Value} {x y : Operand} {b : Nat} {ks : Ks} {k : List UInt8} {ok : Bool} {v : Value} (ht : P.underlying t = some (.map kt e)) (hk : P.underlying kt = some .string) (hi : P.info? e = some i) (hz : i.zero = some z)
    (hx : ev L x = some (.map (some b))) (hy : ev L y = some (vS k)) [hr : RdMap b ks Hs] (hv : (if ok then Value.tuple #[(mlook ks k).getD z, .bool (mlook ks k).isSome] else (mlook ks k).getD z) = v) (hd : Nat.blt d n = true)
    (K : wo r P n ops os ((d, v) :: L) Hs Q) : wo r P n ops (⟨some d, .lookup t x y ok, ty, pos, after, none⟩ :: os) L Hs Q := by
  subst hv
  refine wo_read (by intro c; simp) hr.get hd (fun a f w M h h1 hf t' le yy _ _ _ _ => ?_) K
  obtain ⟨es, clock, hb, g⟩ := maps_at t' le yy
  simp [execOp, f.ev hx, f.ev hy, run_mlook ht hk hi hz hb g k ok]
theorem tl_lookup {t kt e : TypeId} {i : TypeInfo} {z : Value} {x y : Operand} {b : Nat} {ks : Ks} {k : List UInt8} {ok : Bool} {v : Value} {dst : Option Tmp} (ht : P.underlying t = some (.map kt e)) (hk : P.underlying kt = some .string) (hi : P.info? e = some i) (hz : i.zero = some z)
    (hx : ev L x = some (.map (some b))) (hy : ev L y = some (vS k)) [hr : RdMap b ks A] (hv : (if ok then Value.tuple #[(mlook ks k).getD z, .bool (mlook ks k).isSome] else (mlook ks k).getD z) = v) : Tells P n ops ⟨dst, .lookup t x y ok, ty, pos, after, none⟩ A L v := by
  subst hv
  refine .inr ⟨.inl rfl, fun ac f w M hA hf dj s t' => ?_⟩
  obtain ⟨h1, le, yy⟩ := hr.get.sat s
  obtain ⟨es, clock, hb, g⟩ := maps_at t' le yy
  simp [execOp, f.ev hx, f.ev hy, run_mlook ht hk hi hz hb g k ok]
theorem r_mlen {t kt e : TypeId} {x : Operand} {b : Nat} {ks : Ks} (ht : P.underlying t = some (.map kt e)) (hx : ev L x = some (.map (some b))) [hr : RdMap b ks Hs] (hd : Nat.blt d n = true)
    (K : wo r P n ops os ((d, vI ks.length) :: L) Hs Q) : wo r P n ops (⟨some d, .call ⟨.builtin .len, #[x], #[t]⟩, ty, pos, after, none⟩ :: os) L Hs Q := by
  refine wo_read (by intro c; simp) hr.get hd (fun a f w M h h1 hf t' le yy _ _ _ _ => ?_) K
  obtain ⟨es, clock, hb, g⟩ := maps_at t' le yy
  have := g.size
  simp [execOp, resolve, f.ev hx, invoke, builtin, Builtin.len_, run_underlying ht, MapKept.run_getObj_map hb, goInt, this]
theorem tl_mlen {t kt e : TypeId} {x : Operand} {b : Nat} {ks : Ks} {dst : Option Tmp} (ht : P.underlying t = some (.map kt e)) (hx : ev L x = some (.map (some b))) [hr : RdMap b ks A] : Tells P n ops ⟨dst, .call ⟨.builtin .len, #[x], #[t]⟩, ty, pos, after, none⟩ A L (vI ks.length) := by
  refine .inr ⟨.inl rfl, fun ac f w M hA hf dj s t' => ?_⟩
  obtain ⟨h1, le, yy⟩ := hr.get.sat s
  obtain ⟨es, clock, hb, g⟩ := maps_at t' le yy
  have := g.size
  simp [execOp, resolve, f.ev hx, invoke, builtin, Builtin.len_, run_underlying ht, MapKept.run_getObj_map hb, goInt, this]

/-- What a triple of an operation that turns one block comes down to. -/
theorem opt_turn {dst : Option Tmp} {op : Op} {B C : HP} {u : Value} (hrun : ∀ (a : Act), Fr n L a → ∀ (w : World) (M : Kn) (h1 hf : Res), h1.dj hf → Sat w M (h1.add hf) → B.at_ M h1 → ∃ (w' : World) (h1' : Res), h1'.dj hf ∧ Sat w' M (h1'.add hf) ∧ C.at_ M h1' ∧
      ((execOp a.eval ⟨dst, op, ty, pos, after, none⟩).run P w = .ok (.value u) w' ∨ (execOp a.eval ⟨dst, op, ty, pos, after, none⟩).run P w = .ok .skip w' ∧ u = undef)) :
    OpT r P n ⟨dst, op, ty, pos, after, none⟩ A L [B] (fun _ : Unit => u) (fun _ => True) (fun _ => [C]) := by
  intro a f w M h hA hf dj dj' s sA t
  obtain ⟨k1, k2, dk, e, hb, _⟩ := s
  subst e
  obtain ⟨x1, x2⟩ := Res.dj_add_left.1 dj'
  obtain ⟨x3, x4⟩ := Res.dj_add_left.1 x1
  obtain ⟨y1, y2⟩ := Res.dj_add_left.1 dj
  have t2 : Sat w M (k1.add ((k2.add hA).add hf)) := by
    have : ((k1.add k2).add hA).add hf = k1.add ((k2.add hA).add hf) := by simp only [Res.add_assoc]
    rw [← this]; exact t
  obtain ⟨w', h', dj3, t3, hc, hr⟩ := hrun a f w M k1 ((k2.add hA).add hf) (Res.dj_add_right.2 ⟨Res.dj_add_right.2 ⟨dk, y1⟩, x3⟩) t2 hb
  obtain ⟨z1, z2⟩ := Res.dj_add_right.1 dj3
  obtain ⟨z3, z4⟩ := Res.dj_add_right.1 z1
  have fin : ∃ (x : Unit) (M' : Kn) (h'' : Res), u = u ∧ True ∧ M.le M' ∧ h''.dj hA ∧ (h''.add hA).dj hf ∧ Sat w' M' ((h''.add hA).add hf) ∧ SL [C] M' h'' := by
    refine ⟨(), M, h'.add k2, rfl, trivial, Kn.le_refl _, Res.dj_add_left.2 ⟨z4, y2⟩, Res.dj_add_left.2 ⟨Res.dj_add_left.2 ⟨z2, x4⟩, x2⟩, ?_, h', k2, z3, rfl, hc, trivial⟩
    have : ((h'.add k2).add hA).add hf = h'.add ((k2.add hA).add hf) := by simp only [Res.add_assoc]
    rw [this]; exact t3
  rcases hr with hr | ⟨hr, hu⟩
  · rw [hr]; exact fin
  · rw [hr]
    show ∃ (x : Unit) (M' : Kn) (h'' : Res), undef = u ∧ _
    rw [hu] at fin ⊢
    exact fin

theorem sat_setBlock {w : World} {M : Kn} {h : Res} {b : Nat} {o : Obj} (o' : Obj) (dj : (Res.one b o).dj h) (t : Sat w M ((Res.one b o).add h)) : Sat { w with heap := w.heap.setIfInBounds b o' } M ((Res.one b o').add h) := by
  have hb : w.heap[b]? = some o := t.ow _ _ (by simp [Res.add, Res.one])
  have hlt : b < w.heap.size := (Array.getElem?_eq_some_iff.1 hb).1
  refine Sat.setBlk dj t ?_ (fun i hi => ?_) ⟨rfl, rfl, rfl, by simp⟩
  · simp [Array.getElem?_setIfInBounds, hlt]
  · simp [Array.getElem?_setIfInBounds, Ne.symm hi]

theorem opt_mapUpdate {t kt e : TypeId} {x y z : Operand} {b : Nat} {ks : Ks} {k : List UInt8} {v : Value} (ht : P.underlying t = some (.map kt e)) (hk : P.underlying kt = some .string)
    (hx : ev L x = some (.map (some b))) (hy : ev L y = some (vS k)) (hz : ev L z = some v) :
    OpT r P n ⟨none, .mapUpdate t x y z, ty, pos, after, none⟩ A L [MapS b ks] (fun _ : Unit => undef) (fun _ => True) (fun _ => [MapS b (mput ks k v)]) := by
  refine opt_turn (fun a f w M h1 hf dj tt hm => ?_)
  obtain ⟨es, clock, e1, g⟩ := hm
  subst e1
  have hb : w.heap[b]? = some (.map es clock) := tt.ow _ _ (by simp [Res.add, Res.one])
  have hc := run_checkKey (P := P) hk false k w 9999
  have hfk := run_findKey (P := P) hk g k w
  cases hm : mfind ks k 0 with
  | none =>
    rw [hm] at hfk
    refine ⟨_, Res.one b (.map (es.push { key := vS k, val := v, born := clock }) (clock + 1)), dj_one_any dj, sat_setBlock _ dj tt, ⟨_, _, rfl, g.put k v hm⟩, .inr ⟨?_, rfl⟩⟩
    simp [execOp, f.ev hx, f.ev hy, f.ev hz, Instr.mapUpdate, run_underlying ht, MapKept.run_getObj_map hb, hc, hfk, MapKept.run_setObj_map _ hb]
  | some p =>
    obtain ⟨j, u⟩ := p
    rw [hm] at hfk
    obtain ⟨m, hj, hlt, _, h4, _⟩ := mfind_some hm
    simp only [Nat.zero_add] at hj
    subst hj
    have hkey : ((es[j]?).map (·.key)).getD (vS k) = vS k := by
      have h5 : (es.toList.map (fun e => (e.key, e.val)))[j]? = (ks.map (fun p => (vS p.1, p.2)))[j]? := by rw [g.eq]
      simp only [List.getElem?_map, h4, Option.map_some, Array.getElem?_toList] at h5
      cases h6 : es[j]? with
      | none => rw [h6] at h5; simp at h5
      | some e0 => rw [h6] at h5; simp at h5; simp [h5]
    have hst := run_keyStays (P := P) k w
    refine ⟨_, Res.one b (.map (es.modify j fun e => { e with key := vS k, val := v }) clock), dj_one_any dj, sat_setBlock _ dj tt, ⟨_, _, rfl, g.set v hm⟩, .inr ⟨?_, rfl⟩⟩
    simp [execOp, f.ev hx, f.ev hy, f.ev hz, Instr.mapUpdate, run_underlying ht, MapKept.run_getObj_map hb, hc, hfk, hkey, hst, MapKept.run_setObj_map _ hb]
theorem opt_delete {t kt e kt' : TypeId} {x y : Operand} {b : Nat} {ks : Ks} {k : List UInt8} {dst : Option Tmp} (ht : P.underlying t = some (.map kt e)) (hk : P.underlying kt = some .string)
    (hx : ev L x = some (.map (some b))) (hy : ev L y = some (vS k)) :
    OpT r P n ⟨dst, .call ⟨.builtin .delete, #[x, y], #[t, kt']⟩, ty, pos, after, none⟩ A L [MapS b ks] (fun _ : Unit => .tuple #[]) (fun _ => True) (fun _ => [MapS b (mdel ks k)]) := by
  refine opt_turn (fun a f w M h1 hf dj tt hm => ?_)
  obtain ⟨es, clock, e1, g⟩ := hm
  subst e1
  have hb : w.heap[b]? = some (.map es clock) := tt.ow _ _ (by simp [Res.add, Res.one])
  have hc := run_checkKey (P := P) hk es.isEmpty k w 9999
  have hfk := run_findKey (P := P) hk g k w
  cases hm : mfind ks k 0 with
  | none =>
    rw [hm] at hfk
    obtain ⟨_, _, h3, _⟩ := mfind_none hm
    refine ⟨_, Res.one b (.map es clock), dj_one_any dj, sat_setBlock _ dj tt, ⟨_, _, rfl, by rw [h3]; exact g⟩, .inl ?_⟩
    simp [execOp, resolve, f.ev hx, f.ev hy, invoke, builtin, Builtin.delete_, run_underlying ht, MapKept.run_getObj_map hb, hc, hfk, MapKept.run_setObj_map _ hb]
  | some p =>
    obtain ⟨j, u⟩ := p
    rw [hm] at hfk
    refine ⟨_, Res.one b (.map (es.eraseIdxIfInBounds j) clock), dj_one_any dj, sat_setBlock _ dj tt, ⟨_, _, rfl, g.del hm⟩, .inl ?_⟩
    simp [execOp, resolve, f.ev hx, f.ev hy, invoke, builtin, Builtin.delete_, run_underlying ht, MapKept.run_getObj_map hb, hc, hfk, MapKept.run_setObj_map _ hb]
theorem r_mkmap {t : TypeId} (hd : Nat.blt d n = true) (K : ∀ b, wo r P n ops os ((d, .map (some b)) :: L) (MapS b [] :: Hs) Q) : wo r P n ops (⟨some d, .makeMap t none, ty, pos, after, none⟩ :: os) L Hs Q := by
  refine wo_makeMap0 hd (fun b => wo_ent' ⟨fun s => ?_⟩ (K b))
  obtain ⟨h1, h2, d1, e, hb, s2⟩ := s
  exact ⟨h1, h2, d1, e, ⟨_, _, hb, MapG.nil⟩, s2⟩

/-! Making slices. -/
theorem madeCells_one (z : Value) (h : z.cells = #[z]) (m : Nat) : (madeCells z.cells m).toList = List.replicate m z := by
  apply List.ext_getElem
  · simp [madeCells]
  · intro i h1 h2
    simp [madeCells, h, Nat.mod_one]
theorem r_makeSlice {t e : TypeId} {x y : Operand} {i : TypeInfo} {z : Value} {m : Nat} (ht : P.underlying t = some (.slice e)) (hi : P.info? e = some i) (hz : i.zero = some z) (hz1 : z.cells = #[z]) (hsz : Nat.beq i.size 1 = true)
    (hx : ev L x = some (vI (m : Int))) (hy : ev L y = some (vI (m : Int))) (hm : m ≤ 9223372036854775807) (hb : (i.bytes : Int) * (m : Int) ≤ 281474976710656) (hd : Nat.blt d n = true)
    (K : ∀ b, wo r P n ops os ((d, .slice (some ⟨b, 0, none⟩) m m) :: L) (Ce b e (List.replicate m z) :: Hs) Q) : wo r P n ops (⟨some d, .makeSlice t x y, ty, pos, after, none⟩ :: os) L Hs Q := by
  have hs : i.size = 1 := Nat.eq_of_beq_eq_true hsz
  refine wo_new (o := .cells (List.replicate m z).toArray e (0, 0)) (val := fun b => .slice (some ⟨b, 0, none⟩) m m) (by intro c; simp) hd (fun a f w _ _ _ _ => ?_) K
  have hr := run_make (P := P) w t e i z ht hi hz .i64 .i64 m m (by omega) (Int.le_refl _) hb (by omega)
  have e1 : madeCells z.cells ((m : Int).toNat * i.size) = (List.replicate m z).toArray := by
    rw [hs, Nat.mul_one, Int.toNat_natCast, ← madeCells_one z hz1 m]
  rw [e1] at hr
  simp [execOp, f.ev hx, f.ev hy, hr]
theorem an_makeSlice {K : Loc → List HP → Prop} {t e : TypeId} {x y : Operand} {i : TypeInfo} {z : Value} {m : Nat} (ht : P.underlying t = some (.slice e)) (hi : P.info? e = some i) (hz : i.zero = some z) (hz1 : z.cells = #[z]) (hsz : Nat.beq i.size 1 = true)
    (hx : ev L x = some (vI (m : Int))) (hy : ev L y = some (vI (m : Int))) (hm : m ≤ 9223372036854775807) (hb : (i.bytes : Int) * (m : Int) ≤ 281474976710656) (hd : Nat.blt d n = true)
    (k : ∀ b, K ((d, .slice (some ⟨b, 0, none⟩) m m) :: L) (Ce b e (List.replicate m z) :: Hs)) : AnOp r P n ops A ⟨some d, .makeSlice t x y, ty, pos, after, none⟩ K L Hs := by
  have hs : i.size = 1 := Nat.eq_of_beq_eq_true hsz
  refine an_new (o := .cells (List.replicate m z).toArray e (0, 0)) (val := fun b => .slice (some ⟨b, 0, none⟩) m m) hd (fun a f w _ _ _ _ => ?_) k
  have hr := run_make (P := P) w t e i z ht hi hz .i64 .i64 m m (by omega) (Int.le_refl _) hb (by omega)
  have e1 : madeCells z.cells ((m : Int).toNat * i.size) = (List.replicate m z).toArray := by
    rw [hs, Nat.mul_one, Int.toNat_natCast, ← madeCells_one z hz1 m]
  rw [e1] at hr
  simp [execOp, f.ev hx, f.ev hy, hr]
end
end Go.Proofs.Ytimafngkifakfaa
