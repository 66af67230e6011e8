/- Texts of this proof, put together: MapS, Eqs, Sto, Cut, W32, Imm, EqS. -/
import Derived.Maps.RangeRun
import Derived.Laws.BitsAllLaws
import Derived.Laws.StructEq
import Derived.Test.YtdnoacgopfcpbaaGreatQ05
set_option linter.unusedVariables false
set_option linter.unusedSimpArgs false
namespace Go.Proofs.YtdnoacgopfcpbaaGreat
section
abbrev Ks := List (List UInt8 × Value)
def mlook : Ks → List UInt8 → Option Value
 | [], _ => none
 | p :: r, k => if p.1 = k then some p.2 else mlook r k
def mput : Ks → List UInt8 → Value → Ks
 | [], k, v => [(k, v)]
 | p :: r, k, v => if p.1 = k then (k, v) :: r else p :: mput r k v
def mdel : Ks → List UInt8 → Ks
 | [], _ => []
 | p :: r, k => if p.1 = k then r else p :: mdel r k
def mfind : Ks → List UInt8 → Nat → Option (Nat × Value)
 | [], _, _ => none
 | p :: r, k, i => if p.1 = k then some (i, p.2) else mfind r k (i + 1)
theorem mfind_none {ks : Ks} {k : List UInt8} : ∀ {i : Nat}, mfind ks k i = none → mlook ks k = none ∧ (∀ v, mput ks k v = ks ++ [(k, v)]) ∧ mdel ks k = ks ∧ k ∉ ks.map (·.1) := by
 induction ks with
 | nil => intro i h; exact ⟨rfl, fun v => rfl, rfl, by simp⟩
 | cons p r ih =>
   intro i h
   simp only [mfind] at h
   split at h
   · cases h
   · rename_i hp
     obtain ⟨h1, h2, h3, h4⟩ := ih h
     simp only [mlook, mput, mdel, hp, if_false, h1, h2, h3, true_and]
     refine ⟨fun v => by simp, ?_⟩
     simp only [List.map_cons, List.mem_cons, not_or]
     exact ⟨fun e => hp e.symm, h4⟩
theorem mfind_some {ks : Ks} {k : List UInt8} {v : Value} : ∀ {i j : Nat}, mfind ks k i = some (j, v) → ∃ m, j = i + m ∧ m < ks.length ∧ mlook ks k = some v ∧ ks[m]? = some (k, v) ∧ (∀ u, mput ks k u = ks.set m (k, u)) ∧ mdel ks k = ks.eraseIdx m := by
 induction ks with
 | nil => intro i j h; simp [mfind] at h
 | cons p r ih =>
   intro i j h
   simp only [mfind] at h
   split at h
   · rename_i hp
     simp only [Option.some.injEq, Prod.mk.injEq] at h
     obtain ⟨rfl, rfl⟩ := h
     refine ⟨0, rfl, by simp, by simp [mlook, hp], by simp [← hp], fun u => by simp [mput, hp], by simp [mdel, hp]⟩
   · rename_i hp
     obtain ⟨m, rfl, h2, h3, h4, h5, h6⟩ := ih h
     refine ⟨m + 1, by omega, by simp; omega, by simp [mlook, hp, h3], by simpa using h4, fun u => by simp [mput, hp, h5], by simp [mdel, hp, h6]⟩
/-- A map's entries, and what they are taken for. -/
structure MapG (es : Array MapEntry) (clock : Nat) (ks : Ks) : Prop where
 eq : es.toList.map (fun e => (e.key, e.val)) = ks.map (fun p => (vS p.1, p.2))
 old : ∀ e ∈ es.toList, e.born < clock
 born : (es.toList.map (·.born)).Nodup
 keys : (ks.map (·.1)).Nodup
theorem MapG.nil : MapG #[] 0 [] := ⟨rfl, by simp, by simp, by simp⟩
theorem MapG.size {es : Array MapEntry} {clock : Nat} {ks : Ks} (g : MapG es clock ks) : es.size = ks.length := by
 have := congrArg List.length g.eq
 simpa using this
def MapS (b : Nat) (ks : Ks) : HP := ⟨fun _ h => ∃ es clock, h = Res.one b (.map es clock) ∧ MapG es clock ks, fun _ e => e⟩
theorem findNow_eq (k : List UInt8) : ∀ (es : List MapEntry) (ks : Ks) (i : Nat), es.map (fun e => (e.key, e.val)) = ks.map (fun p => (vS p.1, p.2)) → Instr.findNow .string (vS k) es i = some (mfind ks k i) := by
 intro es
 induction es with
 | nil => intro ks i h; cases ks with
   | nil => rfl
   | cons _ _ => simp at h
 | cons e es ih =>
   intro ks i h
   cases ks with
   | nil => simp at h
   | cons p r =>
     simp only [List.map_cons, List.cons.injEq, Prod.mk.injEq] at h
     obtain ⟨⟨h1, h2⟩, h3⟩ := h
     have e1 : Instr.sameNow .string (vS k) e.key = some (decide (k = p.1)) := by rw [h1]; simp [Instr.sameNow, mk_eq]
     simp only [Instr.findNow, e1, mfind]
     by_cases hk : p.1 = k
     · simp [hk, h2]
     · have : k ≠ p.1 := fun e => hk e.symm
       simp only [this, decide_false, hk, if_false]
       exact ih r (i + 1) h3
theorem run_checkKey {P : Program} {kt : TypeId} (hk : P.underlying kt = some .string) (b : Bool) (k : List UInt8) (w : World) : ∀ d : Nat, (Instr.checkKey b (d + 1) kt (vS k)).run P w = .ok () w := fun d => by
 simp [Instr.checkKey, run_underlying hk]
theorem run_findKey {P : Program} {kt : TypeId} (hk : P.underlying kt = some .string) {es : Array MapEntry} {clock : Nat} {ks : Ks} (g : MapG es clock ks) (k : List UInt8) (w : World) : (Instr.findKey kt (vS k) es.toList).run P w = .ok (mfind ks k 0) w := by
 simp [Instr.findKey, run_underlying hk, findNow_eq k es.toList ks 0 g.eq]
theorem run_keyStays {P : Program} (k : List UInt8) (w : World) : (Instr.keyThatStays (vS k) (vS k)).run P w = .ok (vS k) w := by
 have h : ∀ d, Instr.sameBits d (vS k) (vS k) = true := fun d => by cases d <;> simp [Instr.sameBits, mk_eq]
 simp [Instr.keyThatStays, h 10000]
theorem MapG.put {es : Array MapEntry} {clock : Nat} {ks : Ks} (g : MapG es clock ks) (k : List UInt8) (v : Value) (h : mfind ks k 0 = none) : MapG (es.push { key := vS k, val := v, born := clock }) (clock + 1) (mput ks k v) := by
 obtain ⟨_, h2, _, h4⟩ := mfind_none h
 rw [h2]
 refine ⟨by simp [g.eq], ?_, ?_, ?_⟩
 · intro e he
   simp only [Array.toList_push, List.mem_append, List.mem_singleton] at he
   rcases he with he | rfl
   · have := g.old e he; omega
   · simp
 · simp only [Array.toList_push, List.map_append, List.map_cons, List.map_nil]
   rw [List.nodup_append]
   refine ⟨g.born, by simp, ?_⟩
   intro a ha c hc
   simp only [List.mem_singleton] at hc
   obtain ⟨e, he, rfl⟩ := List.mem_map.1 ha
   have := g.old e he
   omega
 · rw [List.map_append, List.nodup_append]
   refine ⟨g.keys, by simp, ?_⟩
   intro a ha c hc e
   simp at hc
   subst hc; subst e
   exact h4 ha
theorem MapG.set {es : Array MapEntry} {clock : Nat} {ks : Ks} (g : MapG es clock ks) {k : List UInt8} {u : Value} {j : Nat} (v : Value) (h : mfind ks k 0 = some (j, u)) : MapG (es.modify j fun e => { e with key := vS k, val := v }) clock (mput ks k v) := by
 obtain ⟨m, hj, hm, _, h4, h5, _⟩ := mfind_some h
 simp only [Nat.zero_add] at hj
 subst hj
 rw [h5]
 have hsz := g.size
 have hlt : j < es.toList.length := by rw [Array.length_toList, hsz]; exact hm
 have e1 : (es.modify j fun e => { e with key := vS k, val := v }).toList = es.toList.set j ⟨vS k, v, es.toList[j].born⟩ := by
  rw [Array.toList_modify]
  apply List.ext_getElem?
  intro i
  rw [List.getElem?_modify, List.getElem?_set]
  by_cases hi : j = i
  · subst hi
    have h6 : es.toList[j]? = some es.toList[j] := List.getElem?_eq_getElem hlt
    simp [h6, hlt]
    simpa using hlt
  · simp [hi]
 refine ⟨?_, ?_, ?_, ?_⟩
 · rw [e1, List.map_set, g.eq, List.map_set]
 · intro e he
   rw [e1] at he
   rcases List.mem_or_eq_of_mem_set he with he | rfl
   · exact g.old e he
   · show es.toList[j].born < clock
     exact g.old _ (List.getElem_mem hlt)
 · rw [e1, List.map_set]
   have : (es.toList.map (·.born)).set j es.toList[j].born = es.toList.map (·.born) := by
    apply List.ext_getElem?
    intro i
    rw [List.getElem?_set]
    by_cases hi : j = i
    · subst hi
      have h6 : es.toList[j]? = some es.toList[j] := List.getElem?_eq_getElem hlt
      rw [List.getElem?_map, h6]; simp
      simpa using hlt
    · simp [hi]
   rw [this]; exact g.born
 · rw [List.map_set]
   have : (ks.map (·.1)).set j k = ks.map (·.1) := by
    apply List.ext_getElem?
    intro i
    rw [List.getElem?_set]
    by_cases hi : j = i
    · subst hi; rw [List.getElem?_map, h4]; simp [hm]
    · simp [hi]
   rw [this]; exact g.keys
class RdMap (b : Nat) (ks : outParam Ks) (Hs : List HP) : Prop where
 get : Has (MapS b ks) Hs
instance (priority := 1000) {b : Nat} {ks : Ks} {r : List HP} : RdMap b ks (MapS b ks :: r) := ⟨.here⟩
instance (priority := 100) {b : Nat} {ks : Ks} {B : HP} {r : List HP} [h : RdMap b ks r] : RdMap b ks (B :: r) := ⟨.there h.get⟩
instance (priority := 900) {b : Nat} {ks : Ks} {B C : List HP} [h : RdMap b ks B] : RdMap b ks (B ++ C) := ⟨has_left h.get⟩
instance (priority := 800) {b : Nat} {ks : Ks} {B C : List HP} [h : RdMap b ks C] : RdMap b ks (B ++ C) := ⟨has_right h.get⟩
theorem maps_at {b : Nat} {ks : Ks} {w : World} {M : Kn} {h hf h1 : Res} (t : Sat w M (h.add hf)) (le : h1.le h) (x : (MapS b ks).at_ M h1) : ∃ es clock, w.heap[b]? = some (.map es clock) ∧ MapG es clock ks := by
 obtain ⟨es, clock, e, g⟩ := x
 exact ⟨es, clock, t.ow _ _ (Res.le_add_left _ _ _ _ (le _ _ (by rw [e]; exact Res.one_same _ _))), g⟩
section
variable {r : Option Nat} {P : Program} {n : Nat} {ops : Array Oper} {os : List Oper} {A : List HP} {L : Loc} {Hs : List HP} {Q : Out} {ty : TypeId} {d : Nat} {pos : String} {after : Array Edge} {c : Code}
theorem run_mlook {t kt e : TypeId} {i : TypeInfo} {z : Value} (ht : P.underlying t = some (.map kt e)) (hk : P.underlying kt = some .string) (hi : P.info? e = some i) (hz : i.zero = some z) {w : World} {b : Nat} {es : Array MapEntry} {clock : Nat} {ks : Ks} (hb : w.heap[b]? = some (.map es clock)) (g : MapG es clock ks) (k : List UInt8) (ok : Bool) :
    (Instr.lookup t (.map (some b)) (vS k) ok).run P w = .ok (if ok then .tuple #[(mlook ks k).getD z, .bool (mlook ks k).isSome] else (mlook ks k).getD z) w := by
 have hc := run_checkKey (P := P) hk es.isEmpty k w 9999
 have hf := run_findKey (P := P) hk g k w
 have hzv : (zeroValue e).run P w = .ok z w := by simp [zeroValue, typeInfo, program, Sem.run, hi, hz]
 cases hm : mfind ks k 0 with
 | none =>
   obtain ⟨h1, _⟩ := mfind_none hm
   rw [hm] at hf
   simp only [Instr.lookup, run_underlying ht, Sem.run_bind, Result.andThen_ok, MapKept.run_getObj_map hb, hc, hf, h1, hzv, Sem.run_pure]
   cases ok <;> rfl
 | some p =>
   obtain ⟨j, u⟩ := p
   obtain ⟨m, _, _, h3, _⟩ := mfind_some hm
   rw [hm] at hf
   simp only [Instr.lookup, run_underlying ht, Sem.run_bind, Result.andThen_ok, MapKept.run_getObj_map hb, hc, hf, h3, Sem.run_pure]
   cases ok <;> rfl
theorem r_lookup {t kt e : TypeId} {i : TypeInfo} {z : Value} {x y : Operand} {b : Nat} {ks : Ks} {k : List UInt8} {ok : Bool} {v : Value} (ht : P.underlying t = some (.map kt e)) (hk : P.underlying kt = some .string) (hi : P.info? e = some i) (hz : i.zero = some z)
    (hx : ev L x = some (.map (some b))) (hy : ev L y = some (vS k)) [hr : RdMap b ks Hs] (hv : (if ok then Value.tuple #[(mlook ks k).getD z, .bool (mlook ks k).isSome] else (mlook ks k).getD z) = v) (hd : Nat.blt d n = true)
    (K : wo r P n ops os ((d, v) :: L) Hs Q) : wo r P n ops (⟨some d, .lookup t x y ok, ty, pos, after, none⟩ :: os) L Hs Q := by
 subst hv
 refine wo_read (by intro c; simp) hr.get hd (fun a f w M h h1 hf t' le yy _ _ _ _ => ?_) K
 obtain ⟨es, clock, hb, g⟩ := maps_at t' le yy
 simp [execOp, f.ev hx, f.ev hy, run_mlook ht hk hi hz hb g k ok]
theorem r_mlen {t kt e : TypeId} {x : Operand} {b : Nat} {ks : Ks} (ht : P.underlying t = some (.map kt e)) (hx : ev L x = some (.map (some b))) [hr : RdMap b ks Hs] (hd : Nat.blt d n = true)
    (K : wo r P n ops os ((d, vI ks.length) :: L) Hs Q) : wo r P n ops (⟨some d, .call ⟨.builtin .len, #[x], #[t]⟩, ty, pos, after, none⟩ :: os) L Hs Q := by
 refine wo_read (by intro c; simp) hr.get hd (fun a f w M h h1 hf t' le yy _ _ _ _ => ?_) K
 obtain ⟨es, clock, hb, g⟩ := maps_at t' le yy
 have := g.size
 simp [execOp, resolve, f.ev hx, invoke, builtin, Builtin.len_, run_underlying ht, MapKept.run_getObj_map hb, goInt, this]
/-- What a triple of an operation that turns one block comes down to. -/
theorem opt_turn {dst : Option Tmp} {op : Op} {B C : HP} {u : Value} (hrun : ∀ (a : Act), Fr n L a → ∀ (w : World) (M : Kn) (h1 hf : Res), h1.dj hf → Sat w M (h1.add hf) → B.at_ M h1 → ∃ (w' : World) (h1' : Res), h1'.dj hf ∧ Sat w' M (h1'.add hf) ∧ C.at_ M h1' ∧
      ((execOp a.eval ⟨dst, op, ty, pos, after, none⟩).run P w = .ok (.value u) w' ∨ (execOp a.eval ⟨dst, op, ty, pos, after, none⟩).run P w = .ok .skip w' ∧ u = undef)) :
    OpT r P n ⟨dst, op, ty, pos, after, none⟩ A L [B] (fun _ : Unit => u) (fun _ => True) (fun _ => [C]) := by
 intro a f w M h hA hf dj dj' s sA t
 obtain ⟨k1, k2, dk, e, hb, _⟩ := s
 subst e
 obtain ⟨x1, x2⟩ := Res.dj_add_left.1 dj'
 obtain ⟨x3, x4⟩ := Res.dj_add_left.1 x1
 obtain ⟨y1, y2⟩ := Res.dj_add_left.1 dj
 have t2 : Sat w M (k1.add ((k2.add hA).add hf)) := by
  have : ((k1.add k2).add hA).add hf = k1.add ((k2.add hA).add hf) := by simp only [Res.add_assoc]
  rw [← this]; exact t
 obtain ⟨w', h', dj3, t3, hc, hr⟩ := hrun a f w M k1 ((k2.add hA).add hf) (Res.dj_add_right.2 ⟨Res.dj_add_right.2 ⟨dk, y1⟩, x3⟩) t2 hb
 obtain ⟨z1, z2⟩ := Res.dj_add_right.1 dj3
 obtain ⟨z3, z4⟩ := Res.dj_add_right.1 z1
 have fin : ∃ (x : Unit) (M' : Kn) (h'' : Res), u = u ∧ True ∧ M.le M' ∧ h''.dj hA ∧ (h''.add hA).dj hf ∧ Sat w' M' ((h''.add hA).add hf) ∧ SL [C] M' h'' := by
  refine ⟨(), M, h'.add k2, rfl, trivial, Kn.le_refl _, Res.dj_add_left.2 ⟨z4, y2⟩, Res.dj_add_left.2 ⟨Res.dj_add_left.2 ⟨z2, x4⟩, x2⟩, ?_, h', k2, z3, rfl, hc, trivial⟩
  have : ((h'.add k2).add hA).add hf = h'.add ((k2.add hA).add hf) := by simp only [Res.add_assoc]
  rw [this]; exact t3
 rcases hr with hr | ⟨hr, hu⟩
 · rw [hr]; exact fin
 · rw [hr]
   show ∃ (x : Unit) (M' : Kn) (h'' : Res), undef = u ∧ _
   rw [hu] at fin ⊢
   exact fin
theorem sat_setBlock {w : World} {M : Kn} {h : Res} {b : Nat} {o : Obj} (o' : Obj) (dj : (Res.one b o).dj h) (t : Sat w M ((Res.one b o).add h)) : Sat { w with heap := w.heap.setIfInBounds b o' } M ((Res.one b o').add h) := by
 have hb : w.heap[b]? = some o := t.ow _ _ (by simp [Res.add, Res.one])
 have hlt : b < w.heap.size := (Array.getElem?_eq_some_iff.1 hb).1
 refine Sat.setBlk dj t ?_ (fun i hi => ?_) ⟨rfl, rfl, rfl, by simp, up_rfl⟩
 · simp [Array.getElem?_setIfInBounds, hlt]
 · simp [Array.getElem?_setIfInBounds, Ne.symm hi]
theorem opt_mapUpdate {t kt e : TypeId} {x y z : Operand} {b : Nat} {ks : Ks} {k : List UInt8} {v : Value} (ht : P.underlying t = some (.map kt e)) (hk : P.underlying kt = some .string)
    (hx : ev L x = some (.map (some b))) (hy : ev L y = some (vS k)) (hz : ev L z = some v) :
    OpT r P n ⟨none, .mapUpdate t x y z, ty, pos, after, none⟩ A L [MapS b ks] (fun _ : Unit => undef) (fun _ => True) (fun _ => [MapS b (mput ks k v)]) := by
 refine opt_turn (fun a f w M h1 hf dj tt hm => ?_)
 obtain ⟨es, clock, e1, g⟩ := hm
 subst e1
 have hb : w.heap[b]? = some (.map es clock) := tt.ow _ _ (by simp [Res.add, Res.one])
 have hc := run_checkKey (P := P) hk false k w 9999
 have hfk := run_findKey (P := P) hk g k w
 cases hm : mfind ks k 0 with
 | none =>
   rw [hm] at hfk
   refine ⟨_, Res.one b (.map (es.push { key := vS k, val := v, born := clock }) (clock + 1)), dj_one_any dj, sat_setBlock _ dj tt, ⟨_, _, rfl, g.put k v hm⟩, .inr ⟨?_, rfl⟩⟩
   simp [execOp, f.ev hx, f.ev hy, f.ev hz, Instr.mapUpdate, run_underlying ht, MapKept.run_getObj_map hb, hc, hfk, MapKept.run_setObj_map _ hb]
 | some p =>
   obtain ⟨j, u⟩ := p
   rw [hm] at hfk
   obtain ⟨m, hj, hlt, _, h4, _⟩ := mfind_some hm
   simp only [Nat.zero_add] at hj
   subst hj
   have hkey : ((es[j]?).map (·.key)).getD (vS k) = vS k := by
    have h5 : (es.toList.map (fun e => (e.key, e.val)))[j]? = (ks.map (fun p => (vS p.1, p.2)))[j]? := by rw [g.eq]
    simp only [List.getElem?_map, h4, Option.map_some, Array.getElem?_toList] at h5
    cases h6 : es[j]? with
    | none => rw [h6] at h5; simp at h5
    | some e0 => rw [h6] at h5; simp at h5; simp [h5]
   have hst := run_keyStays (P := P) k w
   refine ⟨_, Res.one b (.map (es.modify j fun e => { e with key := vS k, val := v }) clock), dj_one_any dj, sat_setBlock _ dj tt, ⟨_, _, rfl, g.set v hm⟩, .inr ⟨?_, rfl⟩⟩
   simp [execOp, f.ev hx, f.ev hy, f.ev hz, Instr.mapUpdate, run_underlying ht, MapKept.run_getObj_map hb, hc, hfk, hkey, hst, MapKept.run_setObj_map _ hb]
theorem r_mkmap {t : TypeId} (hd : Nat.blt d n = true) (K : ∀ b, wo r P n ops os ((d, .map (some b)) :: L) (MapS b [] :: Hs) Q) : wo r P n ops (⟨some d, .makeMap t none, ty, pos, after, none⟩ :: os) L Hs Q := by
 refine wo_makeMap0 hd (fun b => wo_ent' ⟨fun s => ?_⟩ (K b))
 obtain ⟨h1, h2, d1, e, hb, s2⟩ := s
 exact ⟨h1, h2, d1, e, ⟨_, _, hb, MapG.nil⟩, s2⟩
/-! Making slices. -/
theorem madeCells_one (z : Value) (h : z.cells = #[z]) (m : Nat) : (madeCells z.cells m).toList = List.replicate m z := by
 apply List.ext_getElem
 · simp [madeCells]
 · intro i h1 h2
   simp [madeCells, h, Nat.mod_one]
theorem r_makeSlice {t e : TypeId} {x y : Operand} {i : TypeInfo} {z : Value} {m : Nat} (ht : P.underlying t = some (.slice e)) (hi : P.info? e = some i) (hz : i.zero = some z) (hz1 : z.cells = #[z]) (hsz : Nat.beq i.size 1 = true)
    (hx : ev L x = some (vI (m : Int))) (hy : ev L y = some (vI (m : Int))) (hm : m ≤ 9223372036854775807) (hb : (i.bytes : Int) * (m : Int) ≤ 281474976710656) (hd : Nat.blt d n = true)
    (K : ∀ b, wo r P n ops os ((d, .slice (some ⟨b, 0, none⟩) m m) :: L) (Ce b e (List.replicate m z) :: Hs) Q) : wo r P n ops (⟨some d, .makeSlice t x y, ty, pos, after, none⟩ :: os) L Hs Q := by
 have hs : i.size = 1 := Nat.eq_of_beq_eq_true hsz
 refine wo_new (o := .cells (List.replicate m z).toArray e (0, 0)) (val := fun b => .slice (some ⟨b, 0, none⟩) m m) (by intro c; simp) hd (fun a f w _ _ _ _ => ?_) K
 have hr := run_make (P := P) w t e i z ht hi hz .i64 .i64 m m (by omega) (Int.le_refl _) hb (by omega)
 have e1 : madeCells z.cells ((m : Int).toNat * i.size) = (List.replicate m z).toArray := by
  rw [hs, Nat.mul_one, Int.toNat_natCast, ← madeCells_one z hz1 m]
 rw [e1] at hr
 simp [execOp, f.ev hx, f.ev hy, hr]
end
end
section
section
variable {r : Option Nat} {P : Program} {n : Nat} {ops : Array Oper} {os : List Oper} {A : List HP} {L : Loc} {Hs : List HP} {Q : Out} {ty : TypeId} {d : Nat} {pos : String} {after : Array Edge} {c : Code}
theorem pv_vv {x y : Operand} {a b : Value} {t yt : TypeId} {op : BinOp} {v : Value} (hx : ev L x = some a) (hy : ev L y = some b) (hg : ∀ w, (eqGuard op t x y a b).run P w = .ok () w)
    (h : ∀ w, (binOp op t a b).run P w = .ok v w) : PV P n L (.binOp op t x y yt) ty v :=
 ⟨by intro c; simp, fun ac f w _ _ _ _ => by
  simp only [execOp, f.ev hx, f.ev hy, Sem.run_bind]
  rw [hg w]
  simp [h w]⟩
theorem wrap_u8 (x : Int) : IntKind.i64.wrap (IntKind.u8.wrap x) = IntKind.u8.wrap x := by
 have h : IntKind.u8.wrap x = x % 256 := by simp [IntKind.wrap_u8]
 exact i64_in' (by rw [h]; omega)
theorem u8_in' {m : Int} (h : 0 ≤ m ∧ m ≤ 255) : IntKind.u8.wrap m = m := IntWalk.u8_in m h
theorem pv_subu {x y : Operand} {i j : Int} {t yt : TypeId} (hx : ev L x = some (vU i)) (hy : ev L y = some (vU j)) (h : 0 ≤ i - j ∧ i - j ≤ 255) :
    PV P n L (.binOp .sub t x y yt) ty (vU (i - j)) := by have := pv_subw (P := P) (n := n) (ty := ty) (t := t) (yt := yt) hx hy; rw [u8_in' h] at this; exact this
theorem pv_indexm {x y : Operand} {l : List UInt8} {k : IntKind} {i : Int} {m : Nat} {t : TypeId} (ht : P.underlying t = some .string) (hx : ev L x = some (vS l)) (hy : ev L y = some (.int k i)) (hm : i = (m : Int)) (h : m < l.length) : PV P n L (.index t x y) ty (vU ((l.getD m 0).toNat : Int)) := by
 subst hm
 have := pv_index (P := P) (n := n) (ty := ty) ht hx hy (by omega) (by omega)
 simpa using this
theorem pv_slice_tom {x y : Operand} {l : List UInt8} {k : IntKind} {i : Int} {m : Nat} {t : TypeId} (ht : P.underlying t = some .string) (hx : ev L x = some (vS l)) (hy : ev L y = some (.int k i)) (hm : i = (m : Int)) (h : m ≤ l.length) :
    PV P n L (.slice t x none (some y) none) ty (vS (l.take m)) := by
 subst hm
 have := pv_slice_to (P := P) (n := n) (ty := ty) ht hx hy (by omega) (by omega)
 simpa using this
theorem pv_slice_fromm {x y : Operand} {l : List UInt8} {k : IntKind} {i : Int} {m : Nat} {t : TypeId} (ht : P.underlying t = some .string) (hx : ev L x = some (vS l)) (hy : ev L y = some (.int k i)) (hm : i = (m : Int)) (h : m ≤ l.length) :
    PV P n L (.slice t x (some y) none none) ty (vS (l.drop m)) := by
 subst hm
 have := pv_slice_from (P := P) (n := n) (ty := ty) ht hx hy (by omega) (by omega)
 simpa using this
theorem pv_slice_inm {x y z : Operand} {l : List UInt8} {k k' : IntKind} {i j : Int} {m o : Nat} {t : TypeId} (ht : P.underlying t = some .string) (hx : ev L x = some (vS l)) (hy : ev L y = some (.int k i)) (hz : ev L z = some (.int k' j)) (hm : i = (m : Int)) (ho : j = (o : Int)) (h1 : m ≤ o) (h : o ≤ l.length) :
    PV P n L (.slice t x (some y) (some z) none) ty (vS ((l.drop m).take (o - m))) := by
 subst hm; subst ho
 have := pv_slice_in (P := P) (n := n) (ty := ty) ht hx hy hz (by omega) (by omega) (by omega)
 have e : ((o : Int) - (m : Int)).toNat = o - m := by omega
 rw [e] at this
 simpa using this
theorem pv_slslice_fromm {x y : Operand} {a : Option Addr} {len cap m kk : Nat} {k : IntKind} {i : Int} {t e : TypeId} {ti : TypeInfo} {sz : Nat} (ht : P.underlying t = some (.slice e)) (hi : P.info? e = some ti) (hsz : ti.size = sz) (hx : ev L x = some (.slice a len cap)) (hy : ev L y = some (.int k i)) (hm : i = (m : Int)) (hk : m * sz = kk) (h : m ≤ len) (hc : m < cap) (ha : ∀ b, a = some b → b.spot = none) :
    PV P n L (.slice t x (some y) none none) ty (.slice (elemA a kk) (len - m) (cap - m)) := by
 subst hm
 have := pv_slslice_from (P := P) (n := n) (ty := ty) ht hi hx hy (by omega) (by omega)
 rw [Int.toNat_natCast, if_neg (by omega), hsz, hk] at this
 have e1 : Option.map (fun x : Addr => x.add kk) a = elemA a kk := by
  cases a with
  | none => rfl
  | some b =>
    obtain ⟨b, o, s⟩ := b
    have : s = none := ha _ rfl
    subst this
    simp [elemA, addr_add]
 rw [e1] at this
 exact this
theorem pv_slslice_tom {x y : Operand} {b : Option Addr} {len cap m : Nat} {k : IntKind} {i : Int} {t e : TypeId} {ti : TypeInfo} (ht : P.underlying t = some (.slice e)) (hi : P.info? e = some ti) (hx : ev L x = some (.slice b len cap)) (hy : ev L y = some (.int k i)) (hm : i = (m : Int)) (h : m ≤ cap) :
    PV P n L (.slice t x none (some y) none) ty (.slice b m cap) := by
 subst hm
 have := pv_slslice_to (P := P) (n := n) (ty := ty) ht hi hx hy (by omega) (by omega)
 simpa using this
theorem vI_eq {a b : Int} (h : a = b) : some (vI a) = some (vI b) := by rw [h]
end
end
section
class RowAC (a : Option Addr) (e sz n' c' n : outParam Nat) (xs : outParam (List Value)) (Hs : List HP) (Rs : outParam (List HP)) : Prop where
 get : Pick (Row e sz (.slice a n' c') n xs) Hs Rs
instance (priority := 1000) {a : Option Addr} {e sz n' c' n : Nat} {xs : List Value} {r : List HP} : RowAC a e sz n' c' n xs (Row e sz (.slice a n' c') n xs :: r) r := ⟨.here⟩
instance (priority := 100) {a : Option Addr} {e sz n' c' n : Nat} {xs : List Value} {B : HP} {r s : List HP} [h : RowAC a e sz n' c' n xs r s] : RowAC a e sz n' c' n xs (B :: r) (B :: s) := ⟨.there h.get⟩
instance (priority := 900) {a : Option Addr} {e sz n' c' n : Nat} {xs : List Value} {B B' C : List HP} [h : RowAC a e sz n' c' n xs B B'] : RowAC a e sz n' c' n xs (B ++ C) (B' ++ C) := ⟨pick_left h.get⟩
instance (priority := 800) {a : Option Addr} {e sz n' c' n : Nat} {xs : List Value} {B C C' : List HP} [h : RowAC a e sz n' c' n xs C C'] : RowAC a e sz n' c' n xs (B ++ C) (B ++ C') := ⟨pick_right h.get⟩
class MapPC (b : Nat) (ks : outParam Ks) (Hs : List HP) (Rs : outParam (List HP)) : Prop where
 get : Pick (MapS b ks) Hs Rs
instance (priority := 1000) {b : Nat} {ks : Ks} {r : List HP} : MapPC b ks (MapS b ks :: r) r := ⟨.here⟩
instance (priority := 100) {b : Nat} {ks : Ks} {B : HP} {r s : List HP} [h : MapPC b ks r s] : MapPC b ks (B :: r) (B :: s) := ⟨.there h.get⟩
instance (priority := 900) {b : Nat} {ks : Ks} {B B' C : List HP} [h : MapPC b ks B B'] : MapPC b ks (B ++ C) (B' ++ C) := ⟨pick_left h.get⟩
instance (priority := 800) {b : Nat} {ks : Ks} {B C C' : List HP} [h : MapPC b ks C C'] : MapPC b ks (B ++ C) (B ++ C') := ⟨pick_right h.get⟩
section
variable {r : Option Nat} {P : Program} {n : Nat} {ops : Array Oper} {os : List Oper} {A : List HP} {L : Loc} {Hs : List HP} {Q : Out} {ty : TypeId} {d : Nat} {pos : String} {after : Array Edge} {c : Code}
theorem setAt_take : ∀ (vs l : List Value) (k m : Nat), k + vs.length ≤ m → (setAt l k vs).take m = setAt (l.take m) k vs := by
 intro vs
 induction vs with
 | nil => intros; rfl
 | cons v vs ih =>
   intro l k m h
   simp only [List.length_cons] at h
   simp only [setAt]
   rw [ih _ _ _ (by omega), List.take_set]
theorem opt_estorea {t : TypeId} {ti : TypeInfo} {x y : Operand} {a : Option Addr} {e sz n' c' k m : Nat} {xs vs : List Value} (hi : P.info? t = some ti) (hs : Nat.beq ti.size vs.length = true) (hv : 0 < vs.length)
    (hx : ev L x = some (.pointer (elemA a m))) {u : Value} (hy : ev L y = some u) (hu : u.cells.toList = vs) (h1 : vs.all oneCell = true) (hm : m + vs.length ≤ xs.length) :
    OpT r P n ⟨none, .store t x y, ty, pos, after, none⟩ A L [Row e sz (.slice a n' c') k xs] (fun _ : Unit => undef) (fun _ => True) (fun _ => [Row e sz (.slice a n' c') k (setAt xs m vs)]) := by
 refine opt_turn (fun ac f w M h1' hf dj tt hr => ?_)
 rcases hr with ⟨_, _, e1⟩ | ⟨g, cap, cur, e1, e2, e3, e4, e5, e6, e7⟩
 · rw [e1, List.length_nil] at hm; omega
 · cases e1
   subst e7
   have hb : w.heap[g]? = some (.cells cur.toArray e (0, 0)) := tt.ow _ _ (by simp [Res.add, Res.one])
   have hcl : (cur.take (n' * sz)).length = n' * sz := by rw [e6, e5]
   have hcm : n' * sz ≤ cur.length := by rw [List.length_take] at hcl; omega
   obtain ⟨w', hr, hb', ho', he'⟩ := run_storeCells_ce (P := P) vs w cur (0 + m) 0 hb h1 (by omega)
   have hsz : ti.size = vs.length := Nat.eq_of_beq_eq_true hs
   refine ⟨w', Res.one g (.cells (setAt cur m vs).toArray e (0, 0)), dj_one_any dj, Sat.setBlk dj tt (by simpa using hb') ho' he', .inr ⟨g, c', setAt cur m vs, rfl, e2, e3, by rw [length_setAt]; exact e4, by rw [length_setAt]; exact e5, ?_, rfl⟩, .inr ⟨?_, rfl⟩⟩
   · rw [setAt_take _ _ _ _ (by omega), e6]
   · have hcs : u.cells = vs.toArray := by rw [← hu]
     simp [execOp, f.ev hx, f.ev hy, elemA, Instr.storeAt, Instr.sureAddr, storeVar, hcs, sizeOf, typeInfo, program, Sem.run, hi, hsz]
     have hr' : (storeCells ⟨g, m, none⟩ vs).run P w = .ok () w' := by simpa using hr
     rw [hr']; rfl
theorem opt_estore {t : TypeId} {ti : TypeInfo} {x y : Operand} {a : Option Addr} {e sz n' c' k m : Nat} {xs : List Value} (hi : P.info? t = some ti) (hs : Nat.beq ti.size 1 = true)
    (hx : ev L x = some (.pointer (elemA a m))) {v : Value} (hy : ev L y = some v) (h1 : oneCell v = true) (hm : m < xs.length) :
    OpT r P n ⟨none, .store t x y, ty, pos, after, none⟩ A L [Row e sz (.slice a n' c') k xs] (fun _ : Unit => undef) (fun _ => True) (fun _ => [Row e sz (.slice a n' c') k (xs.set m v)]) := by
 have hc : v.cells.toList = [v] := by cases v <;> simp_all [Value.cells, oneCell]
 have := opt_estorea (r := r) (n := n) (A := A) (ty := ty) (pos := pos) (after := after) (e := e) (sz := sz) (n' := n') (c' := c') (k := k) (xs := xs) (m := m) (vs := [v]) hi hs (by simp) hx hy hc (by simp [h1]) (by simp only [List.length_singleton]; omega)
 exact this
theorem r_estore {t : TypeId} {ti : TypeInfo} {x y : Operand} {a : Option Addr} {e sz n' c' k m : Nat} {xs : List Value} {Rs : List HP} (hi : P.info? t = some ti) (hs : Nat.beq ti.size 1 = true)
    (hx : ev L x = some (.pointer (elemA a m))) {v : Value} (hy : ev L y = some v) [hp : RowAC a e sz n' c' k xs Hs Rs] (h1 : oneCell v = true) (hm : m < xs.length)
    (K : wo r P n ops os L (Row e sz (.slice a n' c') k (xs.set m v) :: Rs) Q) : wo r P n ops (⟨none, .store t x y, ty, pos, after, none⟩ :: os) L Hs Q := by
 haveI : PicksC [Row e sz (.slice a n' c') k xs] Hs Rs := ⟨.cons hp.get .nil⟩
 exact wo_opT (by intro c; simp) (opt_estore hi hs hx hy h1 hm) rfl (fun _ _ => K)
/-! Appending. -/
theorem r_append1 {t e : TypeId} {x y : Operand} {i : TypeInfo} {z : Value} (ht : P.underlying t = some (.slice e)) (hi : P.info? e = some i) (hz : i.zero = some z) (hzs : Nat.beq z.cells.size i.size = true) {sz : Nat} (hsz : i.size = sz) (hs0 : Nat.blt 0 sz = true) {bytes : Nat} (hby : i.bytes = bytes)
    {v : Value} {k : Nat} {xs : List Value} {b m c T : Nat} {l : List Value} {R1 R2 : List HP} (hx : ev L x = some v) (hy : ev L y = some (.slice (some ⟨b, 0, none⟩) m c)) [h1 : RowC v e sz k xs Hs R1] [h2 : OwnC b T l R1 R2]
    (hl : l.length = m * sz) (ho : l.all oneCell = true) (hbytes : (k + m) * bytes ≤ 140737488355328) (h63 : k + m ≤ maxLen) (hd : Nat.blt d n = true)
    (K : ∀ a' c', wo r P n ops os ((d, .slice a' (k + m) c') :: L) (Row e sz (.slice a' (k + m) c') (k + m) (xs ++ l) :: R2) Q) : wo r P n ops (⟨some d, .call ⟨.builtin .append, #[x, y], #[t, t]⟩, ty, pos, after, none⟩ :: os) L Hs Q := by
 haveI : PicksC [Row e sz v k xs, Ce b T l] Hs R2 := ⟨.cons h1.get (.cons h2.get .nil)⟩
 refine wo_opT (by intro c; simp) (opt_append ht hi hz hzs hsz hs0 hby hx hy (shows_ce (T := T)) hl (by rw [List.drop_zero, ← hl, List.take_length]) ho hbytes h63 (xs := xs)) (by simpa [dstOk] using hd) (fun v' ⟨a', c', h'⟩ => ?_)
 subst h'
 refine wo_ent' (Gs := Row e sz (.slice a' (k + m) c') (k + m) (xs ++ l) :: R2) ⟨fun s => ?_⟩ (K a' c')
 obtain ⟨g1, g2, dd, e1, hr, s2⟩ := s
 obtain ⟨q1, q2, dq, eq, _, s3⟩ := s2
 refine ⟨g1, g2, dd, e1, hr, ?_⟩
 rw [eq]; exact SL.more dq s3
theorem an_append1 {K : Loc → List HP → Prop} {t e : TypeId} {x y : Operand} {i : TypeInfo} {z : Value} (ht : P.underlying t = some (.slice e)) (hi : P.info? e = some i) (hz : i.zero = some z) (hzs : Nat.beq z.cells.size i.size = true) {sz : Nat} (hsz : i.size = sz) (hs0 : Nat.blt 0 sz = true) {bytes : Nat} (hby : i.bytes = bytes)
    {v : Value} {k : Nat} {xs : List Value} {b m c T : Nat} {l : List Value} {R1 R2 : List HP} (hx : ev L x = some v) (hy : ev L y = some (.slice (some ⟨b, 0, none⟩) m c)) [h1 : RowC v e sz k xs Hs R1] [h2 : OwnC b T l R1 R2]
    (hl : l.length = m * sz) (ho : l.all oneCell = true) (hbytes : (k + m) * bytes ≤ 140737488355328) (h63 : k + m ≤ maxLen) (hd : Nat.blt d n = true)
    (k' : ∀ a' c', K ((d, .slice a' (k + m) c') :: L) (Row e sz (.slice a' (k + m) c') (k + m) (xs ++ l) :: Ce b T l :: R2)) : AnOp r P n ops A ⟨some d, .call ⟨.builtin .append, #[x, y], #[t, t]⟩, ty, pos, after, none⟩ K L Hs := by
 haveI : PicksC [Row e sz v k xs, Ce b T l] Hs R2 := ⟨.cons h1.get (.cons h2.get .nil)⟩
 refine an_opT (opt_append ht hi hz hzs hsz hs0 hby hx hy (shows_ce (T := T)) hl (by rw [List.drop_zero, ← hl, List.take_length]) ho hbytes h63 (xs := xs)) (by simpa [dstOk] using hd) (fun v' ⟨a', c', h'⟩ => ?_)
 subst h'
 exact k' a' c'
/-- Something that lets a slice be read, taken out. -/
class PickSl (a : Option Addr) (news : outParam (List Value)) (B : outParam HP) (Hs : List HP) (Rs : outParam (List HP)) : Prop where
 sla : SlA B a news
 get : Pick B Hs Rs
instance (priority := 1000) {a : Option Addr} {xs : List Value} {r : List HP} : PickSl a xs (SlI a xs) (SlI a xs :: r) (SlI a xs :: r) := ⟨sla_sli, .keep (SlI.pers a xs)⟩
instance (priority := 1000) {e : TypeId} {sz k n c : Nat} {a : Option Addr} {xs : List Value} {r : List HP} : PickSl a xs (Row e sz (.slice a n c) k xs) (Row e sz (.slice a n c) k xs :: r) r := ⟨sla_row, .here⟩
instance (priority := 1000) {b : Nat} {T : TypeId} {l : List Value} {r : List HP} : PickSl (some ⟨b, 0, none⟩) l (Ce b T l) (Ce b T l :: r) r := ⟨sla_ce, .here⟩
instance (priority := 100) {a : Option Addr} {xs : List Value} {B C : HP} {r s : List HP} [h : PickSl a xs B r s] : PickSl a xs B (C :: r) (C :: s) := ⟨h.sla, .there h.get⟩
instance (priority := 900) {a : Option Addr} {xs : List Value} {A : HP} {B B' C : List HP} [h : PickSl a xs A B B'] : PickSl a xs A (B ++ C) (B' ++ C) := ⟨h.sla, pick_left h.get⟩
instance (priority := 800) {a : Option Addr} {xs : List Value} {A : HP} {B C C' : List HP} [h : PickSl a xs A C C'] : PickSl a xs A (B ++ C) (B ++ C') := ⟨h.sla, pick_right h.get⟩
theorem r_appendA {t e : TypeId} {x y : Operand} {i : TypeInfo} {z : Value} (ht : P.underlying t = some (.slice e)) (hi : P.info? e = some i) (hz : i.zero = some z) (hzs : Nat.beq z.cells.size i.size = true) {sz : Nat} (hsz : i.size = sz) (hs0 : Nat.blt 0 sz = true) {bytes : Nat} (hby : i.bytes = bytes)
    {v : Value} {k : Nat} {xs news : List Value} {a : Option Addr} {m c : Nat} {B : HP} {R1 R2 : List HP} (hx : ev L x = some v) (hy : ev L y = some (.slice a m c)) [h1 : RowC v e sz k xs Hs R1] [h2 : PickSl a news B R1 R2]
    (hl : news.length = m * sz) (ho : news.all oneCell = true) (hbytes : (k + m) * bytes ≤ 140737488355328) (h63 : k + m ≤ maxLen) (hd : Nat.blt d n = true)
    (K : ∀ a' c', wo r P n ops os ((d, .slice a' (k + m) c') :: L) (Row e sz (.slice a' (k + m) c') (k + m) (xs ++ news) :: B :: R2) Q) : wo r P n ops (⟨some d, .call ⟨.builtin .append, #[x, y], #[t, t]⟩, ty, pos, after, none⟩ :: os) L Hs Q := by
 haveI : PicksC [Row e sz v k xs, B] Hs R2 := ⟨.cons h1.get (.cons h2.get .nil)⟩
 refine wo_opT (by intro c; simp) (opt_appendA ht hi hz hzs hsz hs0 hby hx hy h2.sla hl ho hbytes h63 (xs := xs)) (by simpa [dstOk] using hd) (fun v' ⟨a', c', h'⟩ => ?_)
 subst h'
 exact K a' c'
/-! Reading as one of the things that happen. -/
theorem an_elemAddr {K : Loc → List HP → Prop} {t e : TypeId} {x y : Operand} {a : Option Addr} {k : IntKind} {i : Int} {m len cap kk : Nat} {ti : TypeInfo} {xs : List Value} {sz : Nat} (ht : P.underlying t = some (.slice e)) (hi : P.info? e = some ti) (hsz : ti.size = sz)
    (hx : ev L x = some (.slice a len cap)) (hy : ev L y = some (.int k i)) (hm : i = (m : Int)) (h : m < len) [hr : RdSl a xs Hs] (hne : 0 < xs.length) (hk : m * sz = kk) (hd : Nat.blt d n = true)
    (k' : K ((d, .pointer (elemA a kk)) :: L) Hs) : AnOp r P n ops A ⟨some d, .indexAddr t x y, ty, pos, after, none⟩ K L Hs := by
 obtain ⟨B, sh, hB⟩ := hr.get
 refine an_read hB hd (fun ac f w M h1 h2 hf t' le yy dst pos after guard => ?_) k'
 obtain ⟨g, off, rfl, _⟩ := sla_cell sh t' le yy (fun e => by rw [e] at hne; exact absurd hne (by simp))
 rw [run_elemAddr ht hi hsz f hx hy hm h w dst pos after guard, hk]
 rfl
theorem an_load {K : Loc → List HP → Prop} {t : TypeId} {td : TypeDesc} {x : Operand} {b off : Nat} {l : List Value} {v : Value} (ht : P.underlying t = some td) (hfl : flat td = true)
    (hx : ev L x = some (.pointer (some ⟨b, off, none⟩))) [hr : RdCe b l Hs] (hv : l[off]? = some v) (hd : Nat.blt d n = true)
    (k' : K ((d, v) :: L) Hs) : AnOp r P n ops A ⟨some d, .load t x, ty, pos, after, none⟩ K L Hs := by
 obtain ⟨B, sh, hB⟩ := hr.get
 refine an_read hB hd (fun ac f w M h1 h2 hf t' le yy _ _ _ _ => ?_) k'
 have hc := shows_cell sh t' le yy off
 rw [hv] at hc
 simp [execOp, f.ev hx, Instr.loadAt, Instr.sureAddr, loadVar, isAgg_flat ht hfl, run_load, hc]
theorem wo_frz (a : Option Addr) {e sz n' c' k : Nat} {xs : List Value} {Rs : List HP} [h : RowAC a e sz n' c' k xs Hs Rs] (K : wo r P n ops os L (SlI a xs :: Rs) Q) : wo r P n ops os L Hs Q := wo_freezeRow h.get K
theorem ent_app {As Rs Gs : List HP} [q : AppC As Rs Gs] (e : Ent Hs Gs) : Ent Hs (As ++ Rs) := by rw [q.get]; exact e
theorem wc_ent0 {Gs : List HP} (h : Ent Hs Gs) (k : wc r P n c L Gs Q) : wc r P n c L Hs Q := wc_ent' h k
theorem wc_no (h : ∀ {M : Kn} {x : Res}, SL Hs M x → False) : wc r P n c L Hs Q := fun a M x s => by
 obtain ⟨h1, h2, d, e', y, t⟩ := s.2
 exact (h t).elim
theorem ce_norm {b T T' : Nat} {l l' : List Value} {Rs : List HP} [q : OwnC b T' l Hs Rs] (hT : T' = T) (hl : l = l') : Ent Hs (Ce b T l' :: Rs) := by
 subst hT; subst hl; exact ent_pick1 q.get
theorem ce_norm1 {b T T' : Nat} {l l' : List Value} {Rs : List HP} [q : OwnC b T' l Hs Rs] (hT : T' = T) (hl : l = l') : Ent Hs [Ce b T l'] := (ce_norm hT hl).trans (ent_step (Ent.refl _) ent_nil)
/-! Maps that are turned. -/
theorem r_mapUpdate {t kt e : TypeId} {x y z : Operand} {b : Nat} {ks : Ks} {k : List UInt8} {v : Value} {Rs : List HP} (ht : P.underlying t = some (.map kt e)) (hk : P.underlying kt = some .string)
    (hx : ev L x = some (.map (some b))) (hy : ev L y = some (vS k)) (hz : ev L z = some v) [h : MapPC b ks Hs Rs] (K : wo r P n ops os L (MapS b (mput ks k v) :: Rs) Q) : wo r P n ops (⟨none, .mapUpdate t x y z, ty, pos, after, none⟩ :: os) L Hs Q := by
 haveI : PicksC [MapS b ks] Hs Rs := ⟨.cons h.get .nil⟩
 exact wo_opT (by intro c; simp) (opt_mapUpdate ht hk hx hy hz (ks := ks)) rfl (fun _ _ => K)
theorem sl_eq {a : Option Addr} {m m' c : Nat} (h : m = m') : some (Value.slice a m c) = some (.slice a m' c) := by rw [h]
end
end
section
section
variable {r : Option Nat} {P : Program} {n : Nat} {L : Loc} {Hs : List HP} {Q : Out} {c : Code}
theorem p_cut {ι : Type} (Li : ι → Loc) (Hi : ι → List HP) (h : c = .seq (sA c) (sB c)) (k2 : ∀ i, wc r P n (sB c) (Li i) (Hi i) Q) (k1 : wc r P n (sA c) L Hs (invO n Li Hi (fun _ => True) Q)) : wc r P n c L Hs Q := by
 rw [h]
 intro a M m s w hf d t
 refine wpIn_seq (wpIn_mono (k1 a M m s w hf d t) ?_)
 rintro e a' w' ⟨M', h', l, d', t', q⟩
 cases e with
 | normal =>
   obtain ⟨j, _, sj⟩ := q
   exact wout_of (k2 j a' M' h' sj) l d' t'
 | _ => exact ⟨M', h', l, d', t', q⟩
end
section
variable {P : Program} {n : Nat} {L : Loc} {ty : TypeId}
theorem pv_and {x y : Operand} {k : IntKind} {i j : Int} {t yt : TypeId} (hx : ev L x = some (.int k i)) (hy : ev L y = some (.int k j)) :
    PV P n L (.binOp .and t x y yt) ty (.int k (bits .and k i j)) := pv_arith hx hy fun w => by simp [binOp, Op.intBits, bits]
end
end
section
abbrev vW (x : UInt32) : Value := .int .u32 (x.toNat : Int)
theorem u32_wrap (n : Int) : IntKind.u32.wrap n = n % 4294967296 := by simp [IntKind.wrap, IntKind.signed, IntKind.bits]
theorem u32_bv (a : UInt32) : BitVec.ofInt 32 (a.toNat : Int) = a.toBitVec := by
 apply BitVec.eq_of_toNat_eq
 simp
theorem u32_back (r : BitVec 32) : IntKind.u32.wrap (r.toNat : Int) = ((UInt32.ofBitVec r).toNat : Int) := by
 rw [u32_wrap]
 have := r.isLt
 simp; omega
theorem two_pow (m : Nat) : (2 : Int) ^ m = ((2 ^ m : Nat) : Int) := by rw [Int.natCast_pow]; rfl
def rotl (x : UInt32) (k : Nat) : UInt32 := (x <<< UInt32.ofNat k) ||| (x >>> UInt32.ofNat (32 - k))
section
variable {P : Program} {n : Nat} {L : Loc} {ty : TypeId}
theorem pv_andW {x y : Operand} {a b : UInt32} {t yt : TypeId} (hx : ev L x = some (vW a)) (hy : ev L y = some (vW b)) : PV P n L (.binOp .and t x y yt) ty (vW (a &&& b)) := pv_arith hx hy fun w => by
 simp only [binOp, Op.intBits, IntKind.bits, u32_bv, u32_back]; rfl
theorem pv_orW {x y : Operand} {a b : UInt32} {t yt : TypeId} (hx : ev L x = some (vW a)) (hy : ev L y = some (vW b)) : PV P n L (.binOp .or t x y yt) ty (vW (a ||| b)) := pv_arith hx hy fun w => by
 simp only [binOp, Op.intBits, IntKind.bits, u32_bv, u32_back]; rfl
theorem pv_xorW {x y : Operand} {a b : UInt32} {t yt : TypeId} (hx : ev L x = some (vW a)) (hy : ev L y = some (vW b)) : PV P n L (.binOp .xor t x y yt) ty (vW (a ^^^ b)) := pv_arith hx hy fun w => by
 simp only [binOp, Op.intBits, IntKind.bits, u32_bv, u32_back]; rfl
theorem pv_notW {x : Operand} {a : UInt32} {t : TypeId} (hx : ev L x = some (vW a)) : PV P n L (.unOp .xor t x) ty (vW (~~~a)) :=
 ⟨by intro c; simp, fun ac f w _ _ _ _ => by
  have e : BitVec.ofInt 32 4294967295 ^^^ a.toBitVec = (~~~a).toBitVec := by
   have : BitVec.ofInt 32 4294967295 = BitVec.allOnes 32 := by decide
   rw [this, BitVec.allOnes_xor]; rfl
  simp only [execOp, f.ev hx, Op.unary, Op.intBits, IntKind.bits, IntKind.signed, Bool.false_eq_true, if_false, IntKind.max, u32_bv]
  show Result.ok (Next.value (Value.int IntKind.u32 (IntKind.u32.wrap ((BitVec.ofInt 32 4294967295 ^^^ a.toBitVec).toNat : Int)))) w = _
  rw [e, u32_back]⟩
theorem pv_addW {x y : Operand} {a b : UInt32} {t yt : TypeId} (hx : ev L x = some (vW a)) (hy : ev L y = some (vW b)) : PV P n L (.binOp .add t x y yt) ty (vW (a + b)) := by
 have := pv_addw (P := P) (n := n) (t := t) (yt := yt) (ty := ty) hx hy
 rw [u32_wrap] at this
 have e : ((a + b).toNat : Int) = ((a.toNat : Int) + (b.toNat : Int)) % 4294967296 := by rw [UInt32.toNat_add]; omega
 rw [vW, e]; exact this
theorem pv_shlW {x y : Operand} {a : UInt32} {k' : IntKind} {j : Int} {m : Nat} {t yt : TypeId} (hx : ev L x = some (vW a)) (hy : ev L y = some (.int k' j)) (hj : j = (m : Int)) (hm : m < 32) : PV P n L (.binOp .shl t x y yt) ty (vW (a <<< UInt32.ofNat m)) := by
 subst hj
 have := pv_shl (P := P) (n := n) (t := t) (yt := yt) (ty := ty) hx hy
 have e1 : min m IntKind.u32.bits = m := Nat.min_eq_left (by simp only [IntKind.bits]; omega)
 rw [e1, u32_wrap] at this
 have e : ((a <<< UInt32.ofNat m).toNat : Int) = ((a.toNat : Int) * 2 ^ m) % 4294967296 := by
  rw [UInt32.toNat_shiftLeft, UInt32.toNat_ofNat', Nat.mod_eq_of_lt (show m < 2 ^ 32 by omega), Nat.mod_eq_of_lt hm, Nat.shiftLeft_eq]
  rw [two_pow m]
  generalize 2 ^ m = p
  rw [← Int.natCast_mul]
  generalize a.toNat * p = q
  rw [show (2 : Nat) ^ 32 = 4294967296 from rfl]
  omega
 rw [vW, e]; exact this
theorem pv_shrW {x y : Operand} {a : UInt32} {k' : IntKind} {j : Int} {m : Nat} {t yt : TypeId} (hx : ev L x = some (vW a)) (hy : ev L y = some (.int k' j)) (hj : j = (m : Int)) (hm : m < 32) : PV P n L (.binOp .shr t x y yt) ty (vW (a >>> UInt32.ofNat m)) := by
 subst hj
 have := pv_shr (P := P) (n := n) (t := t) (yt := yt) (ty := ty) hx hy
 have e1 : min m IntKind.u32.bits = m := Nat.min_eq_left (by simp only [IntKind.bits]; omega)
 rw [e1] at this
 have e : ((a >>> UInt32.ofNat m).toNat : Int) = Int.fdiv (a.toNat : Int) (2 ^ m) := by
  rw [UInt32.toNat_shiftRight, UInt32.toNat_ofNat', Nat.mod_eq_of_lt (show m < 2 ^ 32 by omega), Nat.mod_eq_of_lt hm, Nat.shiftRight_eq_div_pow]
  rw [two_pow m, Int.fdiv_eq_ediv_of_nonneg _ (Int.natCast_nonneg _)]
  rfl
 rw [vW, e]; exact this
theorem pv_convW {x : Operand} {c : UInt8} {src dst : TypeId} {sd : TypeDesc} (hx : ev L x = some (.int .u8 (c.toNat : Int))) (hs : P.underlying src = some sd) (hd : P.underlying dst = some (.int .u32)) : PV P n L (.convert src dst x) ty (vW c.toUInt32) := by
 have := pv_conv (n := n) (ty := ty) hx hs hd
 rw [u32_wrap] at this
 have h1 := c.toNat_lt
 have e : ((c.toUInt32).toNat : Int) = (c.toNat : Int) % 4294967296 := by rw [UInt8.toNat_toUInt32]; omega
 rw [vW, e]; exact this
/-- An element's address in an array of one's own. -/
theorem pv_aindex1 {t e : TypeId} {x y : Operand} {k : IntKind} {i : Int} {m b len : Nat} {ti : TypeInfo} (ht : P.underlying t = some (.array len e)) (hi : P.info? e = some ti) (hsz : ti.size = 1)
    (hx : ev L x = some (.pointer (some ⟨b, 0, none⟩))) (hy : ev L y = some (.int k i)) (hm : i = (m : Int)) (h : m < len) : PV P n L (.indexAddr t x y) ty (.pointer (some ⟨b, m, none⟩)) :=
 ⟨by intro c; simp, fun a f w _ _ _ _ => by
  subst hm
  have : (⟨b, 0, none⟩ : Addr).add m = ⟨b, m, none⟩ := by
   unfold Addr.add; split <;> simp_all
  simp [execOp, f.ev hx, f.ev hy, Instr.indexAt, asIntOf, run_underlying ht, Instr.sureAddr, h, sizeOf, typeInfo, program, Sem.run, hi, hsz, this]⟩
/-- An element of an array that is a value. -/
theorem pv_aidx {t e : TypeId} {x y : Operand} {k : IntKind} {i : Int} {m len : Nat} {ti : TypeInfo} {td : TypeDesc} {cs : List Value} {v : Value} (ht : P.underlying t = some (.array len e)) (he : P.underlying e = some td) (hi : P.info? e = some ti) (hfl : flat td = true) (hsz : ti.size = 1)
    (hx : ev L x = some (.agg cs.toArray)) (hy : ev L y = some (.int k i)) (hm : i = (m : Int)) (h : m < len) (hv : cs[m]? = some v) : PV P n L (.index t x y) ty v :=
 ⟨by intro c; simp, fun a f w _ _ _ _ => by
  subst hm
  simp [execOp, f.ev hx, f.ev hy, Instr.index, asIntOf, run_underlying ht, h, part, isAgg_flat he hfl, sizeOf, typeInfo, program, Sem.run, hi, hsz, hv]⟩
theorem flat_cells : ∀ {vs : List Value}, vs.all oneCell = true → vs.flatMap (fun v => v.cells.toList) = vs := by
 intro vs
 induction vs with
 | nil => intro _; rfl
 | cons v vs ih =>
   intro h
   rw [List.all_cons, Bool.and_eq_true] at h
   have hc : v.cells.toList = [v] := by cases v <;> simp_all [Value.cells, oneCell]
   rw [List.flatMap_cons, hc, ih h.2]; rfl
/-- An array that is written out. -/
theorem pv_buildA {t e : TypeId} {ps : List (Nat × Operand)} {vs : List Value} {len : Nat} {ti tt : TypeInfo} {z : Value} (ht : P.underlying t = some (.array len e)) (hi : P.info? e = some ti) (hsz : ti.size = 1)
    (hps : evps L ps = some (parts 0 vs)) (h1 : vs.all oneCell = true) (hit : P.info? t = some tt) (hz : tt.zero = some z) (hzs : z.cells.size = vs.length) : PV P n L (.build t ps.toArray) ty (.agg vs.toArray) := by
 refine pv_buildx hps (fun w => ?_)
 have hv : ∀ v ∈ vs, v.cells.size = 1 := fun v hv => by
  have := List.all_eq_true.1 h1 v hv
  cases v <;> simp_all [Value.cells, oneCell]
 have hf := run_fill 1 vs 0 [] z.cells.toList hv (by simp) (by simp [hzs])
 rw [List.nil_append, List.nil_append, flat_cells h1] at hf
 simp only [Array.toArray_toList] at hf
 unfold Instr.build
 simp only [Sem.run_bind, zeroValue, typeInfo, program, Sem.run, hit, hz, Result.andThen_ok, run_underlying ht, sizeOf, hi, hsz, Sem.run_pure]
 rw [hf]; rfl
end
end
section
section
variable {r : Option Nat} {P : Program} {n : Nat} {ops : Array Oper} {A : List HP} {L : Loc} {Hs : List HP} {Q : Out}
theorem opV_mono {R R' : Value → World → Prop} (h : ∀ v w, R v w → R' v w) {res : Result Next} (q : opV r P R res) : opV r P R' res := by
 unfold opV at q ⊢
 split at q
 · exact h _ _ q
 · exact h _ _ q
 · refine q.mono ?_
   rintro e w'' ⟨v, rfl, x⟩
   exact ⟨v, rfl, h _ _ x⟩
 · refine q.mono ?_
   rintro e w'' ⟨v, rfl, x⟩
   exact ⟨v, rfl, h _ _ x⟩
 · exact q.elim
theorem sl_pers {B : HP} (hB : Pers B) {As : List HP} {M : Kn} {h1 h : Res} (b : B.at_ M h1) (s : SL As M h) : SL (B :: As) M h := ⟨Res.emp, h, Res.emp_dj _, (Res.emp_add _).symm, hB b, s⟩
theorem ent_mid {B : HP} (hB : Pers B) : Ent (A ++ (B :: Hs)) ((B :: A) ++ Hs) := ⟨fun {M h} s => by
 obtain ⟨h1, h2, d, e, s1, s2⟩ := SL.split s
 obtain ⟨g1, g2, d', e', b, s3⟩ := s2
 subst e'; subst e
 refine sl_pers hB b ?_
 obtain ⟨d1, d2⟩ := Res.dj_add_right.1 d
 have := SL.append d (s1) (SL.more d' s3)
 exact this⟩
theorem d_known {B : HP} (hB : Pers B) : ∀ {k : Nat} {ls : Array Bool} {L : Loc} {Hs : List HP}, An r P n ops (B :: A) Q k ls L Hs → An r P n ops A Q k ls L (B :: Hs) := by
 intro k
 induction k with
 | zero =>
   intro ls L Hs h
   exact ⟨h.1, fun a M x s => h.2 a M x ⟨s.1, (by
    obtain ⟨g1, g2, d, e, y, t⟩ := s.2
    exact ⟨g1, g2, d, e, y, (ent_mid hB) t⟩)⟩⟩
 | succ k ih =>
   intro ls L Hs h
   refine ⟨fun e a M x s => h.1 e a M x ⟨s.1, (by
    obtain ⟨g1, g2, d, e, y, t⟩ := s.2
    exact ⟨g1, g2, d, e, y, (ent_mid hB) t⟩)⟩, fun i hi => ?_⟩
   obtain ⟨o, ho, hop⟩ := h.2 i hi
   rcases hop with ⟨hd, hop⟩ | ⟨hl, h0, hd, hop⟩
   rotate_left
   · refine ⟨o, ho, .inr ⟨hl, h0, hd, ?_⟩⟩
     rcases hop with ⟨j, want, u, hg, hgd, hne, k'⟩ | ⟨hg, X, val, φ, As, Rs, Bs, he, ht, hk⟩
     · exact .inl ⟨j, want, u, hg, hgd, hne, k'.1, fun a M x s => k'.2 a M x ⟨s.1, (by
         obtain ⟨g1, g2, d, e, y, t⟩ := s.2
         exact ⟨g1, g2, d, e, y, (ent_mid hB) t⟩)⟩⟩
     · exact .inr ⟨hg, X, val, φ, As, Rs, Bs, (ent_mid hB).trans he, ht, hk⟩
   refine ⟨o, ho, .inl ⟨hd, ?_⟩⟩
   rcases hop with ⟨j, want, u, hg, hgd, hne, k'⟩ | ⟨hg, X, val, φ, As, Rs, Bs, he, ht, hk⟩
   · exact .inl ⟨j, want, u, hg, hgd, hne, ih k'⟩
   · refine .inr ⟨hg, X, val, φ, B :: As, Rs, fun x => B :: Bs x, ⟨fun s => ?_⟩, ?_, fun x hx => ih (hk x hx)⟩
     · obtain ⟨g1, g2, d, e, b, s⟩ := s
       exact ⟨g1, g2, d, e, b, he s⟩
     · intro a f w M h hA hf dj dj' s sA t
       obtain ⟨g1, g2, d, e, b, s⟩ := s
       have sx : SL As M h := by rw [e]; exact SL.more d s
       have := ht a f w M h hA hf dj dj' sx (sl_pers hB b sA) t
       refine opV_mono ?_ this
       rintro v w' ⟨x, M', h', e1, p, l, e2, e3, e4, e5⟩
       exact ⟨x, M', h', e1, p, l, e2, e3, e4, sl_pers hB (B.mono l b) e5⟩
/-- A new block that never turns any more. -/
theorem an_newI {k : Nat} {ls : Array Bool} {op : Op} {ty : TypeId} {d : Nat} {pos : String} {after : Array Edge} {e : TypeId} {cs : List Value} {val : Nat → Value} (hd : Nat.blt d n = true)
    (hrun : ∀ (a : Act), Fr n L a → ∀ (w : World) (dst : Option Tmp) (pos : String) (after : Array Edge) (guard : Option (Nat × Bool)),
     (execOp a.eval ⟨dst, op, ty, pos, after, guard⟩).run P w = .ok (.value (val w.heap.size)) (w.alloc (.cells cs.toArray e (0, 0))))
    (kk : ∀ b, An r P n ops (ICe b e cs :: A) Q k ls ((d, val b) :: L) Hs) : AnOp r P n ops A ⟨some d, op, ty, pos, after, none⟩ (fun L' Hs' => An r P n ops A Q k ls L' Hs') L Hs := by
 refine ⟨hd, .inr ⟨.inl rfl, Nat, val, fun _ => True, [], Hs, fun b => [ICe b e cs], Ent.refl _, ?_, fun b _ => d_known (Im.pers b _) (kk b)⟩⟩
 intro a fr w M h hA hf dj dj' s sA t
 rw [hrun a fr w]
 have t2 := t.alloc (.cells cs.toArray e (0, 0))
 obtain ⟨f1, f2⟩ := fresh_none t
 obtain ⟨M', l, him, t3⟩ := freeze_sat (one_dj f2) t2
 exact ⟨w.heap.size, M', h, rfl, trivial, l, dj, dj', t3, Res.emp, h, Res.emp_dj _, (Res.emp_add _).symm, him, trivial⟩
theorem an_buildSliceI {k : Nat} {ls : Array Bool} {t e ty : TypeId} {d : Nat} {pos : String} {after : Array Edge} {ti : TypeInfo} {z : Value} {len : Nat} {ps : List (Nat × Operand)} (vs : List Value) {cs : List Value} (ht : P.underlying t = some (.slice e)) (hi : P.info? e = some ti) (hz : ti.zero = some z) (hzs : Nat.beq z.cells.size ti.size = true)
    (hps : evps L ps = some (parts 0 vs)) (hlen : vs.length = len) (hv : vs.all (fun v => Nat.beq v.cells.size ti.size) = true) (hsm : Nat.ble (vs.length * ti.size) 16777216 = true) (hcs : vs.flatMap (·.cells.toList) = cs) (hd : Nat.blt d n = true)
    (kk : ∀ b, An r P n ops (ICe b e cs :: A) Q k ls ((d, .slice (some ⟨b, 0, none⟩) len len) :: L) Hs) : AnOp r P n ops A ⟨some d, .buildSlice t len ps.toArray, ty, pos, after, none⟩ (fun L' Hs' => An r P n ops A Q k ls L' Hs') L Hs := by
 subst hlen
 refine an_newI (val := fun b => .slice (some ⟨b, 0, none⟩) vs.length vs.length) hd (fun a f w _ _ _ _ => ?_) kk
 rw [← hcs]
 have e1 := f.evpsa hps
 have := run_buildSlice ht hi hz (Nat.eq_of_beq_eq_true hzs) (fun v hv' => Nat.eq_of_beq_eq_true (by have := List.all_eq_true.1 hv v hv'; simpa using this)) (Nat.le_of_ble_eq_true hsm) w
 simp only [execOp]
 rw [show (Array.map (fun x => match x with | (i, x) => (i, a.eval x)) ps.toArray) = (parts 0 vs).toArray from e1]
 simp [this]
theorem tl_b2s {s t e ty : TypeId} {dst : Option Tmp} {pos : String} {after : Array Edge} {x : Operand} {b len cap : Nat} {l : List UInt8} {m : List Value} (hs : P.underlying s = some (.slice e)) (ht : P.underlying t = some .string) (he : P.underlying e = some (.int .u8))
    (hx : ev L x = some (.slice (some ⟨b, 0, none⟩) len cap)) [hr : RdCe b m A] (hm : m.take len = vUs l) (hl : len ≤ m.length) : Tells P n ops ⟨dst, .convert s t x, ty, pos, after, none⟩ A L (vS l) := by
 obtain ⟨B, sh, hB⟩ := hr.get
 have hlen : l.length = len := by have := congrArg List.length hm; simp [vUs] at this; omega
 refine .inr ⟨.inl rfl, fun a f w M hA hf dj sA t' => ?_⟩
 have hc : ∀ j, j < l.length → w.cell? ⟨b, j, none⟩ = some (vU ((l.getD j 0).toNat : Int)) := fun j hj => by
  rw [shows_cell' sh hB sA t' j]
  have : (m.take len)[j]? = (vUs l)[j]? := by rw [hm]
  rw [List.getElem?_take_of_lt (by omega)] at this
  rw [this]; simp [vUs, hj]
 have hb := run_b2s (P := P) (cap := cap) hc hlen.symm
 simp [execOp, f.ev hx, convert, run_underlying hs, run_underlying ht, run_underlying he, hb]
end
end
section
def okCells : List TypeDesc → List Value → List Value → Bool
 | [], [], [] => true
 | .int _ :: r, .int k _ :: xs, .int k' _ :: ys => decide (k = k') && okCells r xs ys
 | .bool :: r, .bool _ :: xs, .bool _ :: ys => okCells r xs ys
 | .string :: r, .string _ :: xs, .string _ :: ys => okCells r xs ys
 | _, _, _ => false
def eqCell : Value → Value → Bool
 | .int _ a, .int _ b => a == b
 | .bool a, .bool b => a == b
 | .string a, .string b => a.toList == b.toList
 | _, _ => false
def eqCells : List Value → List Value → Bool
 | [], [] => true
 | x :: xs, y :: ys => eqCell x y && eqCells xs ys
 | _, _ => false
section
variable {P : Program} {n : Nat} {L : Loc} {ty : TypeId}
theorem run_eqFields {w : World} (d : Nat) : ∀ (tds : List TypeDesc) (fs : List Field) (xs ys px py : List Value),
    fs.map (fun f => (P.underlying f.type, f.name == "_", f.offset)) = (tds.zipIdx px.length).map (fun (td, i) => (some td, false, i)) → px.length = py.length → okCells tds xs ys = true →
    (Op.eqFields (d + 1) (px ++ xs).toArray (py ++ ys).toArray fs).run P w = .ok (eqCells xs ys) w := by
 intro tds
 induction tds with
 | nil =>
   intro fs xs ys px py hf hl ho
   cases fs with
   | cons f fs => simp at hf
   | nil =>
     cases xs <;> cases ys <;> simp [okCells] at ho
     simp [Op.eqFields, eqCells]
 | cons td tds ih =>
   intro fs xs ys px py hf hl ho
   cases fs with
   | nil => simp at hf
   | cons f fs =>
     simp only [List.map_cons, List.zipIdx_cons, List.cons.injEq, Prod.mk.injEq] at hf
     obtain ⟨⟨hu, hn, hof⟩, hf⟩ := hf
     have hn' : f.name ≠ "_" := by
      intro e; rw [e] at hn; simp at hn
     cases xs with
     | nil => cases td <;> simp [okCells] at ho
     | cons x xs =>
     cases ys with
     | nil => cases td <;> cases x <;> simp [okCells] at ho
     | cons y ys =>
     have hfl : flat td = true ∧ okCells tds xs ys = true ∧ (Op.equalIn (d + 1) f.type x y).run P w = .ok (eqCell x y) w := by
      cases td <;> cases x <;> cases y <;> simp [okCells] at ho
      · exact ⟨rfl, ho, run_equalIn_bool' w d _ _ _ hu⟩
      · obtain ⟨e, ho⟩ := ho
        subst e
        exact ⟨rfl, ho, run_equalIn_int w d _ _ _ _ _ hu⟩
      · exact ⟨rfl, ho, run_equalIn_string w d _ _ _ hu⟩
     obtain ⟨h1, h2, h3⟩ := hfl
     have hp : ∀ (pz : List Value) (z : Value) (zs : List Value), pz.length = px.length → (part f.type (pz ++ z :: zs).toArray f.offset).run P w = .ok z w := by
      intro pz z zs hz
      rw [hof]
      simp [part, isAgg_flat hu h1, ← hz]
     have hx := hp px x xs rfl
     have hy := hp py y ys hl.symm
     simp only [Op.eqFields, hn', ne_eq, not_false_eq_true, if_true, Sem.run_bind, hx, hy, h3, Result.andThen_ok]
     have := ih fs xs ys (px ++ [x]) (py ++ [y]) (by rw [List.length_append, List.length_singleton]; exact hf) (by simp [hl]) h2
     simp only [List.append_assoc, List.singleton_append] at this
     cases hb : eqCell x y with
     | false => simp [eqCells, hb]
     | true => simp [eqCells, hb, this]
theorem pv_aneq {x y : Operand} {xs ys : List Value} {t yt : TypeId} {fs : Array Field} (tds : List TypeDesc) (ht : P.underlying t = some (.struct fs)) (hs : P.stoodInHeld t = false) (hg : P.eqGuardType P.depth t = false)
    (hf : fs.toList.map (fun f => (P.underlying f.type, f.name == "_", f.offset)) = tds.zipIdx.map (fun (td, i) => (some td, false, i))) (hx : ev L x = some (.agg xs.toArray)) (hy : ev L y = some (.agg ys.toArray)) (hc : okCells tds xs ys = true) :
    PV P n L (.binOp .neq t x y yt) ty (.bool (!eqCells xs ys)) :=
 pv_vv hx hy (fun w => run_eqGuard_agg _ _ _ _ _ _ _ hg) fun w => by
  have hfo : P.fieldsOf t = fs := by simp [Program.fieldsOf, ht]
  have := run_eqFields (P := P) (w := w) 9998 tds fs.toList xs ys [] [] hf rfl hc
  rw [run_neq_struct, show (10000 : Nat) = 9999 + 1 from rfl, run_equalIn_agg w 9999 t _ _ (by rw [hfo]; exact ht) hs, hfo]
  simp only [List.nil_append] at this
  rw [this]; rfl
theorem eqCell_s (a b : List UInt8) : eqCell (vS a) (vS b) = decide (a = b) := by simp [eqCell, mk_toList, lbeq]
end
end
end Go.Proofs.YtdnoacgopfcpbaaGreat
