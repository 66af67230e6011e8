/- Texts of this proof, put together: MapX, MapX2, STags4, PShaN, P18, P18R, SLinks2. -/
import Derived.ChangeKeysEq
import Derived.Test.YtdnoacgopfcpbaaGreatQ18
set_option linter.unusedVariables false
set_option linter.unusedSimpArgs false
namespace Go.Proofs.YtdnoacgopfcpbaaGreat
end Go.Proofs.YtdnoacgopfcpbaaGreat
/- Maps with keys of any kind. -/
namespace Go.Proofs.YtdnoacgopfcpbaaGreat.MX
/-- How keys lie in memory. -/
structure KeyE (α : Type) where
 enc : α → Value
 inj : ∀ {a b : α}, enc a = enc b → a = b
variable {α : Type}
abbrev Ks (α : Type) := List (α × Value)
def mlook [DecidableEq α] : Ks α → α → Option Value
 | [], _ => none
 | p :: r, k => if p.1 = k then some p.2 else mlook r k
def mput [DecidableEq α] : Ks α → α → Value → Ks α
 | [], k, v => [(k, v)]
 | p :: r, k, v => if p.1 = k then (k, v) :: r else p :: mput r k v
def mdel [DecidableEq α] : Ks α → α → Ks α
 | [], _ => []
 | p :: r, k => if p.1 = k then r else p :: mdel r k
def mfind [DecidableEq α] : Ks α → α → Nat → Option (Nat × Value)
 | [], _, _ => none
 | p :: r, k, i => if p.1 = k then some (i, p.2) else mfind r k (i + 1)
theorem mfind_none [DecidableEq α] {ks : Ks α} {k : α} : ∀ {i : Nat}, mfind ks k i = none → mlook ks k = none ∧ (∀ v, mput ks k v = ks ++ [(k, v)]) ∧ mdel ks k = ks ∧ k ∉ ks.map (·.1) := by
 induction ks with
 | nil => intro i h; exact ⟨rfl, fun v => rfl, rfl, by simp⟩
 | cons p r ih =>
   intro i h
   simp only [mfind] at h
   split at h
   · cases h
   · rename_i hp
     obtain ⟨h1, h2, h3, h4⟩ := ih h
     simp only [mlook, mput, mdel, hp, if_false, h1, h2, h3, true_and]
     refine ⟨fun v => by simp, ?_⟩
     simp only [List.map_cons, List.mem_cons, not_or]
     exact ⟨fun e => hp e.symm, h4⟩
theorem mfind_some [DecidableEq α] {ks : Ks α} {k : α} {v : Value} : ∀ {i j : Nat}, mfind ks k i = some (j, v) → ∃ m, j = i + m ∧ m < ks.length ∧ mlook ks k = some v ∧ ks[m]? = some (k, v) ∧ (∀ u, mput ks k u = ks.set m (k, u)) ∧ mdel ks k = ks.eraseIdx m := by
 induction ks with
 | nil => intro i j h; simp [mfind] at h
 | cons p r ih =>
   intro i j h
   simp only [mfind] at h
   split at h
   · rename_i hp
     simp only [Option.some.injEq, Prod.mk.injEq] at h
     obtain ⟨rfl, rfl⟩ := h
     refine ⟨0, rfl, by simp, by simp [mlook, hp], by simp [← hp], fun u => by simp [mput, hp], by simp [mdel, hp]⟩
   · rename_i hp
     obtain ⟨m, rfl, h2, h3, h4, h5, h6⟩ := ih h
     refine ⟨m + 1, by omega, by simp; omega, by simp [mlook, hp, h3], by simpa using h4, fun u => by simp [mput, hp, h5], by simp [mdel, hp, h6]⟩
/-- A map's entries, and what they are taken for. -/
structure MapG (E : KeyE α) (es : Array MapEntry) (clock : Nat) (ks : Ks α) : Prop where
 eq : es.toList.map (fun e => (e.key, e.val)) = ks.map (fun p => (E.enc p.1, p.2))
 old : ∀ e ∈ es.toList, e.born < clock
 born : (es.toList.map (·.born)).Nodup
 keys : (ks.map (·.1)).Nodup
theorem MapG.nil {E : KeyE α} : MapG E #[] 0 [] := ⟨rfl, by simp, by simp, by simp⟩
theorem MapG.size {E : KeyE α} {es : Array MapEntry} {clock : Nat} {ks : Ks α} (g : MapG E es clock ks) : es.size = ks.length := by
 have := congrArg List.length g.eq
 simpa using this
def MapS (E : KeyE α) (b : Nat) (ks : Ks α) : HP := ⟨fun _ h => ∃ es clock, h = Res.one b (.map es clock) ∧ MapG E es clock ks, fun _ e => e⟩
/-- A map may have such keys. -/
structure KeyP [DecidableEq α] (P : Program) (kt : TypeId) (E : KeyE α) : Prop where
 chk : ∀ (b : Bool) (k : α) (w : World), (Instr.checkKey b 10000 kt (E.enc k)).run P w = .ok () w
 fnd : ∀ {es : Array MapEntry} {clock : Nat} {ks : Ks α}, MapG E es clock ks → ∀ (k : α) (w : World), (Instr.findKey kt (E.enc k) es.toList).run P w = .ok (mfind ks k 0) w
 stay : ∀ (k : α) (w : World), (Instr.keyThatStays (E.enc k) (E.enc k)).run P w = .ok (E.enc k) w
theorem MapG.put [DecidableEq α] {E : KeyE α} {es : Array MapEntry} {clock : Nat} {ks : Ks α} (g : MapG E es clock ks) (k : α) (v : Value) (h : mfind ks k 0 = none) : MapG E (es.push { key := E.enc k, val := v, born := clock }) (clock + 1) (mput ks k v) := by
 obtain ⟨_, h2, _, h4⟩ := mfind_none h
 rw [h2]
 refine ⟨by simp [g.eq], ?_, ?_, ?_⟩
 · intro e he
   simp only [Array.toList_push, List.mem_append, List.mem_singleton] at he
   rcases he with he | rfl
   · have := g.old e he; omega
   · simp
 · simp only [Array.toList_push, List.map_append, List.map_cons, List.map_nil]
   rw [List.nodup_append]
   refine ⟨g.born, by simp, ?_⟩
   intro a ha c hc
   simp only [List.mem_singleton] at hc
   obtain ⟨e, he, rfl⟩ := List.mem_map.1 ha
   have := g.old e he
   omega
 · rw [List.map_append, List.nodup_append]
   refine ⟨g.keys, by simp, ?_⟩
   intro a ha c hc e
   simp at hc
   subst hc; subst e
   exact h4 ha
theorem MapG.set [DecidableEq α] {E : KeyE α} {es : Array MapEntry} {clock : Nat} {ks : Ks α} (g : MapG E es clock ks) {k : α} {u : Value} {j : Nat} (v : Value) (h : mfind ks k 0 = some (j, u)) : MapG E (es.modify j fun e => { e with key := E.enc k, val := v }) clock (mput ks k v) := by
 obtain ⟨m, hj, hm, _, h4, h5, _⟩ := mfind_some h
 simp only [Nat.zero_add] at hj
 subst hj
 rw [h5]
 have hsz := g.size
 have hlt : j < es.toList.length := by rw [Array.length_toList, hsz]; exact hm
 have e1 : (es.modify j fun e => { e with key := E.enc k, val := v }).toList = es.toList.set j ⟨E.enc k, v, es.toList[j].born⟩ := by
  rw [Array.toList_modify]
  apply List.ext_getElem?
  intro i
  rw [List.getElem?_modify, List.getElem?_set]
  by_cases hi : j = i
  · subst hi
    have h6 : es.toList[j]? = some es.toList[j] := List.getElem?_eq_getElem hlt
    simp [h6, hlt]
    simpa using hlt
  · simp [hi]
 refine ⟨?_, ?_, ?_, ?_⟩
 · rw [e1, List.map_set, g.eq, List.map_set]
 · intro e he
   rw [e1] at he
   rcases List.mem_or_eq_of_mem_set he with he | rfl
   · exact g.old e he
   · show es.toList[j].born < clock
     exact g.old _ (List.getElem_mem hlt)
 · rw [e1, List.map_set]
   have : (es.toList.map (·.born)).set j es.toList[j].born = es.toList.map (·.born) := by
    apply List.ext_getElem?
    intro i
    rw [List.getElem?_set]
    by_cases hi : j = i
    · subst hi
      have h6 : es.toList[j]? = some es.toList[j] := List.getElem?_eq_getElem hlt
      rw [List.getElem?_map, h6]; simp
      simpa using hlt
    · simp [hi]
   rw [this]; exact g.born
 · rw [List.map_set]
   have : (ks.map (·.1)).set j k = ks.map (·.1) := by
    apply List.ext_getElem?
    intro i
    rw [List.getElem?_set]
    by_cases hi : j = i
    · subst hi; rw [List.getElem?_map, h4]; simp [hm]
    · simp [hi]
   rw [this]; exact g.keys
/-- The entries that a walk over a map has met. -/
structure SeenG (E : KeyE α) (es : Array MapEntry) (ds : List MapEntry) (done : List α) : Prop where
 mem : ∀ d ∈ ds, d ∈ es.toList
 keys : ds.map (·.key) = done.map E.enc
 nodup : done.Nodup
/-- A map at b that is being walked over by the iterator at r; the keys that were met. -/
def MapIt (E : KeyE α) (b r : Nat) (ks : Ks α) (done : List α) : HP :=
 ⟨fun _ h => ∃ (es : Array MapEntry) (clock : Nat) (ds : List MapEntry), b ≠ r ∧ h = (Res.one b (.map es clock)).add (Res.one r (.mapIter (some b) clock (ds.map MapEntry.born).toArray clock)) ∧ MapG E es clock ks ∧ SeenG E es ds done, fun _ e => e⟩
theorem mapg_key {E : KeyE α} {es : Array MapEntry} {clock : Nat} {ks : Ks α} (g : MapG E es clock ks) {e : MapEntry} (h : e ∈ es.toList) : ∃ k v, e.key = E.enc k ∧ e.val = v ∧ (k, v) ∈ ks := by
 have h1 : (e.key, e.val) ∈ es.toList.map (fun e => (e.key, e.val)) := List.mem_map_of_mem (f := fun e => (e.key, e.val)) h
 rw [g.eq] at h1
 obtain ⟨p, hp, hq⟩ := List.mem_map.1 h1
 simp only [Prod.mk.injEq] at hq
 exact ⟨p.1, p.2, hq.1.symm, hq.2.symm, hp⟩
theorem mapg_inj {E : KeyE α} {es : Array MapEntry} {clock : Nat} {ks : Ks α} (g : MapG E es clock ks) {e f : MapEntry} (he : e ∈ es.toList) (hf : f ∈ es.toList) (h : e.key = f.key) : e = f := by
 have hn : (es.toList.map (·.key)).Nodup := by
  have h1 : es.toList.map (·.key) = (ks.map (·.1)).map E.enc := by
   have := congrArg (List.map Prod.fst) g.eq
   simpa [List.map_map, Function.comp_def] using this
  rw [h1]
  refine List.Pairwise.map E.enc (fun a b hab e => hab (E.inj e)) g.keys
 obtain ⟨i, hi, rfl⟩ := List.getElem_of_mem he
 obtain ⟨j, hj, rfl⟩ := List.getElem_of_mem hf
 have := nodup_inj hn (i := i) (j := j) (by simpa using hi) (by simpa using hj) (by simpa using h)
 subst this; rfl
def nxV (E : KeyE α) : Option (α × Value) → Value
 | none => .tuple #[.bool false]
 | some (k, v) => .tuple #[.bool true, E.enc k, v]
def nxD (done : List α) : Option (α × Value) → List α
 | none => done
 | some (k, _) => done ++ [k]
def nxP (ks : Ks α) (done : List α) : Option (α × Value) → Prop
 | none => ∀ p ∈ ks, p.1 ∈ done
 | some (k, v) => (k, v) ∈ ks ∧ k ∉ done
class MapPC (E : outParam (KeyE α)) (b : Nat) (ks : outParam (Ks α)) (Hs : List HP) (Rs : outParam (List HP)) : Prop where
 get : Pick (MapS E b ks) Hs Rs
instance (priority := 1000) {E : KeyE α} {b : Nat} {ks : Ks α} {r : List HP} : MapPC E b ks (MapS E b ks :: r) r := ⟨.here⟩
instance (priority := 100) {E : KeyE α} {b : Nat} {ks : Ks α} {B : HP} {r s : List HP} [h : MapPC E b ks r s] : MapPC E b ks (B :: r) (B :: s) := ⟨.there h.get⟩
instance (priority := 900) {E : KeyE α} {b : Nat} {ks : Ks α} {B B' C : List HP} [h : MapPC E b ks B B'] : MapPC E b ks (B ++ C) (B' ++ C) := ⟨pick_left h.get⟩
instance (priority := 800) {E : KeyE α} {b : Nat} {ks : Ks α} {B C C' : List HP} [h : MapPC E b ks C C'] : MapPC E b ks (B ++ C) (B ++ C') := ⟨pick_right h.get⟩
class RdMap (E : outParam (KeyE α)) (b : Nat) (ks : outParam (Ks α)) (Hs : List HP) : Prop where
 get : Has (MapS E b ks) Hs
instance (priority := 1000) {E : KeyE α} {b : Nat} {ks : Ks α} {r : List HP} : RdMap E b ks (MapS E b ks :: r) := ⟨.here⟩
instance (priority := 100) {E : KeyE α} {b : Nat} {ks : Ks α} {B : HP} {r : List HP} [h : RdMap E b ks r] : RdMap E b ks (B :: r) := ⟨.there h.get⟩
instance (priority := 900) {E : KeyE α} {b : Nat} {ks : Ks α} {B C : List HP} [h : RdMap E b ks B] : RdMap E b ks (B ++ C) := ⟨has_left h.get⟩
instance (priority := 800) {E : KeyE α} {b : Nat} {ks : Ks α} {B C : List HP} [h : RdMap E b ks C] : RdMap E b ks (B ++ C) := ⟨has_right h.get⟩
theorem maps_at {E : KeyE α} {b : Nat} {ks : Ks α} {w : World} {M : Kn} {h hf h1 : Res} (t : Sat w M (h.add hf)) (le : h1.le h) (x : (MapS E b ks).at_ M h1) : ∃ es clock, w.heap[b]? = some (.map es clock) ∧ MapG E es clock ks := by
 obtain ⟨es, clock, e, g⟩ := x
 exact ⟨es, clock, t.ow _ _ (Res.le_add_left _ _ _ _ (le _ _ (by rw [e]; exact Res.one_same _ _))), g⟩
section
variable {r : Option Nat} {P : Program} {n : Nat} {ops : Array Oper} {os : List Oper} {A : List HP} {L : Loc} {Hs : List HP} {Q : Out} {ty : TypeId} {d : Nat} {pos : String} {after : Array Edge} {c : Code}
theorem run_mlook [DecidableEq α] {E : KeyE α} {t kt e : TypeId} {i : TypeInfo} {z : Value} (ht : P.underlying t = some (.map kt e)) (hk : KeyP P kt E) (hi : P.info? e = some i) (hz : i.zero = some z) {w : World} {b : Nat} {es : Array MapEntry} {clock : Nat} {ks : Ks α} (hb : w.heap[b]? = some (.map es clock)) (g : MapG E es clock ks) (k : α) (ok : Bool) :
    (Instr.lookup t (.map (some b)) (E.enc k) ok).run P w = .ok (if ok then .tuple #[(mlook ks k).getD z, .bool (mlook ks k).isSome] else (mlook ks k).getD z) w := by
 have hc := hk.chk es.isEmpty k w
 have hf := hk.fnd g k w
 have hzv : (zeroValue e).run P w = .ok z w := by simp [zeroValue, typeInfo, program, Sem.run, hi, hz]
 cases hm : mfind ks k 0 with
 | none =>
   obtain ⟨h1, _⟩ := mfind_none hm
   rw [hm] at hf
   simp only [Instr.lookup, run_underlying ht, Sem.run_bind, Result.andThen_ok, MapKept.run_getObj_map hb, hc, hf, h1, hzv, Sem.run_pure]
   cases ok <;> rfl
 | some p =>
   obtain ⟨j, u⟩ := p
   obtain ⟨m, _, _, h3, _⟩ := mfind_some hm
   rw [hm] at hf
   simp only [Instr.lookup, run_underlying ht, Sem.run_bind, Result.andThen_ok, MapKept.run_getObj_map hb, hc, hf, h3, Sem.run_pure]
   cases ok <;> rfl
theorem r_lookup [DecidableEq α] {E : KeyE α} {t kt e : TypeId} {i : TypeInfo} {z : Value} {x y : Operand} {b : Nat} {ks : Ks α} {k : α} {ok : Bool} {v : Value} (ht : P.underlying t = some (.map kt e)) (hk : KeyP P kt E) (hi : P.info? e = some i) (hz : i.zero = some z)
    (hx : ev L x = some (.map (some b))) (hy : ev L y = some (E.enc k)) [hr : RdMap E b ks Hs] (hv : (if ok then Value.tuple #[(mlook ks k).getD z, .bool (mlook ks k).isSome] else (mlook ks k).getD z) = v) (hd : Nat.blt d n = true)
    (K : wo r P n ops os ((d, v) :: L) Hs Q) : wo r P n ops (⟨some d, .lookup t x y ok, ty, pos, after, none⟩ :: os) L Hs Q := by
 subst hv
 refine wo_read (by intro c; simp) hr.get hd (fun a f w M h h1 hf t' le yy _ _ _ _ => ?_) K
 obtain ⟨es, clock, hb, g⟩ := maps_at t' le yy
 simp [execOp, f.ev hx, f.ev hy, run_mlook ht hk hi hz hb g k ok]
theorem opt_mapUpdate [DecidableEq α] {E : KeyE α} {t kt e : TypeId} {x y z : Operand} {b : Nat} {ks : Ks α} {k : α} {v : Value} (ht : P.underlying t = some (.map kt e)) (hk : KeyP P kt E)
    (hx : ev L x = some (.map (some b))) (hy : ev L y = some (E.enc k)) (hz : ev L z = some v) :
    OpT r P n ⟨none, .mapUpdate t x y z, ty, pos, after, none⟩ A L [MapS E b ks] (fun _ : Unit => undef) (fun _ => True) (fun _ => [MapS E b (mput ks k v)]) := by
 refine opt_turn (fun a f w M h1 hf dj tt hm => ?_)
 obtain ⟨es, clock, e1, g⟩ := hm
 subst e1
 have hb : w.heap[b]? = some (.map es clock) := tt.ow _ _ (by simp [Res.add, Res.one])
 have hc := hk.chk false k w
 have hfk := hk.fnd g k w
 cases hm : mfind ks k 0 with
 | none =>
   rw [hm] at hfk
   refine ⟨_, Res.one b (.map (es.push { key := E.enc k, val := v, born := clock }) (clock + 1)), dj_one_any dj, sat_setBlock _ dj tt, ⟨_, _, rfl, g.put k v hm⟩, .inr ⟨?_, rfl⟩⟩
   simp [execOp, f.ev hx, f.ev hy, f.ev hz, Instr.mapUpdate, run_underlying ht, MapKept.run_getObj_map hb, hc, hfk, MapKept.run_setObj_map _ hb]
 | some p =>
   obtain ⟨j, u⟩ := p
   rw [hm] at hfk
   obtain ⟨m, hj, hlt, _, h4, _⟩ := mfind_some hm
   simp only [Nat.zero_add] at hj
   subst hj
   have hkey : ((es[j]?).map (·.key)).getD (E.enc k) = E.enc k := by
    have h5 : (es.toList.map (fun e => (e.key, e.val)))[j]? = (ks.map (fun p => (E.enc p.1, p.2)))[j]? := by rw [g.eq]
    simp only [List.getElem?_map, h4, Option.map_some, Array.getElem?_toList] at h5
    cases h6 : es[j]? with
    | none => rw [h6] at h5; simp at h5
    | some e0 => rw [h6] at h5; simp at h5; simp [h5]
   have hst := hk.stay k w
   refine ⟨_, Res.one b (.map (es.modify j fun e => { e with key := E.enc k, val := v }) clock), dj_one_any dj, sat_setBlock _ dj tt, ⟨_, _, rfl, g.set v hm⟩, .inr ⟨?_, rfl⟩⟩
   simp [execOp, f.ev hx, f.ev hy, f.ev hz, Instr.mapUpdate, run_underlying ht, MapKept.run_getObj_map hb, hc, hfk, hkey, hst, MapKept.run_setObj_map _ hb]
theorem r_mkmap {E : KeyE α} {t : TypeId} (hd : Nat.blt d n = true) (K : ∀ b, wo r P n ops os ((d, .map (some b)) :: L) (MapS E b [] :: Hs) Q) : wo r P n ops (⟨some d, .makeMap t none, ty, pos, after, none⟩ :: os) L Hs Q := by
 refine wo_makeMap0 hd (fun b => wo_ent' ⟨fun s => ?_⟩ (K b))
 obtain ⟨h1, h2, d1, e, hb, s2⟩ := s
 exact ⟨h1, h2, d1, e, ⟨_, _, hb, MapG.nil⟩, s2⟩
/-! Maps that are turned. -/
theorem opt_range {E : KeyE α} {dst : Option Tmp} {t kt e : TypeId} {x : Operand} {b : Nat} {ks : Ks α} (ht : P.underlying t = some (.map kt e)) (hx : ev L x = some (.map (some b))) :
    OpT r P n ⟨dst, .range t x, ty, pos, after, none⟩ A L [MapS E b ks] (fun i : Nat => .pointer (some ⟨i, 0, none⟩)) (fun _ => True) (fun i => [MapIt E b i ks []]) := by
 refine opt_turnX (fun a f w M h1 hf dj tt hm => ?_)
 obtain ⟨es, clock, e1, g⟩ := hm
 subst e1
 have hb : w.heap[b]? = some (.map es clock) := tt.ow _ _ (by simp [Res.add, Res.one])
 have hlt : b < w.heap.size := (Array.getElem?_eq_some_iff.1 hb).1
 obtain ⟨f1, f2⟩ := fresh_none tt
 have t2 := tt.alloc (.mapIter (some b) clock #[] clock)
 have hd2 : (Res.one w.heap.size (.mapIter (some b) clock #[] clock)).dj ((Res.one b (.map es clock)).add hf) := one_dj f2
 obtain ⟨d1, d2⟩ := Res.dj_add_right.1 hd2
 refine ⟨w.heap.size, w.alloc (.mapIter (some b) clock #[] clock), (Res.one b (.map es clock)).add (Res.one w.heap.size (.mapIter (some b) clock #[] clock)), trivial, Res.dj_add_left.2 ⟨dj, d2⟩, ?_, ⟨es, clock, [], by omega, rfl, g, ⟨by simp, rfl, by simp⟩⟩, ?_⟩
 · rw [Res.add_comm (Res.dj_comm d1), Res.add_assoc]; exact t2
 · simp [execOp, f.ev hx, Instr.range, run_underlying ht, MapKept.run_getObj_map hb, newObj, Sem.run]
theorem opt_next {E : KeyE α} {dst : Option Tmp} {x : Operand} {b i : Nat} {ks : Ks α} {done : List α} (hx : ev L x = some (.pointer (some ⟨i, 0, none⟩))) :
    OpT r P n ⟨dst, .next x false, ty, pos, after, none⟩ A L [MapIt E b i ks done] (nxV E) (nxP ks done) (fun o => [MapIt E b i ks (nxD done o)]) := by
 refine opt_turnX (fun a f w M h1 hf dj tt hm => ?_)
 obtain ⟨es, clock, ds, hne, e1, g, sg⟩ := hm
 subst e1
 have hb : w.heap[b]? = some (.map es clock) := tt.ow _ _ (by simp [Res.add, Res.one])
 have hi : w.heap[i]? = some (.mapIter (some b) clock (ds.map MapEntry.born).toArray clock) := tt.ow _ _ (by simp [Res.add, Res.one, Ne.symm hne])
 have hrun : ∀ (v : Value) (w' : World), (Instr.next (.pointer (some ⟨i, 0, none⟩)) false ty).run P w = .ok v w' → (execOp a.eval ⟨dst, .next x false, ty, pos, after, none⟩).run P w = .ok (.value v) w' := by
  intro v w' h
  simp only [execOp, f.ev hx, Sem.run_bind, h, Result.andThen_ok, Sem.run_pure]
 rcases run_next_at (P := P) w ty i b clock clock (ds.map MapEntry.born).toArray es clock hi hb (fun x hx => g.old x hx) (Nat.le_refl _) with ⟨h0, hr⟩ | ⟨e, he, w1, hw1, hr⟩
 · refine ⟨none, w, _, ?_, dj, tt, ⟨es, clock, ds, hne, rfl, g, sg⟩, hrun _ _ hr⟩
   intro p hp
   obtain ⟨j, hj, rfl⟩ := List.getElem_of_mem hp
   have hje : j < es.toList.length := by have := g.size; simp; omega
   have h1 : es.toList[j] ∈ es.toList := List.getElem_mem _
   have h2 : (ds.map MapEntry.born).contains es.toList[j].born = true := by
    apply Classical.byContradiction
    intro hc
    have h3 : es.toList[j] ∈ (leftOf es (ds.map MapEntry.born).toArray).toList := by
     unfold leftOf
     simp only [Array.toList_filter, List.mem_filter]
     refine ⟨h1, ?_⟩
     simpa using hc
    have h4 : (leftOf es (ds.map MapEntry.born).toArray).toList.length = 0 := by simpa using h0
    rw [List.eq_nil_of_length_eq_zero h4] at h3
    simp at h3
   simp only [List.contains_eq_mem, decide_eq_true_eq, List.mem_map] at h2
   obtain ⟨d0, hd0, hdb⟩ := h2
   have hde : d0 = es.toList[j] := by
    obtain ⟨q, hq, hq2⟩ := List.getElem_of_mem (sg.mem d0 hd0)
    have := nodup_inj g.born (i := q) (j := j) (by simpa using hq) (by simpa using hje) (by rw [List.getElem_map, List.getElem_map, hq2, hdb])
    subst this; exact hq2.symm
   have hk : d0.key ∈ ds.map (·.key) := List.mem_map_of_mem (f := fun e : MapEntry => e.key) hd0
   rw [sg.keys] at hk
   obtain ⟨k, hk1, hk2⟩ := List.mem_map.1 hk
   have h5 : (es.toList.map (fun e => (e.key, e.val)))[j]? = (ks.map (fun p => (E.enc p.1, p.2)))[j]? := by rw [g.eq]
   rw [List.getElem?_map, List.getElem?_map, List.getElem?_eq_getElem hje, List.getElem?_eq_getElem hj] at h5
   simp only [Option.map_some, Option.some.injEq, Prod.mk.injEq] at h5
   have : k = ks[j].1 := E.inj (by rw [hk2, hde, h5.1])
   rw [← this]; exact hk1
 · have he2 : e ∈ es.toList ∧ ¬ e.born ∈ ds.map MapEntry.born := by
     unfold leftOf at he
     simp only [Array.toList_filter, List.mem_filter] at he
     refine ⟨he.1, ?_⟩
     intro hc
     have := he.2
     simp [hc] at this
   obtain ⟨k, v, hk, hv, hm⟩ := mapg_key g he2.1
   have hkd : k ∉ done := by
    intro hc
    have : E.enc k ∈ ds.map (·.key) := by rw [sg.keys]; exact List.mem_map_of_mem (f := E.enc) hc
    obtain ⟨d0, hd0, hd1⟩ := List.mem_map.1 this
    have := mapg_inj g (sg.mem d0 hd0) he2.1 (by rw [hd1, hk])
    subst this
    exact he2.2 (List.mem_map_of_mem (f := fun e : MapEntry => e.born) hd0)
   have tt1 : Sat w1 M (((Res.one b (.map es clock)).add (Res.one i (.mapIter (some b) clock (ds.map MapEntry.born).toArray clock))).add hf) := by
    rcases hw1 with rfl | rfl
    · exact tt
    · exact tt.drew
   obtain ⟨dj1, dj2⟩ := Res.dj_add_left.1 dj
   have dbi : (Res.one b (.map es clock)).dj (Res.one i (.mapIter (some b) clock (ds.map MapEntry.born).toArray clock)) := fun q => by
    by_cases hq : q = b
    · right; subst hq; simp [Res.one, hne]
    · left; simp [Res.one, hq]
   have eq : ∀ o : Obj, ((Res.one b (.map es clock)).add (Res.one i o)).add hf = (Res.one i o).add ((Res.one b (.map es clock)).add hf) := fun o => by
    have d : (Res.one b (.map es clock)).dj (Res.one i o) := fun q => by
     by_cases hq : q = b
     · right; subst hq; simp [Res.one, hne]
     · left; simp [Res.one, hq]
    rw [Res.add_comm d, Res.add_assoc]
   rw [eq] at tt1
   have t3 := sat_setBlock (.mapIter (some b) clock ((ds.map MapEntry.born).toArray.push e.born) clock) (Res.dj_add_right.2 ⟨Res.dj_comm dbi, dj2⟩) tt1
   rw [← eq] at t3
   refine ⟨some (k, v), _, _, ⟨hm, hkd⟩, Res.dj_add_left.2 ⟨dj1, dj_one_any dj2⟩, t3, ⟨es, clock, ds ++ [e], hne, by simp, g, ⟨?_, ?_, ?_⟩⟩, hrun _ _ (by rw [hr, hk, hv]; rfl)⟩
   · intro d0 hd0
     rcases List.mem_append.1 hd0 with h | h
     · exact sg.mem d0 h
     · simp only [List.mem_singleton] at h; subst h; exact he2.1
   · simp [sg.keys, hk, nxD]
   · show (done ++ [k]).Nodup
     rw [List.nodup_append]
     refine ⟨sg.nodup, by simp, ?_⟩
     intro a1 h1 b1 h2 h3
     simp only [List.mem_singleton] at h2
     subst h2; subst h3
     exact hkd h1
/-- A map that is walked over, found by its iterator. -/
class MapItC (E : outParam (KeyE α)) (b : outParam Nat) (i : Nat) (ks : outParam (Ks α)) (done : outParam (List α)) (Hs : List HP) (Rs : outParam (List HP)) : Prop where
 get : Pick (MapIt E b i ks done) Hs Rs
instance (priority := 1000) {E : KeyE α} {b i : Nat} {ks : Ks α} {done : List α} {r : List HP} : MapItC E b i ks done (MapIt E b i ks done :: r) r := ⟨.here⟩
instance (priority := 100) {E : KeyE α} {b i : Nat} {ks : Ks α} {done : List α} {B : HP} {r s : List HP} [h : MapItC E b i ks done r s] : MapItC E b i ks done (B :: r) (B :: s) := ⟨.there h.get⟩
instance (priority := 900) {E : KeyE α} {b i : Nat} {ks : Ks α} {done : List α} {B B' C : List HP} [h : MapItC E b i ks done B B'] : MapItC E b i ks done (B ++ C) (B' ++ C) := ⟨pick_left h.get⟩
instance (priority := 800) {E : KeyE α} {b i : Nat} {ks : Ks α} {done : List α} {B C C' : List HP} [h : MapItC E b i ks done C C'] : MapItC E b i ks done (B ++ C) (B ++ C') := ⟨pick_right h.get⟩
theorem r_range {E : KeyE α} {t kt e : TypeId} {x : Operand} {b : Nat} {ks : Ks α} {Rs : List HP} (ht : P.underlying t = some (.map kt e)) (hx : ev L x = some (.map (some b))) [h : MapPC E b ks Hs Rs] (hd : Nat.blt d n = true)
    (K : ∀ i, wo r P n ops os ((d, .pointer (some ⟨i, 0, none⟩)) :: L) (MapIt E b i ks [] :: Rs) Q) : wo r P n ops (⟨some d, .range t x, ty, pos, after, none⟩ :: os) L Hs Q := by
 haveI : PicksC [MapS E b ks] Hs Rs := ⟨.cons h.get .nil⟩
 exact wo_opT (by intro c; simp) (opt_range ht hx) (by simpa [dstOk] using hd) (fun i _ => K i)
theorem r_next {E : KeyE α} {x : Operand} {b i : Nat} {ks : Ks α} {done : List α} {Rs : List HP} (hx : ev L x = some (.pointer (some ⟨i, 0, none⟩))) [h : MapItC E b i ks done Hs Rs] (hd : Nat.blt d n = true)
    (K : ∀ o, nxP ks done o → wo r P n ops os ((d, nxV E o) :: L) (MapIt E b i ks (nxD done o) :: Rs) Q) : wo r P n ops (⟨some d, .next x false, ty, pos, after, none⟩ :: os) L Hs Q := by
 haveI : PicksC [MapIt E b i ks done] Hs Rs := ⟨.cons h.get .nil⟩
 exact wo_opT (by intro c; simp) (opt_next hx) (by simpa [dstOk] using hd) (fun o ho => K o ho)
theorem pv_nx0 {E : KeyE α} {x : Operand} {o : Option (α × Value)} (hx : ev L x = some (nxV E o)) : PV P n L (.extract x 0) ty (.bool o.isSome) := by
 cases o with
 | none => exact pv_extract hx rfl
 | some p => exact pv_extract (vs := #[.bool true, E.enc p.1, p.2]) hx rfl
theorem r_entry {E : KeyE α} {x : Operand} {b i : Nat} {ks : Ks α} {done : List α} {k : α} {v : Value} {Rs : List HP} (hm : (k, v) ∈ ks) (hx : ev L x = some (.pointer (some ⟨i, 0, none⟩))) [h : MapItC E b i ks (done ++ [k]) Hs Rs] (hd : Nat.blt d n = true)
    (K : wo r P n ops os ((d, .tuple #[E.enc k, v]) :: L) Hs Q) : wo r P n ops (⟨some d, .entry x, ty, pos, after, none⟩ :: os) L Hs Q := by
 refine wo_read (by intro c; simp) (pick_has h.get) hd (fun a f w M h1 h2 hf t le hm' dst pos after guard => ?_) K
 obtain ⟨es, clock, ds, hne, e1, g, sg⟩ := hm'
 subst e1
 have hb : w.heap[b]? = some (.map es clock) := t.ow _ _ (by have := le b (.map es clock) (by simp [Res.add, Res.one]); simp [Res.add, this])
 have hi : w.heap[i]? = some (.mapIter (some b) clock (ds.map MapEntry.born).toArray clock) := t.ow _ _ (by have := le i (.mapIter (some b) clock (ds.map MapEntry.born).toArray clock) (by simp [Res.add, Res.one, Ne.symm hne]); simp [Res.add, this])
 have hl : ds.length = done.length + 1 := by have := congrArg List.length sg.keys; simpa using this
 obtain ⟨ds', e, rfl⟩ : ∃ ds' e, ds = ds' ++ [e] := by
  rcases List.eq_nil_or_concat ds with h | ⟨l, e, h⟩
  · rw [h] at hl; simp at hl
  · exact ⟨l, e, by simpa using h⟩
 have hk : e.key = E.enc k := by
  have := sg.keys
  simp only [List.map_append, List.map_cons, List.map_nil] at this
  exact (List.append_inj' this rfl).2 |> fun h => by simpa using h
 have he : e ∈ es.toList := sg.mem e (by simp)
 obtain ⟨k2, v2, hk2, hv2, hm2⟩ := mapg_key g he
 have hkk : k2 = k := E.inj (by rw [← hk2, hk])
 subst hkk
 have hvv : v2 = v := by
  obtain ⟨p, hp, hp2⟩ := List.getElem_of_mem hm
  obtain ⟨q, hq, hq2⟩ := List.getElem_of_mem hm2
  have := nodup_inj g.keys (i := p) (j := q) (by simpa using hp) (by simpa using hq) (by rw [List.getElem_map, List.getElem_map, hp2, hq2])
  subst this
  rw [hp2] at hq2
  exact (Prod.mk.inj hq2).2.symm
 subst hvv
 have hi2 : w.heap[i]? = some (.mapIter (some b) clock ((ds'.map MapEntry.born).toArray.push e.born) clock) := by rw [hi]; simp
 have := run_entry_at (P := P) w i b clock _ es clock e hi2 hb he g.born
 simp only [execOp, f.ev hx, Sem.run_bind, this, Result.andThen_ok, Sem.run_pure, hk, hv2]
theorem mapit_done {E : KeyE α} {b i : Nat} {ks : Ks α} {done : List α} {Rs : List HP} [h : MapItC E b i ks done Hs Rs] : Ent Hs (MapS E b ks :: Rs) := (Picks.ent (.cons h.get .nil)).trans ⟨fun {M x} s => by
 obtain ⟨h1, h2, d, e, ⟨es, clock, ds, hne, e1, g, sg⟩, s⟩ := s
 subst e1; subst e
 obtain ⟨d1, d2⟩ := Res.dj_add_left.1 d
 have dbi : (Res.one b (.map es clock)).dj (Res.one i (.mapIter (some b) clock (ds.map MapEntry.born).toArray clock)) := fun q => by
  by_cases hq : q = b
  · right; subst hq; simp [Res.one, hne]
  · left; simp [Res.one, hq]
 rw [Res.add_assoc]
 exact ⟨_, _, Res.dj_add_right.2 ⟨dbi, d1⟩, rfl, ⟨es, clock, rfl, g⟩, SL.more d2 s⟩⟩
/-- The keys that were met, once nothing is left. -/
theorem mapit_perm {E : KeyE α} {b i : Nat} {ks : Ks α} {done : List α} {M : Kn} {h : Res} (x : (MapIt E b i ks done).at_ M h) (hn : nxP ks done none) : done.Perm (ks.map (·.1)) := by
 obtain ⟨es, clock, ds, hne, e1, g, sg⟩ := x
 refine (List.perm_ext_iff_of_nodup sg.nodup g.keys).2 fun k => ⟨fun hk => ?_, fun hk => ?_⟩
 · have : E.enc k ∈ ds.map (·.key) := by rw [sg.keys]; exact List.mem_map_of_mem (f := E.enc) hk
   obtain ⟨d0, hd0, hd1⟩ := List.mem_map.1 this
   obtain ⟨k2, v2, hk2, _, hm2⟩ := mapg_key g (sg.mem d0 hd0)
   have : k2 = k := E.inj (by rw [← hk2, hd1])
   subst this
   exact List.mem_map_of_mem (f := fun p : α × Value => p.1) hm2
 · obtain ⟨p, hp, rfl⟩ := List.mem_map.1 hk
   exact hn p hp
theorem mapit_len [DecidableEq α] {E : KeyE α} {b i : Nat} {ks : Ks α} {done : List α} {M : Kn} {h : Res} (x : (MapIt E b i ks done).at_ M h) : done.length ≤ ks.length ∧ done.Nodup ∧ ∀ k ∈ done, k ∈ ks.map (·.1) := by
 obtain ⟨es, clock, ds, hne, e1, g, sg⟩ := x
 have hsub : ∀ k ∈ done, k ∈ ks.map (·.1) := fun k hk => by
  have : E.enc k ∈ ds.map (·.key) := by rw [sg.keys]; exact List.mem_map_of_mem (f := E.enc) hk
  obtain ⟨d0, hd0, hd1⟩ := List.mem_map.1 this
  obtain ⟨k2, v2, hk2, _, hm2⟩ := mapg_key g (sg.mem d0 hd0)
  have : k2 = k := E.inj (by rw [← hk2, hd1])
  subst this
  exact List.mem_map_of_mem (f := fun p : α × Value => p.1) hm2
 refine ⟨?_, sg.nodup, hsub⟩
 have := nodup_len sg.nodup hsub
 simpa using this
end
end Go.Proofs.YtdnoacgopfcpbaaGreat.MX
namespace Go.Proofs.YtdnoacgopfcpbaaGreat
end Go.Proofs.YtdnoacgopfcpbaaGreat
/- Maps whose keys are two texts, or yes and no. -/
namespace Go.Proofs.YtdnoacgopfcpbaaGreat.MX
abbrev Bt := List UInt8
def boolE : KeyE Bool := ⟨fun b => .bool b, fun {a b} h => by cases h; rfl⟩
section
variable {P : Program} {t e : TypeId} {i : TypeInfo} (hu : P.underlying t = some (.array 2 e)) (he : P.underlying e = some .string) (hi : P.info? e = some i) (hs : i.size = 1)
include he in
end
theorem boolP {P : Program} {t : TypeId} (hu : P.underlying t = some .bool) : KeyP P t boolE := by
 refine ⟨fun b k w => ?_, fun {es clock ks} g k w => ?_, fun k w => ?_⟩
 · have all : ∀ d : Nat, (Instr.checkKey b (d + 1) t (.bool k)).run P w = .ok () w := fun d => by simp [Instr.checkKey, run_underlying hu]
   exact all 9999
 · have : ∀ (es : List MapEntry) (ks : Ks Bool) (i : Nat), es.map (fun e => (e.key, e.val)) = ks.map (fun p => (boolE.enc p.1, p.2)) → Instr.findNow .bool (boolE.enc k) es i = some (mfind ks k i) := by
     intro es
     induction es with
     | nil => intro ks i h; cases ks with
       | nil => rfl
       | cons _ _ => simp at h
     | cons e es ih =>
       intro ks i h
       cases ks with
       | nil => simp at h
       | cons p r =>
         simp only [List.map_cons, List.cons.injEq, Prod.mk.injEq] at h
         obtain ⟨⟨h1, h2⟩, h3⟩ := h
         have e1 : Instr.sameNow .bool (boolE.enc k) e.key = some (k == p.1) := by rw [h1]; rfl
         simp only [Instr.findNow, e1, mfind]
         by_cases hk : k = p.1
         · simp [hk, h2]
         · have hb : (k == p.1) = false := by simpa using hk
           simp only [hb, Ne.symm hk, if_false]
           exact ih r (i + 1) h3
   simp [Instr.findKey, run_underlying hu, this es.toList ks 0 g.eq]
 · show (Instr.keyThatStays (.bool k) (.bool k)).run P w = _
   have h : ∀ d, Instr.sameBits d (.bool k) (.bool k) = true := fun d => by cases d <;> simp [Instr.sameBits]
   rw [Instr.keyThatStays, if_pos (h 10000)]; rfl
end Go.Proofs.YtdnoacgopfcpbaaGreat.MX
namespace Go.Proofs.YtdnoacgopfcpbaaGreat
section
set_option maxRecDepth 100000
theorem ckOf_sub (H : Ks) (n : Bs) : ((ckOf H n).map (·.1)).Sublist [n] := by
 unfold ckOf
 split
 · exact List.nil_sublist _
 · exact List.Sublist.refl _
theorem cksF_sub (H : Ks) (l : List Bs) : ((cksF H l).map (·.1)).Sublist l := by
 induction l with
 | nil => exact List.Sublist.refl _
 | cons n l ih =>
   have := (ckOf_sub H n).append ih
   simpa [cksF] using this
theorem cks_mem {H : Ks} {l : List Bs} {x : Bs × Ck} : x ∈ cksF H l ↔ x.1 ∈ l ∧ readK (getB H x.1) = some x.2 := by
 unfold cksF
 rw [List.mem_flatMap]
 constructor
 · rintro ⟨n, hn, hx⟩
   unfold ckOf at hx
   split at hx
   · cases hx
   · rename_i c e
     rw [List.mem_singleton.1 hx]
     exact ⟨hn, e⟩
 · rintro ⟨h1, h2⟩
   exact ⟨x.1, h1, by rw [ckOf, h2]; simp⟩
/-! Table. -/
end
def frc {α : Type} (n : Nat) (k : Nat → α) : α := match n with | 0 => k 0 | m + 1 => k (m + 1)
theorem frc_eq {α : Type} (n : Nat) (k : Nat → α) : frc n k = k n := by cases n <;> rfl
def rotN (x k : Nat) : Nat := Nat.lor (Nat.mod (Nat.shiftLeft x k) 4294967296) (Nat.shiftRight x (Nat.sub 32 k))
def addN (x y : Nat) : Nat := Nat.mod (Nat.add x y) 4294967296
def notN (x : Nat) : Nat := Nat.sub 4294967295 x
theorem rotN_eq (x : UInt32) {k : Nat} (h0 : 0 < k) (h : k < 32) : rotN x.toNat k = (rotl x k).toNat := by
 have h1 : (UInt32.ofNat k).toNat % 32 = k := by rw [UInt32.toNat_ofNat']; omega
 have h2 : (UInt32.ofNat (32 - k)).toNat % 32 = 32 - k := by rw [UInt32.toNat_ofNat']; omega
 rw [rotl, UInt32.toNat_or, UInt32.toNat_shiftLeft, UInt32.toNat_shiftRight, h1, h2]; rfl
theorem addN_eq (x y : UInt32) : addN x.toNat y.toNat = (x + y).toNat := by rw [UInt32.toNat_add]; rfl
theorem notN_eq (x : UInt32) : notN x.toNat = (~~~x).toNat := by rw [UInt32.toNat_not]; rfl
theorem andN_eq (x y : UInt32) : Nat.land x.toNat y.toNat = (x &&& y).toNat := by rw [UInt32.toNat_and]; rfl
theorem orN_eq (x y : UInt32) : Nat.lor x.toNat y.toNat = (x ||| y).toNat := by rw [UInt32.toNat_or]; rfl
theorem xorN_eq (x y : UInt32) : Nat.xor x.toNat y.toNat = (x ^^^ y).toNat := by rw [UInt32.toNat_xor]; rfl
/-! The words. -/
def wordsN : Bs → Nat → List Nat → List Nat
 | b, 0, r => r
 | a :: b :: c :: d :: l, k + 1, r => frc (Nat.add (Nat.add (Nat.mul a.toNat 16777216) (Nat.mul b.toNat 65536)) (Nat.add (Nat.mul c.toNat 256) d.toNat)) fun w => wordsN l k (w :: r)
 | _, _ + 1, r => r
def moreN : Nat → List Nat → List Nat
 | 0, r => r
 | k + 1, r => frc (rotN (Nat.xor (Nat.xor (Nat.xor (r.getD 2 0) (r.getD 7 0)) (r.getD 13 0)) (r.getD 15 0)) 1) fun w => moreN k (w :: r)
theorem blkW_nat (b : Bs) (i : Nat) : (blkW b i).toNat = (b.getD (4 * i) 0).toNat * 16777216 + (b.getD (4 * i + 1) 0).toNat * 65536 + ((b.getD (4 * i + 2) 0).toNat * 256 + (b.getD (4 * i + 3) 0).toNat) := by
 unfold blkW byteW
 generalize b.getD (4 * i) 0 = p, b.getD (4 * i + 1) 0 = q, b.getD (4 * i + 2) 0 = u, b.getD (4 * i + 3) 0 = v
 have hp : p.toNat < 256 := p.toNat_lt
 have hq : q.toNat < 256 := q.toNat_lt
 have hu : u.toNat < 256 := u.toNat_lt
 have hv : v.toNat < 256 := v.toNat_lt
 have e24 : (UInt32.ofNat 24).toNat % 32 = 24 := rfl
 have e16 : (UInt32.ofNat 16).toNat % 32 = 16 := rfl
 have e8 : (UInt32.ofNat 8).toNat % 32 = 8 := rfl
 rw [UInt32.toNat_or, UInt32.toNat_or, UInt32.toNat_or, UInt32.toNat_shiftLeft, UInt32.toNat_shiftLeft, UInt32.toNat_shiftLeft, e24, e16, e8, UInt8.toNat_toUInt32, UInt8.toNat_toUInt32, UInt8.toNat_toUInt32, UInt8.toNat_toUInt32]
 rw [Nat.shiftLeft_eq, Nat.shiftLeft_eq, Nat.shiftLeft_eq]
 rw [Nat.mod_eq_of_lt (by omega : p.toNat * 2 ^ 24 < 2 ^ 32), Nat.mod_eq_of_lt (by omega : q.toNat * 2 ^ 16 < 2 ^ 32), Nat.mod_eq_of_lt (by omega : u.toNat * 2 ^ 8 < 2 ^ 32)]
 rw [Nat.or_assoc, Nat.or_assoc]
 have e1 := Nat.two_pow_add_eq_or_of_lt (i := 8) (b := v.toNat) (by omega) u.toNat
 have e2 := Nat.two_pow_add_eq_or_of_lt (i := 16) (b := 2 ^ 8 * u.toNat + v.toNat) (by omega) q.toNat
 have e3 := Nat.two_pow_add_eq_or_of_lt (i := 24) (b := 2 ^ 16 * q.toNat + (2 ^ 8 * u.toNat + v.toNat)) (by omega) p.toNat
 rw [Nat.mul_comm u.toNat, Nat.mul_comm q.toNat, Nat.mul_comm p.toNat, ← e1, ← e2, ← e3]
 omega
def revT (l : List UInt32) : List Nat := (l.map UInt32.toNat).reverse
theorem revT_snoc (l : List UInt32) (x : UInt32) : revT (l ++ [x]) = x.toNat :: revT l := by simp [revT]
theorem revT_getD (l : List UInt32) (j : Nat) (h : j < l.length) : (revT l).getD j 0 = (l.getD (l.length - 1 - j) 0).toNat := by
 have h1 : l.length - 1 - j < l.length := by omega
 simp [revT, h, h1, List.getElem?_reverse]
theorem wordsN_eq (b : Bs) (hb : b.length = 64) : ∀ (k j : Nat), k + j = 16 → wordsN (b.drop (4 * j)) k (revT (spreadL b j)) = revT (spreadL b 16) := by
 intro k
 induction k with
 | zero =>
   intro j h
   obtain rfl : j = 16 := by omega
   rw [wordsN]
 | succ k ih =>
   intro j h
   have hl : 4 * j + 4 ≤ b.length := by omega
   have hd : b.drop (4 * j) = b.getD (4 * j) 0 :: b.getD (4 * j + 1) 0 :: b.getD (4 * j + 2) 0 :: b.getD (4 * j + 3) 0 :: b.drop (4 * (j + 1)) := by
    have g : ∀ i, i < b.length → b.drop i = b.getD i 0 :: b.drop (i + 1) := fun i hi => by
     rw [List.drop_eq_getElem_cons hi]
     simp [hi]
    rw [g (4 * j) (by omega), g (4 * j + 1) (by omega), g (4 * j + 1 + 1) (by omega), g (4 * j + 1 + 1 + 1) (by omega), show 4 * (j + 1) = 4 * j + 1 + 1 + 1 + 1 by omega]
   rw [hd, wordsN, frc_eq]
   have := ih (j + 1) (by omega)
   rw [← this, spreadL, revT_snoc, if_pos (by omega : j < 16), blkW_nat]
   rfl
theorem moreN_eq (b : Bs) : ∀ (k j : Nat), 16 ≤ j → moreN k (revT (spreadL b j)) = revT (spreadL b (j + k)) := by
 intro k
 induction k with
 | zero => intro j _; rfl
 | succ k ih =>
   intro j hj
   have hl := spreadL_len b j
   rw [moreN, frc_eq, revT_getD _ _ (by omega), revT_getD _ _ (by omega), revT_getD _ _ (by omega), revT_getD _ _ (by omega), hl, xorN_eq, xorN_eq, xorN_eq, rotN_eq _ (by decide) (by decide)]
   rw [show j + (k + 1) = j + 1 + k by omega, ← ih (j + 1) (by omega), spreadL, revT_snoc, if_neg (by omega : ¬ j < 16), nextW]
   rw [show j - 1 - 2 = j - 3 by omega, show j - 1 - 7 = j - 8 by omega, show j - 1 - 13 = j - 14 by omega, show j - 1 - 15 = j - 16 by omega]
/-! The rounds. -/
def mixN (p b c d : Nat) : Nat :=
 match p with
 | 0 => Nat.add (Nat.lor (Nat.land b c) (Nat.land (notN b) d)) 0x5a827999
 | 1 => Nat.add (Nat.xor (Nat.xor b c) d) 0x6ed9eba1
 | 2 => Nat.add (Nat.lor (Nat.lor (Nat.land b c) (Nat.land b d)) (Nat.land c d)) 0x8f1bbcdc
 | _ => Nat.add (Nat.xor (Nat.xor b c) d) 0xca62c1d6
def goN {α : Type} : List Nat → Nat → Nat → Nat → Nat → Nat → Nat → (Nat → Nat → Nat → Nat → Nat → α) → α
 | [], _, a, b, c, d, e, k => k a b c d e
 | w :: ws, i, a, b, c, d, e, k => frc (Nat.mod (Nat.add (Nat.add (Nat.add (rotN a 5) (mixN (Nat.div i 20) b c d)) e) w) 4294967296) fun t => frc (rotN b 30) fun b' => frc (Nat.succ i) fun i' => goN ws i' t a b' c d k
theorem round_nat (w : List UInt32) (i : Nat) (s : W5) : (roundW w i s).a.toNat = Nat.mod (Nat.add (Nat.add (Nat.add (rotN s.a.toNat 5) (mixN (Nat.div i 20) s.b.toNat s.c.toNat s.d.toNat)) s.e.toNat) (w.getD i 0).toNat) 4294967296 := by
 have key : ∀ f k : UInt32, ∀ m : Nat, m = f.toNat + k.toNat → (rotl s.a 5 + f + s.e + k + w.getD i 0).toNat = Nat.mod (Nat.add (Nat.add (Nat.add (rotN s.a.toNat 5) m) s.e.toNat) (w.getD i 0).toNat) 4294967296 := by
  intro f k m hm
  rw [rotN_eq _ (by decide) (by decide), hm]
  simp only [UInt32.toNat_add]
  show _ = ((rotl s.a 5).toNat + (f.toNat + k.toNat) + s.e.toNat + (w.getD i 0).toNat) % 4294967296
  omega
 show (rotl s.a 5 + (mixW i s.b s.c s.d).1 + s.e + (mixW i s.b s.c s.d).2 + w.getD i 0).toNat = _
 refine key _ _ _ ?_
 have hd : Nat.div i 20 = i / 20 := rfl
 rw [hd]
 unfold mixW
 rcases e : i / 20 with _ | _ | _ | n
 · rw [if_pos rfl]
   show Nat.add (Nat.lor (Nat.land s.b.toNat s.c.toNat) (Nat.land (notN s.b.toNat) s.d.toNat)) 0x5a827999 = _
   rw [notN_eq, andN_eq, andN_eq, orN_eq]; rfl
 · rw [if_neg (by decide), if_pos rfl]
   show Nat.add (Nat.xor (Nat.xor s.b.toNat s.c.toNat) s.d.toNat) 0x6ed9eba1 = _
   rw [xorN_eq, xorN_eq]; rfl
 · rw [if_neg (by decide), if_neg (by decide), if_pos rfl]
   show Nat.add (Nat.lor (Nat.lor (Nat.land s.b.toNat s.c.toNat) (Nat.land s.b.toNat s.d.toNat)) (Nat.land s.c.toNat s.d.toNat)) 0x8f1bbcdc = _
   rw [andN_eq, andN_eq, andN_eq, orN_eq, orN_eq]; rfl
 · rw [if_neg (by omega), if_neg (by omega), if_neg (by omega)]
   show Nat.add (Nat.xor (Nat.xor s.b.toNat s.c.toNat) s.d.toNat) 0xca62c1d6 = _
   rw [xorN_eq, xorN_eq]; rfl
theorem goN_eq {α : Type} (w : List UInt32) (h : W5) (k : Nat → Nat → Nat → Nat → Nat → α) : ∀ (m i : Nat), m + i = w.length → goN ((w.drop i).map UInt32.toNat) i (roundsW w h i).a.toNat (roundsW w h i).b.toNat (roundsW w h i).c.toNat (roundsW w h i).d.toNat (roundsW w h i).e.toNat k =
    k (roundsW w h w.length).a.toNat (roundsW w h w.length).b.toNat (roundsW w h w.length).c.toNat (roundsW w h w.length).d.toNat (roundsW w h w.length).e.toNat := by
 intro m
 induction m with
 | zero => intro i e; rw [show i = w.length by omega, List.drop_length]; rfl
 | succ m ih =>
   intro i e
   have hi : i < w.length := by omega
   rw [List.drop_eq_getElem_cons hi, List.map_cons, goN, frc_eq, frc_eq, frc_eq, ← ih (i + 1) (by omega)]
   have h1 := round_nat w i (roundsW w h i)
   rw [show (w.getD i 0) = w[i] by simp [hi]] at h1
   rw [← h1, rotN_eq _ (by decide) (by decide)]
   rfl
/-! A block; a content. -/
def takeN {α : Type} (b : Bs) (a0 b0 c0 d0 e0 : Nat) (k : Nat → Nat → Nat → Nat → Nat → α) : α :=
 goN (moreN 64 (wordsN b 16 [])).reverse 0 a0 b0 c0 d0 e0 fun a b c d e => frc (addN a0 a) fun a => frc (addN b0 b) fun b => frc (addN c0 c) fun c => frc (addN d0 d) fun d => frc (addN e0 e) fun e => k a b c d e
theorem takeN_eq {α : Type} (b : Bs) (hb : b.length = 64) (h : W5) (k : Nat → Nat → Nat → Nat → Nat → α) : takeN b h.a.toNat h.b.toNat h.c.toNat h.d.toNat h.e.toNat k = k (takeW h b).a.toNat (takeW h b).b.toNat (takeW h b).c.toNat (takeW h b).d.toNat (takeW h b).e.toNat := by
 have h1 : wordsN b 16 [] = revT (spreadL b 16) := wordsN_eq b hb 16 0 rfl
 have h2 := moreN_eq b 64 16 (Nat.le_refl _)
 have h3 : (revT (spreadL b 80)).reverse = (spreadL b 80).map UInt32.toNat := by simp [revT]
 have h4 := goN_eq (α := α) (spreadL b 80) h (fun x y z u v => frc (addN h.a.toNat x) fun x => frc (addN h.b.toNat y) fun y => frc (addN h.c.toNat z) fun z => frc (addN h.d.toNat u) fun u => frc (addN h.e.toNat v) fun v => k x y z u v) 80 0 (by rw [spreadL_len])
 rw [List.drop_zero, spreadL_len] at h4
 rw [takeN, h1, h2, h3]
 refine h4.trans ?_
 simp only [frc_eq, addN_eq]
 rfl
def blksN {α : Type} : Nat → Bs → Nat → Nat → Nat → Nat → Nat → (Nat → Nat → Nat → Nat → Nat → α) → α
 | 0, _, a, b, c, d, e, k => k a b c d e
 | n + 1, p, a, b, c, d, e, k => takeN (p.take 64) a b c d e fun a b c d e => blksN n (p.drop 64) a b c d e k
theorem blksN_eq {α : Type} (p : Bs) (h : W5) (k : Nat → Nat → Nat → Nat → Nat → α) (N : Nat) (hp : p.length = 64 * N) : ∀ (m i : Nat), m + i = N → blksN m (p.drop (64 * i)) (sumsW p h i).a.toNat (sumsW p h i).b.toNat (sumsW p h i).c.toNat (sumsW p h i).d.toNat (sumsW p h i).e.toNat k =
    k (sumsW p h N).a.toNat (sumsW p h N).b.toNat (sumsW p h N).c.toNat (sumsW p h N).d.toNat (sumsW p h N).e.toNat := by
 intro m
 induction m with
 | zero => intro i e; rw [show i = N by omega]; rfl
 | succ m ih =>
   intro i e
   rw [blksN, takeN_eq _ (by rw [List.length_take, List.length_drop]; omega), List.drop_drop, show 64 * i + 64 = 64 * (i + 1) by omega]
   exact ih (i + 1) (by omega)
/-- A content's five words. -/
def sumN {α : Type} (s : Bs) (k : Nat → Nat → Nat → Nat → Nat → α) : α := frc (blocksN s) fun n => blksN n (padB s) 0x67452301 0xefcdab89 0x98badcfe 0x10325476 0xc3d2e1f0 k
theorem sumN_eq {α : Type} (s : Bs) (k : Nat → Nat → Nat → Nat → Nat → α) : sumN s k = k (sumsW (padB s) h0W (blocksN s)).a.toNat (sumsW (padB s) h0W (blocksN s)).b.toNat (sumsW (padB s) h0W (blocksN s)).c.toNat (sumsW (padB s) h0W (blocksN s)).d.toNat (sumsW (padB s) h0W (blocksN s)).e.toNat := by
 rw [sumN, frc_eq]
 exact blksN_eq (padB s) h0W k (blocksN s) (padB_len s) (blocksN s) 0 rfl
def hexN (x : Nat) : Bs := (List.range 8).map fun j => hexD.getD (Nat.land (Nat.shiftRight x (28 - 4 * j)) 15) 0
theorem hexN_eq (x : UInt32) : hexN x.toNat = hexW x := by
 unfold hexN hexW
 refine List.map_congr_left fun j hj => ?_
 have hj8 := List.mem_range.1 hj
 have h1 : (UInt32.ofNat (28 - 4 * j)).toNat % 32 = 28 - 4 * j := by rw [UInt32.toNat_ofNat']; omega
 rw [UInt32.toNat_and, UInt32.toNat_shiftRight, h1]; rfl
/-- The first words alone tell contents apart. -/
theorem hexW_inj {x y : UInt32} (h : hexW x = hexW y) : x = y := by
 have key : ∀ j, j < 8 → (x.toNat >>> (28 - 4 * j)) &&& 15 = (y.toNat >>> (28 - 4 * j)) &&& 15 := by
  intro j hj
  have h2 := congrArg (fun l => l.getD j 0) (by rw [← hexN_eq, ← hexN_eq] at h; exact h : hexN x.toNat = hexN y.toNat)
  simp only [hexN, List.getD_eq_getElem?_getD, List.getElem?_map, List.getElem?_range hj, Option.map_some, Option.getD_some] at h2
  have inj : ∀ a b : Fin 16, hexD.getD a.1 0 = hexD.getD b.1 0 → a = b := by decide
  have la : Nat.land (x.toNat.shiftRight (28 - 4 * j)) 15 < 16 := Nat.lt_of_le_of_lt (Nat.and_le_right (n := x.toNat.shiftRight (28 - 4 * j)) (m := 15)) (by decide)
  have lb : Nat.land (y.toNat.shiftRight (28 - 4 * j)) 15 < 16 := Nat.lt_of_le_of_lt (Nat.and_le_right (n := y.toNat.shiftRight (28 - 4 * j)) (m := 15)) (by decide)
  have := inj ⟨_, la⟩ ⟨_, lb⟩ (by simpa [List.getD_eq_getElem?_getD] using h2)
  exact congrArg Fin.val this
 have hx : x.toNat < 4294967296 := x.toNat_lt
 have hy : y.toNat < 4294967296 := y.toNat_lt
 have f : ∀ n k : Nat, (n >>> k) &&& 15 = n / 2 ^ k % 16 := fun n k => by
  rw [Nat.shiftRight_eq_div_pow, show (15 : Nat) = 2 ^ 4 - 1 from rfl, Nat.and_two_pow_sub_one_eq_mod]
 have k0 := key 0 (by decide); have k1 := key 1 (by decide); have k2 := key 2 (by decide); have k3 := key 3 (by decide)
 have k4 := key 4 (by decide); have k5 := key 5 (by decide); have k6 := key 6 (by decide); have k7 := key 7 (by decide)
 simp only [f] at k0 k1 k2 k3 k4 k5 k6 k7
 apply UInt32.toNat_inj.1
 omega
theorem first_ne {s t : Bs} (h : (sumN s fun a _ _ _ _ => a) ≠ (sumN t fun a _ _ _ _ => a)) : shaB s ≠ shaB t := fun e => by
 rw [sumN_eq, sumN_eq] at h
 apply h
 have e2 : (shaB s).take 8 = (shaB t).take 8 := by rw [e]
 have f : ∀ u : Bs, (shaB u).take 8 = hexW (sumsW (padB u) h0W (blocksN u)).a := fun u => by
  rw [shaB, W5.list, List.flatMap_cons, List.take_left' (hexW_len _)]
 rw [f, f] at e2
 rw [hexW_inj e2]
section
def me : Bs := [109, 101]
def ckMe (ps : List Bs) (ts : List Tg) (u : Bs) (d : Int) : Ck := ⟨[], [], d, [], ps, ts, u⟩
theorem right_me {ps : List Bs} {ts : List Tg} {u : Bs} {d : Int} (hp : ∀ p ∈ ps, isN p = true) (hn : ps.Nodup) (hl : ps.length ≤ 3) (ht : RightT true ts) (hu : wordP u) (hd : 0 ≤ d ∧ d ≤ 1073741824) : RightK (ckMe ps ts u d) := by
 refine ⟨.inl rfl, Nat.zero_le _, hd, ⟨fun i hi => absurd hi (Nat.not_lt_zero _), Nat.zero_le _⟩, ⟨fun i hi => ?_, by show (ps.length : Int) ≤ 3; omega⟩, ht, hu⟩
 have hi : i < ps.length := hi
 have hg : ps.getD i [] = ps[i] := by simp [hi]
 show isN (ps.getD i []) = true ∧ ps.getD i [] ∉ ps.take i
 rw [hg]
 refine ⟨hp _ (List.getElem_mem hi), fun hm => ?_⟩
 obtain ⟨j, hj, e⟩ := List.getElem_of_mem hm
 rw [List.length_take] at hj
 rw [List.getElem_take] at e
 have := nodup_inj hn (by omega) hi e
 omega
theorem right_z {c : Ck} (h : RightK c) : CkZ c := by
 have e := (prgCk_some (prgCk_cards h)).2.2.2.2.2.2
 have := ckZ_prg (ck_small h) (by decide)
 rwa [← e] at this
theorem right_read {c : Ck} (h : RightK c) : readK (ckB c) = some c := readK_iff.2 ⟨h, rfl⟩
theorem ckB_len {c : Ck} (h : RightK c) : (ckB c).length ≤ 10043 := by
 have := ck_small h
 rw [ckB, printB, sealB_len]; omega
/-! What is held. -/
structure HeldP (K : Ks) (L : List (Bs × Bs)) : Prop where
 perm : K.Perm (L.map fun p => (p.1, vS p.2))
 nd : (L.map (·.1)).Nodup
 tx : ∀ p ∈ L, p.2.length ≤ 1073741824
namespace HeldP
variable {K : Ks} {L : List (Bs × Bs)} (h : HeldP K L)
include h
theorem keys : (K.map (·.1)).Perm (L.map (·.1)) := by
 have := h.perm.map (·.1)
 rwa [List.map_map] at this
theorem knd : (K.map (·.1)).Nodup := h.keys.nodup_iff.2 h.nd
theorem txt : TxtK K := fun p hp => by
 obtain ⟨q, hq, e⟩ := List.mem_map.1 (h.perm.mem_iff.1 hp)
 rw [← e]
 exact ⟨q.2, rfl, h.tx q hq⟩
theorem len : K.length = L.length := by have := h.perm.length_eq; rwa [List.length_map] at this
theorem get {p : Bs × Bs} (hp : p ∈ L) : getB K p.1 = p.2 := by
 have hm : (p.1, vS p.2) ∈ K := h.perm.mem_iff.2 (List.mem_map_of_mem (f := fun p : Bs × Bs => (p.1, vS p.2)) hp)
 unfold getB
 rw [mlook_of_mem h.knd hm]
 simp [bytesV, vS]
theorem mem {n : Bs} : n ∈ keysS K ↔ n ∈ L.map (·.1) := by rw [keysS_mem]; exact h.keys.mem_iff
theorem sd {s : Sd} : s ∈ sdL K ↔ ∃ p ∈ L, ∃ t ∈ (opsB p.1 p.2).1, s = ⟨t, (opsB p.1 p.2).2, p.1⟩ := by
 unfold sdL sdF
 rw [List.mem_flatMap]
 constructor
 · rintro ⟨n, hn, hs⟩
   obtain ⟨p, hp, rfl⟩ := List.mem_map.1 (h.mem.1 hn)
   obtain ⟨t, ht, e⟩ := List.mem_map.1 hs
   rw [h.get hp] at ht e
   exact ⟨p, hp, t, ht, e.symm⟩
 · rintro ⟨p, hp, t, ht, e⟩
   refine ⟨p.1, h.mem.2 (List.mem_map_of_mem (f := fun p : Bs × Bs => p.1) hp), ?_⟩
   refine List.mem_map.2 ⟨t, ?_, ?_⟩
   · rw [h.get hp]; exact ht
   · rw [h.get hp]; exact e.symm
theorem cks {x : Bs × Ck} : x ∈ cksL K ↔ ∃ p ∈ L, p.1 = x.1 ∧ readK p.2 = some x.2 := by
 unfold cksL
 rw [cks_mem]
 constructor
 · rintro ⟨h1, h2⟩
   obtain ⟨p, hp, e⟩ := List.mem_map.1 (h.mem.1 h1)
   rw [← e, h.get hp] at h2
   exact ⟨p, hp, e, h2⟩
 · rintro ⟨p, hp, e, h2⟩
   rw [← e]
   exact ⟨h.mem.2 (List.mem_map_of_mem (f := fun p : Bs × Bs => p.1) hp), by rw [h.get hp]; exact h2⟩
theorem cnd : ((cksL K).map (·.1)).Nodup := ((sortB_perm _).nodup_iff.2 h.knd).sublist (cksF_sub K _)
theorem ck {n : Bs} {s : Bs} {c : Ck} (hp : (n, s) ∈ L) (hr : readK s = some c) : clook (cksL K) n = some c := by
 have hm : (n, c) ∈ cksL K := h.cks.2 ⟨(n, s), hp, rfl, hr⟩
 have hn := h.cnd
 generalize cksL K = C at hm hn
 induction C with
 | nil => cases hm
 | cons a r ih =>
   simp only [List.map_cons, List.nodup_cons] at hn
   rw [clook]
   rcases List.mem_cons.1 hm with e | e
   · subst e; rw [if_pos rfl]
   · rw [if_neg (fun e2 => hn.1 (by rw [e2]; exact List.mem_map_of_mem (f := fun p : Bs × Ck => p.1) e))]
     exact ih e hn.2
theorem put {n s : Bs} (hn : n ∉ L.map (·.1)) (hs : s.length ≤ 1073741824) : HeldP (mput K n (vS s)) (L ++ [(n, s)]) := by
 have hk : n ∉ K.map (·.1) := fun hm => hn (h.keys.mem_iff.1 hm)
 have hp : ∀ (ks : Ks), n ∉ ks.map (·.1) → mput ks n (vS s) = ks ++ [(n, vS s)] := by
  intro ks
  induction ks with
  | nil => intro _; rfl
  | cons p r ih =>
    intro hn
    simp only [List.map_cons, List.mem_cons, not_or] at hn
    rw [mput, if_neg (fun e => hn.1 e.symm), ih hn.2]; rfl
 refine ⟨?_, ?_, fun p hp => ?_⟩
 · rw [hp K hk, List.map_append]
   exact h.perm.append_right _
 · rw [List.map_append, List.nodup_append]
   exact ⟨h.nd, by simp, fun a ha b hb e => hn (by simp at hb; rw [← hb, ← e]; exact ha)⟩
 · rcases List.mem_append.1 hp with hp | hp
   · exact h.tx p hp
   · rw [List.mem_singleton.1 hp]; exact hs
end HeldP
end
theorem me_word : wordP me := by decide
theorem right_t0 : RightT true [] := ⟨fun i hi => absurd hi (Nat.not_lt_zero _), by decide⟩
/-! The runs. -/
section
set_option maxRecDepth 100000
noncomputable def priB (H : Ks) (name : Bs) : Bs := firstB ((readK (getB H name)).getD ck0)
theorem links_Primary_sp (b : Nat) (H : Ks) (hH : TxtK H) (name : Bs) :
    Sp1 Tryz.prog 19 [.map (some b), vS name] [MapS b H] (vS (priB H name)) [MapS b H] := by
 obtain ⟨htx, htl⟩ := hH.get name
 have hRd := checkin_Read_sp (getB H name) htl
 refine Sp.body (n := 16) Tryz.call19 Tryz.func19 rfl rfl rfl ?_
 refine Qc (k:=Vv (k:=Wq (Qc (k:=Qv (k:=?_)))))
 refine r_lookup (v := vS (getB H name)) Tryz.underlying31 Tryz.underlying9 ti9 rfl rfl rfl htx rfl ?_
 refine r_callX hRd rfl rfl rfl (fun x11 hx11 => ?_)
 obtain ⟨xa, ck⟩ := x11
 obtain ⟨hck, hpc⟩ := hx11
 dsimp only at hck hpc ⊢
 have hpl : ck.parents.length ≤ 9223372036854775807 := by
  rw [hck]
  cases e : readK (getB H name) with
  | none => exact Nat.zero_le _
  | some k =>
    have := (readK_iff.1 e).1.parents.len
    show k.parents.length ≤ _
    omega
 have hFi := links_First_sp (B := SlI xa.pa (ck.parents.map vS)) xa ck hpl sla_sli
 refine Vv (k:=?_)
 refine wo_pv (pv_extract (v := .agg #[vS ck.base, vS ck.comment, vI ck.date, .slice xa.fa ck.files.length xa.fc, .slice xa.pa ck.parents.length xa.pc, .slice xa.ta ck.tags.length xa.tc, vS ck.user]) rfl rfl) rfl ?_
 refine wo_pv (pv_extract (v := vB (readK (getB H name)).isSome) rfl rfl) rfl ?_
 refine Zc [vS [], vS [], .int .i64 0, .slice none 0 0, .slice none 0 0, .slice none 0 0, vS []] (k:=fun b5 => Zp (k:=Vv (k:=Wq (Qc (k:=Zm [_, _, _, _, _, _, _] (k:=?_))))))
 refine r_call1 hFi rfl rfl rfl ?_
 refine Vv (k:=Wq (Zt (k:=?_)))
 rw [show firstB ck = priB H name from by rw [priB, ← hck]]
 exact fin_ret () (vs := [_]) (Cs := []) rfl (.tmp rfl .nil) rfl trivial ent_pick
/-- The names of those whose first parent it is. -/
def chlF (name : Bs) (pre : List CkN) : List Bs := (pre.filter fun x => decide (name ≠ [] ∧ firstB x.2.2 = name)).map (·.1)
theorem chlF_snoc (name : Bs) (pre : List CkN) (x : CkN) : chlF name (pre ++ [x]) = chlF name pre ++ if name ≠ [] ∧ firstB x.2.2 = name then [x.1] else [] := by
 unfold chlF
 rw [List.filter_append, List.map_append]
 by_cases h : name ≠ [] ∧ firstB x.2.2 = name <;> simp [h]
theorem chlF_len (name : Bs) (pre : List CkN) : (chlF name pre).length ≤ pre.length := by
 unfold chlF
 rw [List.length_map]
 exact List.length_filter_le _ _
theorem cksF_length (H : Ks) (l : List Bs) : (cksF H l).length ≤ l.length := by
 induction l with
 | nil => exact Nat.le_refl _
 | cons n l ih =>
   have : (ckOf H n).length ≤ 1 := by unfold ckOf; split <;> simp
   rw [cksF, List.flatMap_cons, List.length_append, List.length_cons]
   have h2 : (List.flatMap (ckOf H) l).length ≤ l.length := ih
   omega
theorem okC_len {H : Ks} {pre : List CkN} {x : CkN} (h : okC H pre x) : pre.length < H.length := by
 obtain ⟨⟨r, e⟩, _, _⟩ := h
 have h1 := cksF_length H (keysS H)
 rw [keysS_len] at h1
 have h2 := congrArg List.length e
 rw [List.length_append, List.length_cons, List.length_map] at h2
 have h3 : (cksL H).length = (cksF H (keysS H)).length := rfl
 omega
set_option maxHeartbeats 2000000 in
theorem links_Children_sp (b : Nat) (H : Ks) (hH : TxtK H) (hn : H.length ≤ 1000000) (name : Bs) :
    Sp Tryz.prog 21 [.map (some b), vS name] [MapS b H] (X := (Option Addr × Nat) × List CkN) (fun x => .slice x.1.1 (chlF name x.2).length x.1.2) (fun x => finC H x.2) (fun x => [Row 9 1 (.slice x.1.1 (chlF name x.2).length x.1.2) (chlF name x.2).length ((chlF name x.2).map vS), MapS b H]) := by
 refine Sp.body (n := 25) Tryz.call21 Tryz.func21 rfl rfl rfl ?_
 refine Qc (k:=Zx [_] (k:=fun b3 => Vv (k:=Wq (Qc (k:=Zc [.slice none 0 0] (k:=fun b5 => Wq (Za (k:=Qc (k:=?_)))))))))
 refine Vv (k:=?_)
 refine r_callX (links_Checkins_sp (some b)) rfl rfl rfl (fun cb _ => ?_)
 refine Wq (Zb (k:=?_))
 refine p_rangeFuncX (fun pre => [Ex fun s : Option Addr × Nat => Al [Ce b5 27 [.slice s.1 (chlF name pre).length s.2], Row 9 1 (.slice s.1 (chlF name pre).length s.2) (chlF name pre).length ((chlF name pre).map vS)], Ce b3 9 [vS name], MapS b H]) (fun j pre => [Pu False]) (fun pre => [Ex fun s : Option Addr × Nat => Al [Ce b5 27 [.slice s.1 (chlF name pre).length s.2], Row 9 1 (.slice s.1 (chlF name pre).length s.2) (chlF name pre).length ((chlF name pre).map vS)], Ce b3 9 [vS name]]) rfl (links_Checkins_it cb b H hH (by omega)) rfl (fun _ => by rfl) rfl (fun pre => ?_) (fun pre => ?_) ?_ (fun l pre x hok => ?_) (fun all hfin => ?_) (fun j pre hs => ?_)
 · exact ent_pick
 · exact ent_pick
 · (refine ent_app ?_; refine ent_ex (none, 0) (ent_al ?_); dsimp only; rw [show chlF name [] = [] from rfl]; exact ent_cons (ent_step row_nil ent_pick))
 ·
  have hpl := okC_len hok
  have hcl := chlF_len name pre
  have hsn := chlF_snoc name pre x
  obtain ⟨nm, xa, ck⟩ := x
  dsimp only [ckV, ckVals] at hsn ⊢
  have hpl2 : ck.parents.length ≤ 9223372036854775807 := by
   have := (readK_iff.1 hok.2.2).1.parents.len
   dsimp only at this
   omega
  have hFi := links_First_sp (B := SlI xa.pa (ck.parents.map vS)) xa ck hpl2 sla_sli
  unfold CkM
  refine wc_al ?_
  refine wc_ent' (ent_pick1 (.there (.there (.there .here)))) ?_
  refine wc_exi fun s => wc_al ?_
  refine Qc (k:=Vv (k:=Wq (Zr (k:=Zc [vS [], vS [], .int .i64 0, .slice none 0 0, .slice none 0 0, .slice none 0 0, vS []] (k:=fun b7 => Zp (k:=Wg (Zb (k:=Za (k:=Dw [Ce b7 30 [vS ck.base, vS ck.comment, vI ck.date, .slice xa.fa ck.files.length xa.fc, .slice xa.pa ck.parents.length xa.pc, .slice xa.ta ck.tags.length xa.tc, vS ck.user], Ce b3 9 [vS name]] (k:=?_))))))))))
  refine Di 0 (t:=Ul) (k:=Dv 1 (k:=Dv 2 (k:=Gd 2 (t:=fun h14 => ?_) (f:=fun h14 => ?_))))
  ·
   refine d_first 3 rfl rfl rfl (by kernel_rfl) (by kernel_rfl) (tl_in (b := true) rfl (tl_loada (vs := [_, _, _, _, _, _, _]) Tryz.underlying30 rfl ti30 rfl (by exact Nat.le_of_ble_eq_true rfl) (by rfl))) ?_
   refine Di 5 (t:=U1 (h:=Ul)) (k:=Dn 4 (k:=?_))
   refine an_in (b := true) rfl ?_
   refine an_call1 hFi rfl rfl rfl ?_
   refine Di 6 (t:=U1 (h:=Uv)) (k:=DP1 7 (k:=Dd (k:=Ya (Zi (t:=fun h19 => ?_) (f:=fun h19 => ?_)))))
   ·
    refine Zr (k:=Zd (k:=Vv (k:=Zv [_] (cs := [_]) (k:=fun b22 => ?_))))
    refine r_append1 (sz := 1) (bytes := 16) Tryz.underlying27 ti9 rfl rfl rfl rfl rfl rfl rfl (by rfl) (by rfl) (by omega) (by simp only [maxLen]; omega) rfl (fun a23 c23 => ?_)
    refine Zo (k:=Wn (Yb ?_))
    first
    | (refine to_round ?_
       rw [hsn, if_pos ⟨by assumption, by assumption⟩]
       refine ent_ex (a23, c23) (ent_al ?_)
       simp only [List.length_append, List.length_singleton, List.map_append, List.map_cons, List.map_nil]
       exact ent_pick)
    | (refine to_round ?_
       rw [hsn, if_neg (fun hh => by simp_all), List.append_nil]
       refine ent_ex s (ent_al ?_)
       exact ent_pick)
   ·
    refine Zk (k:=Yb ?_)
    first
    | (refine to_round ?_
       rw [hsn, if_pos ⟨by assumption, by assumption⟩]
       refine ent_ex (a23, c23) (ent_al ?_)
       simp only [List.length_append, List.length_singleton, List.map_append, List.map_cons, List.map_nil]
       exact ent_pick)
    | (refine to_round ?_
       rw [hsn, if_neg (fun hh => by simp_all), List.append_nil]
       refine ent_ex s (ent_al ?_)
       exact ent_pick)
  ·
   refine D0 3 (k:=D0 4 (k:=D0 5 (k:=D0 6 (k:=DP0 7 (k:=Dd (k:=Ya (Z0 (k:=Zk (k:=Yb ?_)))))))))
   first
   | (refine to_round ?_
      rw [hsn, if_pos ⟨by assumption, by assumption⟩]
      refine ent_ex (a23, c23) (ent_al ?_)
      simp only [List.length_append, List.length_singleton, List.map_append, List.map_cons, List.map_nil]
      exact ent_pick)
   | (refine to_round ?_
      rw [hsn, if_neg (fun hh => by simp_all), List.append_nil]
      refine ent_ex s (ent_al ?_)
      exact ent_pick)
 ·
  simp only [List.cons_append, List.nil_append]
  refine Yb (Ya (Za (k:=?_)))
  refine wc_exi fun s => wc_al ?_
  refine Zr (k:=Zd (k:=Vv (k:=Wq (Zt (k:=?_)))))
  exact fin_ret ((s.1, s.2), all) (vs := [_]) (Cs := []) rfl (.tmp rfl .nil) rfl hfin ent_pick
 ·
  exact wc_no (fun s => by obtain ⟨_, _, _, _, a, _⟩ := s; exact a)
end
end Go.Proofs.YtdnoacgopfcpbaaGreat
