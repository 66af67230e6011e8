/- Texts of this proof, put together: MapX, MapX2, STags, STags2. -/
import Derived.ChangeKeysEq
import Derived.Test.YtdnoacgopfcpbaaGreatQ19
set_option linter.unusedVariables false
set_option linter.unusedSimpArgs false
namespace Go.Proofs.YtdnoacgopfcpbaaGreat
end Go.Proofs.YtdnoacgopfcpbaaGreat
/- Maps with keys of any kind. -/
namespace Go.Proofs.YtdnoacgopfcpbaaGreat.MX
/-- How keys lie in memory. -/
structure KeyE (α : Type) where
 enc : α → Value
 inj : ∀ {a b : α}, enc a = enc b → a = b
variable {α : Type}
abbrev Ks (α : Type) := List (α × Value)
def mlook [DecidableEq α] : Ks α → α → Option Value
 | [], _ => none
 | p :: r, k => if p.1 = k then some p.2 else mlook r k
def mput [DecidableEq α] : Ks α → α → Value → Ks α
 | [], k, v => [(k, v)]
 | p :: r, k, v => if p.1 = k then (k, v) :: r else p :: mput r k v
def mdel [DecidableEq α] : Ks α → α → Ks α
 | [], _ => []
 | p :: r, k => if p.1 = k then r else p :: mdel r k
def mfind [DecidableEq α] : Ks α → α → Nat → Option (Nat × Value)
 | [], _, _ => none
 | p :: r, k, i => if p.1 = k then some (i, p.2) else mfind r k (i + 1)
theorem mfind_none [DecidableEq α] {ks : Ks α} {k : α} : ∀ {i : Nat}, mfind ks k i = none → mlook ks k = none ∧ (∀ v, mput ks k v = ks ++ [(k, v)]) ∧ mdel ks k = ks ∧ k ∉ ks.map (·.1) := by
 induction ks with
 | nil => intro i h; exact ⟨rfl, fun v => rfl, rfl, by simp⟩
 | cons p r ih =>
   intro i h
   simp only [mfind] at h
   split at h
   · cases h
   · rename_i hp
     obtain ⟨h1, h2, h3, h4⟩ := ih h
     simp only [mlook, mput, mdel, hp, if_false, h1, h2, h3, true_and]
     refine ⟨fun v => by simp, ?_⟩
     simp only [List.map_cons, List.mem_cons, not_or]
     exact ⟨fun e => hp e.symm, h4⟩
theorem mfind_some [DecidableEq α] {ks : Ks α} {k : α} {v : Value} : ∀ {i j : Nat}, mfind ks k i = some (j, v) → ∃ m, j = i + m ∧ m < ks.length ∧ mlook ks k = some v ∧ ks[m]? = some (k, v) ∧ (∀ u, mput ks k u = ks.set m (k, u)) ∧ mdel ks k = ks.eraseIdx m := by
 induction ks with
 | nil => intro i j h; simp [mfind] at h
 | cons p r ih =>
   intro i j h
   simp only [mfind] at h
   split at h
   · rename_i hp
     simp only [Option.some.injEq, Prod.mk.injEq] at h
     obtain ⟨rfl, rfl⟩ := h
     refine ⟨0, rfl, by simp, by simp [mlook, hp], by simp [← hp], fun u => by simp [mput, hp], by simp [mdel, hp]⟩
   · rename_i hp
     obtain ⟨m, rfl, h2, h3, h4, h5, h6⟩ := ih h
     refine ⟨m + 1, by omega, by simp; omega, by simp [mlook, hp, h3], by simpa using h4, fun u => by simp [mput, hp, h5], by simp [mdel, hp, h6]⟩
/-- A map's entries, and what they are taken for. -/
structure MapG (E : KeyE α) (es : Array MapEntry) (clock : Nat) (ks : Ks α) : Prop where
 eq : es.toList.map (fun e => (e.key, e.val)) = ks.map (fun p => (E.enc p.1, p.2))
 old : ∀ e ∈ es.toList, e.born < clock
 born : (es.toList.map (·.born)).Nodup
 keys : (ks.map (·.1)).Nodup
theorem MapG.nil {E : KeyE α} : MapG E #[] 0 [] := ⟨rfl, by simp, by simp, by simp⟩
theorem MapG.size {E : KeyE α} {es : Array MapEntry} {clock : Nat} {ks : Ks α} (g : MapG E es clock ks) : es.size = ks.length := by
 have := congrArg List.length g.eq
 simpa using this
def MapS (E : KeyE α) (b : Nat) (ks : Ks α) : HP := ⟨fun _ h => ∃ es clock, h = Res.one b (.map es clock) ∧ MapG E es clock ks, fun _ e => e⟩
/-- A map may have such keys. -/
structure KeyP [DecidableEq α] (P : Program) (kt : TypeId) (E : KeyE α) : Prop where
 chk : ∀ (b : Bool) (k : α) (w : World), (Instr.checkKey b 10000 kt (E.enc k)).run P w = .ok () w
 fnd : ∀ {es : Array MapEntry} {clock : Nat} {ks : Ks α}, MapG E es clock ks → ∀ (k : α) (w : World), (Instr.findKey kt (E.enc k) es.toList).run P w = .ok (mfind ks k 0) w
 stay : ∀ (k : α) (w : World), (Instr.keyThatStays (E.enc k) (E.enc k)).run P w = .ok (E.enc k) w
theorem MapG.put [DecidableEq α] {E : KeyE α} {es : Array MapEntry} {clock : Nat} {ks : Ks α} (g : MapG E es clock ks) (k : α) (v : Value) (h : mfind ks k 0 = none) : MapG E (es.push { key := E.enc k, val := v, born := clock }) (clock + 1) (mput ks k v) := by
 obtain ⟨_, h2, _, h4⟩ := mfind_none h
 rw [h2]
 refine ⟨by simp [g.eq], ?_, ?_, ?_⟩
 · intro e he
   simp only [Array.toList_push, List.mem_append, List.mem_singleton] at he
   rcases he with he | rfl
   · have := g.old e he; omega
   · simp
 · simp only [Array.toList_push, List.map_append, List.map_cons, List.map_nil]
   rw [List.nodup_append]
   refine ⟨g.born, by simp, ?_⟩
   intro a ha c hc
   simp only [List.mem_singleton] at hc
   obtain ⟨e, he, rfl⟩ := List.mem_map.1 ha
   have := g.old e he
   omega
 · rw [List.map_append, List.nodup_append]
   refine ⟨g.keys, by simp, ?_⟩
   intro a ha c hc e
   simp at hc
   subst hc; subst e
   exact h4 ha
theorem MapG.set [DecidableEq α] {E : KeyE α} {es : Array MapEntry} {clock : Nat} {ks : Ks α} (g : MapG E es clock ks) {k : α} {u : Value} {j : Nat} (v : Value) (h : mfind ks k 0 = some (j, u)) : MapG E (es.modify j fun e => { e with key := E.enc k, val := v }) clock (mput ks k v) := by
 obtain ⟨m, hj, hm, _, h4, h5, _⟩ := mfind_some h
 simp only [Nat.zero_add] at hj
 subst hj
 rw [h5]
 have hsz := g.size
 have hlt : j < es.toList.length := by rw [Array.length_toList, hsz]; exact hm
 have e1 : (es.modify j fun e => { e with key := E.enc k, val := v }).toList = es.toList.set j ⟨E.enc k, v, es.toList[j].born⟩ := by
  rw [Array.toList_modify]
  apply List.ext_getElem?
  intro i
  rw [List.getElem?_modify, List.getElem?_set]
  by_cases hi : j = i
  · subst hi
    have h6 : es.toList[j]? = some es.toList[j] := List.getElem?_eq_getElem hlt
    simp [h6, hlt]
    simpa using hlt
  · simp [hi]
 refine ⟨?_, ?_, ?_, ?_⟩
 · rw [e1, List.map_set, g.eq, List.map_set]
 · intro e he
   rw [e1] at he
   rcases List.mem_or_eq_of_mem_set he with he | rfl
   · exact g.old e he
   · show es.toList[j].born < clock
     exact g.old _ (List.getElem_mem hlt)
 · rw [e1, List.map_set]
   have : (es.toList.map (·.born)).set j es.toList[j].born = es.toList.map (·.born) := by
    apply List.ext_getElem?
    intro i
    rw [List.getElem?_set]
    by_cases hi : j = i
    · subst hi
      have h6 : es.toList[j]? = some es.toList[j] := List.getElem?_eq_getElem hlt
      rw [List.getElem?_map, h6]; simp
      simpa using hlt
    · simp [hi]
   rw [this]; exact g.born
 · rw [List.map_set]
   have : (ks.map (·.1)).set j k = ks.map (·.1) := by
    apply List.ext_getElem?
    intro i
    rw [List.getElem?_set]
    by_cases hi : j = i
    · subst hi; rw [List.getElem?_map, h4]; simp [hm]
    · simp [hi]
   rw [this]; exact g.keys
/-- The entries that a walk over a map has met. -/
structure SeenG (E : KeyE α) (es : Array MapEntry) (ds : List MapEntry) (done : List α) : Prop where
 mem : ∀ d ∈ ds, d ∈ es.toList
 keys : ds.map (·.key) = done.map E.enc
 nodup : done.Nodup
/-- A map at b that is being walked over by the iterator at r; the keys that were met. -/
def MapIt (E : KeyE α) (b r : Nat) (ks : Ks α) (done : List α) : HP :=
 ⟨fun _ h => ∃ (es : Array MapEntry) (clock : Nat) (ds : List MapEntry), b ≠ r ∧ h = (Res.one b (.map es clock)).add (Res.one r (.mapIter (some b) clock (ds.map MapEntry.born).toArray clock)) ∧ MapG E es clock ks ∧ SeenG E es ds done, fun _ e => e⟩
theorem mapg_key {E : KeyE α} {es : Array MapEntry} {clock : Nat} {ks : Ks α} (g : MapG E es clock ks) {e : MapEntry} (h : e ∈ es.toList) : ∃ k v, e.key = E.enc k ∧ e.val = v ∧ (k, v) ∈ ks := by
 have h1 : (e.key, e.val) ∈ es.toList.map (fun e => (e.key, e.val)) := List.mem_map_of_mem (f := fun e => (e.key, e.val)) h
 rw [g.eq] at h1
 obtain ⟨p, hp, hq⟩ := List.mem_map.1 h1
 simp only [Prod.mk.injEq] at hq
 exact ⟨p.1, p.2, hq.1.symm, hq.2.symm, hp⟩
theorem mapg_inj {E : KeyE α} {es : Array MapEntry} {clock : Nat} {ks : Ks α} (g : MapG E es clock ks) {e f : MapEntry} (he : e ∈ es.toList) (hf : f ∈ es.toList) (h : e.key = f.key) : e = f := by
 have hn : (es.toList.map (·.key)).Nodup := by
  have h1 : es.toList.map (·.key) = (ks.map (·.1)).map E.enc := by
   have := congrArg (List.map Prod.fst) g.eq
   simpa [List.map_map, Function.comp_def] using this
  rw [h1]
  refine List.Pairwise.map E.enc (fun a b hab e => hab (E.inj e)) g.keys
 obtain ⟨i, hi, rfl⟩ := List.getElem_of_mem he
 obtain ⟨j, hj, rfl⟩ := List.getElem_of_mem hf
 have := nodup_inj hn (i := i) (j := j) (by simpa using hi) (by simpa using hj) (by simpa using h)
 subst this; rfl
def nxV (E : KeyE α) : Option (α × Value) → Value
 | none => .tuple #[.bool false]
 | some (k, v) => .tuple #[.bool true, E.enc k, v]
def nxD (done : List α) : Option (α × Value) → List α
 | none => done
 | some (k, _) => done ++ [k]
def nxP (ks : Ks α) (done : List α) : Option (α × Value) → Prop
 | none => ∀ p ∈ ks, p.1 ∈ done
 | some (k, v) => (k, v) ∈ ks ∧ k ∉ done
class MapPC (E : outParam (KeyE α)) (b : Nat) (ks : outParam (Ks α)) (Hs : List HP) (Rs : outParam (List HP)) : Prop where
 get : Pick (MapS E b ks) Hs Rs
instance (priority := 1000) {E : KeyE α} {b : Nat} {ks : Ks α} {r : List HP} : MapPC E b ks (MapS E b ks :: r) r := ⟨.here⟩
instance (priority := 100) {E : KeyE α} {b : Nat} {ks : Ks α} {B : HP} {r s : List HP} [h : MapPC E b ks r s] : MapPC E b ks (B :: r) (B :: s) := ⟨.there h.get⟩
instance (priority := 900) {E : KeyE α} {b : Nat} {ks : Ks α} {B B' C : List HP} [h : MapPC E b ks B B'] : MapPC E b ks (B ++ C) (B' ++ C) := ⟨pick_left h.get⟩
instance (priority := 800) {E : KeyE α} {b : Nat} {ks : Ks α} {B C C' : List HP} [h : MapPC E b ks C C'] : MapPC E b ks (B ++ C) (B ++ C') := ⟨pick_right h.get⟩
class RdMap (E : outParam (KeyE α)) (b : Nat) (ks : outParam (Ks α)) (Hs : List HP) : Prop where
 get : Has (MapS E b ks) Hs
instance (priority := 1000) {E : KeyE α} {b : Nat} {ks : Ks α} {r : List HP} : RdMap E b ks (MapS E b ks :: r) := ⟨.here⟩
instance (priority := 100) {E : KeyE α} {b : Nat} {ks : Ks α} {B : HP} {r : List HP} [h : RdMap E b ks r] : RdMap E b ks (B :: r) := ⟨.there h.get⟩
instance (priority := 900) {E : KeyE α} {b : Nat} {ks : Ks α} {B C : List HP} [h : RdMap E b ks B] : RdMap E b ks (B ++ C) := ⟨has_left h.get⟩
instance (priority := 800) {E : KeyE α} {b : Nat} {ks : Ks α} {B C : List HP} [h : RdMap E b ks C] : RdMap E b ks (B ++ C) := ⟨has_right h.get⟩
theorem maps_at {E : KeyE α} {b : Nat} {ks : Ks α} {w : World} {M : Kn} {h hf h1 : Res} (t : Sat w M (h.add hf)) (le : h1.le h) (x : (MapS E b ks).at_ M h1) : ∃ es clock, w.heap[b]? = some (.map es clock) ∧ MapG E es clock ks := by
 obtain ⟨es, clock, e, g⟩ := x
 exact ⟨es, clock, t.ow _ _ (Res.le_add_left _ _ _ _ (le _ _ (by rw [e]; exact Res.one_same _ _))), g⟩
section
variable {r : Option Nat} {P : Program} {n : Nat} {ops : Array Oper} {os : List Oper} {A : List HP} {L : Loc} {Hs : List HP} {Q : Out} {ty : TypeId} {d : Nat} {pos : String} {after : Array Edge} {c : Code}
theorem run_mlook [DecidableEq α] {E : KeyE α} {t kt e : TypeId} {i : TypeInfo} {z : Value} (ht : P.underlying t = some (.map kt e)) (hk : KeyP P kt E) (hi : P.info? e = some i) (hz : i.zero = some z) {w : World} {b : Nat} {es : Array MapEntry} {clock : Nat} {ks : Ks α} (hb : w.heap[b]? = some (.map es clock)) (g : MapG E es clock ks) (k : α) (ok : Bool) :
    (Instr.lookup t (.map (some b)) (E.enc k) ok).run P w = .ok (if ok then .tuple #[(mlook ks k).getD z, .bool (mlook ks k).isSome] else (mlook ks k).getD z) w := by
 have hc := hk.chk es.isEmpty k w
 have hf := hk.fnd g k w
 have hzv : (zeroValue e).run P w = .ok z w := by simp [zeroValue, typeInfo, program, Sem.run, hi, hz]
 cases hm : mfind ks k 0 with
 | none =>
   obtain ⟨h1, _⟩ := mfind_none hm
   rw [hm] at hf
   simp only [Instr.lookup, run_underlying ht, Sem.run_bind, Result.andThen_ok, MapKept.run_getObj_map hb, hc, hf, h1, hzv, Sem.run_pure]
   cases ok <;> rfl
 | some p =>
   obtain ⟨j, u⟩ := p
   obtain ⟨m, _, _, h3, _⟩ := mfind_some hm
   rw [hm] at hf
   simp only [Instr.lookup, run_underlying ht, Sem.run_bind, Result.andThen_ok, MapKept.run_getObj_map hb, hc, hf, h3, Sem.run_pure]
   cases ok <;> rfl
theorem r_lookup [DecidableEq α] {E : KeyE α} {t kt e : TypeId} {i : TypeInfo} {z : Value} {x y : Operand} {b : Nat} {ks : Ks α} {k : α} {ok : Bool} {v : Value} (ht : P.underlying t = some (.map kt e)) (hk : KeyP P kt E) (hi : P.info? e = some i) (hz : i.zero = some z)
    (hx : ev L x = some (.map (some b))) (hy : ev L y = some (E.enc k)) [hr : RdMap E b ks Hs] (hv : (if ok then Value.tuple #[(mlook ks k).getD z, .bool (mlook ks k).isSome] else (mlook ks k).getD z) = v) (hd : Nat.blt d n = true)
    (K : wo r P n ops os ((d, v) :: L) Hs Q) : wo r P n ops (⟨some d, .lookup t x y ok, ty, pos, after, none⟩ :: os) L Hs Q := by
 subst hv
 refine wo_read (by intro c; simp) hr.get hd (fun a f w M h h1 hf t' le yy _ _ _ _ => ?_) K
 obtain ⟨es, clock, hb, g⟩ := maps_at t' le yy
 simp [execOp, f.ev hx, f.ev hy, run_mlook ht hk hi hz hb g k ok]
theorem r_mlen {E : KeyE α} {t kt e : TypeId} {x : Operand} {b : Nat} {ks : Ks α} (ht : P.underlying t = some (.map kt e)) (hx : ev L x = some (.map (some b))) [hr : RdMap E b ks Hs] (hd : Nat.blt d n = true)
    (K : wo r P n ops os ((d, vI ks.length) :: L) Hs Q) : wo r P n ops (⟨some d, .call ⟨.builtin .len, #[x], #[t]⟩, ty, pos, after, none⟩ :: os) L Hs Q := by
 refine wo_read (by intro c; simp) hr.get hd (fun a f w M h h1 hf t' le yy _ _ _ _ => ?_) K
 obtain ⟨es, clock, hb, g⟩ := maps_at t' le yy
 have := g.size
 simp [execOp, resolve, f.ev hx, invoke, builtin, Builtin.len_, run_underlying ht, MapKept.run_getObj_map hb, goInt, this]
theorem opt_mapUpdate [DecidableEq α] {E : KeyE α} {t kt e : TypeId} {x y z : Operand} {b : Nat} {ks : Ks α} {k : α} {v : Value} (ht : P.underlying t = some (.map kt e)) (hk : KeyP P kt E)
    (hx : ev L x = some (.map (some b))) (hy : ev L y = some (E.enc k)) (hz : ev L z = some v) :
    OpT r P n ⟨none, .mapUpdate t x y z, ty, pos, after, none⟩ A L [MapS E b ks] (fun _ : Unit => undef) (fun _ => True) (fun _ => [MapS E b (mput ks k v)]) := by
 refine opt_turn (fun a f w M h1 hf dj tt hm => ?_)
 obtain ⟨es, clock, e1, g⟩ := hm
 subst e1
 have hb : w.heap[b]? = some (.map es clock) := tt.ow _ _ (by simp [Res.add, Res.one])
 have hc := hk.chk false k w
 have hfk := hk.fnd g k w
 cases hm : mfind ks k 0 with
 | none =>
   rw [hm] at hfk
   refine ⟨_, Res.one b (.map (es.push { key := E.enc k, val := v, born := clock }) (clock + 1)), dj_one_any dj, sat_setBlock _ dj tt, ⟨_, _, rfl, g.put k v hm⟩, .inr ⟨?_, rfl⟩⟩
   simp [execOp, f.ev hx, f.ev hy, f.ev hz, Instr.mapUpdate, run_underlying ht, MapKept.run_getObj_map hb, hc, hfk, MapKept.run_setObj_map _ hb]
 | some p =>
   obtain ⟨j, u⟩ := p
   rw [hm] at hfk
   obtain ⟨m, hj, hlt, _, h4, _⟩ := mfind_some hm
   simp only [Nat.zero_add] at hj
   subst hj
   have hkey : ((es[j]?).map (·.key)).getD (E.enc k) = E.enc k := by
    have h5 : (es.toList.map (fun e => (e.key, e.val)))[j]? = (ks.map (fun p => (E.enc p.1, p.2)))[j]? := by rw [g.eq]
    simp only [List.getElem?_map, h4, Option.map_some, Array.getElem?_toList] at h5
    cases h6 : es[j]? with
    | none => rw [h6] at h5; simp at h5
    | some e0 => rw [h6] at h5; simp at h5; simp [h5]
   have hst := hk.stay k w
   refine ⟨_, Res.one b (.map (es.modify j fun e => { e with key := E.enc k, val := v }) clock), dj_one_any dj, sat_setBlock _ dj tt, ⟨_, _, rfl, g.set v hm⟩, .inr ⟨?_, rfl⟩⟩
   simp [execOp, f.ev hx, f.ev hy, f.ev hz, Instr.mapUpdate, run_underlying ht, MapKept.run_getObj_map hb, hc, hfk, hkey, hst, MapKept.run_setObj_map _ hb]
theorem r_mkmap {E : KeyE α} {t : TypeId} (hd : Nat.blt d n = true) (K : ∀ b, wo r P n ops os ((d, .map (some b)) :: L) (MapS E b [] :: Hs) Q) : wo r P n ops (⟨some d, .makeMap t none, ty, pos, after, none⟩ :: os) L Hs Q := by
 refine wo_makeMap0 hd (fun b => wo_ent' ⟨fun s => ?_⟩ (K b))
 obtain ⟨h1, h2, d1, e, hb, s2⟩ := s
 exact ⟨h1, h2, d1, e, ⟨_, _, hb, MapG.nil⟩, s2⟩
/-! Maps that are turned. -/
theorem r_mapUpdate [DecidableEq α] {E : KeyE α} {t kt e : TypeId} {x y z : Operand} {b : Nat} {ks : Ks α} {k : α} {v : Value} {Rs : List HP} (ht : P.underlying t = some (.map kt e)) (hk : KeyP P kt E)
    (hx : ev L x = some (.map (some b))) (hy : ev L y = some (E.enc k)) (hz : ev L z = some v) [h : MapPC E b ks Hs Rs] (K : wo r P n ops os L (MapS E b (mput ks k v) :: Rs) Q) : wo r P n ops (⟨none, .mapUpdate t x y z, ty, pos, after, none⟩ :: os) L Hs Q := by
 haveI : PicksC [MapS E b ks] Hs Rs := ⟨.cons h.get .nil⟩
 exact wo_opT (by intro c; simp) (opt_mapUpdate ht hk hx hy hz (ks := ks)) rfl (fun _ _ => K)
theorem opt_range {E : KeyE α} {dst : Option Tmp} {t kt e : TypeId} {x : Operand} {b : Nat} {ks : Ks α} (ht : P.underlying t = some (.map kt e)) (hx : ev L x = some (.map (some b))) :
    OpT r P n ⟨dst, .range t x, ty, pos, after, none⟩ A L [MapS E b ks] (fun i : Nat => .pointer (some ⟨i, 0, none⟩)) (fun _ => True) (fun i => [MapIt E b i ks []]) := by
 refine opt_turnX (fun a f w M h1 hf dj tt hm => ?_)
 obtain ⟨es, clock, e1, g⟩ := hm
 subst e1
 have hb : w.heap[b]? = some (.map es clock) := tt.ow _ _ (by simp [Res.add, Res.one])
 have hlt : b < w.heap.size := (Array.getElem?_eq_some_iff.1 hb).1
 obtain ⟨f1, f2⟩ := fresh_none tt
 have t2 := tt.alloc (.mapIter (some b) clock #[] clock)
 have hd2 : (Res.one w.heap.size (.mapIter (some b) clock #[] clock)).dj ((Res.one b (.map es clock)).add hf) := one_dj f2
 obtain ⟨d1, d2⟩ := Res.dj_add_right.1 hd2
 refine ⟨w.heap.size, w.alloc (.mapIter (some b) clock #[] clock), (Res.one b (.map es clock)).add (Res.one w.heap.size (.mapIter (some b) clock #[] clock)), trivial, Res.dj_add_left.2 ⟨dj, d2⟩, ?_, ⟨es, clock, [], by omega, rfl, g, ⟨by simp, rfl, by simp⟩⟩, ?_⟩
 · rw [Res.add_comm (Res.dj_comm d1), Res.add_assoc]; exact t2
 · simp [execOp, f.ev hx, Instr.range, run_underlying ht, MapKept.run_getObj_map hb, newObj, Sem.run]
theorem opt_next {E : KeyE α} {dst : Option Tmp} {x : Operand} {b i : Nat} {ks : Ks α} {done : List α} (hx : ev L x = some (.pointer (some ⟨i, 0, none⟩))) :
    OpT r P n ⟨dst, .next x false, ty, pos, after, none⟩ A L [MapIt E b i ks done] (nxV E) (nxP ks done) (fun o => [MapIt E b i ks (nxD done o)]) := by
 refine opt_turnX (fun a f w M h1 hf dj tt hm => ?_)
 obtain ⟨es, clock, ds, hne, e1, g, sg⟩ := hm
 subst e1
 have hb : w.heap[b]? = some (.map es clock) := tt.ow _ _ (by simp [Res.add, Res.one])
 have hi : w.heap[i]? = some (.mapIter (some b) clock (ds.map MapEntry.born).toArray clock) := tt.ow _ _ (by simp [Res.add, Res.one, Ne.symm hne])
 have hrun : ∀ (v : Value) (w' : World), (Instr.next (.pointer (some ⟨i, 0, none⟩)) false ty).run P w = .ok v w' → (execOp a.eval ⟨dst, .next x false, ty, pos, after, none⟩).run P w = .ok (.value v) w' := by
  intro v w' h
  simp only [execOp, f.ev hx, Sem.run_bind, h, Result.andThen_ok, Sem.run_pure]
 rcases run_next_at (P := P) w ty i b clock clock (ds.map MapEntry.born).toArray es clock hi hb (fun x hx => g.old x hx) (Nat.le_refl _) with ⟨h0, hr⟩ | ⟨e, he, w1, hw1, hr⟩
 · refine ⟨none, w, _, ?_, dj, tt, ⟨es, clock, ds, hne, rfl, g, sg⟩, hrun _ _ hr⟩
   intro p hp
   obtain ⟨j, hj, rfl⟩ := List.getElem_of_mem hp
   have hje : j < es.toList.length := by have := g.size; simp; omega
   have h1 : es.toList[j] ∈ es.toList := List.getElem_mem _
   have h2 : (ds.map MapEntry.born).contains es.toList[j].born = true := by
    apply Classical.byContradiction
    intro hc
    have h3 : es.toList[j] ∈ (leftOf es (ds.map MapEntry.born).toArray).toList := by
     unfold leftOf
     simp only [Array.toList_filter, List.mem_filter]
     refine ⟨h1, ?_⟩
     simpa using hc
    have h4 : (leftOf es (ds.map MapEntry.born).toArray).toList.length = 0 := by simpa using h0
    rw [List.eq_nil_of_length_eq_zero h4] at h3
    simp at h3
   simp only [List.contains_eq_mem, decide_eq_true_eq, List.mem_map] at h2
   obtain ⟨d0, hd0, hdb⟩ := h2
   have hde : d0 = es.toList[j] := by
    obtain ⟨q, hq, hq2⟩ := List.getElem_of_mem (sg.mem d0 hd0)
    have := nodup_inj g.born (i := q) (j := j) (by simpa using hq) (by simpa using hje) (by rw [List.getElem_map, List.getElem_map, hq2, hdb])
    subst this; exact hq2.symm
   have hk : d0.key ∈ ds.map (·.key) := List.mem_map_of_mem (f := fun e : MapEntry => e.key) hd0
   rw [sg.keys] at hk
   obtain ⟨k, hk1, hk2⟩ := List.mem_map.1 hk
   have h5 : (es.toList.map (fun e => (e.key, e.val)))[j]? = (ks.map (fun p => (E.enc p.1, p.2)))[j]? := by rw [g.eq]
   rw [List.getElem?_map, List.getElem?_map, List.getElem?_eq_getElem hje, List.getElem?_eq_getElem hj] at h5
   simp only [Option.map_some, Option.some.injEq, Prod.mk.injEq] at h5
   have : k = ks[j].1 := E.inj (by rw [hk2, hde, h5.1])
   rw [← this]; exact hk1
 · have he2 : e ∈ es.toList ∧ ¬ e.born ∈ ds.map MapEntry.born := by
     unfold leftOf at he
     simp only [Array.toList_filter, List.mem_filter] at he
     refine ⟨he.1, ?_⟩
     intro hc
     have := he.2
     simp [hc] at this
   obtain ⟨k, v, hk, hv, hm⟩ := mapg_key g he2.1
   have hkd : k ∉ done := by
    intro hc
    have : E.enc k ∈ ds.map (·.key) := by rw [sg.keys]; exact List.mem_map_of_mem (f := E.enc) hc
    obtain ⟨d0, hd0, hd1⟩ := List.mem_map.1 this
    have := mapg_inj g (sg.mem d0 hd0) he2.1 (by rw [hd1, hk])
    subst this
    exact he2.2 (List.mem_map_of_mem (f := fun e : MapEntry => e.born) hd0)
   have tt1 : Sat w1 M (((Res.one b (.map es clock)).add (Res.one i (.mapIter (some b) clock (ds.map MapEntry.born).toArray clock))).add hf) := by
    rcases hw1 with rfl | rfl
    · exact tt
    · exact tt.drew
   obtain ⟨dj1, dj2⟩ := Res.dj_add_left.1 dj
   have dbi : (Res.one b (.map es clock)).dj (Res.one i (.mapIter (some b) clock (ds.map MapEntry.born).toArray clock)) := fun q => by
    by_cases hq : q = b
    · right; subst hq; simp [Res.one, hne]
    · left; simp [Res.one, hq]
   have eq : ∀ o : Obj, ((Res.one b (.map es clock)).add (Res.one i o)).add hf = (Res.one i o).add ((Res.one b (.map es clock)).add hf) := fun o => by
    have d : (Res.one b (.map es clock)).dj (Res.one i o) := fun q => by
     by_cases hq : q = b
     · right; subst hq; simp [Res.one, hne]
     · left; simp [Res.one, hq]
    rw [Res.add_comm d, Res.add_assoc]
   rw [eq] at tt1
   have t3 := sat_setBlock (.mapIter (some b) clock ((ds.map MapEntry.born).toArray.push e.born) clock) (Res.dj_add_right.2 ⟨Res.dj_comm dbi, dj2⟩) tt1
   rw [← eq] at t3
   refine ⟨some (k, v), _, _, ⟨hm, hkd⟩, Res.dj_add_left.2 ⟨dj1, dj_one_any dj2⟩, t3, ⟨es, clock, ds ++ [e], hne, by simp, g, ⟨?_, ?_, ?_⟩⟩, hrun _ _ (by rw [hr, hk, hv]; rfl)⟩
   · intro d0 hd0
     rcases List.mem_append.1 hd0 with h | h
     · exact sg.mem d0 h
     · simp only [List.mem_singleton] at h; subst h; exact he2.1
   · simp [sg.keys, hk, nxD]
   · show (done ++ [k]).Nodup
     rw [List.nodup_append]
     refine ⟨sg.nodup, by simp, ?_⟩
     intro a1 h1 b1 h2 h3
     simp only [List.mem_singleton] at h2
     subst h2; subst h3
     exact hkd h1
/-- A map that is walked over, found by its iterator. -/
class MapItC (E : outParam (KeyE α)) (b : outParam Nat) (i : Nat) (ks : outParam (Ks α)) (done : outParam (List α)) (Hs : List HP) (Rs : outParam (List HP)) : Prop where
 get : Pick (MapIt E b i ks done) Hs Rs
instance (priority := 1000) {E : KeyE α} {b i : Nat} {ks : Ks α} {done : List α} {r : List HP} : MapItC E b i ks done (MapIt E b i ks done :: r) r := ⟨.here⟩
instance (priority := 100) {E : KeyE α} {b i : Nat} {ks : Ks α} {done : List α} {B : HP} {r s : List HP} [h : MapItC E b i ks done r s] : MapItC E b i ks done (B :: r) (B :: s) := ⟨.there h.get⟩
instance (priority := 900) {E : KeyE α} {b i : Nat} {ks : Ks α} {done : List α} {B B' C : List HP} [h : MapItC E b i ks done B B'] : MapItC E b i ks done (B ++ C) (B' ++ C) := ⟨pick_left h.get⟩
instance (priority := 800) {E : KeyE α} {b i : Nat} {ks : Ks α} {done : List α} {B C C' : List HP} [h : MapItC E b i ks done C C'] : MapItC E b i ks done (B ++ C) (B ++ C') := ⟨pick_right h.get⟩
theorem r_range {E : KeyE α} {t kt e : TypeId} {x : Operand} {b : Nat} {ks : Ks α} {Rs : List HP} (ht : P.underlying t = some (.map kt e)) (hx : ev L x = some (.map (some b))) [h : MapPC E b ks Hs Rs] (hd : Nat.blt d n = true)
    (K : ∀ i, wo r P n ops os ((d, .pointer (some ⟨i, 0, none⟩)) :: L) (MapIt E b i ks [] :: Rs) Q) : wo r P n ops (⟨some d, .range t x, ty, pos, after, none⟩ :: os) L Hs Q := by
 haveI : PicksC [MapS E b ks] Hs Rs := ⟨.cons h.get .nil⟩
 exact wo_opT (by intro c; simp) (opt_range ht hx) (by simpa [dstOk] using hd) (fun i _ => K i)
theorem r_next {E : KeyE α} {x : Operand} {b i : Nat} {ks : Ks α} {done : List α} {Rs : List HP} (hx : ev L x = some (.pointer (some ⟨i, 0, none⟩))) [h : MapItC E b i ks done Hs Rs] (hd : Nat.blt d n = true)
    (K : ∀ o, nxP ks done o → wo r P n ops os ((d, nxV E o) :: L) (MapIt E b i ks (nxD done o) :: Rs) Q) : wo r P n ops (⟨some d, .next x false, ty, pos, after, none⟩ :: os) L Hs Q := by
 haveI : PicksC [MapIt E b i ks done] Hs Rs := ⟨.cons h.get .nil⟩
 exact wo_opT (by intro c; simp) (opt_next hx) (by simpa [dstOk] using hd) (fun o ho => K o ho)
theorem pv_nx0 {E : KeyE α} {x : Operand} {o : Option (α × Value)} (hx : ev L x = some (nxV E o)) : PV P n L (.extract x 0) ty (.bool o.isSome) := by
 cases o with
 | none => exact pv_extract hx rfl
 | some p => exact pv_extract (vs := #[.bool true, E.enc p.1, p.2]) hx rfl
theorem r_entry {E : KeyE α} {x : Operand} {b i : Nat} {ks : Ks α} {done : List α} {k : α} {v : Value} {Rs : List HP} (hm : (k, v) ∈ ks) (hx : ev L x = some (.pointer (some ⟨i, 0, none⟩))) [h : MapItC E b i ks (done ++ [k]) Hs Rs] (hd : Nat.blt d n = true)
    (K : wo r P n ops os ((d, .tuple #[E.enc k, v]) :: L) Hs Q) : wo r P n ops (⟨some d, .entry x, ty, pos, after, none⟩ :: os) L Hs Q := by
 refine wo_read (by intro c; simp) (pick_has h.get) hd (fun a f w M h1 h2 hf t le hm' dst pos after guard => ?_) K
 obtain ⟨es, clock, ds, hne, e1, g, sg⟩ := hm'
 subst e1
 have hb : w.heap[b]? = some (.map es clock) := t.ow _ _ (by have := le b (.map es clock) (by simp [Res.add, Res.one]); simp [Res.add, this])
 have hi : w.heap[i]? = some (.mapIter (some b) clock (ds.map MapEntry.born).toArray clock) := t.ow _ _ (by have := le i (.mapIter (some b) clock (ds.map MapEntry.born).toArray clock) (by simp [Res.add, Res.one, Ne.symm hne]); simp [Res.add, this])
 have hl : ds.length = done.length + 1 := by have := congrArg List.length sg.keys; simpa using this
 obtain ⟨ds', e, rfl⟩ : ∃ ds' e, ds = ds' ++ [e] := by
  rcases List.eq_nil_or_concat ds with h | ⟨l, e, h⟩
  · rw [h] at hl; simp at hl
  · exact ⟨l, e, by simpa using h⟩
 have hk : e.key = E.enc k := by
  have := sg.keys
  simp only [List.map_append, List.map_cons, List.map_nil] at this
  exact (List.append_inj' this rfl).2 |> fun h => by simpa using h
 have he : e ∈ es.toList := sg.mem e (by simp)
 obtain ⟨k2, v2, hk2, hv2, hm2⟩ := mapg_key g he
 have hkk : k2 = k := E.inj (by rw [← hk2, hk])
 subst hkk
 have hvv : v2 = v := by
  obtain ⟨p, hp, hp2⟩ := List.getElem_of_mem hm
  obtain ⟨q, hq, hq2⟩ := List.getElem_of_mem hm2
  have := nodup_inj g.keys (i := p) (j := q) (by simpa using hp) (by simpa using hq) (by rw [List.getElem_map, List.getElem_map, hp2, hq2])
  subst this
  rw [hp2] at hq2
  exact (Prod.mk.inj hq2).2.symm
 subst hvv
 have hi2 : w.heap[i]? = some (.mapIter (some b) clock ((ds'.map MapEntry.born).toArray.push e.born) clock) := by rw [hi]; simp
 have := run_entry_at (P := P) w i b clock _ es clock e hi2 hb he g.born
 simp only [execOp, f.ev hx, Sem.run_bind, this, Result.andThen_ok, Sem.run_pure, hk, hv2]
theorem mapit_done {E : KeyE α} {b i : Nat} {ks : Ks α} {done : List α} {Rs : List HP} [h : MapItC E b i ks done Hs Rs] : Ent Hs (MapS E b ks :: Rs) := (Picks.ent (.cons h.get .nil)).trans ⟨fun {M x} s => by
 obtain ⟨h1, h2, d, e, ⟨es, clock, ds, hne, e1, g, sg⟩, s⟩ := s
 subst e1; subst e
 obtain ⟨d1, d2⟩ := Res.dj_add_left.1 d
 have dbi : (Res.one b (.map es clock)).dj (Res.one i (.mapIter (some b) clock (ds.map MapEntry.born).toArray clock)) := fun q => by
  by_cases hq : q = b
  · right; subst hq; simp [Res.one, hne]
  · left; simp [Res.one, hq]
 rw [Res.add_assoc]
 exact ⟨_, _, Res.dj_add_right.2 ⟨dbi, d1⟩, rfl, ⟨es, clock, rfl, g⟩, SL.more d2 s⟩⟩
/-- The keys that were met, once nothing is left. -/
theorem mapit_perm {E : KeyE α} {b i : Nat} {ks : Ks α} {done : List α} {M : Kn} {h : Res} (x : (MapIt E b i ks done).at_ M h) (hn : nxP ks done none) : done.Perm (ks.map (·.1)) := by
 obtain ⟨es, clock, ds, hne, e1, g, sg⟩ := x
 refine (List.perm_ext_iff_of_nodup sg.nodup g.keys).2 fun k => ⟨fun hk => ?_, fun hk => ?_⟩
 · have : E.enc k ∈ ds.map (·.key) := by rw [sg.keys]; exact List.mem_map_of_mem (f := E.enc) hk
   obtain ⟨d0, hd0, hd1⟩ := List.mem_map.1 this
   obtain ⟨k2, v2, hk2, _, hm2⟩ := mapg_key g (sg.mem d0 hd0)
   have : k2 = k := E.inj (by rw [← hk2, hd1])
   subst this
   exact List.mem_map_of_mem (f := fun p : α × Value => p.1) hm2
 · obtain ⟨p, hp, rfl⟩ := List.mem_map.1 hk
   exact hn p hp
theorem mapit_len [DecidableEq α] {E : KeyE α} {b i : Nat} {ks : Ks α} {done : List α} {M : Kn} {h : Res} (x : (MapIt E b i ks done).at_ M h) : done.length ≤ ks.length ∧ done.Nodup ∧ ∀ k ∈ done, k ∈ ks.map (·.1) := by
 obtain ⟨es, clock, ds, hne, e1, g, sg⟩ := x
 have hsub : ∀ k ∈ done, k ∈ ks.map (·.1) := fun k hk => by
  have : E.enc k ∈ ds.map (·.key) := by rw [sg.keys]; exact List.mem_map_of_mem (f := E.enc) hk
  obtain ⟨d0, hd0, hd1⟩ := List.mem_map.1 this
  obtain ⟨k2, v2, hk2, _, hm2⟩ := mapg_key g (sg.mem d0 hd0)
  have : k2 = k := E.inj (by rw [← hk2, hd1])
  subst this
  exact List.mem_map_of_mem (f := fun p : α × Value => p.1) hm2
 refine ⟨?_, sg.nodup, hsub⟩
 have := nodup_len sg.nodup hsub
 simpa using this
end
end Go.Proofs.YtdnoacgopfcpbaaGreat.MX
namespace Go.Proofs.YtdnoacgopfcpbaaGreat
end Go.Proofs.YtdnoacgopfcpbaaGreat
/- Maps whose keys are two texts, or yes and no. -/
namespace Go.Proofs.YtdnoacgopfcpbaaGreat.MX
abbrev Bt := List UInt8
def pairE : KeyE (Bt × Bt) := ⟨fun p => .agg #[vS p.1, vS p.2], fun {a b} h => by
 have h1 : ([vS a.1, vS a.2] : List Value) = [vS b.1, vS b.2] := congrArg (fun v => match v with | .agg xs => xs.toList | _ => []) h
 simp only [List.cons.injEq, and_true] at h1
 exact Prod.ext (vS_inj h1.1) (vS_inj h1.2)⟩
section
variable {P : Program} {t e : TypeId} {i : TypeInfo} (hu : P.underlying t = some (.array 2 e)) (he : P.underlying e = some .string) (hi : P.info? e = some i) (hs : i.size = 1)
include he in
theorem run_partS {xs : Array Value} {off : Nat} {v : Value} (hx : xs[off]? = some v) (w : World) : (part e xs off).run P w = .ok v w := by
 simp [part, isAgg, run_underlying he, hx]
include hu he hi hs in
theorem pair_eq (p q : Bt × Bt) (w : World) (d : Nat) : (Op.equalIn (d + 2) t (pairE.enc p) (pairE.enc q)).run P w = .ok (decide (p = q)) w := by
 have hc : P.cellsOf e = 1 := by simp [Program.cellsOf, hi, hs]
 have h0 := fun (r : Bt × Bt) => run_partS (P := P) he (xs := #[vS r.1, vS r.2]) (off := 0) (v := vS r.1) rfl
 have h1 := fun (r : Bt × Bt) => run_partS (P := P) he (xs := #[vS r.1, vS r.2]) (off := 1) (v := vS r.2) rfl
 have e1 : ∀ (a b : Bt), (Op.equalIn (d + 1) e (vS a) (vS b)).run P w = .ok (decide (a = b)) w := fun a b => by
  rw [show vS a = .string ⟨a.toArray⟩ from rfl, show vS b = .string ⟨b.toArray⟩ from rfl, run_equalIn_string w d _ _ _ he]
  congr 1
  rw [Bool.eq_iff_iff]
  simp
 show (Op.equalIn (d + 1 + 1) t (.agg #[vS p.1, vS p.2]) (.agg #[vS q.1, vS q.2])).run P w = _
 rw [run_equalIn_array w (d + 1) _ _ hu hi, hc, show List.range 2 = [0, 1] from rfl]
 simp only [Op.eqItems, Nat.zero_mul, Nat.one_mul, Sem.run_bind, h0, h1, e1, Result.andThen_ok]
 by_cases c1 : p.1 = q.1
 · by_cases c2 : p.2 = q.2
   · have : p = q := Prod.ext c1 c2
     simp only [this, decide_true, Bool.not_true, Bool.false_eq_true, if_false, Sem.run_bind, h1, e1, Result.andThen_ok, Sem.run_pure]
   · have : p ≠ q := fun h => c2 (by rw [h])
     have h2 := h1 (q.1, p.2)
     dsimp only at h2
     simp [c1, c2, this, h1, h2, e1]
 · have : p ≠ q := fun h => c1 (by rw [h])
   simp [c1, this]
include hu he hi hs in
theorem pair_asking (k : Bt × Bt) (w : World) : ∀ (es : List MapEntry) (ks : Ks (Bt × Bt)) (j : Nat), es.map (fun e => (e.key, e.val)) = ks.map (fun p => (pairE.enc p.1, p.2)) → (Instr.findAsking t (pairE.enc k) es j).run P w = .ok (mfind ks k j) w := by
 intro es
 induction es with
 | nil => intro ks j h; cases ks with
   | nil => simp [Instr.findAsking, mfind]
   | cons _ _ => simp at h
 | cons x es ih =>
   intro ks j h
   cases ks with
   | nil => simp at h
   | cons p r =>
     simp only [List.map_cons, List.cons.injEq, Prod.mk.injEq] at h
     obtain ⟨⟨h1, h2⟩, h3⟩ := h
     have := pair_eq hu he hi hs k p.1 w 9998
     simp only [Instr.findAsking, Sem.run_bind, h1, Op.equal, Op.maxDepth, this, Result.andThen_ok, mfind]
     by_cases hk : k = p.1
     · simp [hk, h2]
     · simp only [hk, decide_false, Bool.false_eq_true, if_false, Ne.symm hk]
       exact ih r (j + 1) h3
include hu he hi hs in
theorem pairP : KeyP P t pairE := by
 refine ⟨fun b k w => ?_, fun {es clock ks} g k w => ?_, fun k w => ?_⟩
 · have hsz : (sizeOf e).run P w = .ok 1 w := by simp [sizeOf, typeInfo, program, Sem.run, hi, hs]
   have hk : ∀ (d : Nat) (s : Bt), (Instr.checkKey b (d + 1) e (vS s)).run P w = .ok () w := fun d s => by simp [Instr.checkKey, run_underlying he]
   have h0 := run_partS (P := P) he (xs := #[vS k.1, vS k.2]) (off := 0) (v := vS k.1) rfl
   have h1 := run_partS (P := P) he (xs := #[vS k.1, vS k.2]) (off := 1) (v := vS k.2) rfl
   have all : ∀ d : Nat, (Instr.checkKey b (d + 2) t (.agg #[vS k.1, vS k.2])).run P w = .ok () w := fun d => by
    rw [Instr.checkKey]
    simp only [Sem.run_bind, run_underlying hu, Result.andThen_ok]
    simp only [Std.Legacy.Range.forIn_eq_forIn_range', Std.Legacy.Range.size, Nat.sub_zero, Nat.add_one_sub_one, Nat.div_one, show List.range' 0 2 = [0, 1] from rfl, List.forIn_cons, List.forIn_nil, Sem.run_bind, hsz, Result.andThen_ok, Nat.zero_mul, Nat.one_mul, h0, h1, hk, Sem.run_pure]
   exact all 9998
 · have hn : ∀ (es : List MapEntry) (ks : Ks (Bt × Bt)), es.map (fun e => (e.key, e.val)) = ks.map (fun p => (pairE.enc p.1, p.2)) → Instr.findNow (.array 2 e) (pairE.enc k) es 0 = none ∨ (es = [] ∧ ks = []) := by
     intro es ks h
     cases es with
     | nil => cases ks with
       | nil => exact .inr ⟨rfl, rfl⟩
       | cons _ _ => simp at h
     | cons x es => exact .inl (by simp [Instr.findNow, Instr.sameNow])
   rcases hn es.toList ks g.eq with h | ⟨h1, h2⟩
   · simp only [Instr.findKey, Sem.run_bind, run_underlying hu, Result.andThen_ok, h]
     exact pair_asking hu he hi hs k w es.toList ks 0 g.eq
   · rw [h1, h2]
     simp [Instr.findKey, run_underlying hu, Instr.findNow, mfind]
 · have hb : ∀ s : Bt, ((⟨⟨s⟩⟩ : ByteArray) == ⟨⟨s⟩⟩) = true := fun s => by rw [mk_eq]; exact decide_eq_true rfl
   have h : ∀ d, Instr.sameBits (d + 1) (.agg #[vS k.1, vS k.2]) (.agg #[vS k.1, vS k.2]) = true := fun d => by cases d <;> simp [Instr.sameBits, hb]
   show (Instr.keyThatStays (.agg #[vS k.1, vS k.2]) (.agg #[vS k.1, vS k.2])).run P w = .ok (.agg #[vS k.1, vS k.2]) w
   rw [Instr.keyThatStays, if_pos (h 9999)]; rfl
end
end Go.Proofs.YtdnoacgopfcpbaaGreat.MX
namespace Go.Proofs.YtdnoacgopfcpbaaGreat
section
set_option maxRecDepth 100000
def retg (n : Bs) (l : List Tg) (j : Nat) : List Tg := (l.take j).map (fun t => { t with target := n }) ++ l.drop j
theorem retg_len (n : Bs) (l : List Tg) (j : Nat) (h : j ≤ l.length) : (retg n l j).length = l.length := by simp [retg]; omega
theorem retg_all (n : Bs) (l : List Tg) : retg n l l.length = l.map (fun t => { t with target := n }) := by simp [retg]
theorem retg_set (n : Bs) (l : List Tg) {j : Nat} (h : j < l.length) : ((retg n l j).flatMap tgCells).set (j * 4 + 2) (vS n) = (retg n l (j + 1)).flatMap tgCells := by
 have hd : l.drop j = l[j] :: l.drop (j + 1) := List.drop_eq_getElem_cons h
 have ht : l.take (j + 1) = l.take j ++ [l[j]] := List.take_succ_eq_append_getElem h
 have hl : (((l.take j).map (fun t : Tg => { t with target := n })).flatMap tgCells).length = j * 4 := by
  rw [flat_len (f := tgCells) (sz := 4) (fun _ => rfl), List.length_map, List.length_take]; omega
 unfold retg
 rw [hd, ht]
 simp only [List.map_append, List.map_cons, List.map_nil, List.flatMap_append, List.flatMap_cons, List.flatMap_nil, List.append_nil]
 rw [List.set_append_right _ _ (by omega), hl]
 simp [tgCells, Nat.add_sub_cancel_left]
set_option maxHeartbeats 2000000 in
theorem tags_ops_sp (n s : Bs) (hs : s.length ≤ 1073741824) : Sp Tryz.prog 170 [vS n, vS s] [] (X := Option Addr × Nat) (fun x => .tuple #[.slice x.1 (opsB n s).1.length x.2, vI (opsB n s).2]) (fun _ => True) (fun x => [Row 60 4 (.slice x.1 (opsB n s).1.length x.2) (opsB n s).1.length ((opsB n s).1.flatMap tgCells)]) := by
 refine Sp.body (n := 43) Tryz.call170 Tryz.func170 rfl rfl rfl ?_
 refine Qc (k:=Qv (k:=Wq (Za (k:=Qc (k:=Vv (k:=?_))))))
 refine r_callX (checkin_Read_sp s hs) rfl rfl rfl (fun x13 hx13 => ?_)
 obtain ⟨xa, ck⟩ := x13
 obtain ⟨hck, hpc⟩ := hx13
 dsimp only at hck hpc ⊢
 refine Vv (k:=?_)
 refine wo_pv (pv_extract (v := .agg #[vS ck.base, vS ck.comment, vI ck.date, .slice xa.fa ck.files.length xa.fc, .slice xa.pa ck.parents.length xa.pc, .slice xa.ta ck.tags.length xa.tc, vS ck.user]) rfl rfl) rfl ?_
 refine wo_pv (pv_extract (v := vB (readK s).isSome) rfl rfl) rfl ?_
 refine Zc [vS [], vS [], .int .i64 0, .slice none 0 0, .slice none 0 0, .slice none 0 0, vS []] (k:=fun b6 => Zp (k:=Vv (k:=Wq (Qc (k:=Vv (k:=Wq (Zi (t:=fun h16 => ?_) (f:=fun h16 => ?_))))))))
 ·
  obtain ⟨k, hk⟩ : ∃ k, readK s = some k := Option.isSome_iff_exists.1 h16
  have hkk : ck = k := by rw [hck, hk]; rfl
  subst hkk
  have htl : ck.tags.length ≤ 12 := (readK_right hk).tags.len
  have hop : opsB n s = (ck.tags.map (fun t => { t with target := n }), ck.date) := by rw [opsB, hk]
  refine Za (k:=Qc (k:=Qx 5 28 (k:=Qv (k:=Wq (Zb (k:=?_))))))
  refine p_loop (fun (i : { j : Nat // j ≤ ck.tags.length }) => [(0, vS n), (6, .pointer (some ⟨b6, 0, none⟩)), (19, vI ck.tags.length), (20, vI i.1)]) (fun (i : { j : Nat // j ≤ ck.tags.length }) => [Row 60 4 (.slice xa.ta ck.tags.length xa.tc) ck.tags.length ((retg n ck.tags i.1).flatMap tgCells), Ce b6 30 [vS ck.base, vS ck.comment, vI ck.date, .slice xa.fa ck.files.length xa.fc, .slice xa.pa ck.parents.length xa.pc, .slice xa.ta ck.tags.length xa.tc, vS ck.user]]) (fun (i : { j : Nat // j ≤ ck.tags.length }) => ck.tags.length - i.1) rfl (⟨0, Nat.zero_le _⟩) ?_ ?_ (fun i => ?_)
  · exact ⟨rfl, rfl, rfl, rfl, trivial⟩
  ·
   dsimp only
   rw [show retg n ck.tags 0 = ck.tags by simp [retg]]
   exact ent_pick
  obtain ⟨j, hj⟩ := i
  dsimp only
  try dsimp only
  refine Qc (k:=Vv (k:=Wq (Za (k:=Zi (t:=fun h21 => ?_) (f:=fun h21 => ?_)))))
  ·
   refine Zk (k:=Ya (Za (k:=Zb (k:=Qc (k:=Qv (k:=Wq ?_))))))
   have hjl : j < ck.tags.length := by omega
   have hrl := retg_len n ck.tags j hj
   have hst := retg_set n ck.tags hjl
   have hfl6 : ((retg n ck.tags j).flatMap tgCells).length = 4 * ck.tags.length := by rw [flat_len (f := tgCells) (sz := 4) (fun _ => rfl), hrl]; omega
   refine Zr (k:=Qx 5 28 (k:=Qv (k:=Ye 4 (k:=Yf 2 9 (k:=?_)))))
   refine r_estore ti9 rfl rfl rfl rfl (by rw [hfl6]; omega) ?_
   refine Wn (Yb (Ya (Zr (k:=Qv (k:=Wn ?_)))))
   refine to_inv ⟨j + 1, by omega⟩ (by dsimp only; omega) ⟨rfl, rfl, rfl, rfl, trivial⟩ ?_
   dsimp only
   exact ent_step (row_norm (by rfl) hst) ent_pick
  ·
   refine Ze (k:=Xa (Xi (Xb (Ya (Za (k:=Dw [Ce b6 30 [vS ck.base, vS ck.comment, vI ck.date, .slice xa.fa ck.files.length xa.fc, .slice xa.pa ck.parents.length xa.pc, .slice xa.ta ck.tags.length xa.tc, vS ck.user]] (k:=?_)))))))
   refine Di 0 (t:=Uf 5 28) (k:=Di 1 (t:=Ul) (k:=Di 2 (t:=Uf 2 3) (k:=Di 3 (t:=Ul) (k:=Dv 4 (k:=Dv 5 (k:=Dd (k:=Ya (Zt (k:=Va ?_)))))))))
   rw [hop]
   have hjn : j = ck.tags.length := by omega
   subst hjn
   rw [retg_all]
   refine fin_ret (xa.ta, xa.tc) (vs := [_, _]) (Cs := []) rfl (.tmp rfl (.tmp rfl .nil)) (by simp [pack]) trivial ?_
   simp only [List.length_map]
   exact ent_pick
 ·
  have hk : readK s = none := by cases e : readK s with | none => rfl | some k => rw [e] at h16; cases h16
  have hop : opsB n s = (((readCt s).getD ct0).tags, ((readCt s).getD ct0).date) := by rw [opsB, hk]
  refine Zk (k:=Ya (Qc (k:=Vv (k:=?_))))
  refine r_callX (control_Read_sp s hs) rfl rfl rfl (fun x36 hx36 => ?_)
  obtain ⟨⟨ta, tc⟩, ct⟩ := x36
  dsimp only at hx36 ⊢
  subst hx36
  generalize (readCt s).getD ct0 = ct at *
  refine Vv (k:=?_)
  refine wo_pv (pv_extract (v := .agg #[vI ct.date, .slice ta ct.tags.length tc, vS ct.user]) rfl rfl) rfl ?_
  refine wo_pv (pv_extract (v := vB (readCt s).isSome) rfl rfl) rfl ?_
  refine Zc [.int .i64 0, .slice none 0 0, vS []] (k:=fun b9 => Zp (k:=Vv (k:=Wq (Za (k:=Dw [Ce b9 70 [vI ct.date, .slice ta ct.tags.length tc, vS ct.user]] (k:=?_))))))
  refine Di 0 (t:=Uf 1 28) (k:=Di 1 (t:=Ul) (k:=Di 2 (t:=Uf 0 3) (k:=Di 3 (t:=Ul) (k:=Dv 4 (k:=Dv 5 (k:=Dd (k:=Ya (Zt (k:=?_)))))))))
  rw [hop]
  exact fin_ret (ta, tc) (vs := [_, _]) (Cs := []) rfl (.tmp rfl (.tmp rfl .nil)) rfl trivial ent_pick
theorem opsB_len (n s : Bs) : (opsB n s).1.length ≤ 12 := by
 unfold opsB
 cases e : readK s with
 | some c => simp only [List.length_map]; exact (readK_right e).tags.len
 | none =>
   dsimp only
   cases e2 : readCt s with
   | none => simp [ct0]
   | some c => exact (readCt_iff.1 e2).1.tags.len
theorem tags_All_sp (m : Option Nat) : Sp Tryz.prog 127 [.map m] [] (X := Nat) (fun b => .func (.func 169) #[] #[.pointer (some ⟨b, 0, none⟩)]) (fun _ => True) (fun b => [Ce b 31 [.map m]]) := by
 refine Sp.body (n := 4) Tryz.call127 Tryz.func127 rfl rfl rfl ?_
 refine Qc (k:=Zx [_] (k:=fun b1 => Vv (k:=Wq (Qc (k:=Qv (k:=Wq (Zt (k:=?_))))))))
 exact fin_ret b1 (vs := [_]) (Cs := []) rfl (.tmp rfl .nil) rfl trivial ent_pick
def sdV (s : Sd) : Value := .agg (sdVals s).toArray
theorem sdF_snoc (H : Ks) (l : List Bs) (n : Bs) : sdF H (l ++ [n]) = sdF H l ++ sdOf H n := by simp [sdF]
set_option maxHeartbeats 2000000 in
theorem tags_All_itB (c b : Nat) (H : Ks) (hH : TxtK H) (hn : H.length ≤ 4398046511104) :
    IterB Tryz.prog 169 [.pointer (some ⟨c, 0, none⟩)] (fun s : Sd => [sdV s]) (okL (sdL H)) (stopL (sdL H)) (MapS b H) [Ce c 31 [.map (some b)]] [Ce c 31 [.map (some b)]] (sdL H) (fun _ => .tuple #[]) := by
 intro y Jy J0 Jx ys hj1 hj2
 have hkl := keysS_len H
 refine Sp.body (n := 40) Tryz.call169 Tryz.func169 rfl rfl rfl ?_
 refine wc_ent' (ent_open2 (hj1 []) (Ent.refl _)) ?_
 refine Qc (k:=Zd (k:=?_))
 refine r_callX (maps_Keys_sp (some b)) rfl rfl rfl (fun cb _ => ?_)
 refine r_callX (slices_Sorted_sp (maps_Keys_it cb b H) H.length hn (fun pre x h => h.2.2) (fun l h => by have := h.length_eq; simp at this; omega)) rfl rfl rfl (fun xs hxs => ?_)
 obtain ⟨⟨sa, sc⟩, al⟩ := xs
 have hse : sortB al = keysS H := sortB_eq hxs
 have hal : al.length = H.length := by have := hxs.length_eq; simpa using this
 dsimp only
 rw [hse, hal]
 refine Qv (k:=Wq (Zb (k:=?_)))
 refine p_loop (fun (i : { j : Nat // j ≤ H.length }) => [(0, y), (1, .pointer (some ⟨c, 0, none⟩)), (11, .slice sa H.length sc), (12, vI H.length), (13, vI i.1)]) (fun (i : { j : Nat // j ≤ H.length }) => [Jy (sdF H ((keysS H).take i.1)), Row 9 1 (.slice sa H.length sc) H.length ((keysS H).map vS), Ce c 31 [.map (some b)]]) (fun (i : { j : Nat // j ≤ H.length }) => H.length - i.1) rfl (⟨0, Nat.zero_le _⟩) ?_ ?_ (fun i => ?_)
 · exact ⟨rfl, rfl, rfl, rfl, rfl, trivial⟩
 ·
  dsimp only
  rw [show sdF H ((keysS H).take 0) = [] from rfl]
  refine ent_fold2 (hj2 []) ?_
  exact ent_pick
 obtain ⟨j, hj⟩ := i
 dsimp only
 try dsimp only
 refine Qc (k:=Vv (k:=Wq (Za (k:=Zi (t:=fun h14 => ?_) (f:=fun h14 => ?_)))))
 ·
  refine Zk (k:=Ya (Za (k:=Zb (k:=Za (k:=?_)))))
  have hjl : j < (keysS H).length := by omega
  refine wc_ent' (ent_open2 (hj1 (sdF H ((keysS H).take j))) (Ent.refl _)) ?_
  have hst : (keysS H).take (j + 1) = (keysS H).take j ++ [(keysS H)[j]] := List.take_succ_eq_append_getElem hjl
  obtain ⟨nm, hnm⟩ : ∃ nm, nm = (keysS H)[j] := ⟨_, rfl⟩
  have hfs : sdF H ((keysS H).take (j + 1)) = sdF H ((keysS H).take j) ++ sdOf H nm := by rw [hst, sdF_snoc, hnm]
  have hff : sdL H = sdF H ((keysS H).take j) ++ sdOf H nm ++ sdF H ((keysS H).drop (j + 1)) := by
   rw [← hfs]
   unfold sdL sdF
   rw [← List.flatMap_append, List.take_append_drop]
  obtain ⟨htx, htl⟩ := hH.get nm
  have hOp := tags_ops_sp nm (getB H nm) htl
  have hol := opsB_len nm (getB H nm)
  have hsd : sdOf H nm = (opsB nm (getB H nm)).1.map (fun t => (⟨t, (opsB nm (getB H nm)).2, nm⟩ : Sd)) := rfl
  generalize opsB nm (getB H nm) = op at hOp hol hsd
  obtain ⟨tgs, date⟩ := op
  dsimp only at hOp hol hsd
  refine Zr (k:=Ye 1 (k:=?_))
  refine r_eload Tryz.underlying9 rfl rfl ((get_map (m := j) (by omega)).trans (by rw [← hnm])) rfl ?_
  refine Vv (k:=Wq (Qc (k:=Vv (k:=Zd (k:=Vv (k:=?_))))))
  refine r_lookup (v := vS (getB H nm)) Tryz.underlying31 Tryz.underlying9 ti9 rfl rfl rfl htx rfl ?_
  refine r_callX hOp rfl rfl rfl (fun x22 _ => ?_)
  obtain ⟨oa, oc⟩ := x22
  dsimp only
  refine Vv (k:=?_)
  refine wo_pv (pv_extract (v := .slice oa tgs.length oc) rfl rfl) rfl ?_
  refine wo_pv (pv_extract (v := vI date) rfl rfl) rfl ?_
  refine Qv (k:=Wq (Qc (k:=Qv (k:=Vv (k:=Wq (Zb (k:=?_)))))))
  refine p_loop (fun (i : { i : Nat // i ≤ tgs.length }) => [(0, y), (1, .pointer (some ⟨c, 0, none⟩)), (4, vS nm), (6, vI date), (11, .slice sa H.length sc), (12, vI H.length), (13, vI j), (25, .slice oa tgs.length oc), (26, vI tgs.length), (27, vI i.1)]) (fun (i : { i : Nat // i ≤ tgs.length }) => [Jy (sdF H ((keysS H).take j) ++ (sdOf H nm).take i.1), Row 60 4 (.slice oa tgs.length oc) tgs.length (tgs.flatMap tgCells), Row 9 1 (.slice sa H.length sc) H.length ((keysS H).map vS), Ce c 31 [.map (some b)]]) (fun (i : { i : Nat // i ≤ tgs.length }) => tgs.length - i.1) rfl (⟨0, Nat.zero_le _⟩) ?_ ?_ (fun i => ?_)
  · exact ⟨rfl, rfl, rfl, rfl, rfl, rfl, rfl, rfl, rfl, rfl, trivial⟩
  ·
   dsimp only
   rw [List.take_zero, List.append_nil]
   refine ent_fold2 (hj2 _) ?_
   exact ent_pick
  obtain ⟨i, hi⟩ := i
  dsimp only
  try dsimp only
  refine Qc (k:=Vv (k:=Wq (Za (k:=Zi (t:=fun h28 => ?_) (f:=fun h28 => ?_)))))
  ·
   refine Zk (k:=Ya (Za (k:=Zb (k:=Za (k:=?_)))))
   have hil : i < tgs.length := by omega
   have hget := get_flat (f := tgCells) (sz := 4) (fun _ => rfl) hil
   have hsl : (sdOf H nm).length = tgs.length := by rw [hsd, List.length_map]
   have hsi : (sdOf H nm)[i]'(by omega) = ⟨tgs[i], date, nm⟩ := by simp [hsd]
   have hsn : (sdOf H nm).take (i + 1) = (sdOf H nm).take i ++ [⟨tgs[i], date, nm⟩] := by rw [← hsi]; exact List.take_succ_eq_append_getElem (by omega)
   obtain ⟨tg, htg⟩ : ∃ tg, tg = tgs[i] := ⟨_, rfl⟩
   rw [← htg] at hget hsn
   have hc4 : (tgCells tg).length = 4 := rfl
   have hall : sdL H = sdF H ((keysS H).take j) ++ (sdOf H nm).take i ++ (⟨tg, date, nm⟩ : Sd) :: ((sdOf H nm).drop (i + 1) ++ sdF H ((keysS H).drop (j + 1))) := by
    rw [hff]
    conv => lhs; rw [← List.take_append_drop (i + 1) (sdOf H nm), hsn]
    simp only [List.append_assoc, List.singleton_append, List.cons_append, List.nil_append]
   have hok6 : okL (sdL H) (sdF H ((keysS H).take j) ++ (sdOf H nm).take i) (⟨tg, date, nm⟩ : Sd) := ⟨_, hall⟩
   have hst6 : stopL (sdL H) (sdF H ((keysS H).take j) ++ (sdOf H nm).take i ++ [⟨tg, date, nm⟩]) := ⟨by simp, (sdOf H nm).drop (i + 1) ++ sdF H ((keysS H).drop (j + 1)), by rw [hall]; simp only [List.append_assoc, List.singleton_append, List.cons_append, List.nil_append]⟩
   refine Zr (k:=Ye 4 (k:=?_))
   refine r_eloada (sz := 4) Tryz.underlying60 rfl ti60 rfl rfl (by rw [flat_len (f := tgCells) (sz := 4) (fun _ => rfl)]; omega) rfl hget rfl ?_
   refine Zc [.int .u8 0, vS [], vS [], vS []] (k:=fun b8 => Zp (k:=Wq (Qc (k:=Vv (k:=Zm [_, _, _, _] (k:=Qv (k:=Vx (Ps [_, _, _, _, _, _]) (k:=?_))))))))
   refine r_yield ys (sdF H ((keysS H).take j) ++ (sdOf H nm).take i) (⟨tg, date, nm⟩ : Sd) hok6 rfl rfl rfl ?_ ?_
   ·
    refine Vv (k:=Wq (Z0 (k:=Zk (k:=Yb (Ya (Zr (k:=Qv (k:=Wn ?_))))))))
    refine to_inv ⟨i + 1, by omega⟩ (by dsimp only; omega) ⟨rfl, rfl, rfl, rfl, rfl, rfl, rfl, rfl, rfl, rfl, trivial⟩ ?_
    dsimp only
    rw [hsn, ← List.append_assoc]
    exact ent_pick
   ·
    refine Vv (k:=Wq (Z1 (k:=Zt (k:=Vb (Va (Vi (Vb (Vb (Va (Vi (Vb ?_)))))))))))
    refine fin_ret (some (sdF H ((keysS H).take j) ++ (sdOf H nm).take i ++ [⟨tg, date, nm⟩])) (vs := []) (Cs := []) rfl .nil rfl (fun pre e => by cases e; exact hst6) ?_
    simp only [endsAt]
    exact ent_pick
  ·
   refine Ze (k:=Xa (Xi (Xb (Yb (Ya (Zr (k:=Qv (k:=Wn ?_))))))))
   refine to_inv ⟨j + 1, by omega⟩ (by dsimp only; omega) ⟨rfl, rfl, rfl, rfl, rfl, trivial⟩ ?_
   dsimp only
   rw [hfs]
   have hi2 : i = (sdOf H nm).length := by rw [hsd, List.length_map]; omega
   subst hi2
   rw [List.take_length]
   exact ent_pick
 ·
  refine Ze (k:=Xa (Xi (Xb ?_)))
  have hj2 : j = (keysS H).length := by omega
  subst hj2
  refine fin_end none (vs := []) (Cs := []) rfl .nil rfl (fun pre e => by cases e) ?_
  simp only [endsAt]
  rw [List.take_length, show sdF H (keysS H) = sdL H from rfl]
  exact ent_pick
end
section
set_option maxRecDepth 100000
/-- What is said last, as a map's entries. -/
def lsK (l : Ls) : MX.Ks (Bs × Bs) := l.map fun p => (p.1, sdV p.2)
def sd0 : Sd := ⟨⟨0, [], [], []⟩, 0, []⟩
theorem lsK_look (l : Ls) (k : Bs × Bs) : MX.mlook (lsK l) k = (llook l k).map sdV := by
 induction l with
 | nil => rfl
 | cons p r ih =>
   simp only [lsK, List.map_cons, MX.mlook, llook] at ih ⊢
   by_cases h : p.1 = k
   · rw [if_pos h, if_pos h]; rfl
   · rw [if_neg h, if_neg h]; exact ih
theorem lsK_put (l : Ls) (k : Bs × Bs) (s : Sd) : MX.mput (lsK l) k (sdV s) = lsK (lput l k s) := by
 induction l with
 | nil => rfl
 | cons p r ih =>
   simp only [lsK, List.map_cons, MX.mput, lput] at ih ⊢
   by_cases h : p.1 = k
   · rw [if_pos h, if_pos h]; rfl
   · rw [if_neg h, if_neg h, ih]; rfl
theorem lsK_val (l : Ls) (k : Bs × Bs) : (MX.mlook (lsK l) k).getD (sdV sd0) = sdV ((llook l k).getD sd0) ∧ (MX.mlook (lsK l) k).isSome = (llook l k).isSome := by
 rw [lsK_look]
 cases llook l k <;> exact ⟨rfl, rfl⟩
theorem lsK_len (l : Ls) : (lsK l).length = l.length := by simp [lsK]
theorem lstep_put {l : Ls} {s : Sd} (h : (llook l (sdKey s)).isSome = false ∨ ((llook l (sdKey s)).getD sd0).date ≤ s.date) : lstep l s = lput l (sdKey s) s := by
 unfold lstep
 show (match llook l (sdKey s) with | none => lput l (sdKey s) s | some old => if old.date ≤ s.date then lput l (sdKey s) s else l) = _
 cases e : llook l (sdKey s) with
 | none => rfl
 | some o =>
   rw [e] at h
   have h2 : o.date ≤ s.date := by
    rcases h with h | h
    · cases h
    · exact h
   exact if_pos h2
theorem lstep_same {l : Ls} {s : Sd} (h1 : (llook l (sdKey s)).isSome = true) (h2 : ¬ ((llook l (sdKey s)).getD sd0).date ≤ s.date) : lstep l s = l := by
 unfold lstep
 show (match llook l (sdKey s) with | none => lput l (sdKey s) s | some old => if old.date ≤ s.date then lput l (sdKey s) s else l) = _
 cases e : llook l (sdKey s) with
 | none => rw [e] at h1; cases h1
 | some o => rw [e] at h2; exact if_neg h2
abbrev keyP := MX.pairP (P := Tryz.prog) Tryz.underlying193 Tryz.underlying9 ti9 rfl
set_option maxHeartbeats 4000000 in
theorem tags_Read_sp (b : Nat) (H : Ks) (hH : TxtK H) (hn : H.length ≤ 4398046511104) :
    Sp Tryz.prog 77 [.map (some b)] [MapS b H] (X := Nat × Nat × List CkN) (fun x => .agg #[.map (some x.1), .map (some x.2.1)]) (fun x => finC H x.2.2) (fun x => [MX.MapS MX.pairE x.1 (lsK (lastL H)), MapS x.2.1 (ckK x.2.2), CkMs x.2.2, MapS b H]) := by
 refine Sp.body (n := 44) Tryz.call77 Tryz.func77 rfl rfl rfl ?_
 refine Qc (k:=Zc [.map none, .map none] (k:=fun b2 => Wq (Qc (k:=?_))))
 refine MX.r_mkmap (E := MX.pairE) rfl (fun b8 => ?_)
 refine Vv (k:=?_)
 refine r_callX (links_Checkins_sp (some b)) rfl rfl rfl (fun cb _ => ?_)
 refine r_callX (maps_CollectC_sp (links_Checkins_it cb b H hH hn)) rfl rfl rfl (fun x11 hx11 => ?_)
 obtain ⟨m2, all⟩ := x11
 dsimp only at hx11 ⊢
 refine Vx (Ps [_, _]) (k:=Zc [.map none, .map none] (k:=fun b3 => Zp (k:=Wq (Za (k:=Qc (k:=Vv (k:=?_)))))))
 refine r_callX (tags_All_sp (some b)) rfl rfl rfl (fun ca _ => ?_)
 refine Wq (Zb (k:=?_))
 refine p_rangeFuncB (fun pre => [MX.MapS MX.pairE b8 (lsK (lastF pre)), MapS m2 (ckK all), CkMs all, Ce b3 140 [.map (some b8), .map (some m2)], Ce b2 140 [.map none, .map none], MapS b H]) (fun j pre => [Pu False]) (fun pre => [MX.MapS MX.pairE b8 (lsK (lastF pre)), MapS m2 (ckK all), CkMs all, Ce b3 140 [.map (some b8), .map (some m2)], Ce b2 140 [.map none, .map none]]) rfl (tags_All_itB ca b H hH hn) rfl (fun _ => by rfl) rfl (fun pre => ?_) (fun pre => ?_) ?_ (fun l pre sd hok => ?_) ?_ (fun j pre hs => ?_)
 · exact ent_pick
 · exact ent_pick
 · (refine ent_app ?_; rw [show lsK (lastF []) = [] from rfl]; exact ent_pick)
 ·
  have hlf : lastF (pre ++ [sd]) = lstep (lastF pre) sd := lastF_snoc pre sd
  obtain ⟨hv1, hv2⟩ := lsK_val (lastF pre) (sdKey sd)
  have hput := lsK_put (lastF pre) (sdKey sd) sd
  have hs1 := lstep_put (l := lastF pre) (s := sd)
  have hs2 := lstep_same (l := lastF pre) (s := sd)
  obtain ⟨⟨tk, tn, tt, tv⟩, date, src⟩ := sd
  dsimp only [sdKey] at hv1 hv2 hput hs1 hs2
  generalize hold : (llook (lastF pre) (tn, tt)).getD sd0 = old at hv1 hs1 hs2
  generalize hmet : (llook (lastF pre) (tn, tt)).isSome = met at hv2 hs1 hs2
  obtain ⟨⟨ok, on, ot, ov⟩, od, os⟩ := old
  dsimp only at hs1 hs2
  have hv27 : Value.tuple #[(MX.mlook (lsK (lastF pre)) (tn, tt)).getD (sdV sd0), .bool (MX.mlook (lsK (lastF pre)) (tn, tt)).isSome] = .tuple #[.agg #[vU ok.toNat, vS on, vS ot, vS ov, vI od, vS os], .bool met] := by rw [hv1, hv2]; rfl
  dsimp only [sdV, sdVals]
  refine Zr (k:=Zc [.int .u8 0, vS [], vS [], vS [], .int .i64 0, vS []] (k:=fun b4 => Zp (k:=Wg (Zb (k:=Qc (k:=Vf 0 60 (k:=Qx 1 9 (k:=Vf 0 60 (k:=Vf 2 9 (k:=?_))))))))))
  refine Zd (k:=?_)
  refine wo_pv (pv_buildA (vs := [_, _]) Tryz.underlying193 ti9 rfl rfl rfl ti193 rfl rfl) rfl ?_
  refine Zc [vS [], vS []] (k:=fun b5 => Zp (k:=Wq (Qc (k:=Qx 0 137 (k:=Zm [_, _] (k:=?_))))))
  refine MX.r_lookup (k := (tn, tt)) (v := .tuple #[.agg #[vU ok.toNat, vS on, vS ot, vS ov, vI od, vS os], .bool met]) Tryz.underlying137 keyP ti192 rfl rfl rfl hv27 rfl ?_
  refine Vv (k:=?_)
  refine wo_pv (pv_extract (v := .agg #[vU ok.toNat, vS on, vS ot, vS ov, vI od, vS os]) rfl rfl) rfl ?_
  refine wo_pv (pv_extract (v := .bool met) rfl rfl) rfl ?_
  refine Zc [.int .u8 0, vS [], vS [], vS [], .int .i64 0, vS []] (k:=fun b6 => Zp (k:=Vv (k:=Wq (Qc (k:=Qv (k:=Vv (k:=Gi 2 (t:=fun h32 => ?_) (f:=fun h32 => ?_))))))))
  ·
   refine O1 (k:=O1 (k:=O1 (k:=O1 (k:=O1 (k:=P1 (k:=Wq (Z1 (k:=Zr (k:=Qx 0 137 (k:=Zm [_, _] (k:=?_)))))))))))
   refine Zm [_, _, _, _, _, _] (k:=?_)
   refine MX.r_mapUpdate (k := (tn, tt)) (v := sdV ⟨⟨tk, tn, tt, tv⟩, date, src⟩) Tryz.underlying137 keyP rfl rfl rfl ?_
   rw [hput, ← hs1 (by first | (left; simpa using h32) | (right; assumption) | (right; omega))]
   refine Wn (Yb ?_)
   refine to_round ?_
   rw [hlf]
   first
   | exact ent_pick
   | (rw [hs2 (by first | assumption | simp_all) (by first | assumption | omega)]
      exact ent_pick)
  ·
   refine I0 (k:=Vf 4 3 (k:=I0 (k:=Zd (k:=I0 (k:=Vf 4 3 (k:=I0 (k:=Zd (k:=J0 (k:=P0 (k:=Wq ?_))))))))))
   refine Zi (t:=fun h38 => ?_) (f:=fun h38 => ?_)
   ·
    refine Zr (k:=Qx 0 137 (k:=Zm [_, _] (k:=Zm [_, _, _, _, _, _] (k:=?_))))
    refine MX.r_mapUpdate (k := (tn, tt)) (v := sdV ⟨⟨tk, tn, tt, tv⟩, date, src⟩) Tryz.underlying137 keyP rfl rfl rfl ?_
    rw [hput, ← hs1 (by first | (left; simpa using h32) | (right; assumption) | (right; omega))]
    refine Wn (Yb ?_)
    refine to_round ?_
    rw [hlf]
    first
    | exact ent_pick
    | (rw [hs2 (by first | assumption | simp_all) (by first | assumption | omega)]
       exact ent_pick)
   ·
    refine Zk (k:=Yb ?_)
    refine to_round ?_
    rw [hlf]
    first
    | exact ent_pick
    | (rw [hs2 (by first | assumption | simp_all) (by first | assumption | omega)]
       exact ent_pick)
 ·
  skip
  refine Yb (Ya (Qc (k:=Zm [_, _] (k:=Zp (k:=Wq (Zt (k:=?_)))))))
  refine fin_ret (b8, m2, all) (vs := [_]) (Cs := [Ce b2 140 [.map (some b8), .map (some m2)]]) rfl (.cell (l := [.map (some b8), .map (some m2)]) rfl (shows_ce (T := 140)) Tryz.underlying140 rfl ti140 (Nat.le_of_ble_eq_true rfl) rfl .nil) rfl hx11 ?_
  rw [show lastF (sdL H) = lastL H from rfl]
  exact ent_pick
 ·
  exact wc_no (fun s => by obtain ⟨_, _, _, _, a, _⟩ := s; exact a)
end
end Go.Proofs.YtdnoacgopfcpbaaGreat
