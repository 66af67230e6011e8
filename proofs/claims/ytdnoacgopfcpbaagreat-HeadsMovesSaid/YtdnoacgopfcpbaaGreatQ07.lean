/- Texts of this proof, put together: MapR, Mini, MDec, MStore, MDisk, PSha, PDec. -/
import Derived.Shelf.SlMaps.Clone
import Derived.Test.YtdnoacgopfcpbaaGreatQ06
set_option linter.unusedVariables false
set_option linter.unusedSimpArgs false
namespace Go.Proofs.YtdnoacgopfcpbaaGreat
section
theorem nodup_inj {α : Type} {l : List α} (h : l.Nodup) {i j : Nat} (hi : i < l.length) (hj : j < l.length) (e : l[i] = l[j]) : i = j := by
 have hp := List.pairwise_iff_getElem.1 h
 rcases Nat.lt_trichotomy i j with h1 | h1 | h1
 · exact absurd e (hp i j hi hj h1)
 · exact h1
 · exact absurd e.symm (hp j i hj hi h1)
theorem nodup_len {α : Type} [DecidableEq α] : ∀ {l m : List α}, l.Nodup → (∀ x ∈ l, x ∈ m) → l.length ≤ m.length := by
 intro l
 induction l with
 | nil => intro m _ _; simp
 | cons a l ih =>
   intro m hn hs
   have ha : a ∈ m := hs a (by simp)
   have h1 := ih (m := m.erase a) (List.nodup_cons.1 hn).2 fun x hx => by
    have hne : x ≠ a := fun e => (List.nodup_cons.1 hn).1 (e ▸ hx)
    exact (List.mem_erase_of_ne hne).2 (hs x (by simp [hx]))
   have h2 := List.length_erase_of_mem ha
   have h3 := List.length_pos_of_mem ha
   simp only [List.length_cons]; omega
/-- The entries that a walk over a map has met. -/
structure SeenG (es : Array MapEntry) (ds : List MapEntry) (done : List (List UInt8)) : Prop where
 mem : ∀ d ∈ ds, d ∈ es.toList
 keys : ds.map (·.key) = done.map vS
 nodup : done.Nodup
/-- A map at b that is being walked over by the iterator at r; the keys that were met. -/
def MapIt (b r : Nat) (ks : Ks) (done : List (List UInt8)) : HP :=
 ⟨fun _ h => ∃ (es : Array MapEntry) (clock : Nat) (ds : List MapEntry), b ≠ r ∧ h = (Res.one b (.map es clock)).add (Res.one r (.mapIter (some b) clock (ds.map MapEntry.born).toArray clock)) ∧ MapG es clock ks ∧ SeenG es ds done, fun _ e => e⟩
theorem mapg_key {es : Array MapEntry} {clock : Nat} {ks : Ks} (g : MapG es clock ks) {e : MapEntry} (h : e ∈ es.toList) : ∃ k v, e.key = vS k ∧ e.val = v ∧ (k, v) ∈ ks := by
 have h1 : (e.key, e.val) ∈ es.toList.map (fun e => (e.key, e.val)) := List.mem_map_of_mem (f := fun e => (e.key, e.val)) h
 rw [g.eq] at h1
 obtain ⟨p, hp, hq⟩ := List.mem_map.1 h1
 simp only [Prod.mk.injEq] at hq
 exact ⟨p.1, p.2, hq.1.symm, hq.2.symm, hp⟩
theorem vS_inj {a b : List UInt8} (h : vS a = vS b) : a = b := by
 have := congrArg (fun v => match v with | .string s => s.data.toList | _ => []) h
 exact this
theorem mapg_inj {es : Array MapEntry} {clock : Nat} {ks : Ks} (g : MapG es clock ks) {e f : MapEntry} (he : e ∈ es.toList) (hf : f ∈ es.toList) (h : e.key = f.key) : e = f := by
 have hn : (es.toList.map (·.key)).Nodup := by
  have h1 : es.toList.map (·.key) = (ks.map (·.1)).map vS := by
   have := congrArg (List.map Prod.fst) g.eq
   simpa [List.map_map, Function.comp_def] using this
  rw [h1]
  refine List.Pairwise.map vS (fun a b hab e => hab (vS_inj e)) g.keys
 obtain ⟨i, hi, rfl⟩ := List.getElem_of_mem he
 obtain ⟨j, hj, rfl⟩ := List.getElem_of_mem hf
 have := nodup_inj hn (i := i) (j := j) (by simpa using hi) (by simpa using hj) (by simpa using h)
 subst this; rfl
def nxV : Option (List UInt8 × Value) → Value
 | none => .tuple #[.bool false]
 | some (k, v) => .tuple #[.bool true, vS k, v]
def nxD (done : List (List UInt8)) : Option (List UInt8 × Value) → List (List UInt8)
 | none => done
 | some (k, _) => done ++ [k]
def nxP (ks : Ks) (done : List (List UInt8)) : Option (List UInt8 × Value) → Prop
 | none => ∀ p ∈ ks, p.1 ∈ done
 | some (k, v) => (k, v) ∈ ks ∧ k ∉ done
section
variable {r : Option Nat} {P : Program} {n : Nat} {ops : Array Oper} {os : List Oper} {A : List HP} {L : Loc} {Hs : List HP} {Q : Out} {ty : TypeId} {d : Nat} {pos : String} {after : Array Edge} {c : Code}
theorem opt_turnX {dst : Option Tmp} {op : Op} {X : Type} {B : HP} {val : X → Value} {φ : X → Prop} {C : X → HP} (hrun : ∀ (a : Act), Fr n L a → ∀ (w : World) (M : Kn) (h1 hf : Res), h1.dj hf → Sat w M (h1.add hf) → B.at_ M h1 → ∃ (x : X) (w' : World) (h1' : Res), φ x ∧ h1'.dj hf ∧ Sat w' M (h1'.add hf) ∧ (C x).at_ M h1' ∧
      (execOp a.eval ⟨dst, op, ty, pos, after, none⟩).run P w = .ok (.value (val x)) w') :
    OpT r P n ⟨dst, op, ty, pos, after, none⟩ A L [B] val φ (fun x => [C x]) := by
 intro a f w M h hA hf dj dj' s sA t
 obtain ⟨k1, k2, dk, e, hb, _⟩ := s
 subst e
 obtain ⟨x1, x2⟩ := Res.dj_add_left.1 dj'
 obtain ⟨x3, x4⟩ := Res.dj_add_left.1 x1
 obtain ⟨y1, y2⟩ := Res.dj_add_left.1 dj
 have t2 : Sat w M (k1.add ((k2.add hA).add hf)) := by
  have : ((k1.add k2).add hA).add hf = k1.add ((k2.add hA).add hf) := by simp only [Res.add_assoc]
  rw [← this]; exact t
 obtain ⟨x, w', h', hp, dj3, t3, hc, hr⟩ := hrun a f w M k1 ((k2.add hA).add hf) (Res.dj_add_right.2 ⟨Res.dj_add_right.2 ⟨dk, y1⟩, x3⟩) t2 hb
 obtain ⟨z1, z2⟩ := Res.dj_add_right.1 dj3
 obtain ⟨z3, z4⟩ := Res.dj_add_right.1 z1
 rw [hr]
 refine ⟨x, M, h'.add k2, rfl, hp, Kn.le_refl _, Res.dj_add_left.2 ⟨z4, y2⟩, Res.dj_add_left.2 ⟨Res.dj_add_left.2 ⟨z2, x4⟩, x2⟩, ?_, h', k2, z3, rfl, hc, trivial⟩
 have : ((h'.add k2).add hA).add hf = h'.add ((k2.add hA).add hf) := by simp only [Res.add_assoc]
 rw [this]; exact t3
theorem opt_range {dst : Option Tmp} {t kt e : TypeId} {x : Operand} {b : Nat} {ks : Ks} (ht : P.underlying t = some (.map kt e)) (hx : ev L x = some (.map (some b))) :
    OpT r P n ⟨dst, .range t x, ty, pos, after, none⟩ A L [MapS b ks] (fun i : Nat => .pointer (some ⟨i, 0, none⟩)) (fun _ => True) (fun i => [MapIt b i ks []]) := by
 refine opt_turnX (fun a f w M h1 hf dj tt hm => ?_)
 obtain ⟨es, clock, e1, g⟩ := hm
 subst e1
 have hb : w.heap[b]? = some (.map es clock) := tt.ow _ _ (by simp [Res.add, Res.one])
 have hlt : b < w.heap.size := (Array.getElem?_eq_some_iff.1 hb).1
 obtain ⟨f1, f2⟩ := fresh_none tt
 have t2 := tt.alloc (.mapIter (some b) clock #[] clock)
 have hd2 : (Res.one w.heap.size (.mapIter (some b) clock #[] clock)).dj ((Res.one b (.map es clock)).add hf) := one_dj f2
 obtain ⟨d1, d2⟩ := Res.dj_add_right.1 hd2
 refine ⟨w.heap.size, w.alloc (.mapIter (some b) clock #[] clock), (Res.one b (.map es clock)).add (Res.one w.heap.size (.mapIter (some b) clock #[] clock)), trivial, Res.dj_add_left.2 ⟨dj, d2⟩, ?_, ⟨es, clock, [], by omega, rfl, g, ⟨by simp, rfl, by simp⟩⟩, ?_⟩
 · rw [Res.add_comm (Res.dj_comm d1), Res.add_assoc]; exact t2
 · simp [execOp, f.ev hx, Instr.range, run_underlying ht, MapKept.run_getObj_map hb, newObj, Sem.run]
theorem opt_next {dst : Option Tmp} {x : Operand} {b i : Nat} {ks : Ks} {done : List (List UInt8)} (hx : ev L x = some (.pointer (some ⟨i, 0, none⟩))) :
    OpT r P n ⟨dst, .next x false, ty, pos, after, none⟩ A L [MapIt b i ks done] nxV (nxP ks done) (fun o => [MapIt b i ks (nxD done o)]) := by
 refine opt_turnX (fun a f w M h1 hf dj tt hm => ?_)
 obtain ⟨es, clock, ds, hne, e1, g, sg⟩ := hm
 subst e1
 have hb : w.heap[b]? = some (.map es clock) := tt.ow _ _ (by simp [Res.add, Res.one])
 have hi : w.heap[i]? = some (.mapIter (some b) clock (ds.map MapEntry.born).toArray clock) := tt.ow _ _ (by simp [Res.add, Res.one, Ne.symm hne])
 have hrun : ∀ (v : Value) (w' : World), (Instr.next (.pointer (some ⟨i, 0, none⟩)) false ty).run P w = .ok v w' → (execOp a.eval ⟨dst, .next x false, ty, pos, after, none⟩).run P w = .ok (.value v) w' := by
  intro v w' h
  simp only [execOp, f.ev hx, Sem.run_bind, h, Result.andThen_ok, Sem.run_pure]
 rcases run_next_at (P := P) w ty i b clock clock (ds.map MapEntry.born).toArray es clock hi hb (fun x hx => g.old x hx) (Nat.le_refl _) with ⟨h0, hr⟩ | ⟨e, he, w1, hw1, hr⟩
 · refine ⟨none, w, _, ?_, dj, tt, ⟨es, clock, ds, hne, rfl, g, sg⟩, hrun _ _ hr⟩
   intro p hp
   obtain ⟨j, hj, rfl⟩ := List.getElem_of_mem hp
   have hje : j < es.toList.length := by have := g.size; simp; omega
   have h1 : es.toList[j] ∈ es.toList := List.getElem_mem _
   have h2 : (ds.map MapEntry.born).contains es.toList[j].born = true := by
    apply Classical.byContradiction
    intro hc
    have h3 : es.toList[j] ∈ (leftOf es (ds.map MapEntry.born).toArray).toList := by
     unfold leftOf
     simp only [Array.toList_filter, List.mem_filter]
     refine ⟨h1, ?_⟩
     simpa using hc
    have h4 : (leftOf es (ds.map MapEntry.born).toArray).toList.length = 0 := by simpa using h0
    rw [List.eq_nil_of_length_eq_zero h4] at h3
    simp at h3
   simp only [List.contains_eq_mem, decide_eq_true_eq, List.mem_map] at h2
   obtain ⟨d0, hd0, hdb⟩ := h2
   have hde : d0 = es.toList[j] := by
    obtain ⟨q, hq, hq2⟩ := List.getElem_of_mem (sg.mem d0 hd0)
    have := nodup_inj g.born (i := q) (j := j) (by simpa using hq) (by simpa using hje) (by rw [List.getElem_map, List.getElem_map, hq2, hdb])
    subst this; exact hq2.symm
   have hk : d0.key ∈ ds.map (·.key) := List.mem_map_of_mem (f := fun e : MapEntry => e.key) hd0
   rw [sg.keys] at hk
   obtain ⟨k, hk1, hk2⟩ := List.mem_map.1 hk
   have h5 : (es.toList.map (fun e => (e.key, e.val)))[j]? = (ks.map (fun p => (vS p.1, p.2)))[j]? := by rw [g.eq]
   rw [List.getElem?_map, List.getElem?_map, List.getElem?_eq_getElem hje, List.getElem?_eq_getElem hj] at h5
   simp only [Option.map_some, Option.some.injEq, Prod.mk.injEq] at h5
   have : k = ks[j].1 := vS_inj (by rw [hk2, hde, h5.1])
   rw [← this]; exact hk1
 · have he2 : e ∈ es.toList ∧ ¬ e.born ∈ ds.map MapEntry.born := by
     unfold leftOf at he
     simp only [Array.toList_filter, List.mem_filter] at he
     refine ⟨he.1, ?_⟩
     intro hc
     have := he.2
     simp [hc] at this
   obtain ⟨k, v, hk, hv, hm⟩ := mapg_key g he2.1
   have hkd : k ∉ done := by
    intro hc
    have : vS k ∈ ds.map (·.key) := by rw [sg.keys]; exact List.mem_map_of_mem (f := vS) hc
    obtain ⟨d0, hd0, hd1⟩ := List.mem_map.1 this
    have := mapg_inj g (sg.mem d0 hd0) he2.1 (by rw [hd1, hk])
    subst this
    exact he2.2 (List.mem_map_of_mem (f := fun e : MapEntry => e.born) hd0)
   have tt1 : Sat w1 M (((Res.one b (.map es clock)).add (Res.one i (.mapIter (some b) clock (ds.map MapEntry.born).toArray clock))).add hf) := by
    rcases hw1 with rfl | rfl
    · exact tt
    · exact tt.drew
   obtain ⟨dj1, dj2⟩ := Res.dj_add_left.1 dj
   have dbi : (Res.one b (.map es clock)).dj (Res.one i (.mapIter (some b) clock (ds.map MapEntry.born).toArray clock)) := fun q => by
    by_cases hq : q = b
    · right; subst hq; simp [Res.one, hne]
    · left; simp [Res.one, hq]
   have eq : ∀ o : Obj, ((Res.one b (.map es clock)).add (Res.one i o)).add hf = (Res.one i o).add ((Res.one b (.map es clock)).add hf) := fun o => by
    have d : (Res.one b (.map es clock)).dj (Res.one i o) := fun q => by
     by_cases hq : q = b
     · right; subst hq; simp [Res.one, hne]
     · left; simp [Res.one, hq]
    rw [Res.add_comm d, Res.add_assoc]
   rw [eq] at tt1
   have t3 := sat_setBlock (.mapIter (some b) clock ((ds.map MapEntry.born).toArray.push e.born) clock) (Res.dj_add_right.2 ⟨Res.dj_comm dbi, dj2⟩) tt1
   rw [← eq] at t3
   refine ⟨some (k, v), _, _, ⟨hm, hkd⟩, Res.dj_add_left.2 ⟨dj1, dj_one_any dj2⟩, t3, ⟨es, clock, ds ++ [e], hne, by simp, g, ⟨?_, ?_, ?_⟩⟩, hrun _ _ (by rw [hr, hk, hv]; rfl)⟩
   · intro d0 hd0
     rcases List.mem_append.1 hd0 with h | h
     · exact sg.mem d0 h
     · simp only [List.mem_singleton] at h; subst h; exact he2.1
   · simp [sg.keys, hk, nxD]
   · show (done ++ [k]).Nodup
     rw [List.nodup_append]
     refine ⟨sg.nodup, by simp, ?_⟩
     intro a1 h1 b1 h2 h3
     simp only [List.mem_singleton] at h2
     subst h2; subst h3
     exact hkd h1
theorem tw_know {e : Exit} {A : HP} {p : Prop} (hA : Has A Hs) (hp : ∀ {M : Kn} {h : Res}, A.at_ M h → p) (k : p → tw n Q e L Hs) : tw n Q e L Hs := by
 intro a M m s
 obtain ⟨g1, g2, dg, e, _, s2⟩ := s.2
 obtain ⟨h1, _, x⟩ := hA.sat s2
 exact k (hp x) a M m s
theorem ent_tail {B : HP} {Gs : List HP} : Ent (B :: Gs) Gs := ⟨fun s => by
 obtain ⟨h1, h2, d, e, _, s⟩ := s
 subst e; exact SL.more d s⟩
/-- A map that is walked over, found by its iterator. -/
class MapItC (b : outParam Nat) (i : Nat) (ks : outParam Ks) (done : outParam (List (List UInt8))) (Hs : List HP) (Rs : outParam (List HP)) : Prop where
 get : Pick (MapIt b i ks done) Hs Rs
instance (priority := 1000) {b i : Nat} {ks : Ks} {done : List (List UInt8)} {r : List HP} : MapItC b i ks done (MapIt b i ks done :: r) r := ⟨.here⟩
instance (priority := 100) {b i : Nat} {ks : Ks} {done : List (List UInt8)} {B : HP} {r s : List HP} [h : MapItC b i ks done r s] : MapItC b i ks done (B :: r) (B :: s) := ⟨.there h.get⟩
instance (priority := 900) {b i : Nat} {ks : Ks} {done : List (List UInt8)} {B B' C : List HP} [h : MapItC b i ks done B B'] : MapItC b i ks done (B ++ C) (B' ++ C) := ⟨pick_left h.get⟩
instance (priority := 800) {b i : Nat} {ks : Ks} {done : List (List UInt8)} {B C C' : List HP} [h : MapItC b i ks done C C'] : MapItC b i ks done (B ++ C) (B ++ C') := ⟨pick_right h.get⟩
theorem r_range {t kt e : TypeId} {x : Operand} {b : Nat} {ks : Ks} {Rs : List HP} (ht : P.underlying t = some (.map kt e)) (hx : ev L x = some (.map (some b))) [h : MapPC b ks Hs Rs] (hd : Nat.blt d n = true)
    (K : ∀ i, wo r P n ops os ((d, .pointer (some ⟨i, 0, none⟩)) :: L) (MapIt b i ks [] :: Rs) Q) : wo r P n ops (⟨some d, .range t x, ty, pos, after, none⟩ :: os) L Hs Q := by
 haveI : PicksC [MapS b ks] Hs Rs := ⟨.cons h.get .nil⟩
 exact wo_opT (by intro c; simp) (opt_range ht hx) (by simpa [dstOk] using hd) (fun i _ => K i)
theorem r_next {x : Operand} {b i : Nat} {ks : Ks} {done : List (List UInt8)} {Rs : List HP} (hx : ev L x = some (.pointer (some ⟨i, 0, none⟩))) [h : MapItC b i ks done Hs Rs] (hd : Nat.blt d n = true)
    (K : ∀ o, nxP ks done o → wo r P n ops os ((d, nxV o) :: L) (MapIt b i ks (nxD done o) :: Rs) Q) : wo r P n ops (⟨some d, .next x false, ty, pos, after, none⟩ :: os) L Hs Q := by
 haveI : PicksC [MapIt b i ks done] Hs Rs := ⟨.cons h.get .nil⟩
 exact wo_opT (by intro c; simp) (opt_next hx) (by simpa [dstOk] using hd) (fun o ho => K o ho)
theorem pv_nx0 {x : Operand} {o : Option (List UInt8 × Value)} (hx : ev L x = some (nxV o)) : PV P n L (.extract x 0) ty (.bool o.isSome) := by
 cases o with
 | none => exact pv_extract hx rfl
 | some p => exact pv_extract (vs := #[.bool true, vS p.1, p.2]) hx rfl
theorem pick_has {A : HP} {Hs Rs : List HP} (p : Pick A Hs Rs) : Has A Hs := by
 induction p with
 | here => exact .here
 | keep _ => exact .here
 | there _ ih => exact .there ih
theorem r_entry {x : Operand} {b i : Nat} {ks : Ks} {done : List (List UInt8)} {k : List UInt8} {v : Value} {Rs : List HP} (hm : (k, v) ∈ ks) (hx : ev L x = some (.pointer (some ⟨i, 0, none⟩))) [h : MapItC b i ks (done ++ [k]) Hs Rs] (hd : Nat.blt d n = true)
    (K : wo r P n ops os ((d, .tuple #[vS k, v]) :: L) Hs Q) : wo r P n ops (⟨some d, .entry x, ty, pos, after, none⟩ :: os) L Hs Q := by
 refine wo_read (by intro c; simp) (pick_has h.get) hd (fun a f w M h1 h2 hf t le hm' dst pos after guard => ?_) K
 obtain ⟨es, clock, ds, hne, e1, g, sg⟩ := hm'
 subst e1
 have hb : w.heap[b]? = some (.map es clock) := t.ow _ _ (by have := le b (.map es clock) (by simp [Res.add, Res.one]); simp [Res.add, this])
 have hi : w.heap[i]? = some (.mapIter (some b) clock (ds.map MapEntry.born).toArray clock) := t.ow _ _ (by have := le i (.mapIter (some b) clock (ds.map MapEntry.born).toArray clock) (by simp [Res.add, Res.one, Ne.symm hne]); simp [Res.add, this])
 have hl : ds.length = done.length + 1 := by have := congrArg List.length sg.keys; simpa using this
 obtain ⟨ds', e, rfl⟩ : ∃ ds' e, ds = ds' ++ [e] := by
  rcases List.eq_nil_or_concat ds with h | ⟨l, e, h⟩
  · rw [h] at hl; simp at hl
  · exact ⟨l, e, by simpa using h⟩
 have hk : e.key = vS k := by
  have := sg.keys
  simp only [List.map_append, List.map_cons, List.map_nil] at this
  exact (List.append_inj' this rfl).2 |> fun h => by simpa using h
 have he : e ∈ es.toList := sg.mem e (by simp)
 obtain ⟨k2, v2, hk2, hv2, hm2⟩ := mapg_key g he
 have hkk : k2 = k := vS_inj (by rw [← hk2, hk])
 subst hkk
 have hvv : v2 = v := by
  obtain ⟨p, hp, hp2⟩ := List.getElem_of_mem hm
  obtain ⟨q, hq, hq2⟩ := List.getElem_of_mem hm2
  have := nodup_inj g.keys (i := p) (j := q) (by simpa using hp) (by simpa using hq) (by rw [List.getElem_map, List.getElem_map, hp2, hq2])
  subst this
  rw [hp2] at hq2
  exact (Prod.mk.inj hq2).2.symm
 subst hvv
 have hi2 : w.heap[i]? = some (.mapIter (some b) clock ((ds'.map MapEntry.born).toArray.push e.born) clock) := by rw [hi]; simp
 have := run_entry_at (P := P) w i b clock _ es clock e hi2 hb he g.born
 simp only [execOp, f.ev hx, Sem.run_bind, this, Result.andThen_ok, Sem.run_pure, hk, hv2]
theorem mapit_done {b i : Nat} {ks : Ks} {done : List (List UInt8)} {Rs : List HP} [h : MapItC b i ks done Hs Rs] : Ent Hs (MapS b ks :: Rs) := (Picks.ent (.cons h.get .nil)).trans ⟨fun {M x} s => by
 obtain ⟨h1, h2, d, e, ⟨es, clock, ds, hne, e1, g, sg⟩, s⟩ := s
 subst e1; subst e
 obtain ⟨d1, d2⟩ := Res.dj_add_left.1 d
 have dbi : (Res.one b (.map es clock)).dj (Res.one i (.mapIter (some b) clock (ds.map MapEntry.born).toArray clock)) := fun q => by
  by_cases hq : q = b
  · right; subst hq; simp [Res.one, hne]
  · left; simp [Res.one, hq]
 rw [Res.add_assoc]
 exact ⟨_, _, Res.dj_add_right.2 ⟨dbi, d1⟩, rfl, ⟨es, clock, rfl, g⟩, SL.more d2 s⟩⟩
/-- The keys that were met, once nothing is left. -/
theorem mapit_perm {b i : Nat} {ks : Ks} {done : List (List UInt8)} {M : Kn} {h : Res} (x : (MapIt b i ks done).at_ M h) (hn : nxP ks done none) : done.Perm (ks.map (·.1)) := by
 obtain ⟨es, clock, ds, hne, e1, g, sg⟩ := x
 refine (List.perm_ext_iff_of_nodup sg.nodup g.keys).2 fun k => ⟨fun hk => ?_, fun hk => ?_⟩
 · have : vS k ∈ ds.map (·.key) := by rw [sg.keys]; exact List.mem_map_of_mem (f := vS) hk
   obtain ⟨d0, hd0, hd1⟩ := List.mem_map.1 this
   obtain ⟨k2, v2, hk2, _, hm2⟩ := mapg_key g (sg.mem d0 hd0)
   have : k2 = k := vS_inj (by rw [← hk2, hd1])
   subst this
   exact List.mem_map_of_mem (f := fun p : List UInt8 × Value => p.1) hm2
 · obtain ⟨p, hp, rfl⟩ := List.mem_map.1 hk
   exact hn p hp
theorem mapit_len {b i : Nat} {ks : Ks} {done : List (List UInt8)} {M : Kn} {h : Res} (x : (MapIt b i ks done).at_ M h) : done.length ≤ ks.length ∧ done.Nodup ∧ ∀ k ∈ done, k ∈ ks.map (·.1) := by
 obtain ⟨es, clock, ds, hne, e1, g, sg⟩ := x
 have hsub : ∀ k ∈ done, k ∈ ks.map (·.1) := fun k hk => by
  have : vS k ∈ ds.map (·.key) := by rw [sg.keys]; exact List.mem_map_of_mem (f := vS) hk
  obtain ⟨d0, hd0, hd1⟩ := List.mem_map.1 this
  obtain ⟨k2, v2, hk2, _, hm2⟩ := mapg_key g (sg.mem d0 hd0)
  have : k2 = k := vS_inj (by rw [← hk2, hd1])
  subst this
  exact List.mem_map_of_mem (f := fun p : List UInt8 × Value => p.1) hm2
 refine ⟨?_, sg.nodup, hsub⟩
 have := nodup_len sg.nodup hsub
 simpa using this
end
end
section
theorem flat_pos {α : Type} {f : α → List Value} {l : List α} (h : 0 < l.length) (hf : ∀ x, Nat.ble 1 (f x).length = true) : 0 < (l.flatMap f).length := by
 cases l with
 | nil => simp at h
 | cons a r => have := Nat.le_of_ble_eq_true (hf a); rw [List.flatMap_cons, List.length_append]; omega
section
variable {r : Option Nat} {P : Program} {n : Nat} {L : Loc} {Hs : List HP} {Q : Out} {c : Code} {ops : Array Oper} {os : List Oper} {ty : TypeId} {d : Nat} {pos : String} {after : Array Edge} {t e : TypeId} {x y : Operand} {v : Value}
/-! Code. -/
theorem Za (h : c = .seq (sA c) (sB c) := by exact rfl) (k : wc r P n (sA c) L Hs (seqO r P (sB c) Q)) : wc r P n c L Hs Q := p_seq h k
theorem Zr {id : Nat} {l : List Oper} (h : c = .region id l.toArray false := by exact rfl) (k : wo r P n l.toArray l L Hs Q) : wc r P n c L Hs Q := p_region h k
theorem Zk (h : c = .skip := by exact rfl) (k : tw n Q .normal L Hs) : wc r P n c L Hs Q := p_skip h k
theorem Zl {l : Nat} (h : c = .label l := by exact rfl) (k : tw n Q .normal L Hs) : wc r P n c L Hs Q := p_label h k
theorem Ze {id : Nat} (h : c = .exit id := by exact rfl) (k : tw n Q (.exit id) L Hs) : wc r P n c L Hs Q := p_exit id h k
theorem Zt (h : c = .ret := by exact rfl) (k : tw n Q .ret L Hs) : wc r P n c L Hs Q := p_ret h k
theorem Z1 (h : c = .cond (cX c) (cT c) (cE c) := by exact rfl) (hc : ev L (cX c) = some (.bool true) := by exact rfl) (k : wc r P n (cT c) L Hs Q) : wc r P n c L Hs Q := p_true h hc k
theorem Z0 (h : c = .cond (cX c) (cT c) (cE c) := by exact rfl) (hc : ev L (cX c) = some (.bool false) := by exact rfl) (k : wc r P n (cE c) L Hs Q) : wc r P n c L Hs Q := p_false h hc k
theorem Zb {id : Nat} (h : c = .block id (bB c) := by exact rfl) (k : wc r P n (bB c) L Hs (blockO id Q)) : wc r P n c L Hs Q := p_block id h k
theorem Zs (h : c = .scope (bB c) := by exact rfl) (k : wc r P n (bB c) L Hs (scopeO Q)) : wc r P n c L Hs Q := p_scope2 h k
theorem Zi {b : Bool} {p q : Prop} (h : c = .cond (cX c) (cT c) (cE c) := by exact rfl) (hc : ev L (cX c) = some (.bool b) := by exact rfl) (hb : BP b p q := by first | exact BP.dec | exact BP.raw)
    (t : p → wc r P n (cT c) L Hs Q) (f : q → wc r P n (cE c) L Hs Q) : wc r P n c L Hs Q := p_cond h hc (fun e => t (hb.t e)) (fun e => f (hb.f e))
theorem Gi {b : Bool} {p q : Prop} {s : Nat} (j : Nat) (hj : (ops[j]?).bind (·.dst) = some s := by exact rfl) (hs : lk L s = some (.bool b) := by exact rfl) (hb : BP b p q := by first | exact BP.dec | exact BP.raw)
    (t : p → wo r P n ops os ((s, .bool true) :: L) Hs Q) (f : q → wo r P n ops os ((s, .bool false) :: L) Hs Q) : wo r P n ops os L Hs Q := wo_gsplit hj hs (fun e => t (hb.t e)) (fun e => f (hb.f e))
theorem Gd {b : Bool} {p q : Prop} {s k : Nat} {ls : Array Bool} {A : List HP} (j : Nat) (hj : (ops[j]?).bind (·.dst) = some s := by exact rfl) (hs : lk L s = some (.bool b) := by exact rfl) (hb : BP b p q := by first | exact BP.dec | exact BP.raw)
    (t : p → An r P n ops A Q k ls ((s, .bool true) :: L) Hs) (f : q → An r P n ops A Q k ls ((s, .bool false) :: L) Hs) : An r P n ops A Q k ls L Hs := d_gsplit hj hs (fun e => t (hb.t e)) (fun e => f (hb.f e))
/-! Ways. -/
theorem Wq {y : Code} (k : wc r P n y L Hs Q) : wo r P n ops [] L Hs (seqO r P y Q) := q_seq k
theorem Wg {y : Code} (k : wc r P n y L Hs Q) : wo r P n ops [] L Hs (asgO r P y Q) := q_asg k
theorem Wn (k : tw n Q .normal L Hs) : wo r P n ops [] L Hs Q := wo_nil k
theorem Ya {y : Code} (k : wc r P n y L Hs Q) : tw n (seqO r P y Q) .normal L Hs := t_seq k
theorem Yb {id : Nat} (k : tw n Q .normal L Hs) : tw n (blockO id Q) .normal L Hs := to_block k
theorem Xa {y : Code} {id : Nat} (k : tw n Q (.exit id) L Hs) : tw n (seqO r P y Q) (.exit id) L Hs := k
theorem Xi {ι : Type} {Li : ι → Loc} {Hi : ι → List HP} {lt : ι → Prop} {id : Nat} (k : tw n Q (.exit id) L Hs) : tw n (invO n Li Hi lt Q) (.exit id) L Hs := k
theorem Xb {id : Nat} (k : tw n Q .normal L Hs) : tw n (blockO id Q) (.exit id) L Hs := to_block_here k
theorem Xo {id id' : Nat} (h : Nat.beq id' id = false := by exact rfl) (k : tw n Q (.exit id') L Hs) : tw n (blockO id Q) (.exit id') L Hs := to_block_other h k
theorem Xs {id : Nat} (k : tw n Q (.exit id) L Hs) : tw n (scopeO Q) (.exit id) L Hs := k
theorem Va {y : Code} (k : tw n Q .ret L Hs) : tw n (seqO r P y Q) .ret L Hs := k
theorem Vi {ι : Type} {Li : ι → Loc} {Hi : ι → List HP} {lt : ι → Prop} (k : tw n Q .ret L Hs) : tw n (invO n Li Hi lt Q) .ret L Hs := k
theorem Vb {id : Nat} (k : tw n Q .ret L Hs) : tw n (blockO id Q) .ret L Hs := k
theorem Vs (k : tw n Q .ret L Hs) : tw n (scopeO Q) .ret L Hs := k
/-! Quiet operations. -/
theorem Pv {op : Op} (h : PV P n L op ty v := by first
 | exact pv_move rfl | exact pv_assign rfl | exact pv_extract rfl rfl
 | exact pv_call_len_s UndC.h rfl | exact pv_call_len_sl UndC.h rfl
 | exact pv_notd rfl | exact pv_not rfl
 | exact pv_add rfl rfl (by omega) | exact pv_sub rfl rfl (by omega) | exact pv_mul rfl rfl (by omega)
 | exact pv_lss rfl rfl | exact pv_leq rfl rfl | exact pv_gtr rfl rfl | exact pv_geq rfl rfl | exact pv_eql rfl rfl | exact pv_neq rfl rfl
 | exact pv_seql rfl rfl | exact pv_sneq rfl rfl | exact pv_slss rfl rfl | exact pv_sleq rfl rfl | exact pv_sgtr rfl rfl | exact pv_sgeq rfl rfl
 | exact pv_nilCheck_p rfl | exact pv_nilCheck_f rfl
 | exact pv_cat rfl rfl (by first | (simp only [List.length_append, List.length_take, List.length_drop, List.length_cons, List.length_nil]; omega) | (simp; try omega))
 | exact pv_makeFunc rfl rfl | exact pv_call_cap_sl UndC.h rfl | exact pv_call_min rfl rfl | exact pv_call_max rfl rfl
 | exact pv_indexm UndC.h rfl rfl rfl (by omega)
 | exact pv_slice_tom UndC.h rfl rfl rfl (by omega) | exact pv_slice_fromm UndC.h rfl rfl rfl (by omega) | exact pv_slice_inm UndC.h rfl rfl rfl rfl rfl (by omega) (by omega)
 | exact pv_quo rfl rfl (by omega) | exact pv_rem rfl rfl (by omega)) : PV P n L op ty v := h
theorem Vv {op : Op} (h : PV P n L op ty v := by exact Pv) (hd : Nat.blt d n = true := by exact rfl) (k : wo r P n ops os ((d, v) :: L) Hs Q) : wo r P n ops (⟨some d, op, ty, pos, after, none⟩ :: os) L Hs Q := wo_pv h hd k
theorem Vf {i b off : Nat} {fs : Array Field} {fd : Field} {ti : TypeInfo} {m : Nat} (k0 : Nat) (ft : TypeId) (ht : P.underlying t = some (.struct fs) := by exact UndC.h) (hf : fs[i]? = some fd := by exact rfl) (hft : fd.type = ft := by exact rfl) (hi : P.info? ft = some ti := by exact InfC.h) (hz : Nat.beq ti.size 0 = false := by exact rfl)
    (hx : ev L x = some (.pointer (some ⟨b, off, none⟩)) := by exact rfl) (hk : fd.offset = k0 := by exact rfl) (hm : off + k0 = m := by first | exact Nat.zero_add _ | exact Nat.add_zero _ | exact rfl) (hd : Nat.blt d n = true := by exact rfl) (k : wo r P n ops os ((d, .pointer (some ⟨b, m, none⟩)) :: L) Hs Q) : wo r P n ops (⟨some d, .fieldAddr t x i, ty, pos, after, none⟩ :: os) L Hs Q :=
 wo_pv (pv_fieldAddrk ht hf (by rw [hft]; exact hi) hz hx hk hm) hd k
theorem Vx {op : Op} (h : PV P n L op ty v) (hd : Nat.blt d n = true := by exact rfl) (k : wo r P n ops os ((d, v) :: L) Hs Q) : wo r P n ops (⟨some d, op, ty, pos, after, none⟩ :: os) L Hs Q := wo_pv h hd k
theorem P1 {c x y : Operand} (hc : ev L c = some (.bool true) := by exact rfl) (hx : ev L x = some v := by exact rfl) (hd : Nat.blt d n = true := by exact rfl) (k : wo r P n ops os ((d, v) :: L) Hs Q) : wo r P n ops (⟨some d, .pick c x y, ty, pos, after, none⟩ :: os) L Hs Q := wo_pv (pv_pick_t hc hx) hd k
theorem P0 {c x y : Operand} (hc : ev L c = some (.bool false) := by exact rfl) (hy : ev L y = some v := by exact rfl) (hd : Nat.blt d n = true := by exact rfl) (k : wo r P n ops os ((d, v) :: L) Hs Q) : wo r P n ops (⟨some d, .pick c x y, ty, pos, after, none⟩ :: os) L Hs Q := wo_pv (pv_pick_f hc hy) hd k
/-! Guards. -/
theorem I1 {j : Nat} {dst : Option Tmp} {op : Op} (hj : gd ops L j = some (.bool true) := by exact rfl) (k : wo r P n ops (⟨dst, op, ty, pos, after, none⟩ :: os) L Hs Q) : wo r P n ops (⟨dst, op, ty, pos, after, some (j, true)⟩ :: os) L Hs Q := wo_in hj k
theorem I0 {j : Nat} {dst : Option Tmp} {op : Op} (hj : gd ops L j = some (.bool false) := by exact rfl) (k : wo r P n ops (⟨dst, op, ty, pos, after, none⟩ :: os) L Hs Q) : wo r P n ops (⟨dst, op, ty, pos, after, some (j, false)⟩ :: os) L Hs Q := wo_in hj k
theorem O1 {j : Nat} {op : Op} (hj : gd ops L j = some (.bool true) := by exact rfl) (hd : Nat.blt d n = true := by exact rfl) (k : wo r P n ops os ((d, undef) :: L) Hs Q) : wo r P n ops (⟨some d, op, ty, pos, after, some (j, false)⟩ :: os) L Hs Q := wo_out hj rfl hd k
theorem O0 {j : Nat} {op : Op} (hj : gd ops L j = some (.bool false) := by exact rfl) (hd : Nat.blt d n = true := by exact rfl) (k : wo r P n ops os ((d, undef) :: L) Hs Q) : wo r P n ops (⟨some d, op, ty, pos, after, some (j, true)⟩ :: os) L Hs Q := wo_out hj rfl hd k
theorem Ou {j : Nat} {want : Bool} {op : Op} (hj : gd ops L j = some undef := by exact rfl) (hd : Nat.blt d n = true := by exact rfl) (k : wo r P n ops os ((d, undef) :: L) Hs Q) : wo r P n ops (⟨some d, op, ty, pos, after, some (j, want)⟩ :: os) L Hs Q := wo_outU hj rfl hd k
/-! Memory. -/
theorem Zd {td : TypeDesc} {b off : Nat} {l : List Value} (ht : P.underlying t = some td := by exact UndC.h) (hfl : flat td = true := by exact rfl) (hx : ev L x = some (.pointer (some ⟨b, off, none⟩)) := by exact rfl) (hr : RdCe b l Hs := by exact inferInstance) (hv : l[off]? = some v := by exact rfl) (hd : Nat.blt d n = true := by exact rfl)
    (k : wo r P n ops os ((d, v) :: L) Hs Q) : wo r P n ops (⟨some d, .load t x, ty, pos, after, none⟩ :: os) L Hs Q := r_load ht hfl hx (hr := hr) hv hd k
theorem Zm {td : TypeDesc} {b off : Nat} {l : List Value} (vs : List Value) {ti : TypeInfo} (ht : P.underlying t = some td := by exact UndC.h) (hfl : flat td = false := by exact rfl) (hi : P.info? t = some ti := by exact InfC.h) (hx : ev L x = some (.pointer (some ⟨b, off, none⟩)) := by exact rfl) (hr : RdCe b l Hs := by exact inferInstance) (hl : off + ti.size ≤ l.length := by exact Nat.le_of_ble_eq_true rfl) (hv : (l.drop off).take ti.size = vs := by rfl) (hd : Nat.blt d n = true := by exact rfl)
    (k : wo r P n ops os ((d, .agg vs.toArray) :: L) Hs Q) : wo r P n ops (⟨some d, .load t x, ty, pos, after, none⟩ :: os) L Hs Q := r_loada ht hfl hi hx (hr := hr) hl hv hd k
theorem Zo {ti : TypeInfo} {b off : Nat} {T : TypeId} {l : List Value} {Gs : List HP} (hi : P.info? t = some ti := by exact InfC.h) (hs : Nat.beq ti.size 1 = true := by exact rfl) (hx : ev L x = some (.pointer (some ⟨b, off, none⟩)) := by exact rfl) (hy : ev L y = some v := by exact rfl) (hu : StC b off v T l Hs Gs := by exact inferInstance) (h1 : oneCell v = true := by exact rfl) (ho : off < l.length := by first | (simp; done) | (simp; omega))
    (k : wo r P n ops os L Gs Q) : wo r P n ops (⟨none, .store t x y, ty, pos, after, none⟩ :: os) L Hs Q := r_store hi hs hx hy (hu := hu) h1 ho k
theorem Zp {ti : TypeInfo} {b off : Nat} {T : TypeId} {l vs : List Value} {Gs : List HP} (hi : P.info? t = some ti := by exact InfC.h) (hx : ev L x = some (.pointer (some ⟨b, off, none⟩)) := by exact rfl) (hy : ev L y = some (.agg vs.toArray) := by exact rfl) (hs : Nat.beq ti.size vs.length = true := by exact rfl) (hu : StsC b off vs T l Hs Gs := by exact inferInstance) (h1 : vs.all oneCell = true := by exact rfl) (ho : off + vs.length ≤ l.length := by first | (simp; done) | (simp; omega))
    (k : wo r P n ops os L Gs Q) : wo r P n ops (⟨none, .store t x y, ty, pos, after, none⟩ :: os) L Hs Q := r_storea hi hs hx hy (hu := hu) h1 ho k
theorem Zc (zs : List Value) {ti : TypeInfo} {z : Value} (hi : P.info? t = some ti := by exact InfC.h) (hz : ti.zero = some z := by exact rfl) (hzs : z.cells.toList = zs := by exact rfl) (hd : Nat.blt d n = true := by exact rfl)
    (k : ∀ b, wo r P n ops os ((d, .pointer (some ⟨b, 0, none⟩)) :: L) (Ce b t zs :: Hs) Q) : wo r P n ops (⟨some d, .alloc t, ty, pos, after, none⟩ :: os) L Hs Q := wo_alloc hi hz hzs hd k
theorem Zx (vs : List Value) (hx : ev L x = some v := by exact rfl) (hv : v.cells.toList = vs := by exact rfl) (hd : Nat.blt d n = true := by exact rfl)
    (k : ∀ b, wo r P n ops os ((d, .pointer (some ⟨b, 0, none⟩)) :: L) (Ce b t vs :: Hs) Q) : wo r P n ops (⟨some d, .box t x, ty, pos, after, none⟩ :: os) L Hs Q := wo_box hx hv hd k
theorem Zv {ti : TypeInfo} {z : Value} {len : Nat} {ps : List (Nat × Operand)} (vs : List Value) {cs : List Value} (ht : P.underlying t = some (.slice e) := by exact UndC.h) (hi : P.info? e = some ti := by exact InfC.h) (hz : ti.zero = some z := by exact rfl) (hzs : Nat.beq z.cells.size ti.size = true := by exact rfl)
    (hps : evps L ps = some (parts 0 vs) := by exact rfl) (hlen : vs.length = len := by exact rfl) (hv : vs.all (fun v => Nat.beq v.cells.size ti.size) = true := by exact rfl) (hsm : Nat.ble (vs.length * ti.size) 16777216 = true := by exact rfl) (hcs : vs.flatMap (·.cells.toList) = cs := by exact rfl) (hd : Nat.blt d n = true := by exact rfl)
    (k : ∀ b, wo r P n ops os ((d, .slice (some ⟨b, 0, none⟩) len len) :: L) (Ce b e cs :: Hs) Q) : wo r P n ops (⟨some d, .buildSlice t len ps.toArray, ty, pos, after, none⟩ :: os) L Hs Q := r_buildSliceL vs ht hi hz hzs hps hlen hv hsm hcs hd k
theorem Ye (sz : Nat) {a : Option Addr} {kd : IntKind} {i : Int} {m len cap kk : Nat} {ti : TypeInfo} {xs : List Value} (ht : P.underlying t = some (.slice e) := by exact UndC.h) (hi : P.info? e = some ti := by exact InfC.h) (hsz : ti.size = sz := by exact rfl)
    (hx : ev L x = some (.slice a len cap) := by exact rfl) (hy : ev L y = some (.int kd i) := by exact rfl) (hm : i = (m : Int) := by exact rfl) (h : m < len := by omega) (hr : RdSl a xs Hs := by exact inferInstance) (hne : 0 < xs.length := by first | (rw [List.length_map]; omega) | exact flat_pos (by omega) (fun _ => rfl) | (simp; omega)) (hk : m * sz = kk := by first | exact Nat.mul_one _ | exact rfl) (hd : Nat.blt d n = true := by exact rfl)
    (k : wo r P n ops os ((d, .pointer (elemA a kk)) :: L) Hs Q) : wo r P n ops (⟨some d, .indexAddr t x y, ty, pos, after, none⟩ :: os) L Hs Q := r_elemAddr ht hi hsz hx hy hm h (hr := hr) hne hk hd k
theorem Yf (o : Nat) (ft : TypeId) {i : Nat} {a : Option Addr} {q : Nat} {fs : Array Field} {fd : Field} {xs : List Value} {ti : TypeInfo} {kk : Nat} (ht : P.underlying t = some (.struct fs) := by exact UndC.h) (hf : fs[i]? = some fd := by exact rfl) (hft : fd.type = ft := by exact rfl) (hi : P.info? ft = some ti := by exact InfC.h) (hz : Nat.beq ti.size 0 = false := by exact rfl)
    (hx : ev L x = some (.pointer (elemA a q)) := by exact rfl) (ho : fd.offset = o := by exact rfl) (hk : q + o = kk := by exact rfl) (hr : RdSl a xs Hs := by exact inferInstance) (hne : 0 < xs.length := by first | (rw [List.length_map]; omega) | exact flat_pos (by omega) (fun _ => rfl) | (simp; omega)) (hd : Nat.blt d n = true := by exact rfl)
    (k : wo r P n ops os ((d, .pointer (elemA a kk)) :: L) Hs Q) : wo r P n ops (⟨some d, .fieldAddr t x i, ty, pos, after, none⟩ :: os) L Hs Q := r_efield ht hf (by rw [hft]; exact hi) hz hx ho hk (hr := hr) hne hd k
theorem Ym {a : Option Addr} {q : Nat} {xs : List Value} {td : TypeDesc} (ht : P.underlying t = some td := by exact UndC.h) (hfl : flat td = true := by exact rfl) (hx : ev L x = some (.pointer (elemA a q)) := by exact rfl) (hr : RdSl a xs Hs := by exact inferInstance) (hv : xs[q]? = some v := by first | exact get_map (by omega) | exact rfl | (rw [get_field (fun _ => rfl) (by decide) (by omega)]; rfl)) (hd : Nat.blt d n = true := by exact rfl)
    (k : wo r P n ops os ((d, v) :: L) Hs Q) : wo r P n ops (⟨some d, .load t x, ty, pos, after, none⟩ :: os) L Hs Q := r_eload ht hfl hx (hr := hr) hv hd k
/-! Regions that draw. -/
theorem Di {o : Oper} {q : Nat} {ls : Array Bool} {A : List HP} (i : Nat) (hnd : noDefer ops = true := by exact rfl) (ho : ops[i]? = some o := by exact rfl) (hd : dstOk n o.dst = true := by exact rfl) (hr : (Region.ready .any ops ls).contains i = true := by kernel_rfl) (hf : free ops ls i o = true := by kernel_rfl)
    (t : Tells P n ops o A L v) (k : An r P n ops A Q q (ls.setIfInBounds i true) (putL o.dst v L) Hs) : An r P n ops A Q (q + 1) ls L Hs := d_first i hnd ho hd hr hf t k
theorem Dw {id : Nat} {l : List Oper} {Rs : List HP} (A : List HP) (hc : c = .region id l.toArray true := by exact rfl) (hm : P.follows .mixedOrders = true := by exact rfl) (hnd : noDefer l.toArray = true := by exact rfl) (hp : PicksC A Hs Rs := by exact inferInstance)
    (k : An r P n l.toArray A Q l.length (Array.replicate l.length false) L Rs) : wc r P n c L Hs Q := d_draw hc hm hnd A (hp := hp) k
theorem Dn {o : Oper} {q : Nat} {ls : Array Bool} {A : List HP} (j : Nat) (hr : Region.ready .any ops ls = [j] := by kernel_rfl) (ho : ops[j]? = some o := by exact rfl) (k : AnOp r P n ops A o (fun L' Hs' => An r P n ops A Q q (ls.setIfInBounds j true) L' Hs') L Hs) :
    An r P n ops A Q (q + 1) ls L Hs := d_next j hr ho k
theorem Dd {ls : Array Bool} {A : List HP} (hr : Region.ready .any ops ls = [] := by kernel_rfl) (k : tw n Q .normal L (A ++ Hs)) : An r P n ops A Q 0 ls L Hs := d_done hr k
section
variable {A : List HP} {dst : Option Tmp} {op : Op} {j : Nat}
theorem Uv (h : PV P n L op ty v := by exact Pv) : Tells P n ops ⟨dst, op, ty, pos, after, none⟩ A L v := tl_pv h
theorem UP1 {z x y : Operand} (hz : ev L z = some (.bool true) := by exact rfl) (hx : ev L x = some v := by exact rfl) : Tells P n ops ⟨dst, .pick z x y, ty, pos, after, none⟩ A L v := tl_pv (pv_pick_t hz hx)
theorem UP0 {z x y : Operand} (hz : ev L z = some (.bool false) := by exact rfl) (hy : ev L y = some v := by exact rfl) : Tells P n ops ⟨dst, .pick z x y, ty, pos, after, none⟩ A L v := tl_pv (pv_pick_f hz hy)
theorem Ux (h : PV P n L op ty v) : Tells P n ops ⟨dst, op, ty, pos, after, none⟩ A L v := tl_pv h
theorem U1 (hj : gd ops L j = some (.bool true) := by exact rfl) (h : Tells P n ops ⟨dst, op, ty, pos, after, none⟩ A L v) : Tells P n ops ⟨dst, op, ty, pos, after, some (j, true)⟩ A L v := tl_in hj h
theorem U0 (hj : gd ops L j = some (.bool false) := by exact rfl) (h : Tells P n ops ⟨dst, op, ty, pos, after, none⟩ A L v) : Tells P n ops ⟨dst, op, ty, pos, after, some (j, false)⟩ A L v := tl_in hj h
theorem Uu {want : Bool} (hj : gd ops L j = some undef := by exact rfl) : Tells P n ops ⟨dst, op, ty, pos, after, some (j, want)⟩ A L undef := tl_outU hj rfl
theorem Uf {i b off : Nat} {fs : Array Field} {fd : Field} {ti : TypeInfo} {m : Nat} (k0 : Nat) (ft : TypeId) (ht : P.underlying t = some (.struct fs) := by exact UndC.h) (hf : fs[i]? = some fd := by exact rfl) (hft : fd.type = ft := by exact rfl) (hi : P.info? ft = some ti := by exact InfC.h) (hz : Nat.beq ti.size 0 = false := by exact rfl)
    (hx : ev L x = some (.pointer (some ⟨b, off, none⟩)) := by exact rfl) (hk : fd.offset = k0 := by exact rfl) (hm : off + k0 = m := by first | exact Nat.zero_add _ | exact Nat.add_zero _ | exact rfl) : Tells P n ops ⟨dst, .fieldAddr t x i, ty, pos, after, none⟩ A L (.pointer (some ⟨b, m, none⟩)) :=
 tl_pv (pv_fieldAddrk ht hf (by rw [hft]; exact hi) hz hx hk hm)
theorem Ul {td : TypeDesc} {b off : Nat} {l : List Value} (ht : P.underlying t = some td := by exact UndC.h) (hfl : flat td = true := by exact rfl) (hx : ev L x = some (.pointer (some ⟨b, off, none⟩)) := by exact rfl) (hr : RdCe b l A := by exact inferInstance) (hv : l[off]? = some v := by exact rfl) :
    Tells P n ops ⟨dst, .load t x, ty, pos, after, none⟩ A L v := tl_load ht hfl hx (hr := hr) hv
end
theorem Ps {ps : List (Nat × Operand)} {pv : List (Nat × Value)} {fields : Array Field} {ti : TypeInfo} {z : Value} {zs : List Value} {pl : List (Nat × Nat)} (vs : List Value) (ht : P.underlying t = some (.struct fields) := by exact UndC.h) (hi : P.info? t = some ti := by exact InfC.h) (hz : ti.zero = some z := by exact rfl) (hzs : z.cells.toList = zs := by exact rfl)
    (hpl : fields.toList.mapM (fun f => (P.info? f.type).map fun i => (f.offset, i.size)) = some pl := by exact rfl) (hps : evps L ps = some pv := by exact rfl) (hf : fillL (fun i => pl[i]?) zs pv = some vs := by exact rfl) : PV P n L (.build t ps.toArray) ty (.agg vs.toArray) := pv_buildS ht hi hz hzs hpl hps hf
section
variable {A : List HP} {K : Loc → List HP → Prop}
theorem Nc (zs : List Value) {ti : TypeInfo} {z : Value} (hi : P.info? t = some ti := by exact InfC.h) (hz : ti.zero = some z := by exact rfl) (hzs : z.cells.toList = zs := by exact rfl) (hd : Nat.blt d n = true := by exact rfl)
    (k : ∀ b, K ((d, .pointer (some ⟨b, 0, none⟩)) :: L) (Ce b t zs :: Hs)) : AnOp r P n ops A ⟨some d, .alloc t, ty, pos, after, none⟩ K L Hs := an_alloc hi hz hzs hd k
theorem Nl {ti : TypeInfo} {z : Value} {len : Nat} {ps : List (Nat × Operand)} (vs : List Value) {cs : List Value} (ht : P.underlying t = some (.slice e) := by exact UndC.h) (hi : P.info? e = some ti := by exact InfC.h) (hz : ti.zero = some z := by exact rfl) (hzs : Nat.beq z.cells.size ti.size = true := by exact rfl)
    (hps : evps L ps = some (parts 0 vs) := by exact rfl) (hlen : vs.length = len := by exact rfl) (hv : vs.all (fun v => Nat.beq v.cells.size ti.size) = true := by exact rfl) (hsm : Nat.ble (vs.length * ti.size) 16777216 = true := by exact rfl) (hcs : vs.flatMap (·.cells.toList) = cs := by exact rfl) (hd : Nat.blt d n = true := by exact rfl)
    (k : ∀ b, K ((d, .slice (some ⟨b, 0, none⟩) len len) :: L) (Ce b e cs :: Hs)) : AnOp r P n ops A ⟨some d, .buildSlice t len ps.toArray, ty, pos, after, none⟩ K L Hs := an_buildSliceL vs ht hi hz hzs hps hlen hv hsm hcs hd k
theorem No {ti : TypeInfo} {b off : Nat} {T : TypeId} {l : List Value} {Gs : List HP} (hi : P.info? t = some ti := by exact InfC.h) (hs : Nat.beq ti.size 1 = true := by exact rfl) (hx : ev L x = some (.pointer (some ⟨b, off, none⟩)) := by exact rfl) (hy : ev L y = some v := by exact rfl) (hu : StC b off v T l Hs Gs := by exact inferInstance) (h1 : oneCell v = true := by exact rfl) (ho : off < l.length := by first | (simp; done) | (simp; omega))
    (k : K L Gs) : AnOp r P n ops A ⟨none, .store t x y, ty, pos, after, none⟩ K L Hs := an_store hi hs hx hy (hu := hu) h1 ho k
theorem Na {ti : TypeInfo} {b off : Nat} {T : TypeId} {l vs : List Value} {Gs : List HP} (hi : P.info? t = some ti := by exact InfC.h) (hx : ev L x = some (.pointer (some ⟨b, off, none⟩)) := by exact rfl) (hy : ev L y = some (.agg vs.toArray) := by exact rfl) (hs : Nat.beq ti.size vs.length = true := by exact rfl) (hu : StsC b off vs T l Hs Gs := by exact inferInstance) (h1 : vs.all oneCell = true := by exact rfl) (ho : off + vs.length ≤ l.length := by first | (simp; done) | (simp; omega))
    (k : K L Gs) : AnOp r P n ops A ⟨none, .store t x y, ty, pos, after, none⟩ K L Hs := an_storea hi hs hx hy (hu := hu) h1 ho k
end
/-! Several at once. -/
theorem Qc {id : Nat} {l : List Oper} (h : c = .seq (sA c) (sB c) := by exact rfl) (h2 : sA c = .region id l.toArray false := by exact rfl) (k : wo r P n l.toArray l L Hs (seqO r P (sB c) Q)) : wc r P n c L Hs Q := p_seq h (p_region h2 k)
section
variable {ty1 ty2 : TypeId} {d1 d2 : Nat} {pos1 pos2 : String} {after1 after2 : Array Edge} {o1 o2 : Op} {v1 v2 : Value}
theorem Qv (h1 : PV P n L o1 ty1 v1 := by exact Pv) (hd1 : Nat.blt d1 n = true := by exact rfl) (h2 : PV P n ((d1, v1) :: L) o2 ty2 v2 := by exact Pv) (hd2 : Nat.blt d2 n = true := by exact rfl) (k : wo r P n ops os ((d2, v2) :: (d1, v1) :: L) Hs Q) :
    wo r P n ops (⟨some d1, o1, ty1, pos1, after1, none⟩ :: ⟨some d2, o2, ty2, pos2, after2, none⟩ :: os) L Hs Q := wo_pv h1 hd1 (wo_pv h2 hd2 k)
theorem Qx {b off : Nat} {l : List Value} {td : TypeDesc} {i : Nat} {fs : Array Field} {fd : Field} {ti : TypeInfo} {m : Nat} {t2 : TypeId} (k0 : Nat) (ft : TypeId) (ht : P.underlying t = some (.struct fs) := by exact UndC.h) (hf : fs[i]? = some fd := by exact rfl) (hft : fd.type = ft := by exact rfl) (hi : P.info? ft = some ti := by exact InfC.h) (hz : Nat.beq ti.size 0 = false := by exact rfl)
    (hx : ev L x = some (.pointer (some ⟨b, off, none⟩)) := by exact rfl) (hk : fd.offset = k0 := by exact rfl) (hm : off + k0 = m := by first | exact Nat.zero_add _ | exact Nat.add_zero _ | exact rfl) (hd1 : Nat.blt d1 n = true := by exact rfl)
    (ht2 : P.underlying t2 = some td := by exact UndC.h) (hfl : flat td = true := by exact rfl) (hy : ev ((d1, .pointer (some ⟨b, m, none⟩)) :: L) y = some (.pointer (some ⟨b, m, none⟩)) := by exact rfl) (hr : RdCe b l Hs := by exact inferInstance) (hv : l[m]? = some v2 := by exact rfl) (hd2 : Nat.blt d2 n = true := by exact rfl)
    (k : wo r P n ops os ((d2, v2) :: (d1, .pointer (some ⟨b, m, none⟩)) :: L) Hs Q) : wo r P n ops (⟨some d1, .fieldAddr t x i, ty1, pos1, after1, none⟩ :: ⟨some d2, .load t2 y, ty2, pos2, after2, none⟩ :: os) L Hs Q :=
 wo_pv (pv_fieldAddrk ht hf (by rw [hft]; exact hi) hz hx hk hm) hd1 (r_load ht2 hfl hy (hr := hr) hv hd2 k)
end
theorem J1 {j : Nat} {op : Op} (hj : gd ops L j = some (.bool true) := by exact rfl) (h : PV P n L op ty v := by exact Pv) (hd : Nat.blt d n = true := by exact rfl) (k : wo r P n ops os ((d, v) :: L) Hs Q) : wo r P n ops (⟨some d, op, ty, pos, after, some (j, true)⟩ :: os) L Hs Q := wo_in hj (wo_pv h hd k)
theorem J0 {j : Nat} {op : Op} (hj : gd ops L j = some (.bool false) := by exact rfl) (h : PV P n L op ty v := by exact Pv) (hd : Nat.blt d n = true := by exact rfl) (k : wo r P n ops os ((d, v) :: L) Hs Q) : wo r P n ops (⟨some d, op, ty, pos, after, some (j, false)⟩ :: os) L Hs Q := wo_in hj (wo_pv h hd k)
theorem Dv {q : Nat} {ls : Array Bool} {A : List HP} {dst : Option Tmp} {op : Op} (i : Nat) (hnd : noDefer ops = true := by exact rfl) (ho : ops[i]? = some ⟨dst, op, ty, pos, after, none⟩ := by exact rfl) (hd : dstOk n dst = true := by exact rfl) (hr : (Region.ready .any ops ls).contains i = true := by kernel_rfl) (hf : free ops ls i ⟨dst, op, ty, pos, after, none⟩ = true := by kernel_rfl)
    (h : PV P n L op ty v := by exact Pv) (k : An r P n ops A Q q (ls.setIfInBounds i true) (putL dst v L) Hs) : An r P n ops A Q (q + 1) ls L Hs := d_first i hnd ho hd hr hf (tl_pv h) k
theorem D0 {q j : Nat} {ls : Array Bool} {A : List HP} {dst : Option Tmp} {op : Op} (i : Nat) (hnd : noDefer ops = true := by exact rfl) (ho : ops[i]? = some ⟨dst, op, ty, pos, after, some (j, true)⟩ := by exact rfl) (hd : dstOk n dst = true := by exact rfl) (hr : (Region.ready .any ops ls).contains i = true := by kernel_rfl) (hf : free ops ls i ⟨dst, op, ty, pos, after, some (j, true)⟩ = true := by kernel_rfl)
    (hj : gd ops L j = some (.bool false) := by exact rfl) (k : An r P n ops A Q q (ls.setIfInBounds i true) (putL dst undef L) Hs) : An r P n ops A Q (q + 1) ls L Hs := d_first i hnd ho hd hr hf (tl_out hj rfl) k
theorem D1 {q j : Nat} {ls : Array Bool} {A : List HP} {dst : Option Tmp} {op : Op} (i : Nat) (hnd : noDefer ops = true := by exact rfl) (ho : ops[i]? = some ⟨dst, op, ty, pos, after, some (j, false)⟩ := by exact rfl) (hd : dstOk n dst = true := by exact rfl) (hr : (Region.ready .any ops ls).contains i = true := by kernel_rfl) (hf : free ops ls i ⟨dst, op, ty, pos, after, some (j, false)⟩ = true := by kernel_rfl)
    (hj : gd ops L j = some (.bool true) := by exact rfl) (k : An r P n ops A Q q (ls.setIfInBounds i true) (putL dst undef L) Hs) : An r P n ops A Q (q + 1) ls L Hs := d_first i hnd ho hd hr hf (tl_out hj rfl) k
theorem DP0 {q : Nat} {ls : Array Bool} {A : List HP} {dst : Option Tmp} {z x y : Operand} (i : Nat) (hnd : noDefer ops = true := by exact rfl) (ho : ops[i]? = some ⟨dst, .pick z x y, ty, pos, after, none⟩ := by exact rfl) (hd : dstOk n dst = true := by exact rfl) (hr : (Region.ready .any ops ls).contains i = true := by kernel_rfl) (hf : free ops ls i ⟨dst, .pick z x y, ty, pos, after, none⟩ = true := by kernel_rfl)
    (hz : ev L z = some (.bool false) := by exact rfl) (hy : ev L y = some v := by exact rfl) (k : An r P n ops A Q q (ls.setIfInBounds i true) (putL dst v L) Hs) : An r P n ops A Q (q + 1) ls L Hs := d_first i hnd ho hd hr hf (tl_pv (pv_pick_f hz hy)) k
theorem DP1 {q : Nat} {ls : Array Bool} {A : List HP} {dst : Option Tmp} {z x y : Operand} (i : Nat) (hnd : noDefer ops = true := by exact rfl) (ho : ops[i]? = some ⟨dst, .pick z x y, ty, pos, after, none⟩ := by exact rfl) (hd : dstOk n dst = true := by exact rfl) (hr : (Region.ready .any ops ls).contains i = true := by kernel_rfl) (hf : free ops ls i ⟨dst, .pick z x y, ty, pos, after, none⟩ = true := by kernel_rfl)
    (hz : ev L z = some (.bool true) := by exact rfl) (hx : ev L x = some v := by exact rfl) (k : An r P n ops A Q q (ls.setIfInBounds i true) (putL dst v L) Hs) : An r P n ops A Q (q + 1) ls L Hs := d_first i hnd ho hd hr hf (tl_pv (pv_pick_t hz hx)) k
theorem Ne {a : Option Addr} {kd : IntKind} {i : Int} {len cap kk : Nat} {ti : TypeInfo} {xs : List Value} {A : List HP} {K : Loc → List HP → Prop} (sz m : Nat) (ht : P.underlying t = some (.slice e) := by exact UndC.h) (hi : P.info? e = some ti := by exact InfC.h) (hsz : ti.size = sz := by exact rfl)
    (hx : ev L x = some (.slice a len cap) := by exact rfl) (hy : ev L y = some (.int kd i) := by exact rfl) (hm : i = (m : Int) := by exact rfl) (h : m < len := by omega) (hr : RdSl a xs Hs := by exact inferInstance) (hne : 0 < xs.length := by first | (rw [List.length_map]; omega) | exact flat_pos (by omega) (fun _ => rfl) | (simp; omega) | simp) (hk : m * sz = kk := by first | exact Nat.mul_one _ | exact rfl) (hd : Nat.blt d n = true := by exact rfl)
    (k : K ((d, .pointer (elemA a kk)) :: L) Hs) : AnOp r P n ops A ⟨some d, .indexAddr t x y, ty, pos, after, none⟩ K L Hs := an_elemAddr ht hi hsz hx hy hm h (hr := hr) hne hk hd k
theorem Yl {a : Option Addr} {q : Nat} {xs : List Value} {td : TypeDesc} (ht : P.underlying t = some td := by exact UndC.h) (hfl : flat td = true := by exact rfl) (hx : ev L x = some (.pointer (elemA a q)) := by exact rfl) (hr : RdSl a xs Hs := by exact inferInstance) (hv : xs[q]? = some v) (hd : Nat.blt d n = true := by exact rfl)
    (k : wo r P n ops os ((d, v) :: L) Hs Q) : wo r P n ops (⟨some d, .load t x, ty, pos, after, none⟩ :: os) L Hs Q := r_eload ht hfl hx (hr := hr) hv hd k
end
end
/-- The last digit of a number, as a byte. -/
def dgt (n : Nat) : UInt8 := UInt8.ofNat (48 + n % 10)
def decN (n : Nat) : List UInt8 := if n < 10 then [dgt n] else decN (n / 10) ++ [dgt n]
termination_by n
/-- What stands ahead of the last digits. -/
def preN (n : Nat) : List UInt8 := if n = 0 then [] else decN n
theorem dgt_toNat (n : Nat) : (dgt n).toNat = 48 + n % 10 := by
 have : 48 + n % 10 < 256 := by omega
 simp [dgt, UInt8.toNat_ofNat, Nat.mod_eq_of_lt this]
theorem decN_split (n : Nat) : decN n = preN (n / 10) ++ [dgt n] := by
 rw [decN, preN]
 by_cases h : n < 10
 · have : n / 10 = 0 := by omega
   simp [h, this]
 · have : ¬ (n / 10 = 0) := by omega
   simp [h, this]
theorem preN_pos {n : Nat} (h : 0 < n) : preN n = preN (n / 10) ++ [dgt n] := by
 rw [preN, if_neg (by omega)]; exact decN_split n
theorem decN_len (n : Nat) : (decN n).length ≤ n + 1 := by
 induction n using Nat.strongRecOn with
 | _ n ih =>
   rw [decN]
   split
   · simp
   · have := ih (n / 10) (by omega)
     simp only [List.length_append, List.length_singleton]
     omega
abbrev Bs := List UInt8
/-- Decimals, read on. -/
def dn : Bs → Nat → Option Nat
 | [], n => some n
 | c :: r, n => if c.toNat < 48 ∨ 57 < c.toNat ∨ 1073741824 < n then none else dn r (10 * n + (c.toNat - 48))
def decP (n : Nat) : Bs := if n ≤ 1073741824 then decN n else []
def readDec (s : Bs) : Option Nat := match dn s 0 with
 | none => none
 | some n => if s = [] ∨ ¬ decP n = s then none else some n
theorem dn_step {s : Bs} {i : Nat} (h : i < s.length) (n : Nat) : dn (s.drop i) n = if (s.getD i 0).toNat < 48 ∨ 57 < (s.getD i 0).toNat ∨ 1073741824 < n then none else dn (s.drop (i + 1)) (10 * n + ((s.getD i 0).toNat - 48)) := by
 have e : s.drop i = s.getD i 0 :: s.drop (i + 1) := by
  rw [List.drop_eq_getElem_cons h]; simp [h]
 rw [e, dn]
def zeros (n : Nat) : Bs := List.replicate n 0
structure W5 where
 a : UInt32
 b : UInt32
 c : UInt32
 d : UInt32
 e : UInt32
def W5.list (h : W5) : List UInt32 := [h.a, h.b, h.c, h.d, h.e]
def byteW (c : UInt8) (k : Nat) : UInt32 := c.toUInt32 <<< UInt32.ofNat k
def blkW (b : Bs) (i : Nat) : UInt32 := byteW (b.getD (4 * i) 0) 24 ||| byteW (b.getD (4 * i + 1) 0) 16 ||| byteW (b.getD (4 * i + 2) 0) 8 ||| (b.getD (4 * i + 3) 0).toUInt32
def nextW (l : List UInt32) (i : Nat) : UInt32 := rotl (l.getD (i - 3) 0 ^^^ l.getD (i - 8) 0 ^^^ l.getD (i - 14) 0 ^^^ l.getD (i - 16) 0) 1
def spreadL (b : Bs) : Nat → List UInt32
 | 0 => []
 | n + 1 => spreadL b n ++ [if n < 16 then blkW b n else nextW (spreadL b n) n]
theorem spreadL_len (b : Bs) (n : Nat) : (spreadL b n).length = n := by
 induction n with
 | zero => rfl
 | succ n ih => simp [spreadL, ih]
def mixW (i : Nat) (b c d : UInt32) : UInt32 × UInt32 :=
 if i / 20 = 0 then ((b &&& c) ||| (~~~b &&& d), 0x5a827999)
 else if i / 20 = 1 then (b ^^^ c ^^^ d, 0x6ed9eba1)
 else if i / 20 = 2 then ((b &&& c) ||| (b &&& d) ||| (c &&& d), 0x8f1bbcdc)
 else (b ^^^ c ^^^ d, 0xca62c1d6)
def roundW (w : List UInt32) (i : Nat) (s : W5) : W5 := ⟨rotl s.a 5 + (mixW i s.b s.c s.d).1 + s.e + (mixW i s.b s.c s.d).2 + w.getD i 0, s.a, rotl s.b 30, s.c, s.d⟩
def roundsW (w : List UInt32) (h : W5) : Nat → W5
 | 0 => h
 | n + 1 => roundW w n (roundsW w h n)
def takeW (h : W5) (b : Bs) : W5 := let s := roundsW (spreadL b 80) h 80; ⟨h.a + s.a, h.b + s.b, h.c + s.c, h.d + s.d, h.e + s.e⟩
def blocksN (s : Bs) : Nat := (s.length + 8) / 64 + 1
def len8 (s : Bs) (i : Nat) : UInt8 := UInt8.ofNat (8 * s.length / 2 ^ (8 * (7 - i)))
def padB (s : Bs) : Bs := s ++ [0x80] ++ zeros (64 * blocksN s - 9 - s.length) ++ (List.range 8).map (len8 s)
theorem padB_len (s : Bs) : (padB s).length = 64 * blocksN s := by
 simp only [padB, blocksN, zeros, List.length_append, List.length_replicate, List.length_map, List.length_range, List.length_singleton]
 omega
def h0W : W5 := ⟨0x67452301, 0xefcdab89, 0x98badcfe, 0x10325476, 0xc3d2e1f0⟩
def sumsW (p : Bs) (h : W5) : Nat → W5
 | 0 => h
 | n + 1 => takeW (sumsW p h n) ((p.drop (64 * n)).take 64)
def hexD : Bs := [48, 49, 50, 51, 52, 53, 54, 55, 56, 57, 97, 98, 99, 100, 101, 102]
def hexW (x : UInt32) : Bs := (List.range 8).map fun j => hexD.getD ((x >>> UInt32.ofNat (28 - 4 * j)) &&& 15).toNat 0
/-- A content's name. -/
def shaB (s : Bs) : Bs := (sumsW (padB s) h0W (blocksN s)).list.flatMap hexW
theorem hexW_len (x : UInt32) : (hexW x).length = 8 := by simp [hexW]
theorem shaB_len (s : Bs) : (shaB s).length = 40 := by simp [shaB, W5.list, hexW_len]
theorem hexW_mem (x : UInt32) : ∀ c ∈ hexW x, c ∈ hexD := by
 intro c hc
 simp only [hexW, List.mem_map, List.mem_range] at hc
 obtain ⟨j, _, rfl⟩ := hc
 have hl : hexD.length = 16 := rfl
 have h : ((x >>> UInt32.ofNat (28 - 4 * j)) &&& 15).toNat < 16 := by
  rw [UInt32.toNat_and]
  exact Nat.lt_of_le_of_lt Nat.and_le_right (by decide)
 rw [List.getD_eq_getElem?_getD, List.getElem?_eq_getElem (by rw [hl]; exact h), Option.getD_some]
 exact List.getElem_mem _
theorem shaB_mem (s : Bs) : ∀ c ∈ shaB s, c ∈ hexD := by
 intro c hc
 obtain ⟨x, _, hx⟩ := List.mem_flatMap.1 hc
 exact hexW_mem x c hx
def dn2 : Bs → Nat → Option Nat
 | [], n => some n
 | c :: r, n => if c.toNat < 48 ∨ 57 < c.toNat then none else if 1073741824 < 10 * n + (c.toNat - 48) then none else dn2 r (10 * n + (c.toNat - 48))
theorem dn_ge : ∀ (s : Bs) (n m : Nat), dn s n = some m → n ≤ m := by
 intro s
 induction s with
 | nil => intro n m h; simp [dn] at h; omega
 | cons c r ih =>
   intro n m h
   simp only [dn] at h
   split at h
   · cases h
   · have := ih _ _ h; omega
theorem dn2_dn : ∀ (s : Bs) (n m : Nat), n ≤ 1073741824 → (dn2 s n = some m ↔ dn s n = some m ∧ m ≤ 1073741824) := by
 intro s
 induction s with
 | nil => intro n m h; simp [dn, dn2]; omega
 | cons c r ih =>
   intro n m h
   simp only [dn, dn2]
   by_cases h1 : c.toNat < 48 ∨ 57 < c.toNat
   · rw [if_pos h1, if_pos (by omega)]; simp
   · rw [if_neg h1, if_neg (show ¬ (c.toNat < 48 ∨ 57 < c.toNat ∨ 1073741824 < n) by omega)]
     by_cases h2 : 1073741824 < 10 * n + (c.toNat - 48)
     · rw [if_pos h2]
       constructor
       · intro e; cases e
       · rintro ⟨e, e2⟩
         have := dn_ge _ _ _ e
         omega
     · rw [if_neg h2]
       exact ih _ _ (by omega)
theorem dn2_app : ∀ (s t : Bs) (n : Nat), dn2 (s ++ t) n = (dn2 s n).bind (dn2 t) := by
 intro s
 induction s with
 | nil => intro t n; simp [dn2]
 | cons c r ih =>
   intro t n
   simp only [List.cons_append, dn2]
   split
   · rfl
   · split
     · rfl
     · exact ih _ _
theorem dn2_of_decN : ∀ n : Nat, n ≤ 1073741824 → dn2 (decN n) 0 = some n := by
 intro n
 induction n using Nat.strongRecOn with
 | _ n ih =>
   intro h
   rw [decN]
   have h48 := dgt_toNat n
   split
   · rw [dn2, if_neg (by omega), if_neg (by omega), dn2]
     congr 1; omega
   · rw [dn2_app, ih (n / 10) (by omega) (by omega)]
     simp only [Option.bind_some]
     rw [dn2, if_neg (by omega), if_neg (by omega), dn2]
     congr 1; omega
theorem decN_ne (n : Nat) : decN n ≠ [] := by rw [decN]; split <;> simp
theorem readDec_of {n : Nat} (h : n ≤ 1073741824) : readDec (decN n) = some n := by
 have h2 := dn2_of_decN n h
 obtain ⟨h1, _⟩ := (dn2_dn (decN n) 0 n (by omega)).1 h2
 unfold readDec
 rw [h1]
 dsimp only
 rw [if_neg]
 rintro (e | e)
 · exact decN_ne n e
 · exact e (by rw [decP, if_pos h])
end Go.Proofs.YtdnoacgopfcpbaaGreat
