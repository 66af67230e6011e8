/- Texts of this proof, put together: Rows0, Bridge, Struct, RangeF, Types. -/
import Derived.Below
import Derived.RangeFuncIn
import Derived.RangeFuncNested
import Derived.Test.YtdnoacgopfcpbaaGreatProg
import Derived.Test.YtdnoacgopfcpbaaGreatQ03
set_option linter.unusedVariables false
set_option linter.unusedSimpArgs false
namespace Go.Proofs.YtdnoacgopfcpbaaGreat
section
/-- A slice of n elements of type e, of sz cells each, that is one's own: its cells; room behind. -/
def RowAt (e : TypeId) (sz : Nat) (v : Value) (n : Nat) (xs : List Value) (M : Kn) (h : Res) : Prop :=
 (v = .slice none 0 0 ∧ n = 0 ∧ xs = []) ∨
 ∃ g cap cur, v = .slice (some ⟨g, 0, none⟩) n cap ∧ n ≤ cap ∧ cap ≤ maxLen ∧ List.length cur = cap * sz ∧ xs.length = n * sz ∧ cur.take (n * sz) = xs ∧ h = Res.one g (.cells cur.toArray e (0, 0))
def Row (e : TypeId) (sz : Nat) (v : Value) (n : Nat) (xs : List Value) : HP := ⟨RowAt e sz v n xs, fun _ e => e⟩
theorem RowAt.slice {e : TypeId} {sz : Nat} {v : Value} {n : Nat} {xs : List Value} {M : Kn} {h : Res} (r : RowAt e sz v n xs M h) : ∃ a c, v = .slice a n c := by
 rcases r with ⟨rfl, rfl, _⟩ | ⟨g, cap, _, rfl, _⟩
 · exact ⟨_, _, rfl⟩
 · exact ⟨_, _, rfl⟩
theorem oneCell_iff {v : Value} : oneCell v = true ↔ v.oneCell' = true := by cases v <;> simp [oneCell, Value.oneCell']
section
variable {r : Option Nat} {P : Program} {n : Nat} {ops : Array Oper} {A : List HP} {L : Loc} {Hs : List HP} {Q : Out}
theorem Sat.drew {w : World} {M : Kn} {h : Res} (t : Sat w M h) : Sat w.drew M h := ⟨t.im, t.ow, t.dj, ⟨t.env.os, t.env.tape, t.env.output, t.env.size, up_add 1 t.env.up⟩⟩
/-- append(s, x...) where x's cells can be read and s is one's own. -/
theorem run_append_row {t ty e : TypeId} {i : TypeInfo} {z : Value} (ht : P.underlying t = some (.slice e)) (hi : P.info? e = some i) (hz : i.zero = some z) (hzs : z.cells.size = i.size) (hsz : 0 < i.size)
    {v : Value} {k : Nat} {xs : List Value} {w : World} {M : Kn} {h hf : Res} (dj : h.dj hf) (s : Sat w M (h.add hf)) (hr : RowAt e i.size v k xs M h)
    {a : Addr} {m c : Nat} {news : List Value} (hl : news.length = m * i.size) (hnews : ∀ j u, news[j]? = some u → w.cell? (a.add j) = some u) (h1 : ∀ u ∈ news, oneCell u = true)
    (hbytes : (k + m) * i.bytes ≤ 140737488355328) (h63 : k + m ≤ maxLen) :
    ∃ v' w' h', (Builtin.append_ #[t, t] ty #[v, .slice (some a) m c]).run P w = .ok v' w' ∧ h'.dj hf ∧ Sat w' M (h'.add hf) ∧ RowAt e i.size v' (k + m) (xs ++ news) M h' := by
 have h1' : ∀ u ∈ news, u.oneCell' = true := fun u hu => oneCell_iff.1 (h1 u hu)
 have hsmall : k + m ≤ 9223372036854775807 := by simp only [maxLen] at h63; omega
 have grown : ∀ (old : Nat), old < k + m → xs.length = k * i.size → ∃ h', h'.dj hf ∧ Sat (w.drew.alloc (.cells (xs.toArray ++ news.toArray ++ Builtin.zeroCells z.cells (grownCap w (k + m) old e - (k + m))) e)) M (h'.add hf) ∧
     RowAt e i.size (.slice (some ⟨w.heap.size, 0, none⟩) (k + m) (grownCap w (k + m) old e)) (k + m) (xs ++ news) M h' := by
  intro old ho hxl
  have hge := grownCap_ge w (k + m) old e
  have hcm : grownCap w (k + m) old e ≤ maxLen := grownCap_le_maxLen w (k + m) old e h63
  have s2 := s.drew.alloc (.cells (xs.toArray ++ news.toArray ++ Builtin.zeroCells z.cells (grownCap w (k + m) old e - (k + m))) e)
  obtain ⟨f1, f2⟩ := fresh_none s.drew
  obtain ⟨f3, f4⟩ := Res.add_none.1 f2
  refine ⟨Res.one w.heap.size (.cells (xs.toArray ++ news.toArray ++ Builtin.zeroCells z.cells (grownCap w (k + m) old e - (k + m))) e), one_dj f4, s2.le ?_, .inr ⟨w.heap.size, _, xs ++ news ++ (Builtin.zeroCells z.cells (grownCap w (k + m) old e - (k + m))).toList, rfl, hge, hcm, ?_, ?_, ?_, ?_⟩⟩
  · intro b o e
    simp only [Res.add] at e ⊢
    show (match Res.one w.heap.size _ b with | some o => some o | none => _) = _
    cases eb : Res.one w.heap.size (Obj.cells (xs.toArray ++ news.toArray ++ Builtin.zeroCells z.cells (grownCap w (k + m) old _ - (k + m))) _) b with
    | some u => rw [eb] at e; simpa using e
    | none =>
      rw [eb] at e
      rcases dj b with x | x
      · simpa [x] using e
      · have e' : hf b = some o := e
        rw [x] at e'; cases e'
  · simp only [List.length_append, Array.length_toList, size_zeroCells, hzs, hxl, hl, ← Nat.add_mul]
    congr 1
    omega
  · simp [hxl, hl, Nat.add_mul]
  · have : (xs ++ news).length = (k + m) * i.size := by simp [hxl, hl, Nat.add_mul]
    rw [← this]
    exact List.take_left
  · congr 2
    apply Array.ext'
    simp
 rcases hr with ⟨rfl, rfl, rfl⟩ | ⟨g, cap, cur, rfl, hkc, hcm, hcl, hxl, htake, rfl⟩
 · by_cases hm : m = 0
   · subst hm
     have hn : news = [] := List.eq_nil_of_length_eq_zero (by simpa using hl)
     subst hn
     refine ⟨.slice none 0 0, w, h, ?_, dj, s, .inl ⟨rfl, rfl, rfl⟩⟩
     simp [Builtin.append_, run_underlying ht, sizeOf, typeInfo, hi, Builtin.lenOf, Builtin.firstCells, loadCells, loadCellsFrom]
   · have hr := run_append_nil (P := P) w t ty e i z ht hi hz a m c news hl hnews (by omega) (by omega) (by simp only [Nat.zero_add] at hbytes; omega)
     obtain ⟨h', d', s', r'⟩ := grown 0 (by omega) (by simp)
     simp only [Nat.zero_add, List.nil_append, Array.empty_append] at d' s' r' ⊢
     exact ⟨_, _, h', hr, d', s', r'⟩
 · have hg : w.heap[g]? = some (.cells cur.toArray e (0, 0)) := s.ow _ _ (by simp [Res.add, Res.one])
   by_cases hroom : k + m ≤ cap
   · have hfit : k * i.size + news.length ≤ cur.toArray.size := by simp only [List.size_toArray]; rw [hl, hcl, ← Nat.add_mul]; exact Nat.mul_le_mul_right _ hroom
     have hr := run_append_room (P := P) w t ty e i ht hi g k cap cur.toArray hg a m c news hl hnews h1' hroom hfit
     refine ⟨_, _, Res.one g (.cells (cur.take (k * i.size) ++ news ++ cur.drop (k * i.size + news.length)).toArray e (0, 0)), hr, dj_one_any dj, Sat.setBlk dj s ?_ (fun j hj => ?_) ⟨rfl, rfl, rfl, by simp [World.setRow], up_rfl⟩, .inr ⟨g, cap, cur.take (k * i.size) ++ news ++ cur.drop (k * i.size + news.length), rfl, hroom, hcm, ?_, ?_, ?_, rfl⟩⟩
     · exact setRow_heap w g cur.toArray _ e _ hg
     · exact setRow_other w g j _ (fun x => hj x)
     · simp only [List.size_toArray] at hfit
       simp only [List.length_append, List.length_take, List.length_drop]
       omega
     · simp [hxl, hl, Nat.add_mul]
     · rw [htake]
       have : (xs ++ news).length = (k + m) * i.size := by simp [hxl, hl, Nat.add_mul]
       rw [← this]
       exact List.take_left
   · have holds : ∀ j u, xs[j]? = some u → w.cell? ((⟨g, 0, none⟩ : Addr).add j) = some u := by
       intro j u hj
       have hlt := (List.getElem?_eq_some_iff.1 hj).1
       rw [addr_add, Nat.zero_add]
       simp only [World.cell?, hg]
       rw [← htake, List.getElem?_take_of_lt (by omega)] at hj
       simpa using hj
     have hr := run_append_grow (P := P) w t ty e i z ht hi hz ⟨g, 0, none⟩ k cap xs hxl holds a m c news hl hnews (by omega) (by omega) (growslice_fits (by omega) hbytes)
     obtain ⟨h', d', s', r'⟩ := grown cap (by omega) hxl
     exact ⟨_, _, h', hr, d', s', r'⟩
/-- What is appended: cells of a block of one's own, or of one that never turns. -/
theorem opt_append {dst : Option Tmp} {ty t e : TypeId} {pos : String} {after : Array Edge} {x y : Operand} {i : TypeInfo} {z : Value} (ht : P.underlying t = some (.slice e)) (hi : P.info? e = some i) (hz : i.zero = some z) (hzs : Nat.beq z.cells.size i.size = true) {sz : Nat} (hsz : i.size = sz) (hs0 : Nat.blt 0 sz = true) {bytes : Nat} (hby : i.bytes = bytes)
    {v : Value} {k : Nat} {xs : List Value} {b off m c : Nat} {l news : List Value} {B : HP} (hx : ev L x = some v) (hy : ev L y = some (.slice (some ⟨b, off, none⟩) m c)) (sh : Shows B b l)
    (hl : news.length = m * sz) (hnews : (l.drop off).take (m * sz) = news) (h1 : news.all oneCell = true)
    (hbytes : (k + m) * bytes ≤ 140737488355328) (h63 : k + m ≤ maxLen) :
    OpT r P n ⟨dst, .call ⟨.builtin .append, #[x, y], #[t, t]⟩, ty, pos, after, none⟩ A L [Row e sz v k xs, B] (fun v' => v') (fun v' => ∃ a c, v' = .slice a (k + m) c) (fun v' => [Row e sz v' (k + m) (xs ++ news), B]) := by
 subst hsz; subst hby
 intro a f w M h hA hf dj dj' s sA t'
 obtain ⟨g1, g2, dg, e1, hrow, s2⟩ := s
 obtain ⟨g3, g4, dg2, e2, hB, _⟩ := s2
 subst e2; subst e1
 obtain ⟨d1, d2⟩ := Res.dj_add_right.1 dg
 obtain ⟨d3, d4⟩ := Res.dj_add_left.1 dj
 obtain ⟨d5, d6⟩ := Res.dj_add_left.1 dj'
 obtain ⟨d7, d8⟩ := Res.dj_add_left.1 d5
 have eq : ((g1.add (g3.add g4)).add hA).add hf = g1.add (((g3.add g4).add hA).add hf) := by simp only [Res.add_assoc]
 rw [eq] at t'
 have hcell : ∀ j u, news[j]? = some u → w.cell? ((⟨b, off, none⟩ : Addr).add j) = some u := by
  intro j u hj
  have hle : g3.le (((g3.add g4).add hA).add hf) := fun i o e => by simp [Res.add, e]
  have t2 : Sat w M ((((g3.add g4).add hA).add hf).add Res.emp) := by
   rw [Res.add_emp]
   exact t'.le (Res.le_add_right (Res.dj_add_right.2 ⟨Res.dj_add_right.2 ⟨dg, d3⟩, d7⟩))
  rw [addr_add, shows_cell sh t2 hle hB (off + j), ← drop_get]
  have hlt := (List.getElem?_eq_some_iff.1 hj).1
  rw [← hnews, List.getElem?_take_of_lt (by omega)] at hj
  exact hj
 obtain ⟨v', w', h', hr, djn, sn, rn⟩ := run_append_row (P := P) ht hi hz (Nat.eq_of_beq_eq_true hzs) (by simpa using hs0) (hf := ((g3.add g4).add hA).add hf) (Res.dj_add_right.2 ⟨Res.dj_add_right.2 ⟨dg, d3⟩, d7⟩) t' hrow hl hcell (fun u hu => List.all_eq_true.1 h1 u hu) hbytes h63 (ty := ty) (c := c)
 have hrun : (execOp a.eval ⟨dst, .call ⟨.builtin .append, #[x, y], #[t, t]⟩, ty, pos, after, none⟩).run P w = .ok (.value v') w' := by
  simp [execOp, resolve, f.ev hx, f.ev hy, invoke, builtin, hr]
 rw [hrun]
 obtain ⟨y1, y2⟩ := Res.dj_add_right.1 djn
 obtain ⟨y3, y4⟩ := Res.dj_add_right.1 y1
 refine ⟨v', M, h'.add (g3.add g4), rfl, rn.slice, Kn.le_refl _, Res.dj_add_left.2 ⟨y4, d4⟩, Res.dj_add_left.2 ⟨Res.dj_add_left.2 ⟨y2, d8⟩, d6⟩, ?_, h', g3.add g4, y3, rfl, rn, g3, g4, dg2, rfl, hB, trivial⟩
 have eq2 : ((h'.add (g3.add g4)).add hA).add hf = h'.add (((g3.add g4).add hA).add hf) := by simp only [Res.add_assoc]
 rw [eq2]; exact sn
theorem row_nil {e : TypeId} {sz : Nat} : Ent Hs (Row e sz (.slice none 0 0) 0 [] :: Hs) := ⟨fun {M h} s => ⟨Res.emp, h, Res.emp_dj _, rfl, .inl ⟨rfl, rfl, rfl⟩, s⟩⟩
end
end
section
open Go.RowKit (Below)
theorem SpF.of_same {P : Program} {f : FuncId} {args : List Value} {v : Value} (en : ∀ (args : Array Value) (w : World), (callFunc f args).run P w = .ok (.enter f args) w)
    (h : ∀ w, Calls P f args.toArray w fun e w' => e = .returned v ∧ w' = w) : SpF P f args v := by
 refine ⟨en, fun w M m hf d t s => callsIn_wide.2 ((h w).mono ?_)⟩
 rintro e w' ⟨rfl, rfl⟩
 exact ⟨(), M, m, rfl, trivial, Kn.le_refl _, d, t, trivial⟩
/-- A law's contract: all that there was is as it was. -/
theorem Sp.law {P : Program} {f : FuncId} {args : List Value} {As : List HP} {v : Value} {Bs : Unit → List HP} (sp : Sp P f args As (X := Unit) (fun _ => v) (fun _ => True) Bs) (w : World)
    (hA : SL As ⟨fun b => w.heap[b]?, w⟩ Res.emp) : Calls P f args.toArray w fun e w' => e = .returned v ∧ Below w.heap.size w w' := by
 have t : Sat w ⟨fun b => w.heap[b]?, w⟩ (Res.emp.add Res.emp) := ⟨fun _ _ e => e, fun _ _ e => by simp [Res.add, Res.emp] at e, fun _ => .inr rfl, Env.refl w⟩
 refine (callsIn_wide.1 (sp.calls w _ Res.emp Res.emp (Res.dj_emp _) t hA)).mono ?_
 rintro e w' ⟨x, M', h', rfl, _, l, _, t', _⟩
 have en := t'.env
 rw [← l.2] at en
 refine ⟨rfl, en.os, en.tape, en.output, en.size, fun k hk => ?_⟩
 have e1 : w.heap[k]? = some w.heap[k] := Array.getElem?_eq_getElem hk
 rw [e1]
 exact t'.im k _ (l.1 k _ e1)
end
section
open Go.RowKit (Below)
instance (priority := 900) {b : Nat} {l : List Value} {B C : List HP} [h : RdCe b l B] : RdCe b l (B ++ C) := ⟨by
 obtain ⟨A, s, p⟩ := h.get
 refine ⟨A, s, ?_⟩
 clear h s
 induction p with
 | here => exact .here
 | there _ ih => exact .there ih⟩
instance (priority := 800) {b : Nat} {l : List Value} {B C : List HP} [h : RdCe b l C] : RdCe b l (B ++ C) := ⟨by
 obtain ⟨A, s, p⟩ := h.get
 refine ⟨A, s, ?_⟩
 clear h s
 induction B with
 | nil => exact p
 | cons _ _ ih => exact .there ih⟩
instance (priority := 900) {b : Nat} {T : TypeId} {l l' : List Value} {B B' C : List HP} [h : UpCe b T l l' B B'] : UpCe b T l l' (B ++ C) (B' ++ C) := ⟨by
 have u := h.get
 clear h
 induction u with
 | here => exact .here
 | there _ ih => exact .there ih⟩
instance (priority := 800) {b : Nat} {T : TypeId} {l l' : List Value} {B C C' : List HP} [h : UpCe b T l l' C C'] : UpCe b T l l' (B ++ C) (B ++ C') := ⟨by
 have u := h.get
 clear h
 induction B with
 | nil => exact u
 | cons _ _ ih => exact .there ih⟩
instance (priority := 900) {b off : Nat} {v : Value} {T : TypeId} {l : List Value} {B B' C : List HP} [h : StC b off v T l B B'] : StC b off v T l (B ++ C) (B' ++ C) := ⟨by
 have u := h.get
 clear h
 induction u with
 | here => exact .here
 | there _ ih => exact .there ih⟩
instance (priority := 800) {b off : Nat} {v : Value} {T : TypeId} {l : List Value} {B C C' : List HP} [h : StC b off v T l C C'] : StC b off v T l (B ++ C) (B ++ C') := ⟨by
 have u := h.get
 clear h
 induction B with
 | nil => exact u
 | cons _ _ ih => exact .there ih⟩
instance (priority := 900) {b off : Nat} {vs : List Value} {T : TypeId} {l : List Value} {B B' C : List HP} [h : StsC b off vs T l B B'] : StsC b off vs T l (B ++ C) (B' ++ C) := ⟨by
 have u := h.get
 clear h
 induction u with
 | here => exact .here
 | there _ ih => exact .there ih⟩
instance (priority := 800) {b off : Nat} {vs : List Value} {T : TypeId} {l : List Value} {B C C' : List HP} [h : StsC b off vs T l C C'] : StsC b off vs T l (B ++ C) (B ++ C') := ⟨by
 have u := h.get
 clear h
 induction B with
 | nil => exact u
 | cons _ _ ih => exact .there ih⟩
instance (priority := 900) {A : HP} {B B' C : List HP} [h : PickC A B B'] : PickC A (B ++ C) (B' ++ C) := ⟨by
 have u := h.get
 clear h
 induction u with
 | here => exact .here
 | keep p => exact .keep p
 | there _ ih => exact .there ih⟩
instance (priority := 800) {A : HP} {B C C' : List HP} [h : PickC A C C'] : PickC A (B ++ C) (B ++ C') := ⟨by
 have u := h.get
 clear h
 induction B with
 | nil => exact u
 | cons _ _ ih => exact .there ih⟩
instance (priority := 900) {A : HP} {B C : List HP} [h : HasC A B] : HasC A (B ++ C) := ⟨by
 have u := h.get
 clear h
 induction u with
 | here => exact .here
 | there _ ih => exact .there ih⟩
instance (priority := 800) {A : HP} {B C : List HP} [h : HasC A C] : HasC A (B ++ C) := ⟨by
 have u := h.get
 clear h
 induction B with
 | nil => exact u
 | cons _ _ ih => exact .there ih⟩
theorem sl_ex {X : Type} {f : X → HP} {Hs : List HP} {M : Kn} {h : Res} (s : SL (Ex f :: Hs) M h) : ∃ x, SL (f x :: Hs) M h := by
 obtain ⟨h1, h2, d, e, ⟨x, a⟩, t⟩ := s
 exact ⟨x, h1, h2, d, e, a, t⟩
theorem sl_al {As Hs : List HP} {M : Kn} {h : Res} (s : SL (Al As :: Hs) M h) : SL (As ++ Hs) M h := by
 obtain ⟨h1, h2, d, e, a, t⟩ := s
 subst e
 exact SL.append d a t
theorem sl_pu {p : Prop} {Hs : List HP} {M : Kn} {h : Res} (s : SL (Pu p :: Hs) M h) : p ∧ SL Hs M h := by
 obtain ⟨h1, h2, d, e, a, t⟩ := s
 subst e
 exact ⟨a, SL.more d t⟩
/-! Shutting. -/
theorem ent_ex {X : Type} {f : X → HP} {Hs Rs : List HP} (x : X) (e : Ent Hs (f x :: Rs)) : Ent Hs (Ex f :: Rs) := ⟨fun s => by
 obtain ⟨h1, h2, d, e', a, t⟩ := e s
 exact ⟨h1, h2, d, e', ⟨x, a⟩, t⟩⟩
theorem ent_al {As Hs Rs Gs : List HP} [q : AppC As Rs Gs] (e : Ent Hs Gs) : Ent Hs (Al As :: Rs) := ⟨fun s => by
 have s2 := e s
 rw [← q.get] at s2
 obtain ⟨h1, h2, d, e', a, t⟩ := SL.split s2
 exact ⟨h1, h2, d, e', a, t⟩⟩
theorem ent_pu {p : Prop} {Hs Rs : List HP} (hp : p) (e : Ent Hs Rs) : Ent Hs (Pu p :: Rs) := ⟨fun {M h} s => ⟨Res.emp, h, Res.emp_dj _, rfl, hp, e s⟩⟩
/-- First what is picked; the rest out of what is left. -/
theorem ent_cons {A : HP} {Hs Rs Gs : List HP} [h : PickC A Hs Rs] (e : Ent Rs Gs) : Ent Hs (A :: Gs) := ⟨fun s => by
 obtain ⟨h1, h2, d, e', a, t⟩ := h.get.sat s
 exact ⟨h1, h2, d, e', a, e t⟩⟩
theorem ent_step {A : HP} {Hs Rs Gs : List HP} (e : Ent Hs (A :: Rs)) (k : Ent Rs Gs) : Ent Hs (A :: Gs) := ⟨fun s => by
 obtain ⟨h1, h2, d, e', a, t⟩ := e s
 exact ⟨h1, h2, d, e', a, k t⟩⟩
section
variable {r : Option Nat} {P : Program} {n : Nat} {ops : Array Oper} {os : List Oper} {L : Loc} {Hs : List HP} {Q : Out} {c : Code}
theorem wc_exi {X : Type} {f : X → HP} (k : ∀ x, wc r P n c L (f x :: Hs) Q) : wc r P n c L (Ex f :: Hs) Q := wc_ex sl_ex k
theorem wc_al {As Rs : List HP} [q : AppC As Hs Rs] (k : wc r P n c L Rs Q) : wc r P n c L (Al As :: Hs) Q := wc_ent' ⟨fun s => by rw [← q.get]; exact sl_al s⟩ k
theorem wc_pu {p : Prop} (k : p → wc r P n c L Hs Q) : wc r P n c L (Pu p :: Hs) Q := by
 intro a M m s
 obtain ⟨g1, g2, dg, e, y, s2⟩ := s.2
 obtain ⟨hp, s3⟩ := sl_pu s2
 exact k hp a M m ⟨s.1, g1, g2, dg, e, y, s3⟩
theorem wc_front (A : HP) {Rs : List HP} [h : PickC A Hs Rs] (k : wc r P n c L (A :: Rs) Q) : wc r P n c L Hs Q := wc_ent' (Picks.ent (.cons h.get .nil)) k
/-- A block is given up for good: all may read it from now on. -/
theorem freeze_sat {b : Nat} {o : Obj} {w : World} {M : Kn} {h : Res} (d : (Res.one b o).dj h) (t : Sat w M ((Res.one b o).add h)) : ∃ M' : Kn, M.le M' ∧ M'.im b = some o ∧ Sat w M' h := by
 have hM : M.im b = none := by
  rcases t.dj b with e | e
  · exact e
  · simp [Res.add, Res.one] at e
 have hh : h b = none := by
  rcases d b with e | e
  · simp [Res.one] at e
  · exact e
 refine ⟨⟨fun i => if i = b then some o else M.im i, M.g⟩, ⟨fun i u e => ?_, rfl⟩, by simp, ⟨fun i u e => ?_, fun i u e => ?_, fun i => ?_, t.env⟩⟩
 · have : i ≠ b := fun x => by subst x; rw [hM] at e; cases e
   simp [this, e]
 · by_cases hi : i = b
   · subst hi; simp at e; subst e; exact t.ow _ _ (by simp [Res.add, Res.one])
   · simp only [hi, if_false] at e; exact t.im i u e
 · exact t.ow i u (Res.le_add_right d i u e)
 · by_cases hi : i = b
   · subst hi; exact .inr hh
   · rcases t.dj i with e | e
     · exact .inl (by simp [hi, e])
     · exact .inr (by simpa [Res.add, Res.one, hi] using e)
end
end
section
/-- What a round's jump is. -/
def jc : Option Nat → Code
 | none => .ret
 | some id => .exit id
/-- A value that one may call as yield: on each element: on, or no more. -/
def YSpec (P : Program) {α : Type} (y : Value) (enc : α → List Value) (ok : List α → α → Prop) (J Jx : List α → HP) : Prop :=
 ∃ l, y = .func (.yield l) #[] #[] ∧ ∀ (pre : List α) (x : α), ok pre x → ∀ (w : World) (M : Kn) (h hf : Res), h.dj hf → Sat w M (h.add hf) → (J pre).at_ M h →
  ∃ fn tmps assign body, (Instr.yield l (enc x).toArray).run P w = .ok (.round l fn tmps assign body) w ∧
   RoundIn (WF none) 0 P l fn tmps assign body w (fun e w' => ∃ (b : Bool) (M' : Kn) (h' : Res), e = .returned (.bool b) ∧ M.le M' ∧ h'.dj hf ∧ Sat w' M' (h'.add hf) ∧ (if b then J (pre ++ [x]) else Jx (pre ++ [x])).at_ M' h')
/-- What one has behind a walk: it went to its end, or was stopped. -/
def endsAt {α : Type} (J Jx : List α → HP) (all : List α) : Option (List α) → HP
 | none => J all
 | some pre => Jx pre
/-- What a function value does when it is ranged over. -/
def Iter (P : Program) {α : Type} (g : Nat) (lb : List Value) (enc : α → List Value) (ok : List α → α → Prop) (stopped : List α → Prop) (As Bs : List HP) (all : List α) (val : Option (List α) → Value) : Prop :=
 ∀ (y : Value) (J Jx : List α → HP), YSpec P y enc ok J Jx → Sp P g (y :: lb) (J [] :: As) (X := Option (List α)) val (fun x => ∀ pre, x = some pre → stopped pre) (fun x => endsAt J Jx all x :: Bs)
/-- The same, where the order is drawn on the way: what is known of it behind the walk. -/
def IterU (P : Program) {α : Type} (g : Nat) (lb : List Value) (enc : α → List Value) (ok : List α → α → Prop) (stopped : List α → Prop) (As Bs : List HP) (fin : List α → Prop) (val : Option (List α) → Value) : Prop :=
 ∀ (y : Value) (J Jx : List α → HP), YSpec P y enc ok J Jx → Sp P g (y :: lb) (J [] :: As) (X := Option (List α) × List α) (fun x => val x.1) (fun x => (∀ pre, x.1 = some pre → stopped pre) ∧ (x.1 = none → fin x.2)) (fun x => endsAt J Jx x.2 x.1 :: Bs)
theorem Iter.toU {P : Program} {α : Type} {g : Nat} {lb : List Value} {enc : α → List Value} {ok : List α → α → Prop} {stopped : List α → Prop} {As Bs : List HP} {all : List α} {val : Option (List α) → Value}
    (it : Iter P g lb enc ok stopped As Bs all val) : IterU P g lb enc ok stopped As Bs (fun l => l = all) val :=
 fun y J Jx ys => (it y J Jx ys).mono (Ent.refl _) fun x hx => ⟨(x, all), rfl, ⟨hx, fun _ => rfl⟩, Ent.refl _⟩
def bindL : List Tmp → List Value → Loc → Loc
 | p :: ps, v :: vs, L => bindL ps vs ((p, v) :: L)
 | _, _, L => L
/-- The ways out of a round. -/
def roundO {α : Type} (I : List α → List HP) (Ix : Option Nat → List α → List HP) (xs : List α) : Out
 | .normal => fun _ M h => SL (I xs) M h
 | .ret => fun _ M h => SL (Ix none xs) M h
 | .exit id => fun _ M h => SL (Ix (some id) xs) M h
 | _ => fun _ _ _ => False
def asgO (r : Option Nat) (P : Program) (y : Code) (Q : Out) : Out := thenO (wout r P y Q) (fun _ _ _ _ => False)
section
variable {r : Option Nat} {P : Program} {n : Nat} {ops : Array Oper} {os : List Oper} {A : List HP} {L : Loc} {Hs : List HP} {Q : Out} {ty : TypeId} {d : Nat} {pos : String} {after : Array Edge} {c : Code}
theorem q_asg {y : Code} (h : wc r P n y L Hs Q) : wo r P n ops [] L Hs (asgO r P y Q) := wo_nil (to_then h)
theorem to_round {α : Type} {I : List α → List HP} {Ix : Option Nat → List α → List HP} {xs : List α} (e : Ent Hs (I xs)) : tw n (roundO I Ix xs) .normal L Hs := by
 rintro a M h ⟨_, h1, h2, d, e', _, s⟩
 subst e'
 exact SL.more d (e s)
theorem to_round_ret {α : Type} {I : List α → List HP} {Ix : Option Nat → List α → List HP} {xs : List α} (e : Ent Hs (Ix none xs)) : tw n (roundO I Ix xs) .ret L Hs := by
 rintro a M h ⟨_, h1, h2, d, e', _, s⟩
 subst e'
 exact SL.more d (e s)
theorem to_round_exit {α : Type} {I : List α → List HP} {Ix : Option Nat → List α → List HP} {xs : List α} (id : Nat) (e : Ent Hs (Ix (some id) xs)) : tw n (roundO I Ix xs) (.exit id) L Hs := by
 rintro a M h ⟨_, h1, h2, d, e', _, s⟩
 subst e'
 exact SL.more d (e s)
theorem fr_bind : ∀ (ps : List Tmp) (vs : List Value) {L : Loc} {t : Array Value}, (∀ p ∈ ps, p < n) → (n ≤ t.size ∧ ∀ i v, lk L i = some v → t[i]? = some v) →
    (n ≤ ((ps.zip vs).foldl (fun t (p, v) => t.setIfInBounds p v) t).size ∧ ∀ i v, lk (bindL ps vs L) i = some v → ((ps.zip vs).foldl (fun t (p, v) => t.setIfInBounds p v) t)[i]? = some v) := by
 intro ps
 induction ps with
 | nil => intro vs L t _ h; simpa [bindL] using h
 | cons p ps ih =>
   intro vs L t hp h
   cases vs with
   | nil => simpa [bindL] using h
   | cons v vs =>
     simp only [bindL, List.zip_cons_cons, List.foldl_cons]
     refine ih vs (fun q hq => hp q (by simp [hq])) ?_
     have f : Fr n L { tmps := t, defers := [] } := h
     have := f.put (d := p) (v := v) (by simpa using hp p (by simp))
     simpa [Fr, Act.put] using this
/-- for .. := range f { .. } -/
theorem wc_rangeFunc {α : Type} {f : Operand} {ps : Array Tmp} {assign body : Code} {g : Nat} {lb : List Value} {enc : α → List Value} {ok : List α → α → Prop} {stopped : List α → Prop} {As Bs : List HP} {fin : List α → Prop} {val : Option (List α) → Value}
    (I : List α → List HP) (Ix : Option Nat → List α → List HP)
    (hf : ev L f = some (.func (.func g) #[] lb.toArray))
    (it : IterU P g lb enc ok stopped As Bs fin val)
    (hps : ∀ x, (enc x).length = ps.size) (hpn : ps.toList.all (fun p => Nat.blt p n) = true)
    (ha : Ent Hs (I [] ++ As))
    (round : ∀ (l : Nat) (pre : List α) (x : α), ok pre x → wc (some l) P n assign (bindL ps.toList (enc x) L) (I pre) (asgO (some l) P body (roundO I Ix (pre ++ [x]))))
    (done : ∀ all, fin all → tw n Q .normal L (I all ++ Bs))
    (stop : ∀ (j : Option Nat) (pre : List α), stopped pre → wc none P n (jc j) L (Ix j pre ++ Bs) Q) :
    wc none P n (.rangeFunc f ps assign body) L Hs Q := by
 intro a M h st w hfr dj t
 obtain ⟨fr, g1, g2, dg, e, sd, s2⟩ := st
 subst e
 obtain ⟨kI, kA, dIA, e, sI, sA⟩ := SL.split (ha s2)
 subst e
 refine wpIn_rangeFunc ?_
 intro fn hfn
 obtain ⟨rec, hrec⟩ : ∃ rec : LoopState → Option Code → Loop, rec = fun st pe => { state := st, pending := pe, fn, tmps := a.tmps, params := ps, assign, body, defers := w.heap.size } := ⟨_, rfl⟩
 obtain ⟨W1, hW1⟩ : ∃ W1, (w.alloc (.deferred (some []))).alloc (.loop (rec .ready none)) = W1 := ⟨_, rfl⟩
 have hsz : (w.alloc (.deferred (some []))).heap.size = w.heap.size + 1 := by simp
 have tD := t.alloc (.deferred (some []))
 have tL := tD.alloc (.loop (rec .ready none))
 obtain ⟨_, f1⟩ := fresh_none t
 obtain ⟨_, f2⟩ := fresh_none tD
 rw [hsz] at tL f2
 rw [hW1] at tL
 refine ⟨w.heap.size + 1, [{ target := .collected w.heap.size, args := #[] }], W1, { target := .fn (.func g) lb.toArray, args := #[.func (.yield (w.heap.size + 1)) #[] #[]] }, W1, g,
  #[.func (.yield (w.heap.size + 1)) #[] #[]] ++ lb.toArray, W1, ?_, ?_, fun _ _ => trivial, ?_, (fun e => by cases e), ?_⟩
 · rw [← hW1, hrec]; exact run_enterLoop_outer _ _ _ _ _
 · simp only [resolve, rangeCall]
   rw [fr.ev hf]
   simp [go_sem]
 · have := (it (.func (.yield (w.heap.size + 1)) #[] #[]) (fun _ => ⟨fun _ _ => False, fun _ e => e⟩) (fun _ => ⟨fun _ _ => False, fun _ e => e⟩) ⟨_, rfl, fun _ _ _ _ _ _ _ _ _ e => e.elim⟩).enters
   simp [invoke, go_sem]
   exact this _ _
 ·
  have ys : YSpec P (.func (.yield (w.heap.size + 1)) #[] #[]) enc ok (fun pre => Al (Blk (w.heap.size + 1) (.loop (rec .ready none)) :: I pre))
      (fun pre => Ex fun j : Option Nat => Al (Blk (w.heap.size + 1) (.loop (rec .done (some (jc j)))) :: Ix j pre)) := by
   refine ⟨_, rfl, fun pre x hok w' M' h' hf' dj' t' hj => ?_⟩
   obtain ⟨p1, p2, dp, e, hp1, sp2⟩ := hj
   have hp1' : p1 = Res.one _ _ := hp1
   subst hp1'
   subst e
   have hl : w'.heap[w.heap.size + 1]? = some (.loop (rec .ready none)) := t'.ow _ _ (by simp [Res.add, Res.one])
   have hy := run_yield (P := P) (args := (enc x).toArray) hl (by rw [hrec]; simpa using hps x)
   refine ⟨_, _, _, _, hy, roundIn_of_wpIn (F := WF none) trivial ?_⟩
   have e1 : (rec .ready none).assign = assign := by rw [hrec]
   have e2 : (rec .ready none).body = body := by rw [hrec]
   have e3 : (rec .ready none).tmps = a.tmps := by rw [hrec]
   have e4 : (rec .ready none).params = ps := by rw [hrec]
   rw [e1, e2, e3, e4]
   obtain ⟨dj1, dj2⟩ := Res.dj_add_left.1 dj'
   have hfold : (ps.zip (enc x).toArray).foldl (fun t (p, v) => t.setIfInBounds p v) a.tmps = (ps.toList.zip (enc x)).foldl (fun t (p, v) => t.setIfInBounds p v) a.tmps := by
    rw [← Array.foldl_toList]; simp
   rw [hfold]
   have hfr : Fr n (bindL ps.toList (enc x) L) { tmps := (ps.toList.zip (enc x)).foldl (fun t (p, v) => t.setIfInBounds p v) a.tmps, defers := [] } :=
    fr_bind ps.toList (enc x) (fun p hp => by have := List.all_eq_true.1 hpn p hp; simpa using this) fr
   have d2 : p2.dj ((Res.one (w.heap.size + 1) (.loop (rec .ready none))).add hf') := Res.dj_add_right.2 ⟨Res.dj_comm dp, dj2⟩
   have t2 : Sat w' M' (p2.add ((Res.one (w.heap.size + 1) (.loop (rec .ready none))).add hf')) := by
    rw [← Res.add_assoc, ← Res.add_comm dp]; exact t'
   have hw := round (w.heap.size + 1) pre x hok _ M' p2 ⟨hfr, Res.emp, p2, Res.emp_dj _, rfl, trivial, sp2⟩ w' _ d2 t2
   refine wpIn_mono (F := WF (some (w.heap.size + 1))) hw ?_
   rintro ex a1 w1 ⟨M1, h1, le1, dj3, t3, q1⟩
   cases ex with
   | normal =>
     have q1' : wout (some (w.heap.size + 1)) P body (roundO I Ix (pre ++ [x])) a1 M1 h1 := q1
     obtain ⟨y1, y2⟩ := Res.dj_add_right.1 dj3
     have hb : w1.heap[w.heap.size + 1]? = some (.loop (rec .ready none)) := t3.ow _ _ (Res.le_add_right dj3 _ _ (by simp [Res.add, Res.one]))
     refine ⟨_, run_beginRound hb (by rw [hrec]), ?_⟩
     have dA : (Res.one (w.heap.size + 1) (.loop (rec .ready none))).dj (h1.add hf') := Res.dj_add_right.2 ⟨Res.dj_comm y1, dj1⟩
     have hcomm : ∀ o : Obj, h1.dj (Res.one (w.heap.size + 1) o) → h1.add ((Res.one (w.heap.size + 1) o).add hf') = (Res.one (w.heap.size + 1) o).add (h1.add hf') := fun o dd => by
      rw [← Res.add_assoc, Res.add_comm dd, Res.add_assoc]
     rw [hcomm _ y1] at t3
     have t4 := Sat.putObj (o' := .loop { rec .ready none with state := .busy }) dA t3
     have dB : (Res.one (w.heap.size + 1) (.loop { rec .ready none with state := .busy })).dj (h1.add hf') := dj_one_any dA
     have dB1 := (Res.dj_add_right.1 dB).1
     rw [← hcomm _ (Res.dj_comm dB1)] at t4
     refine wpIn_mono (F := WF (some (w.heap.size + 1))) (q1' _ _ (Res.dj_add_right.2 ⟨Res.dj_comm dB1, y2⟩) t4) ?_
     have fin : ∀ (jump : Option Code) (M2 : Kn) (h2 : Res) (w2 : World), M1.le M2 → h2.dj ((Res.one (w.heap.size + 1) (.loop { rec .ready none with state := .busy })).add hf') → Sat w2 M2 (h2.add ((Res.one (w.heap.size + 1) (.loop { rec .ready none with state := .busy })).add hf')) →
         ∃ w3, (Instr.endRound (w.heap.size + 1) jump).run P w2 = .ok (.bool jump.isNone) w3 ∧ (Res.one (w.heap.size + 1) (.loop (rec (if jump.isNone then .ready else .done) jump))).dj h2 ∧
          ((Res.one (w.heap.size + 1) (.loop (rec (if jump.isNone then .ready else .done) jump))).add h2).dj hf' ∧ Sat w3 M2 (((Res.one (w.heap.size + 1) (.loop (rec (if jump.isNone then .ready else .done) jump))).add h2).add hf') := by
      intro jump M2 h2 w2 le2 dj5 t5
      have hb2 : w2.heap[w.heap.size + 1]? = some (.loop { rec .ready none with state := .busy }) := t5.ow _ _ (Res.le_add_right dj5 _ _ (by simp [Res.add, Res.one]))
      have hr := run_endRound (P := P) jump hb2
      obtain ⟨z1, z2⟩ := Res.dj_add_right.1 dj5
      have eqq : h2.add ((Res.one (w.heap.size + 1) (.loop { rec .ready none with state := .busy })).add hf') = (Res.one (w.heap.size + 1) (.loop { rec .ready none with state := .busy })).add (h2.add hf') := by
       rw [← Res.add_assoc, Res.add_comm z1, Res.add_assoc]
      rw [eqq] at t5
      have dC : (Res.one (w.heap.size + 1) (.loop { rec .ready none with state := .busy })).dj (h2.add hf') := Res.dj_add_right.2 ⟨Res.dj_comm z1, dj_one_any dj1⟩
      have t6 := Sat.putObj (o' := .loop (rec (if jump.isNone then .ready else .done) jump)) dC t5
      have dD : (Res.one (w.heap.size + 1) (.loop (rec (if jump.isNone then .ready else .done) jump))).dj (h2.add hf') := dj_one_any dC
      obtain ⟨v1, v2⟩ := Res.dj_add_right.1 dD
      refine ⟨_, ?_, v1, Res.dj_add_left.2 ⟨v2, z2⟩, by rw [Res.add_assoc]; exact t6⟩
      rw [hr, hrec]
     rintro e2 a2 w2 ⟨M2, h2, le2, dj5, t5, q2⟩
     cases e2 with
     | normal =>
       obtain ⟨w3, r1, r2, r3, r4⟩ := fin none M2 h2 w2 le2 dj5 t5
       exact ⟨_, w3, r1, true, M2, _, rfl, Kn.le_trans le1 le2, r3, r4, _, _, r2, rfl, rfl, q2⟩
     | ret =>
       obtain ⟨w3, r1, r2, r3, r4⟩ := fin (some .ret) M2 h2 w2 le2 dj5 t5
       exact ⟨_, w3, r1, false, M2, _, rfl, Kn.le_trans le1 le2, r3, r4, none, _, _, r2, rfl, rfl, q2⟩
     | exit id =>
       obtain ⟨w3, r1, r2, r3, r4⟩ := fin (some (.exit id)) M2 h2 w2 le2 dj5 t5
       exact ⟨_, w3, r1, false, M2, _, rfl, Kn.le_trans le1 le2, r3, r4, some id, _, _, r2, rfl, rfl, q2⟩
     | goto _ => exact q2.elim
     | panic _ => exact q2.elim
     | outgrown => exact q2.elim
   | ret => exact q1.elim
   | exit _ => exact q1.elim
   | goto _ => exact q1.elim
   | panic _ => exact q1.elim
   | outgrown => exact q1.elim
  have sp := it _ _ _ ys
  -- resources
  obtain ⟨dg1, dg2⟩ := Res.dj_add_right.1 dg
  obtain ⟨q1, q2⟩ := Res.dj_add_left.1 dj
  obtain ⟨q3, q4⟩ := Res.dj_add_left.1 q2
  let D : Res := Res.one w.heap.size (.deferred (some []))
  let Lp : Res := Res.one (w.heap.size + 1) (.loop (rec .ready none))
  have dLp : Lp.dj (D.add ((g1.add (kI.add kA)).add hfr)) := one_dj f2
  have dD : D.dj ((g1.add (kI.add kA)).add hfr) := one_dj f1
  obtain ⟨a1, a2⟩ := Res.dj_add_right.1 dLp
  obtain ⟨a3, a4⟩ := Res.dj_add_right.1 a2
  obtain ⟨a5, a6⟩ := Res.dj_add_right.1 a3
  obtain ⟨a7, a8⟩ := Res.dj_add_right.1 a6
  obtain ⟨b3, b4⟩ := Res.dj_add_right.1 dD
  obtain ⟨b5, b6⟩ := Res.dj_add_right.1 b3
  obtain ⟨b7, b8⟩ := Res.dj_add_right.1 b6
  have eqr : Lp.add (D.add ((g1.add (kI.add kA)).add hfr)) = ((Lp.add kI).add kA).add ((D.add g1).add hfr) := by
   funext i
   simp only [Res.add]
   have c1 := b7 i; have c2 := b8 i; have c3 := b5 i; have c4 := dg1 i; have c5 := dg2 i
   revert c1 c2 c3 c4 c5
   cases Lp i <;> cases D i <;> cases g1 i <;> cases kI i <;> cases kA i <;> simp
  have tL' : Sat W1 M (((Lp.add kI).add kA).add ((D.add g1).add hfr)) := by rw [← eqr]; exact tL
  have djr : ((Lp.add kI).add kA).dj ((D.add g1).add hfr) := by
   refine Res.dj_add_left.2 ⟨Res.dj_add_left.2 ⟨?_, ?_⟩, ?_⟩
   · exact Res.dj_add_right.2 ⟨Res.dj_add_right.2 ⟨a1, a5⟩, a4⟩
   · exact Res.dj_add_right.2 ⟨Res.dj_add_right.2 ⟨Res.dj_comm b7, Res.dj_comm dg1⟩, q3⟩
   · exact Res.dj_add_right.2 ⟨Res.dj_add_right.2 ⟨Res.dj_comm b8, Res.dj_comm dg2⟩, q4⟩
  have cc := sp.calls W1 M ((Lp.add kI).add kA) ((D.add g1).add hfr) djr tL' ⟨Lp.add kI, kA, Res.dj_add_left.2 ⟨a8, dIA⟩, rfl, ⟨Lp, kI, a7, rfl, rfl, sI⟩, sA⟩
  have hargs : (Value.func (.yield (w.heap.size + 1)) #[] #[] :: lb).toArray = #[.func (.yield (w.heap.size + 1)) #[] #[]] ++ lb.toArray := by simp
  rw [hargs] at cc
  refine CallsIn.mono (F := WF none) cc ?_
  rintro ee w3 ⟨x, M3, h3, rfl, hx, le3, dj3, t3, s3⟩
  have stN : ∀ (o : Obj) (Gs : List HP) (m : Res), (Res.one (w.heap.size + 1) o).dj m → ((Res.one (w.heap.size + 1) o).add m).dj ((D.add g1).add hfr) → Sat w3 M3 (((Res.one (w.heap.size + 1) o).add m).add ((D.add g1).add hfr)) → SL Gs M3 m → ∀ o' : Obj,
      St n L Gs { a with defers := [{ target := .collected w.heap.size, args := #[] }] ++ a.defers } M3 ((D.add g1).add m) ∧ ((D.add g1).add m).dj hfr ∧ Sat (w3.putObj (w.heap.size + 1) o') M3 (((D.add g1).add m).add hfr) := by
   intro o Gs m dom djm tm sm o'
   obtain ⟨u1, u2⟩ := Res.dj_add_left.1 djm
   obtain ⟨u3, u4⟩ := Res.dj_add_right.1 u2
   obtain ⟨u5, u6⟩ := Res.dj_add_right.1 u3
   obtain ⟨u7, u8⟩ := Res.dj_add_right.1 u1
   refine ⟨⟨fr, D.add g1, m, Res.dj_comm u3, rfl, ?_, sm⟩, Res.dj_add_left.2 ⟨Res.dj_add_left.2 ⟨b4, q1⟩, u4⟩, ?_⟩
   · refine ⟨D, g1, b5, rfl, ⟨w.heap.size, Res.emp, D, Res.emp_dj _, rfl, rfl, D, Res.emp, Res.dj_emp _, (Res.add_emp _).symm, rfl, trivial⟩, SL.mono le3 sd⟩
   · rw [Res.add_assoc] at tm
     have dX : (Res.one (w.heap.size + 1) o).dj (m.add ((D.add g1).add hfr)) := Res.dj_add_right.2 ⟨dom, u1⟩
     have t7 := Sat.putObj (o' := o') dX tm
     have eq7 : m.add ((D.add g1).add hfr) = ((D.add g1).add m).add hfr := by rw [← Res.add_assoc, Res.add_comm u3]
     rw [eq7] at t7
     exact t7.le (Res.le_add_right (by rw [← eq7]; exact dj_one_any dX))
  obtain ⟨x, all⟩ := x
  obtain ⟨hx, hfin⟩ := hx
  dsimp only at hx hfin s3 ⊢
  obtain ⟨m1, m2, dm, e, sm1, sm2⟩ := s3
  subst e
  cases x with
  | none =>
    obtain ⟨o1, o2, do12, e, ho1, so2⟩ := sm1
    have ho1' : o1 = Res.one _ _ := ho1
    subst ho1'
    subst e
    have hb : w3.heap[w.heap.size + 1]? = some (.loop (rec .ready none)) := t3.ow _ _ (by simp [Res.add, Res.one])
    refine ⟨none, _, by have := run_endLoop (P := P) hb (by rw [hrec]; simp); rw [hrec] at this; exact this, ?_⟩
    obtain ⟨v1, v2⟩ := Res.dj_add_left.1 dm
    rw [Res.add_assoc (Res.one _ _) o2 m2] at t3 dj3
    obtain ⟨w1, w2, w4⟩ := stN _ (I all ++ Bs) (o2.add m2) (Res.dj_add_right.2 ⟨do12, v1⟩) dj3 t3 (SL.append v2 so2 sm2) (.loop { rec .ready none with state := .exhausted })
    have := done all (hfin rfl) _ M3 _ w1
    rw [hrec] at w4
    exact ⟨M3, _, le3, w2, w4, this⟩
  | some pre =>
    obtain ⟨j, o1, o2, do12, e, ho1, so2⟩ := sm1
    have ho1' : o1 = Res.one _ _ := ho1
    subst ho1'
    subst e
    have hb : w3.heap[w.heap.size + 1]? = some (.loop (rec .done (some (jc j)))) := t3.ow _ _ (by simp [Res.add, Res.one])
    refine ⟨some (jc j), _, by have := run_endLoop (P := P) hb (by rw [hrec]; simp); rw [hrec] at this; exact this, ?_⟩
    obtain ⟨v1, v2⟩ := Res.dj_add_left.1 dm
    rw [Res.add_assoc (Res.one _ _) o2 m2] at t3 dj3
    obtain ⟨w1, w2, w4⟩ := stN _ (Ix j pre ++ Bs) (o2.add m2) (Res.dj_add_right.2 ⟨do12, v1⟩) dj3 t3 (SL.append v2 so2 sm2) (.loop { rec .done (some (jc j)) with state := .exhausted })
    rw [hrec] at w4
    exact wpIn_mono (stop j pre (hx pre rfl) _ M3 _ w1 _ _ w2 w4) (fun _ _ _ q => lift_le le3 q)
theorem p_rangeFunc {α : Type} {g : Nat} {lb : List Value} {enc : α → List Value} {ok : List α → α → Prop} {stopped : List α → Prop} {As Bs : List HP} {all : List α} {val : Option (List α) → Value}
    (I : List α → List HP) (Ix : Option Nat → List α → List HP) (hc : c = .rangeFunc (rF c) (rP c) (rA c) (rB c))
    (it : Iter P g lb enc ok stopped As Bs all val)
    (hf : ev L (rF c) = some (.func (.func g) #[] lb.toArray))
    (hps : ∀ x, (enc x).length = (rP c).size) (hpn : (rP c).toList.all (fun p => Nat.blt p n) = true)
    (ha : Ent Hs (I [] ++ As))
    (round : ∀ (l : Nat) (pre : List α) (x : α), ok pre x → wc (some l) P n (rA c) (bindL (rP c).toList (enc x) L) (I pre) (asgO (some l) P (rB c) (roundO I Ix (pre ++ [x]))))
    (done : tw n Q .normal L (I all ++ Bs))
    (stop : ∀ (j : Option Nat) (pre : List α), stopped pre → wc none P n (jc j) L (Ix j pre ++ Bs) Q) : wc none P n c L Hs Q := by
 rw [hc]; exact wc_rangeFunc I Ix hf it.toU hps hpn ha round (fun l e => by subst e; exact done) stop
theorem p_rangeFuncU {α : Type} {g : Nat} {lb : List Value} {enc : α → List Value} {ok : List α → α → Prop} {stopped : List α → Prop} {As Bs : List HP} {fin : List α → Prop} {val : Option (List α) → Value}
    (I : List α → List HP) (Ix : Option Nat → List α → List HP) (hc : c = .rangeFunc (rF c) (rP c) (rA c) (rB c))
    (it : IterU P g lb enc ok stopped As Bs fin val)
    (hf : ev L (rF c) = some (.func (.func g) #[] lb.toArray))
    (hps : ∀ x, (enc x).length = (rP c).size) (hpn : (rP c).toList.all (fun p => Nat.blt p n) = true)
    (ha : Ent Hs (I [] ++ As))
    (round : ∀ (l : Nat) (pre : List α) (x : α), ok pre x → wc (some l) P n (rA c) (bindL (rP c).toList (enc x) L) (I pre) (asgO (some l) P (rB c) (roundO I Ix (pre ++ [x]))))
    (done : ∀ all, fin all → tw n Q .normal L (I all ++ Bs))
    (stop : ∀ (j : Option Nat) (pre : List α), stopped pre → wc none P n (jc j) L (Ix j pre ++ Bs) Q) : wc none P n c L Hs Q := by
 rw [hc]; exact wc_rangeFunc I Ix hf it hps hpn ha round done stop
/-- A call of yield. -/
theorem opt_yield {α : Type} {y : Value} {enc : α → List Value} {ok : List α → α → Prop} {J Jx : List α → HP} (ys : YSpec P y enc ok J Jx) (pre : List α) (x : α) (hok : ok pre x) {dst : Option Tmp} {f : Operand} {args : Array Operand} {ts : Array TypeId} (hf : ev L f = some y) (ha : evs L args.toList = some (enc x)) :
    OpT r P n ⟨dst, .call ⟨.value f, args, ts⟩, ty, pos, after, none⟩ A L [J pre] (fun b : Bool => .bool b) (fun _ => True) (fun b => [if b then J (pre ++ [x]) else Jx (pre ++ [x])]) := by
 intro a fr w M h hA hfr dj dj' s sA t
 obtain ⟨l, rfl, hy⟩ := ys
 obtain ⟨k1, k2, dk, e, hj, _⟩ := s
 subst e
 obtain ⟨x1, x2⟩ := Res.dj_add_left.1 dj'
 obtain ⟨x3, x4⟩ := Res.dj_add_left.1 x1
 obtain ⟨y1, y2⟩ := Res.dj_add_left.1 dj
 have t2 : Sat w M (k1.add ((k2.add hA).add hfr)) := by
  have : ((k1.add k2).add hA).add hfr = k1.add ((k2.add hA).add hfr) := by simp only [Res.add_assoc]
  rw [← this]; exact t
 obtain ⟨fn, tmps, assign, body, h1, h2⟩ := hy pre x hok w M k1 ((k2.add hA).add hfr) (Res.dj_add_right.2 ⟨Res.dj_add_right.2 ⟨dk, y1⟩, x3⟩) t2 hj
 have hargs : args.map a.eval = (enc x).toArray := by
  have := fr.evs _ ha
  apply Array.ext'
  simp [this]
 have hrun : (execOp a.eval ⟨dst, .call ⟨.value f, args, ts⟩, ty, pos, after, none⟩).run P w = .ok (.round l fn tmps assign body) w := by
  simp only [execOp, resolve, fr.ev hf, Deferred.ofValue, hargs, Sem.run_bind, Sem.run_pure, Result.andThen_ok, invoke]
  simp [go_sem, h1]
 rw [hrun]
 refine RoundIn.mono (F := WF none) h2 ?_
 rintro e w' ⟨b, M', h', rfl, le, dj3, t3, hb⟩
 obtain ⟨z1, z2⟩ := Res.dj_add_right.1 dj3
 obtain ⟨z3, z4⟩ := Res.dj_add_right.1 z1
 refine ⟨_, rfl, b, M', h', rfl, trivial, le, z4, Res.dj_add_left.2 ⟨z2, x2⟩, ?_, h', Res.emp, Res.dj_emp _, (Res.add_emp _).symm, hb, trivial⟩
 refine t3.le ?_
 intro i o e
 have e1 : ((h'.add hA).add hfr) i = some o := e
 simp only [Res.add] at e1 ⊢
 cases c1 : h' i with
 | some u => rw [c1] at e1; simpa using e1
 | none =>
   rw [c1] at e1
   cases c2 : hA i with
   | some u =>
     rw [c2] at e1
     have := y2 i
     rw [c2] at this
     simp at this
     simp [this]; simpa using e1
   | none =>
     rw [c2] at e1
     have := x4 i
     simp at e1
     rw [e1] at this
     simp at this
     simp [this, e1]
theorem r_yield {α : Type} {y : Value} {enc : α → List Value} {ok : List α → α → Prop} {J Jx : List α → HP} (ys : YSpec P y enc ok J Jx) (pre : List α) (x : α) (hok : ok pre x) {f : Operand} {args : Array Operand} {ts : Array TypeId} (hf : ev L f = some y) (ha : evs L args.toList = some (enc x)) (hd : Nat.blt d n = true)
    {Rs : List HP} [hp : PickC (J pre) Hs Rs] (kt : wo r P n ops os ((d, .bool true) :: L) (J (pre ++ [x]) :: Rs) Q) (kf : wo r P n ops os ((d, .bool false) :: L) (Jx (pre ++ [x]) :: Rs) Q) :
    wo r P n ops (⟨some d, .call ⟨.value f, args, ts⟩, ty, pos, after, none⟩ :: os) L Hs Q := by
 haveI : PicksC [J pre] Hs Rs := ⟨.cons hp.get .nil⟩
 refine wo_opT (by intro c; simp) (opt_yield ys pre x hok hf ha) (by simpa [dstOk] using hd) (fun b _ => ?_)
 cases b
 · exact kf
 · exact kt
end
end
theorem ti3 : Tryz.prog.info? 3 = some Tryz.t3 := by kernel_rfl
instance ui3 : UndC Tryz.prog 3 Tryz.t3.desc := ⟨Tryz.underlying3⟩
instance ii3 : InfC Tryz.prog 3 Tryz.t3 := ⟨ti3⟩
theorem ti4 : Tryz.prog.info? 4 = some Tryz.t4 := by kernel_rfl
instance ui4 : UndC Tryz.prog 4 Tryz.t4.desc := ⟨Tryz.underlying4⟩
instance ii4 : InfC Tryz.prog 4 Tryz.t4 := ⟨ti4⟩
theorem ti5 : Tryz.prog.info? 5 = some Tryz.t5 := by kernel_rfl
instance ui5 : UndC Tryz.prog 5 Tryz.t5.desc := ⟨Tryz.underlying5⟩
instance ii5 : InfC Tryz.prog 5 Tryz.t5 := ⟨ti5⟩
theorem ti9 : Tryz.prog.info? 9 = some Tryz.t9 := by kernel_rfl
instance ui9 : UndC Tryz.prog 9 Tryz.t9.desc := ⟨Tryz.underlying9⟩
instance ii9 : InfC Tryz.prog 9 Tryz.t9 := ⟨ti9⟩
theorem ti25 : Tryz.prog.info? 25 = some Tryz.t25 := by kernel_rfl
instance ui25 : UndC Tryz.prog 25 Tryz.t24.desc := ⟨Tryz.underlying25⟩
instance ii25 : InfC Tryz.prog 25 Tryz.t25 := ⟨ti25⟩
theorem ti26 : Tryz.prog.info? 26 = some Tryz.t26 := by kernel_rfl
instance ui26 : UndC Tryz.prog 26 Tryz.t26.desc := ⟨Tryz.underlying26⟩
instance ii26 : InfC Tryz.prog 26 Tryz.t26 := ⟨ti26⟩
theorem ti27 : Tryz.prog.info? 27 = some Tryz.t27 := by kernel_rfl
instance ui27 : UndC Tryz.prog 27 Tryz.t27.desc := ⟨Tryz.underlying27⟩
instance ii27 : InfC Tryz.prog 27 Tryz.t27 := ⟨ti27⟩
theorem ti28 : Tryz.prog.info? 28 = some Tryz.t28 := by kernel_rfl
instance ui28 : UndC Tryz.prog 28 Tryz.t28.desc := ⟨Tryz.underlying28⟩
instance ii28 : InfC Tryz.prog 28 Tryz.t28 := ⟨ti28⟩
theorem ti30 : Tryz.prog.info? 30 = some Tryz.t30 := by kernel_rfl
instance ui30 : UndC Tryz.prog 30 Tryz.t29.desc := ⟨Tryz.underlying30⟩
instance ii30 : InfC Tryz.prog 30 Tryz.t30 := ⟨ti30⟩
theorem ti31 : Tryz.prog.info? 31 = some Tryz.t31 := by kernel_rfl
instance ui31 : UndC Tryz.prog 31 Tryz.t31.desc := ⟨Tryz.underlying31⟩
instance ii31 : InfC Tryz.prog 31 Tryz.t31 := ⟨ti31⟩
theorem ti32 : Tryz.prog.info? 32 = some Tryz.t32 := by kernel_rfl
instance ui32 : UndC Tryz.prog 32 Tryz.t32.desc := ⟨Tryz.underlying32⟩
instance ii32 : InfC Tryz.prog 32 Tryz.t32 := ⟨ti32⟩
theorem ti34 : Tryz.prog.info? 34 = some Tryz.t34 := by kernel_rfl
instance ui34 : UndC Tryz.prog 34 Tryz.t34.desc := ⟨Tryz.underlying34⟩
instance ii34 : InfC Tryz.prog 34 Tryz.t34 := ⟨ti34⟩
theorem ti37 : Tryz.prog.info? 37 = some Tryz.t37 := by kernel_rfl
instance ui37 : UndC Tryz.prog 37 Tryz.t36.desc := ⟨Tryz.underlying37⟩
instance ii37 : InfC Tryz.prog 37 Tryz.t37 := ⟨ti37⟩
theorem ti39 : Tryz.prog.info? 39 = some Tryz.t39 := by kernel_rfl
instance ui39 : UndC Tryz.prog 39 Tryz.t38.desc := ⟨Tryz.underlying39⟩
instance ii39 : InfC Tryz.prog 39 Tryz.t39 := ⟨ti39⟩
theorem ti56 : Tryz.prog.info? 56 = some Tryz.t56 := by kernel_rfl
instance ui56 : UndC Tryz.prog 56 Tryz.t56.desc := ⟨Tryz.underlying56⟩
instance ii56 : InfC Tryz.prog 56 Tryz.t56 := ⟨ti56⟩
theorem ti57 : Tryz.prog.info? 57 = some Tryz.t57 := by kernel_rfl
instance ui57 : UndC Tryz.prog 57 Tryz.t57.desc := ⟨Tryz.underlying57⟩
instance ii57 : InfC Tryz.prog 57 Tryz.t57 := ⟨ti57⟩
theorem ti60 : Tryz.prog.info? 60 = some Tryz.t60 := by kernel_rfl
instance ui60 : UndC Tryz.prog 60 Tryz.t59.desc := ⟨Tryz.underlying60⟩
instance ii60 : InfC Tryz.prog 60 Tryz.t60 := ⟨ti60⟩
theorem ti87 : Tryz.prog.info? 87 = some Tryz.t87 := by kernel_rfl
instance ui87 : UndC Tryz.prog 87 Tryz.t87.desc := ⟨Tryz.underlying87⟩
instance ii87 : InfC Tryz.prog 87 Tryz.t87 := ⟨ti87⟩
theorem ti94 : Tryz.prog.info? 94 = some Tryz.t94 := by kernel_rfl
instance ui94 : UndC Tryz.prog 94 Tryz.t94.desc := ⟨Tryz.underlying94⟩
instance ii94 : InfC Tryz.prog 94 Tryz.t94 := ⟨ti94⟩
theorem ti95 : Tryz.prog.info? 95 = some Tryz.t95 := by kernel_rfl
instance ui95 : UndC Tryz.prog 95 Tryz.t95.desc := ⟨Tryz.underlying95⟩
instance ii95 : InfC Tryz.prog 95 Tryz.t95 := ⟨ti95⟩
theorem ti96 : Tryz.prog.info? 96 = some Tryz.t96 := by kernel_rfl
instance ui96 : UndC Tryz.prog 96 Tryz.t96.desc := ⟨Tryz.underlying96⟩
instance ii96 : InfC Tryz.prog 96 Tryz.t96 := ⟨ti96⟩
theorem ti97 : Tryz.prog.info? 97 = some Tryz.t97 := by kernel_rfl
instance ui97 : UndC Tryz.prog 97 Tryz.t97.desc := ⟨Tryz.underlying97⟩
instance ii97 : InfC Tryz.prog 97 Tryz.t97 := ⟨ti97⟩
theorem ti99 : Tryz.prog.info? 99 = some Tryz.t99 := by kernel_rfl
instance ui99 : UndC Tryz.prog 99 Tryz.t99.desc := ⟨Tryz.underlying99⟩
instance ii99 : InfC Tryz.prog 99 Tryz.t99 := ⟨ti99⟩
theorem ti101 : Tryz.prog.info? 101 = some Tryz.t101 := by kernel_rfl
instance ui101 : UndC Tryz.prog 101 Tryz.t100.desc := ⟨Tryz.underlying101⟩
instance ii101 : InfC Tryz.prog 101 Tryz.t101 := ⟨ti101⟩
theorem ti107 : Tryz.prog.info? 107 = some Tryz.t107 := by kernel_rfl
instance ui107 : UndC Tryz.prog 107 Tryz.t107.desc := ⟨Tryz.underlying107⟩
instance ii107 : InfC Tryz.prog 107 Tryz.t107 := ⟨ti107⟩
theorem ti125 : Tryz.prog.info? 125 = some Tryz.t125 := by kernel_rfl
instance ui125 : UndC Tryz.prog 125 Tryz.t124.desc := ⟨Tryz.underlying125⟩
instance ii125 : InfC Tryz.prog 125 Tryz.t125 := ⟨ti125⟩
theorem ti162 : Tryz.prog.info? 162 = some Tryz.t162 := by kernel_rfl
instance ui162 : UndC Tryz.prog 162 Tryz.t162.desc := ⟨Tryz.underlying162⟩
instance ii162 : InfC Tryz.prog 162 Tryz.t162 := ⟨ti162⟩
theorem ti170 : Tryz.prog.info? 170 = some Tryz.t170 := by kernel_rfl
instance ui170 : UndC Tryz.prog 170 Tryz.t170.desc := ⟨Tryz.underlying170⟩
instance ii170 : InfC Tryz.prog 170 Tryz.t170 := ⟨ti170⟩
theorem ti206 : Tryz.prog.info? 206 = some Tryz.t206 := by kernel_rfl
instance ui206 : UndC Tryz.prog 206 Tryz.t3.desc := ⟨Tryz.underlying206⟩
instance ii206 : InfC Tryz.prog 206 Tryz.t206 := ⟨ti206⟩
theorem ti216 : Tryz.prog.info? 216 = some Tryz.t216 := by kernel_rfl
instance ui216 : UndC Tryz.prog 216 Tryz.t216.desc := ⟨Tryz.underlying216⟩
instance ii216 : InfC Tryz.prog 216 Tryz.t216 := ⟨ti216⟩
theorem ti220 : Tryz.prog.info? 220 = some Tryz.t220 := by kernel_rfl
instance ui220 : UndC Tryz.prog 220 Tryz.t100.desc := ⟨Tryz.underlying220⟩
instance ii220 : InfC Tryz.prog 220 Tryz.t220 := ⟨ti220⟩
theorem ti223 : Tryz.prog.info? 223 = some Tryz.t223 := by kernel_rfl
instance ui223 : UndC Tryz.prog 223 Tryz.t223.desc := ⟨Tryz.underlying223⟩
instance ii223 : InfC Tryz.prog 223 Tryz.t223 := ⟨ti223⟩
theorem ti225 : Tryz.prog.info? 225 = some Tryz.t225 := by kernel_rfl
instance ui225 : UndC Tryz.prog 225 Tryz.t224.desc := ⟨Tryz.underlying225⟩
instance ii225 : InfC Tryz.prog 225 Tryz.t225 := ⟨ti225⟩
theorem ti253 : Tryz.prog.info? 253 = some Tryz.t253 := by kernel_rfl
instance ui253 : UndC Tryz.prog 253 Tryz.t96.desc := ⟨Tryz.underlying253⟩
instance ii253 : InfC Tryz.prog 253 Tryz.t253 := ⟨ti253⟩
theorem ti257 : Tryz.prog.info? 257 = some Tryz.t257 := by kernel_rfl
instance ui257 : UndC Tryz.prog 257 Tryz.t257.desc := ⟨Tryz.underlying257⟩
instance ii257 : InfC Tryz.prog 257 Tryz.t257 := ⟨ti257⟩
theorem ti263 : Tryz.prog.info? 263 = some Tryz.t263 := by kernel_rfl
instance ui263 : UndC Tryz.prog 263 Tryz.t263.desc := ⟨Tryz.underlying263⟩
instance ii263 : InfC Tryz.prog 263 Tryz.t263 := ⟨ti263⟩
theorem ti278 : Tryz.prog.info? 278 = some Tryz.t278 := by kernel_rfl
instance ui278 : UndC Tryz.prog 278 Tryz.t278.desc := ⟨Tryz.underlying278⟩
instance ii278 : InfC Tryz.prog 278 Tryz.t278 := ⟨ti278⟩
theorem ti280 : Tryz.prog.info? 280 = some Tryz.t280 := by kernel_rfl
instance ui280 : UndC Tryz.prog 280 Tryz.t280.desc := ⟨Tryz.underlying280⟩
instance ii280 : InfC Tryz.prog 280 Tryz.t280 := ⟨ti280⟩
end Go.Proofs.YtdnoacgopfcpbaaGreat
