/- Slices that one has: rows that grow. -/
import Derived.Test.YtimafngkifakfaaDrawR
set_option linter.unusedVariables false
set_option linter.unusedSimpArgs false
namespace Go.Proofs.Ytimafngkifakfaa

/-- A slice of n elements of type e, of sz cells each, that is one's own: its cells; room behind. -/
def RowAt (e : TypeId) (sz : Nat) (v : Value) (n : Nat) (xs : List Value) (M : Kn) (h : Res) : Prop :=
  (v = .slice none 0 0 ∧ n = 0 ∧ xs = []) ∨
  ∃ g cap cur, v = .slice (some ⟨g, 0, none⟩) n cap ∧ n ≤ cap ∧ cap ≤ maxLen ∧ List.length cur = cap * sz ∧ xs.length = n * sz ∧ cur.take (n * sz) = xs ∧ h = Res.one g (.cells cur.toArray e (0, 0))
def Row (e : TypeId) (sz : Nat) (v : Value) (n : Nat) (xs : List Value) : HP := ⟨RowAt e sz v n xs, fun _ e => e⟩

theorem RowAt.slice {e : TypeId} {sz : Nat} {v : Value} {n : Nat} {xs : List Value} {M : Kn} {h : Res} (r : RowAt e sz v n xs M h) : ∃ a c, v = .slice a n c := by
  rcases r with ⟨rfl, rfl, _⟩ | ⟨g, cap, _, rfl, _⟩
  · exact ⟨_, _, rfl⟩
  · exact ⟨_, _, rfl⟩

theorem oneCell_iff {v : Value} : oneCell v = true ↔ v.oneCell' = true := by cases v <;> simp [oneCell, Value.oneCell']

section
variable {r : Option Nat} {P : Program} {n : Nat} {ops : Array Oper} {A : List HP} {L : Loc} {Hs : List HP} {Q : Out}

theorem env_alloc_drew (w : World) (o : Obj) : Env w (w.drew.alloc o) := ⟨rfl, rfl, rfl, by simp⟩
theorem Sat.drew {w : World} {M : Kn} {h : Res} (t : Sat w M h) : Sat w.drew M h := ⟨t.im, t.ow, t.dj, ⟨t.env.os, t.env.tape, t.env.output, t.env.size⟩⟩

/-- append(s, x...) where x's cells can be read and s is one's own. -/
theorem run_append_row {t ty e : TypeId} {i : TypeInfo} {z : Value} (ht : P.underlying t = some (.slice e)) (hi : P.info? e = some i) (hz : i.zero = some z) (hzs : z.cells.size = i.size) (hsz : 0 < i.size)
    {v : Value} {k : Nat} {xs : List Value} {w : World} {M : Kn} {h hf : Res} (dj : h.dj hf) (s : Sat w M (h.add hf)) (hr : RowAt e i.size v k xs M h)
    {a : Addr} {m c : Nat} {news : List Value} (hl : news.length = m * i.size) (hnews : ∀ j u, news[j]? = some u → w.cell? (a.add j) = some u) (h1 : ∀ u ∈ news, oneCell u = true)
    (hbytes : (k + m) * i.bytes ≤ 140737488355328) (h63 : k + m ≤ maxLen) :
    ∃ v' w' h', (Builtin.append_ #[t, t] ty #[v, .slice (some a) m c]).run P w = .ok v' w' ∧ h'.dj hf ∧ Sat w' M (h'.add hf) ∧ RowAt e i.size v' (k + m) (xs ++ news) M h' := by
  have h1' : ∀ u ∈ news, u.oneCell' = true := fun u hu => oneCell_iff.1 (h1 u hu)
  have hsmall : k + m ≤ 9223372036854775807 := by simp only [maxLen] at h63; omega
  have grown : ∀ (old : Nat), old < k + m → xs.length = k * i.size → ∃ h', h'.dj hf ∧ Sat (w.drew.alloc (.cells (xs.toArray ++ news.toArray ++ Builtin.zeroCells z.cells (grownCap w (k + m) old e - (k + m))) e)) M (h'.add hf) ∧
      RowAt e i.size (.slice (some ⟨w.heap.size, 0, none⟩) (k + m) (grownCap w (k + m) old e)) (k + m) (xs ++ news) M h' := by
    intro old ho hxl
    have hge := grownCap_ge w (k + m) old e
    have hcm : grownCap w (k + m) old e ≤ maxLen := grownCap_le_maxLen w (k + m) old e h63
    have s2 := s.drew.alloc (.cells (xs.toArray ++ news.toArray ++ Builtin.zeroCells z.cells (grownCap w (k + m) old e - (k + m))) e)
    obtain ⟨f1, f2⟩ := fresh_none s.drew
    obtain ⟨f3, f4⟩ := Res.add_none.1 f2
    refine ⟨Res.one w.heap.size (.cells (xs.toArray ++ news.toArray ++ Builtin.zeroCells z.cells (grownCap w (k + m) old e - (k + m))) e), one_dj f4, s2.le ?_, .inr ⟨w.heap.size, _, xs ++ news ++ (Builtin.zeroCells z.cells (grownCap w (k + m) old e - (k + m))).toList, rfl, hge, hcm, ?_, ?_, ?_, ?_⟩⟩
    · intro b o e
      simp only [Res.add] at e ⊢
      show (match Res.one w.heap.size _ b with | some o => some o | none => _) = _
      cases eb : Res.one w.heap.size (Obj.cells (xs.toArray ++ news.toArray ++ Builtin.zeroCells z.cells (grownCap w (k + m) old _ - (k + m))) _) b with
      | some u => rw [eb] at e; simpa using e
      | none =>
        rw [eb] at e
        rcases dj b with x | x
        · simpa [x] using e
        · have e' : hf b = some o := e
          rw [x] at e'; cases e'
    · simp only [List.length_append, Array.length_toList, size_zeroCells, hzs, hxl, hl, ← Nat.add_mul]
      congr 1
      omega
    · simp [hxl, hl, Nat.add_mul]
    · have : (xs ++ news).length = (k + m) * i.size := by simp [hxl, hl, Nat.add_mul]
      rw [← this]
      exact List.take_left
    · congr 2
      apply Array.ext'
      simp
  rcases hr with ⟨rfl, rfl, rfl⟩ | ⟨g, cap, cur, rfl, hkc, hcm, hcl, hxl, htake, rfl⟩
  · by_cases hm : m = 0
    · subst hm
      have hn : news = [] := List.eq_nil_of_length_eq_zero (by simpa using hl)
      subst hn
      refine ⟨.slice none 0 0, w, h, ?_, dj, s, .inl ⟨rfl, rfl, rfl⟩⟩
      simp [Builtin.append_, run_underlying ht, sizeOf, typeInfo, hi, Builtin.lenOf, Builtin.firstCells, loadCells, loadCellsFrom]
    · have hr := run_append_nil (P := P) w t ty e i z ht hi hz a m c news hl hnews (by omega) (by omega) (by simp only [Nat.zero_add] at hbytes; omega)
      obtain ⟨h', d', s', r'⟩ := grown 0 (by omega) (by simp)
      simp only [Nat.zero_add, List.nil_append, Array.empty_append] at d' s' r' ⊢
      exact ⟨_, _, h', hr, d', s', r'⟩
  · have hg : w.heap[g]? = some (.cells cur.toArray e (0, 0)) := s.ow _ _ (by simp [Res.add, Res.one])
    by_cases hroom : k + m ≤ cap
    · have hfit : k * i.size + news.length ≤ cur.toArray.size := by simp only [List.size_toArray]; rw [hl, hcl, ← Nat.add_mul]; exact Nat.mul_le_mul_right _ hroom
      have hr := run_append_room (P := P) w t ty e i ht hi g k cap cur.toArray hg a m c news hl hnews h1' hroom hfit
      refine ⟨_, _, Res.one g (.cells (cur.take (k * i.size) ++ news ++ cur.drop (k * i.size + news.length)).toArray e (0, 0)), hr, dj_one_any dj, Sat.setBlk dj s ?_ (fun j hj => ?_) ⟨rfl, rfl, rfl, by simp [World.setRow]⟩, .inr ⟨g, cap, cur.take (k * i.size) ++ news ++ cur.drop (k * i.size + news.length), rfl, hroom, hcm, ?_, ?_, ?_, rfl⟩⟩
      · exact setRow_heap w g cur.toArray _ e _ hg
      · exact setRow_other w g j _ (fun x => hj x)
      · simp only [List.size_toArray] at hfit
        simp only [List.length_append, List.length_take, List.length_drop]
        omega
      · simp [hxl, hl, Nat.add_mul]
      · rw [htake]
        have : (xs ++ news).length = (k + m) * i.size := by simp [hxl, hl, Nat.add_mul]
        rw [← this]
        exact List.take_left
    · have holds : ∀ j u, xs[j]? = some u → w.cell? ((⟨g, 0, none⟩ : Addr).add j) = some u := by
        intro j u hj
        have hlt := (List.getElem?_eq_some_iff.1 hj).1
        rw [addr_add, Nat.zero_add]
        simp only [World.cell?, hg]
        rw [← htake, List.getElem?_take_of_lt (by omega)] at hj
        simpa using hj
      have hr := run_append_grow (P := P) w t ty e i z ht hi hz ⟨g, 0, none⟩ k cap xs hxl holds a m c news hl hnews (by omega) (by omega) (growslice_fits (by omega) hbytes)
      obtain ⟨h', d', s', r'⟩ := grown cap (by omega) hxl
      exact ⟨_, _, h', hr, d', s', r'⟩
/-- What is appended: cells of a block of one's own, or of one that never turns. -/
theorem opt_append {dst : Option Tmp} {ty t e : TypeId} {pos : String} {after : Array Edge} {x y : Operand} {i : TypeInfo} {z : Value} (ht : P.underlying t = some (.slice e)) (hi : P.info? e = some i) (hz : i.zero = some z) (hzs : Nat.beq z.cells.size i.size = true) {sz : Nat} (hsz : i.size = sz) (hs0 : Nat.blt 0 sz = true) {bytes : Nat} (hby : i.bytes = bytes)
    {v : Value} {k : Nat} {xs : List Value} {b off m c : Nat} {l news : List Value} {B : HP} (hx : ev L x = some v) (hy : ev L y = some (.slice (some ⟨b, off, none⟩) m c)) (sh : Shows B b l)
    (hl : news.length = m * sz) (hnews : (l.drop off).take (m * sz) = news) (h1 : news.all oneCell = true)
    (hbytes : (k + m) * bytes ≤ 140737488355328) (h63 : k + m ≤ maxLen) :
    OpT r P n ⟨dst, .call ⟨.builtin .append, #[x, y], #[t, t]⟩, ty, pos, after, none⟩ A L [Row e sz v k xs, B] (fun v' => v') (fun v' => ∃ a c, v' = .slice a (k + m) c) (fun v' => [Row e sz v' (k + m) (xs ++ news), B]) := by
  subst hsz; subst hby
  intro a f w M h hA hf dj dj' s sA t'
  obtain ⟨g1, g2, dg, e1, hrow, s2⟩ := s
  obtain ⟨g3, g4, dg2, e2, hB, _⟩ := s2
  subst e2; subst e1
  obtain ⟨d1, d2⟩ := Res.dj_add_right.1 dg
  obtain ⟨d3, d4⟩ := Res.dj_add_left.1 dj
  obtain ⟨d5, d6⟩ := Res.dj_add_left.1 dj'
  obtain ⟨d7, d8⟩ := Res.dj_add_left.1 d5
  have eq : ((g1.add (g3.add g4)).add hA).add hf = g1.add (((g3.add g4).add hA).add hf) := by simp only [Res.add_assoc]
  rw [eq] at t'
  have hcell : ∀ j u, news[j]? = some u → w.cell? ((⟨b, off, none⟩ : Addr).add j) = some u := by
    intro j u hj
    have hle : g3.le (((g3.add g4).add hA).add hf) := fun i o e => by simp [Res.add, e]
    have t2 : Sat w M ((((g3.add g4).add hA).add hf).add Res.emp) := by
      rw [Res.add_emp]
      exact t'.le (Res.le_add_right (Res.dj_add_right.2 ⟨Res.dj_add_right.2 ⟨dg, d3⟩, d7⟩))
    rw [addr_add, shows_cell sh t2 hle hB (off + j), ← drop_get]
    have hlt := (List.getElem?_eq_some_iff.1 hj).1
    rw [← hnews, List.getElem?_take_of_lt (by omega)] at hj
    exact hj
  obtain ⟨v', w', h', hr, djn, sn, rn⟩ := run_append_row (P := P) ht hi hz (Nat.eq_of_beq_eq_true hzs) (by simpa using hs0) (hf := ((g3.add g4).add hA).add hf) (Res.dj_add_right.2 ⟨Res.dj_add_right.2 ⟨dg, d3⟩, d7⟩) t' hrow hl hcell (fun u hu => List.all_eq_true.1 h1 u hu) hbytes h63 (ty := ty) (c := c)
  have hrun : (execOp a.eval ⟨dst, .call ⟨.builtin .append, #[x, y], #[t, t]⟩, ty, pos, after, none⟩).run P w = .ok (.value v') w' := by
    simp [execOp, resolve, f.ev hx, f.ev hy, invoke, builtin, hr]
  rw [hrun]
  obtain ⟨y1, y2⟩ := Res.dj_add_right.1 djn
  obtain ⟨y3, y4⟩ := Res.dj_add_right.1 y1
  refine ⟨v', M, h'.add (g3.add g4), rfl, rn.slice, Kn.le_refl _, Res.dj_add_left.2 ⟨y4, d4⟩, Res.dj_add_left.2 ⟨Res.dj_add_left.2 ⟨y2, d8⟩, d6⟩, ?_, h', g3.add g4, y3, rfl, rn, g3, g4, dg2, rfl, hB, trivial⟩
  have eq2 : ((h'.add (g3.add g4)).add hA).add hf = h'.add (((g3.add g4).add hA).add hf) := by simp only [Res.add_assoc]
  rw [eq2]; exact sn

theorem row_nil {e : TypeId} {sz : Nat} : Ent Hs (Row e sz (.slice none 0 0) 0 [] :: Hs) := ⟨fun {M h} s => ⟨Res.emp, h, Res.emp_dj _, rfl, .inl ⟨rfl, rfl, rfl⟩, s⟩⟩
end
end Go.Proofs.Ytimafngkifakfaa
