/- Texts of this proof, put together: LibB, Row1, Sli, Scope. -/
import Derived.Lib.Builder
import Derived.Lib.UnsafeStr
import Derived.Lib.AppendStr
import Derived.Laws.MakeOwn
import Derived.Laws.CopyRow
import Derived.Test.YtdnoacgopfcpbaaGreatQ04
set_option linter.unusedVariables false
set_option linter.unusedSimpArgs false
namespace Go.Proofs.YtdnoacgopfcpbaaGreat
section
set_option maxRecDepth 100000
section
variable {r : Option Nat} {P : Program} {n : Nat} {ops : Array Oper} {os : List Oper} {A : List HP} {L : Loc} {Hs : List HP} {Q : Out} {ty : TypeId} {d : Nat} {pos : String} {after : Array Edge} {c : Code}
theorem pv_ptr {x y : Operand} {a b : Option Addr} {t yt : TypeId} {op : BinOp} {v : Value} (hx : ev L x = some (.pointer a)) (hy : ev L y = some (.pointer b))
    (h : ∀ w, (binOp op t (.pointer a) (.pointer b)).run P w = .ok v w) : PV P n L (.binOp op t x y yt) ty v :=
 ⟨by intro c; simp, fun ac f w _ _ _ _ => by
  simp only [execOp, f.ev hx, f.ev hy, Sem.run_bind]
  have hg : (eqGuard op t x y (.pointer a) (.pointer b)).run P w = .ok () w := by
   unfold eqGuard
   split <;> rfl
  rw [hg]
  simp [h w]⟩
theorem pv_peql_nil {x y : Operand} {a : Option Addr} {t yt e : TypeId} (ht : P.underlying t = some (.pointer e)) (hx : ev L x = some (.pointer a)) (hy : ev L y = some (.pointer none)) : PV P n L (.binOp .eql t x y yt) ty (.bool a.isNone) :=
 pv_ptr hx hy fun w => by
  have h : ∀ d : Nat, (Op.equalIn (d + 1) t (.pointer a) (.pointer none)).run P w = .ok a.isNone w := fun d => by
   cases a <;> simp [Op.equalIn, run_underlying ht]
  simp only [binOp]
  simp [Op.equal, Op.maxDepth, h 9999]
theorem pv_pneq_same {x y : Operand} {a : Addr} {t yt e : TypeId} {j : TypeInfo} (ht : P.underlying t = some (.pointer e)) (he : P.info? e = some j) (hx : ev L x = some (.pointer (some a))) (hy : ev L y = some (.pointer (some a))) : PV P n L (.binOp .neq t x y yt) ty (.bool false) :=
 pv_ptr hx hy fun w => Lib.run_neq_ptr_same w a ht he
theorem pv_extern {f : FuncId} {fn : Func} {e : Array Value → Sem Value} {args : Array Operand} {ats : Array TypeId} {vs : List Value} {v : Value} (hf : P.funcs[f]? = some fn) (hname : (fn.name == "runtime.NumGoroutine") = false)
    (hb : fn.body.isNone = true) (hn : Extern.findNext fn = none) (he : Extern.find fn = some e) (ha : evs L args.toList = some vs) (h : ∀ w, (e vs.toArray).run P w = .ok v w) : PV P n L (.call ⟨.value (.func f), args, ats⟩) ty v :=
 ⟨by intro c; simp, fun a fr w _ _ _ _ => by
  have hargs : args.map a.eval = vs.toArray := by
   have := fr.evs _ ha
   apply Array.ext'
   simp [this]
  simp only [execOp, resolve, Act.eval, Deferred.ofValue, Sem.run_bind, Sem.run_pure, Result.andThen_ok, invoke]
  have := run_callFunc_extern hf hname hb hn he vs.toArray w
  rw [show (Array.map (fun x => a.eval x) args) = vs.toArray from hargs]
  simp only [Array.append_empty, Array.empty_append]
  rw [this, h w]
  rfl⟩
theorem ce_shape {b T : Nat} {l : List Value} {w : World} {M : Kn} {h hf h1 : Res} (t : Sat w M (h.add hf)) (le : h1.le h) (x : (Ce b T l).at_ M h1) : w.shape? b = some (T, l.length) := by
 have e : h1 = Res.one b _ := x
 have hb : w.heap[b]? = some (.cells l.toArray T (0, 0)) := t.ow _ _ (Res.le_add_left _ _ _ _ (le _ _ (by rw [e]; exact Res.one_same _ _)))
 simp [World.shape?, hb]
theorem r_toUnsafe {src dst t T : TypeId} {j : TypeInfo} {x : Operand} {b : Nat} {l : List Value} (hs : P.underlying src = some (.pointer t)) (hd' : P.underlying dst = some .unsafePointer) (ht : P.info? t = some j) (hj : Nat.beq j.size 0 = false)
    (hx : ev L x = some (.pointer (some ⟨b, 0, none⟩))) (hA : Has (Ce b T l) Hs) (hl : Nat.blt 0 l.length = true) (hd : Nat.blt d n = true)
    (k : wo r P n ops os ((d, .pointer (some ⟨b, 0, none⟩)) :: L) Hs Q) : wo r P n ops (⟨some d, .convert src dst x, ty, pos, after, none⟩ :: os) L Hs Q := by
 refine wo_read (by intro c; simp) hA hd (fun a f w M h h1 hf t' le y _ _ _ _ => ?_) k
 have hsh := ce_shape t' le y
 have := Lib.run_to_unsafe (P := P) w ⟨b, 0, none⟩ hs hd' ht (fun e => by rw [e] at hj; cases hj) hsh (by simpa using hl)
 simp [execOp, f.ev hx, this]
theorem r_fromUnsafe {src dst u T : TypeId} {j : TypeInfo} {x : Operand} {b : Nat} {l : List Value} {len : Nat} (hs : P.underlying src = some .unsafePointer) (hd' : P.underlying dst = some (.pointer u)) (hu : P.info? u = some j) (hlen : l.length = len)
    (hlies : liesAt P P.depth T (len / P.cellsOf T) 0 u 1 = true)
    (hx : ev L x = some (.pointer (some ⟨b, 0, none⟩))) (hA : Has (Ce b T l) Hs) (hd : Nat.blt d n = true)
    (k : wo r P n ops os ((d, .pointer (some ⟨b, 0, none⟩)) :: L) Hs Q) : wo r P n ops (⟨some d, .convert src dst x, ty, pos, after, none⟩ :: os) L Hs Q := by
 refine wo_read (by intro c; simp) hA hd (fun a f w M h h1 hf t' le y _ _ _ _ => ?_) k
 have hsh := ce_shape t' le y
 have := Lib.run_from_unsafe (P := P) w ⟨b, 0, none⟩ hs hd' hu hsh (by rw [hlen]; exact hlies)
 simp [execOp, f.ev hx, this]
/-- append(b, s...), s a text. -/
theorem opt_appendS {dst : Option Tmp} {t u e : TypeId} {x y : Operand} {i : TypeInfo} (ht : P.underlying t = some (.slice e)) (hu : P.underlying u = some .string) (hi : P.info? e = some i) (hz : i.zero = some (.int .u8 0)) (hs1 : i.size = 1) (hb1 : i.bytes = 1)
    {v : Value} {k : Nat} {xs : List Value} {l : List UInt8} (hx : ev L x = some v) (hy : ev L y = some (vS l)) (h63 : k + l.length ≤ 140737488355328) :
    OpT r P n ⟨dst, .call ⟨.builtin .append, #[x, y], #[t, u]⟩, ty, pos, after, none⟩ A L [Row e 1 v k xs] (fun v' => v') (fun v' => (∃ a c, v' = .slice a (k + l.length) c) ∧ (k + l.length = 0 → v = .slice none 0 0 → v' = .slice none 0 0)) (fun v' => [Row e 1 v' (k + l.length) (xs ++ vUs l)]) := by
 intro a f w M h hA hf dj dj' s sA t'
 obtain ⟨g1, g2, dg, e1, hrow, _⟩ := s
 subst e1
 obtain ⟨d3, d4⟩ := Res.dj_add_left.1 dj
 obtain ⟨d5, d6⟩ := Res.dj_add_left.1 dj'
 obtain ⟨d7, d8⟩ := Res.dj_add_left.1 d5
 have eq : ((g1.add g2).add hA).add hf = g1.add ((g2.add hA).add hf) := by simp only [Res.add_assoc]
 rw [eq] at t'
 have djx : g1.dj ((g2.add hA).add hf) := Res.dj_add_right.2 ⟨Res.dj_add_right.2 ⟨dg, d3⟩, d7⟩
 have hmx : k + l.length ≤ maxLen := by simp only [maxLen]; omega
 have fin : ∀ v' w' h', (k + l.length = 0 → v = .slice none 0 0 → v' = .slice none 0 0) → (Builtin.append_ #[t, u] ty #[v, vS l]).run P w = .ok v' w' → h'.dj ((g2.add hA).add hf) → Sat w' M (h'.add ((g2.add hA).add hf)) → RowAt e 1 v' (k + l.length) (xs ++ vUs l) M h' →
     opV r P (fun u' w' => ∃ (x : Value) (M' : Kn) (h' : Res), u' = x ∧ ((∃ a c, x = .slice a (k + l.length) c) ∧ (k + l.length = 0 → v = Value.slice none 0 0 → x = .slice none 0 0)) ∧ M.le M' ∧ h'.dj hA ∧ (h'.add hA).dj hf ∧ Sat w' M' ((h'.add hA).add hf) ∧ SL [Row e 1 x (k + l.length) (xs ++ vUs l)] M' h')
      ((execOp a.eval ⟨dst, .call ⟨.builtin .append, #[x, y], #[t, u]⟩, ty, pos, after, none⟩).run P w) := by
  intro v' w' h' hz' hr djn sn rn
  have hrun : (execOp a.eval ⟨dst, .call ⟨.builtin .append, #[x, y], #[t, u]⟩, ty, pos, after, none⟩).run P w = .ok (.value v') w' := by
   simp [execOp, resolve, f.ev hx, f.ev hy, invoke, builtin, hr]
  rw [hrun]
  obtain ⟨y1, y2⟩ := Res.dj_add_right.1 djn
  obtain ⟨y3, y4⟩ := Res.dj_add_right.1 y1
  refine ⟨v', M, h'.add g2, rfl, ⟨rn.slice, hz'⟩, Kn.le_refl _, Res.dj_add_left.2 ⟨y4, d4⟩, Res.dj_add_left.2 ⟨Res.dj_add_left.2 ⟨y2, d8⟩, d6⟩, ?_, h', g2, y3, rfl, rn, trivial⟩
  have eq2 : ((h'.add g2).add hA).add hf = h'.add ((g2.add hA).add hf) := by simp only [Res.add_assoc]
  rw [eq2]; exact sn
 have hsl : Lib.strCells ⟨⟨l⟩⟩ = vUs l := rfl
 have hlen : (vUs l).length = l.length := by simp [vUs]
 have grown : ∀ (old : Nat), old < k + l.length → xs.length = k → ∃ h', h'.dj ((g2.add hA).add hf) ∧ Sat (w.drew.alloc (.cells (xs.toArray ++ (vUs l).toArray ++ Builtin.zeroCells (Value.int .u8 0).cells (grownCap w (k + l.length) old e - (k + l.length))) e)) M (h'.add ((g2.add hA).add hf)) ∧
     RowAt e 1 (.slice (some ⟨w.heap.size, 0, none⟩) (k + l.length) (grownCap w (k + l.length) old e)) (k + l.length) (xs ++ vUs l) M h' := by
  intro old ho hxl
  have hge := grownCap_ge w (k + l.length) old e
  have hcm : grownCap w (k + l.length) old e ≤ maxLen := grownCap_le_maxLen w (k + l.length) old e hmx
  have s2 := t'.drew.alloc (.cells (xs.toArray ++ (vUs l).toArray ++ Builtin.zeroCells (Value.int .u8 0).cells (grownCap w (k + l.length) old e - (k + l.length))) e)
  obtain ⟨f1, f2⟩ := fresh_none t'.drew
  obtain ⟨f3, f4⟩ := Res.add_none.1 f2
  refine ⟨Res.one w.heap.size (.cells (xs.toArray ++ (vUs l).toArray ++ Builtin.zeroCells (Value.int .u8 0).cells (grownCap w (k + l.length) old e - (k + l.length))) e), one_dj f4, s2.le ?_, .inr ⟨w.heap.size, _, xs ++ vUs l ++ (Builtin.zeroCells (Value.int .u8 0).cells (grownCap w (k + l.length) old e - (k + l.length))).toList, rfl, hge, hcm, ?_, ?_, ?_, ?_⟩⟩
  · intro b o e
    simp only [Res.add] at e ⊢
    show (match Res.one w.heap.size _ b with | some o => some o | none => _) = _
    cases eb : Res.one w.heap.size (Obj.cells (xs.toArray ++ (vUs l).toArray ++ Builtin.zeroCells (Value.int .u8 0).cells (grownCap w (k + l.length) old _ - (k + l.length))) _) b with
    | some u => rw [eb] at e; simpa using e
    | none =>
      rw [eb] at e
      rcases djx b with x | x
      · simpa [x] using e
      · have e' : ((g2.add hA).add hf) b = some o := e
        rw [x] at e'; cases e'
  · simp only [List.length_append, Array.length_toList, size_zeroCells, hxl, hlen]
    simp [Value.cells]
    omega
  · simp [hxl, hlen]
  · have : (xs ++ vUs l).length = (k + l.length) * 1 := by simp [hxl, hlen]
    rw [← this]
    exact List.take_left
  · congr 2
    apply Array.ext'
    simp
 rcases hrow with ⟨rfl, rfl, rfl⟩ | ⟨g, cap, cur, rfl, hkc, hcm, hcl, hxl, htake, rfl⟩
 · by_cases hm : l = []
   · subst hm
     refine fin (.slice none 0 0) w g1 (fun _ _ => rfl) ?_ djx t' (.inl ⟨rfl, rfl, rfl⟩)
     simp [Builtin.append_, run_underlying ht, run_underlying hu, sizeOf, typeInfo, hi, Builtin.lenOf, Builtin.firstCells, mk_size]
   · have hpos : 0 < l.length := List.length_pos_iff.2 hm
     have hr := run_append_nil_string (P := P) w t u ty e i (.int .u8 0) ht hu hi hz ⟨⟨l⟩⟩ (by rw [mk_size]; omega) (by rw [mk_size]; omega) (by rw [mk_size, hb1]; omega)
     obtain ⟨h', d', s', r'⟩ := grown 0 (by omega) (by simp)
     have hsl2 : Array.map (fun b : UInt8 => Value.int .u8 (b.toNat : Int)) ⟨l⟩ = (vUs l).toArray := by simp [vUs]
     simp only [Nat.zero_add, List.nil_append, Array.empty_append, mk_size, hsl2] at d' s' r' hr
     exact fin _ _ h' (fun e _ => by omega) hr d' s' (by simpa using r')
 · have hg : w.heap[g]? = some (.cells cur.toArray e (0, 0)) := t'.ow _ _ (by simp [Res.add, Res.one])
   simp only [Nat.mul_one] at hcl hxl htake
   by_cases hroom : k + l.length ≤ cap
   · have hr := Lib.run_append_room_string (P := P) w t u ty e i ht hu hi hs1 g k cap cur.toArray hg ⟨⟨l⟩⟩ hroom (by simp [mk_size, hcl]; exact hroom)
     rw [mk_size, hsl] at hr
     refine fin _ _ (Res.one g (.cells (cur.take k ++ vUs l ++ cur.drop (k + l.length)).toArray e (0, 0))) (fun _ e => by cases e) hr (dj_one_any djx) (Sat.setBlk djx t' ?_ (fun j hj => ?_) ⟨rfl, rfl, rfl, by simp [World.setRow], up_rfl⟩) (.inr ⟨g, cap, cur.take k ++ vUs l ++ cur.drop (k + l.length), rfl, hroom, hcm, ?_, ?_, ?_, rfl⟩)
     · exact setRow_heap w g cur.toArray _ e _ hg
     · exact setRow_other w g j _ (fun x => hj x)
     · simp only [List.length_append, List.length_take, List.length_drop, hlen]
       omega
     · simp [hxl, hlen]
     · rw [htake]
       have : (xs ++ vUs l).length = (k + l.length) * 1 := by simp [hxl, hlen]
       rw [← this]
       exact List.take_left
   · have holds : ∀ j u, xs[j]? = some u → w.cell? ((⟨g, 0, none⟩ : Addr).add j) = some u := by
       intro j u hj
       have hlt := (List.getElem?_eq_some_iff.1 hj).1
       rw [addr_add, Nat.zero_add]
       simp only [World.cell?, hg]
       rw [← htake, List.getElem?_take_of_lt (by omega)] at hj
       simpa using hj
     have hr := Lib.run_append_grow_string (P := P) w t u ty e i (.int .u8 0) ht hu hi hz ⟨g, 0, none⟩ k cap xs (by rw [hs1]; omega) holds ⟨⟨l⟩⟩ (by rw [mk_size]; omega) (by rw [mk_size]; omega) (by rw [mk_size]; exact growslice_fits (by omega) (by rw [hb1]; omega))
     obtain ⟨h', d', s', r'⟩ := grown cap (by omega) hxl
     rw [mk_size, hsl] at hr
     exact fin _ _ h' (fun _ e => by cases e) hr d' s' r'
end
end
section
theorem sl_row {e : TypeId} {sz : Nat} {v : Value} {k : Nat} {xs : List Value} {Hs : List HP} {M : Kn} {h : Res} (s : SL (Row e sz v k xs :: Hs) M h) :
    (v = .slice none 0 0 ∧ k = 0 ∧ xs = [] ∧ SL Hs M h) ∨ ∃ g cap cur, v = .slice (some ⟨g, 0, none⟩) k cap ∧ k ≤ cap ∧ cap ≤ maxLen ∧ List.length cur = cap * sz ∧ xs.length = k * sz ∧ cur.take (k * sz) = xs ∧ SL (Ce g e cur :: Hs) M h := by
 obtain ⟨h1, h2, d, e', a, t⟩ := s
 rcases a with ⟨a, b, c⟩ | ⟨g, cap, cur, a, b, c, d', f, i, j⟩
 · refine .inl ⟨a, b, c, ?_⟩
   subst e'
   exact SL.more d t
 · exact .inr ⟨g, cap, cur, a, b, c, d', f, i, h1, h2, d, e', j, t⟩
theorem pick_left {A : HP} {B B' C : List HP} (u : Pick A B B') : Pick A (B ++ C) (B' ++ C) := by
 induction u with
 | here => exact .here
 | keep p => exact .keep p
 | there _ ih => exact .there ih
theorem pick_right {A : HP} {B C C' : List HP} (u : Pick A C C') : Pick A (B ++ C) (B ++ C') := by
 induction B with
 | nil => exact u
 | cons _ _ ih => exact .there ih
/-- A block that one has, found by its number; a row, by its slice. -/
class OwnC (b : Nat) (T : outParam TypeId) (l : outParam (List Value)) (Hs : List HP) (Rs : outParam (List HP)) : Prop where
 get : Pick (Ce b T l) Hs Rs
instance (priority := 1000) {b : Nat} {T : TypeId} {l : List Value} {r : List HP} : OwnC b T l (Ce b T l :: r) r := ⟨.here⟩
instance (priority := 100) {b : Nat} {T : TypeId} {l : List Value} {B : HP} {r s : List HP} [h : OwnC b T l r s] : OwnC b T l (B :: r) (B :: s) := ⟨.there h.get⟩
instance (priority := 900) {b : Nat} {T : TypeId} {l : List Value} {B B' C : List HP} [h : OwnC b T l B B'] : OwnC b T l (B ++ C) (B' ++ C) := ⟨pick_left h.get⟩
instance (priority := 800) {b : Nat} {T : TypeId} {l : List Value} {B C C' : List HP} [h : OwnC b T l C C'] : OwnC b T l (B ++ C) (B ++ C') := ⟨pick_right h.get⟩
class RowC (v : Value) (e : outParam TypeId) (sz : outParam Nat) (n : outParam Nat) (xs : outParam (List Value)) (Hs : List HP) (Rs : outParam (List HP)) : Prop where
 get : Pick (Row e sz v n xs) Hs Rs
instance (priority := 1000) {v : Value} {e : TypeId} {sz n : Nat} {xs : List Value} {r : List HP} : RowC v e sz n xs (Row e sz v n xs :: r) r := ⟨.here⟩
instance (priority := 100) {v : Value} {e : TypeId} {sz n : Nat} {xs : List Value} {B : HP} {r s : List HP} [h : RowC v e sz n xs r s] : RowC v e sz n xs (B :: r) (B :: s) := ⟨.there h.get⟩
instance (priority := 900) {v : Value} {e : TypeId} {sz n : Nat} {xs : List Value} {B B' C : List HP} [h : RowC v e sz n xs B B'] : RowC v e sz n xs (B ++ C) (B' ++ C) := ⟨pick_left h.get⟩
instance (priority := 800) {v : Value} {e : TypeId} {sz n : Nat} {xs : List Value} {B C C' : List HP} [h : RowC v e sz n xs C C'] : RowC v e sz n xs (B ++ C) (B ++ C') := ⟨pick_right h.get⟩
theorem ent_pick1 {A : HP} {Hs Rs : List HP} (h : Pick A Hs Rs) : Ent Hs (A :: Rs) := Picks.ent (.cons h .nil)
theorem row_norm {v : Value} {e sz n n' : Nat} {xs xs' : List Value} {Hs Rs : List HP} [q : RowC v e sz n xs Hs Rs] (hn : n = n') (hx : xs = xs') : Ent Hs (Row e sz v n' xs' :: Rs) := by
 subst hn; subst hx; exact ent_pick1 q.get
theorem row_norm1 {v : Value} {e sz n n' : Nat} {xs xs' : List Value} {Hs Rs : List HP} [q : RowC v e sz n xs Hs Rs] (hn : n = n') (hx : xs = xs') : Ent Hs [Row e sz v n' xs'] := (row_norm hn hx).trans ⟨fun ⟨h1, h2, d, e, a, t⟩ => ⟨h1, h2, d, e, a, trivial⟩⟩
section
variable {r : Option Nat} {P : Program} {n : Nat} {ops : Array Oper} {os : List Oper} {A : List HP} {L : Loc} {Hs : List HP} {Q : Out} {ty : TypeId} {d : Nat} {pos : String} {after : Array Edge} {c : Code}
theorem wc_row {e : TypeId} {sz : Nat} {v : Value} {k : Nat} {xs : List Value} (hn : v = .slice none 0 0 → k = 0 → xs = [] → wc r P n c L Hs Q)
    (ho : ∀ g cap cur, v = .slice (some ⟨g, 0, none⟩) k cap → k ≤ cap → cap ≤ maxLen → List.length cur = cap * sz → xs.length = k * sz → cur.take (k * sz) = xs → wc r P n c L (Ce g e cur :: Hs) Q) : wc r P n c L (Row e sz v k xs :: Hs) Q := by
 intro a M m s
 obtain ⟨g1, g2, dg, e1, y, s2⟩ := s.2
 rcases sl_row s2 with ⟨x1, x2, x3, s3⟩ | ⟨g, cap, cur, x1, x2, x3, x4, x5, x6, s3⟩
 · exact hn x1 x2 x3 a M m ⟨s.1, g1, g2, dg, e1, y, s3⟩
 · exact ho g cap cur x1 x2 x3 x4 x5 x6 a M m ⟨s.1, g1, g2, dg, e1, y, s3⟩
theorem wo_row {e : TypeId} {sz : Nat} {v : Value} {k : Nat} {xs : List Value} (hn : v = .slice none 0 0 → k = 0 → xs = [] → wo r P n ops os L Hs Q)
    (ho : ∀ g cap cur, v = .slice (some ⟨g, 0, none⟩) k cap → k ≤ cap → cap ≤ maxLen → List.length cur = cap * sz → xs.length = k * sz → cur.take (k * sz) = xs → wo r P n ops os L (Ce g e cur :: Hs) Q) : wo r P n ops os L (Row e sz v k xs :: Hs) Q := by
 intro a M m s
 obtain ⟨g1, g2, dg, e1, y, s2⟩ := s.2
 rcases sl_row s2 with ⟨x1, x2, x3, s3⟩ | ⟨g, cap, cur, x1, x2, x3, x4, x5, x6, s3⟩
 · exact hn x1 x2 x3 a M m ⟨s.1, g1, g2, dg, e1, y, s3⟩
 · exact ho g cap cur x1 x2 x3 x4 x5 x6 a M m ⟨s.1, g1, g2, dg, e1, y, s3⟩
theorem ent_row {e : TypeId} {sz g k cap : Nat} {xs cur : List Value} {Rs : List HP} [p : PickC (Ce g e cur) Hs Rs] (hk : k ≤ cap) (hc : cap ≤ maxLen) (hl : cur.length = cap * sz) (hx : xs.length = k * sz) (ht : cur.take (k * sz) = xs) : Ent Hs (Row e sz (.slice (some ⟨g, 0, none⟩) k cap) k xs :: Rs) := ⟨fun s => by
 obtain ⟨h1, h2, d, e', a, t⟩ := p.get.sat s
 exact ⟨h1, h2, d, e', .inr ⟨g, cap, cur, rfl, hk, hc, hl, hx, ht, a⟩, t⟩⟩
theorem pv_usd_row {x : Operand} {ts : Array TypeId} {a : Addr} {k c : Nat} (hx : ev L x = some (.slice (some a) k c)) (hc : c ≠ 0) : PV P n L (.call ⟨.builtin .unsafeSliceData, #[x], ts⟩) ty (.pointer (some a)) :=
 ⟨by intro c; simp, fun ac f w _ _ _ _ => by
  simp [execOp, resolve, f.ev hx, invoke, builtin, Lib.run_unsafeSliceData_row (P := P) w ts ty a k c hc]⟩
theorem pv_usd_nil {x : Operand} {ts : Array TypeId} {k c : Nat} (hx : ev L x = some (.slice none k c)) : PV P n L (.call ⟨.builtin .unsafeSliceData, #[x], ts⟩) ty (.pointer none) :=
 ⟨by intro c; simp, fun ac f w _ _ _ _ => by
  simp [execOp, resolve, f.ev hx, invoke, builtin, Lib.run_unsafeSliceData_nil (P := P) w ts ty k c]⟩
theorem pv_us_none {x y : Operand} {pt it : TypeId} {p : Option Addr} (hx : ev L x = some (.pointer p)) (hy : ev L y = some (vI 0)) : PV P n L (.call ⟨.builtin .unsafeString, #[x, y], #[pt, it]⟩) ty (vS []) :=
 ⟨by intro c; simp, fun ac f w _ _ _ _ => by
  simp [execOp, resolve, f.ev hx, f.ev hy, invoke, builtin, Lib.run_unsafeString_none (P := P) w pt it ty p]; rfl⟩
theorem opt_us_row {dst : Option Tmp} {x y : Operand} {pt it e : TypeId} {g : Nat} {cur : List Value} {l : List UInt8} (hp : P.underlying pt = some (.pointer e)) (hc : P.cellsOf e = 1) (hx : ev L x = some (.pointer (some ⟨g, 0, none⟩))) (hy : ev L y = some (vI l.length))
    (h0 : l ≠ []) (h63 : l.length ≤ 9223372036854775807) (hcur : cur.take l.length = vUs l) :
    OpT r P n ⟨dst, .call ⟨.builtin .unsafeString, #[x, y], #[pt, it]⟩, ty, pos, after, none⟩ A L [Ce g e cur] (fun _ : Unit => vS l) (fun _ => True) (fun _ => []) := by
 intro a f w M h hA hf dj dj' s sA t'
 obtain ⟨g1, g2, dg, e1, hce, _⟩ := s
 have hce' : g1 = Res.one g _ := hce
 subst hce'
 subst e1
 have hb : w.heap[g]? = some (.cells cur.toArray e (0, 0)) := t'.ow _ _ (by simp [Res.add, Res.one])
 have hll : l.length ≤ cur.length := by have := congrArg List.length hcur; simp [vUs] at this; omega
 have hr := Lib.run_unsafeString_row (P := P) w pt it ty e hp hc g cur.length (by simp [World.shape?, hb]) l h0 hll h63 (fun j u hj => by
  have hlt := (List.getElem?_eq_some_iff.1 hj).1
  rw [addr_add, Nat.zero_add]
  have e2 : (cur.take l.length)[j]? = (vUs l)[j]? := by rw [hcur]
  rw [List.getElem?_take_of_lt hlt] at e2
  simp only [World.cell?, hb]
  simp only [List.getElem?_toArray, e2, vUs, List.getElem?_map, hj]
  rfl)
 have hrun : (execOp a.eval ⟨dst, .call ⟨.builtin .unsafeString, #[x, y], #[pt, it]⟩, ty, pos, after, none⟩).run P w = .ok (.value (vS l)) (w.freeze ⟨g, 0, none⟩ l.length) := by
  simp [execOp, resolve, f.ev hx, f.ev hy, invoke, builtin, hr]
 rw [hrun]
 obtain ⟨d3, d4⟩ := Res.dj_add_left.1 dj
 obtain ⟨d5, d6⟩ := Res.dj_add_left.1 dj'
 obtain ⟨d7, d8⟩ := Res.dj_add_left.1 d5
 have eq : (((Res.one g (.cells cur.toArray e (0, 0))).add g2).add hA).add hf = (Res.one g (.cells cur.toArray e (0, 0))).add ((g2.add hA).add hf) := by simp only [Res.add_assoc]
 rw [eq] at t'
 have djx : (Res.one g (.cells cur.toArray e (0, 0))).dj ((g2.add hA).add hf) := Res.dj_add_right.2 ⟨Res.dj_add_right.2 ⟨dg, d3⟩, d7⟩
 have hl0 : l.length ≠ 0 := by simpa using h0
 have t2 : Sat (w.freeze ⟨g, 0, none⟩ l.length) M ((Res.one g (.cells cur.toArray e (0, l.length))).add ((g2.add hA).add hf)) := by
  refine Sat.setBlk djx t' ?_ (fun i hi => ?_) ⟨?_, ?_, ?_, ?_, ?_⟩
  · simp [World.freeze, hl0, Array.getElem?_modify, hb]
  · simp [World.freeze, hl0, Array.getElem?_modify, Ne.symm hi]
  all_goals simp [World.freeze, hl0]
 refine ⟨(), M, g2, rfl, trivial, Kn.le_refl _, d4, Res.dj_add_left.2 ⟨d8, d6⟩, t2.le (Res.le_add_right ?_), trivial⟩
 exact dj_one_any djx
end
end
section
/-- An address, so many cells on. -/
def elemA (a : Option Addr) (k : Nat) : Option Addr := match a with | some ⟨b, off, _⟩ => some ⟨b, off + k, none⟩ | none => none
/-- What lets cells behind an address be read. -/
def SlA (A : HP) (a : Option Addr) (xs : List Value) : Prop :=
 ∀ {M : Kn} {h : Res}, A.at_ M h → xs = [] ∨ ∃ g off l T fz, a = some ⟨g, off, none⟩ ∧ (M.im g = some (.cells (List.toArray l) T fz) ∨ h g = some (.cells (List.toArray l) T fz)) ∧ (l.drop off).take xs.length = xs
def SlIAt (a : Option Addr) (xs : List Value) (M : Kn) (_ : Res) : Prop := xs = [] ∨ ∃ g off l T fz, a = some ⟨g, off, none⟩ ∧ M.im g = some (.cells (List.toArray l) T fz) ∧ (l.drop off).take xs.length = xs
/-- Cells that never turn any more. -/
def SlI (a : Option Addr) (xs : List Value) : HP := ⟨SlIAt a xs, fun le e => e.imp id fun ⟨g, off, l, T, fz, h1, h2, h3⟩ => ⟨g, off, l, T, fz, h1, le.1 _ _ h2, h3⟩⟩
theorem SlI.pers (a : Option Addr) (xs : List Value) : Pers (SlI a xs) := fun e => e
instance {a : Option Addr} {xs : List Value} : PersC (SlI a xs) := ⟨SlI.pers a xs⟩
theorem sla_sli {a : Option Addr} {xs : List Value} : SlA (SlI a xs) a xs := fun e => e.imp id fun ⟨g, off, l, T, fz, h1, h2, h3⟩ => ⟨g, off, l, T, fz, h1, .inl h2, h3⟩
theorem sla_row {e : TypeId} {sz k n c : Nat} {a : Option Addr} {xs : List Value} : SlA (Row e sz (.slice a n c) k xs) a xs := fun x => by
 rcases x with ⟨_, _, h⟩ | ⟨g, cap, cur, h1, h2, h3, h4, h5, h6, h7⟩
 · exact .inl h
 · cases h1
   refine .inr ⟨g, 0, cur, e, (0, 0), rfl, .inr (by rw [h7]; exact Res.one_same _ _), ?_⟩
   rw [List.drop_zero, h5]; exact h6
theorem sla_ce {b : Nat} {T : TypeId} {l : List Value} : SlA (Ce b T l) (some ⟨b, 0, none⟩) l := fun x => .inr ⟨b, 0, l, T, (0, 0), rfl, .inr (by have : _ = Res.one b _ := x; rw [this]; exact Res.one_same _ _), by simp⟩
theorem sla_ice {b : Nat} {T : TypeId} {l : List Value} : SlA (ICe b T l) (some ⟨b, 0, none⟩) l := fun x => .inr ⟨b, 0, l, T, (0, 0), rfl, .inl x, by simp⟩
class RdSl (a : Option Addr) (xs : outParam (List Value)) (Hs : List HP) : Prop where
 get : ∃ A : HP, SlA A a xs ∧ Has A Hs
instance (priority := 1000) {a : Option Addr} {xs : List Value} {r : List HP} : RdSl a xs (SlI a xs :: r) := ⟨⟨_, sla_sli, .here⟩⟩
instance (priority := 1000) {e : TypeId} {sz k n c : Nat} {a : Option Addr} {xs : List Value} {r : List HP} : RdSl a xs (Row e sz (.slice a n c) k xs :: r) := ⟨⟨_, sla_row, .here⟩⟩
instance (priority := 1000) {b : Nat} {T : TypeId} {l : List Value} {r : List HP} : RdSl (some ⟨b, 0, none⟩) l (Ce b T l :: r) := ⟨⟨_, sla_ce, .here⟩⟩
instance (priority := 1000) {b : Nat} {T : TypeId} {l : List Value} {r : List HP} : RdSl (some ⟨b, 0, none⟩) l (ICe b T l :: r) := ⟨⟨_, sla_ice, .here⟩⟩
instance (priority := 100) {a : Option Addr} {xs : List Value} {B : HP} {r : List HP} [h : RdSl a xs r] : RdSl a xs (B :: r) := ⟨let ⟨A, s, p⟩ := h.get; ⟨A, s, .there p⟩⟩
theorem has_left {A : HP} {B C : List HP} (h : Has A B) : Has A (B ++ C) := by
 induction h with
 | here => exact .here
 | there _ ih => exact .there ih
theorem has_right {A : HP} {B C : List HP} (h : Has A C) : Has A (B ++ C) := by
 induction B with
 | nil => exact h
 | cons _ _ ih => exact .there ih
instance (priority := 900) {a : Option Addr} {xs : List Value} {B C : List HP} [h : RdSl a xs B] : RdSl a xs (B ++ C) := ⟨let ⟨A, s, p⟩ := h.get; ⟨A, s, has_left p⟩⟩
instance (priority := 800) {a : Option Addr} {xs : List Value} {B C : List HP} [h : RdSl a xs C] : RdSl a xs (B ++ C) := ⟨let ⟨A, s, p⟩ := h.get; ⟨A, s, has_right p⟩⟩
theorem sla_cell {A : HP} {a : Option Addr} {xs : List Value} (sh : SlA A a xs) {w : World} {M : Kn} {h hf h1 : Res} (t : Sat w M (h.add hf)) (le : h1.le h) (x : A.at_ M h1) (hne : xs ≠ []) :
    ∃ g off, a = some ⟨g, off, none⟩ ∧ ∀ j, j < xs.length → w.cell? ⟨g, off + j, none⟩ = xs[j]? := by
 rcases sh x with e | ⟨g, off, l, T, fz, e1, e2, e3⟩
 · exact absurd e hne
 · have hb : w.heap[g]? = some (.cells l.toArray T fz) := by
     rcases e2 with e | e
     · exact t.im _ _ e
     · exact t.ow _ _ (Res.le_add_left _ _ _ _ (le _ _ e))
   refine ⟨g, off, e1, fun j hj => ?_⟩
   have h4 : ((l.drop off).take xs.length)[j]? = xs[j]? := by rw [e3]
   rw [List.getElem?_take_of_lt hj, List.getElem?_drop] at h4
   simp [World.cell?, hb, h4]
theorem get_map {α : Type} {f : α → Value} {l : List α} {m : Nat} (h : m < l.length) : (l.map f)[m]? = some (f l[m]) := by simp [h]
theorem flat_len {α : Type} {f : α → List Value} {sz : Nat} (hf : ∀ x, (f x).length = sz) (l : List α) : (l.flatMap f).length = l.length * sz := by
 induction l with
 | nil => simp
 | cons x l ih => simp [List.flatMap_cons, ih, hf, Nat.add_mul]; omega
theorem get_flat {α : Type} {f : α → List Value} {sz : Nat} (hf : ∀ x, (f x).length = sz) {l : List α} {m : Nat} (h : m < l.length) : ((l.flatMap f).drop (m * sz)).take sz = f l[m] := by
 induction l generalizing m with
 | nil => simp at h
 | cons x l ih =>
   cases m with
   | zero => simp only [List.flatMap_cons, Nat.zero_mul, List.drop_zero, List.getElem_cons_zero]; rw [← hf x]; exact List.take_left
   | succ m =>
     simp only [List.flatMap_cons, List.getElem_cons_succ]
     have e : (m + 1) * sz = (f x).length + m * sz := by rw [hf, Nat.add_mul]; omega
     rw [e, ← List.drop_drop, List.drop_left]
     exact ih (by simpa using h)
section
variable {r : Option Nat} {P : Program} {n : Nat} {ops : Array Oper} {os : List Oper} {A : List HP} {L : Loc} {Hs : List HP} {Q : Out} {ty : TypeId} {d : Nat} {pos : String} {after : Array Edge} {c : Code}
theorem run_elemAddr {t e : TypeId} {x y : Operand} {k : IntKind} {i : Int} {m len cap g off : Nat} {ti : TypeInfo} (ht : P.underlying t = some (.slice e)) (hi : P.info? e = some ti) {sz : Nat} (hsz : ti.size = sz)
    {a : Act} (f : Fr n L a) (hx : ev L x = some (.slice (some ⟨g, off, none⟩) len cap)) (hy : ev L y = some (.int k i)) (hm : i = (m : Int)) (h : m < len) (w : World) (dst : Option Tmp) (pos : String) (after : Array Edge) (guard : Option (Nat × Bool)) :
    (execOp a.eval ⟨dst, .indexAddr t x y, ty, pos, after, guard⟩).run P w = .ok (.value (.pointer (some ⟨g, off + m * sz, none⟩))) w := by
 subst hm
 have := (pv_indexAddr (n := n) (ty := ty) ht hi hx hy (by omega) (by omega)).run a f w dst pos after guard
 rw [this]; simp [hsz]
theorem r_elemAddr {t e : TypeId} {x y : Operand} {a : Option Addr} {k : IntKind} {i : Int} {m len cap kk : Nat} {ti : TypeInfo} {xs : List Value} {sz : Nat} (ht : P.underlying t = some (.slice e)) (hi : P.info? e = some ti) (hsz : ti.size = sz)
    (hx : ev L x = some (.slice a len cap)) (hy : ev L y = some (.int k i)) (hm : i = (m : Int)) (h : m < len) [hr : RdSl a xs Hs] (hne : 0 < xs.length) (hk : m * sz = kk) (hd : Nat.blt d n = true)
    (K : wo r P n ops os ((d, .pointer (elemA a kk)) :: L) Hs Q) : wo r P n ops (⟨some d, .indexAddr t x y, ty, pos, after, none⟩ :: os) L Hs Q := by
 obtain ⟨B, sh, hB⟩ := hr.get
 refine wo_read (by intro c; simp) hB hd (fun ac f w M h1 h2 hf t' le yy dst pos after guard => ?_) K
 obtain ⟨g, off, rfl, _⟩ := sla_cell sh t' le yy (fun e => by rw [e] at hne; exact absurd hne (by simp))
 rw [run_elemAddr ht hi hsz f hx hy hm h w dst pos after guard, hk]
 rfl
theorem r_eload {t : TypeId} {td : TypeDesc} {x : Operand} {a : Option Addr} {k : Nat} {xs : List Value} {v : Value} (ht : P.underlying t = some td) (hfl : flat td = true)
    (hx : ev L x = some (.pointer (elemA a k))) [hr : RdSl a xs Hs] (hv : xs[k]? = some v) (hd : Nat.blt d n = true)
    (K : wo r P n ops os ((d, v) :: L) Hs Q) : wo r P n ops (⟨some d, .load t x, ty, pos, after, none⟩ :: os) L Hs Q := by
 obtain ⟨B, sh, hB⟩ := hr.get
 have hlt := (List.getElem?_eq_some_iff.1 hv).1
 refine wo_read (by intro c; simp) hB hd (fun ac f w M h1 h2 hf t' le yy _ _ _ _ => ?_) K
 obtain ⟨g, off, rfl, hc⟩ := sla_cell sh t' le yy (fun e => by rw [e] at hlt; exact absurd hlt (by simp))
 have h3 := hc k hlt
 rw [hv] at h3
 simp [execOp, f.ev hx, elemA, Instr.loadAt, Instr.sureAddr, loadVar, isAgg_flat ht hfl, run_load, h3]
theorem run_ecells {w : World} {g off k sz : Nat} {xs vs : List Value} (hc : ∀ j, j < xs.length → w.cell? ⟨g, off + j, none⟩ = xs[j]?) (hl : k + sz ≤ xs.length) (hv : (xs.drop k).take sz = vs) :
    (loadCells ⟨g, off + k, none⟩ sz).run P w = .ok vs.toArray w := by
 subst hv
 have e : ((xs.drop k).take sz).length = sz := by simp; omega
 have := run_loadCells_list (P := P) w ⟨g, off + k, none⟩ ((xs.drop k).take sz) (fun j v hj => by
  have hlt : j < ((xs.drop k).take sz).length := (List.getElem?_eq_some_iff.1 hj).1
  rw [e] at hlt
  rw [addr_add, Nat.add_assoc, hc (k + j) (by omega), ← List.getElem?_drop]
  rw [List.getElem?_take_of_lt hlt] at hj
  exact hj)
 rw [e] at this
 exact this
theorem r_eloada {t : TypeId} {td : TypeDesc} {x : Operand} {a : Option Addr} {k : Nat} {xs vs : List Value} {ti : TypeInfo} {sz : Nat} (ht : P.underlying t = some td) (hfl : flat td = false) (hi : P.info? t = some ti) (hsz : ti.size = sz)
    (hx : ev L x = some (.pointer (elemA a k))) [hr : RdSl a xs Hs] (hl : k + sz ≤ xs.length) (hs0 : Nat.blt 0 sz = true) (hv : (xs.drop k).take sz = vs) (hd : Nat.blt d n = true)
    (K : wo r P n ops os ((d, .agg vs.toArray) :: L) Hs Q) : wo r P n ops (⟨some d, .load t x, ty, pos, after, none⟩ :: os) L Hs Q := by
 obtain ⟨B, sh, hB⟩ := hr.get
 have hpos : 0 < sz := by simpa using hs0
 refine wo_read (by intro c; simp) hB hd (fun ac f w M h1 h2 hf t' le yy _ _ _ _ => ?_) K
 obtain ⟨g, off, rfl, hc⟩ := sla_cell sh t' le yy (fun e => by rw [e] at hl; simp at hl; omega)
 have h3 := run_ecells (P := P) hc hl hv
 simp [execOp, f.ev hx, elemA, Instr.loadAt, Instr.sureAddr, loadVar, isAgg_agg ht hfl, sizeOf, typeInfo, program, Sem.run, hi, hsz, h3]
/-- A field of an element. -/
theorem r_efield {t : TypeId} {x : Operand} {i : Nat} {a : Option Addr} {k : Nat} {fs : Array Field} {fd : Field} {xs : List Value} (ht : P.underlying t = some (.struct fs)) (hf : fs[i]? = some fd) {ti : TypeInfo} (hi : P.info? fd.type = some ti) (hz : Nat.beq ti.size 0 = false)
    (hx : ev L x = some (.pointer (elemA a k))) {o kk : Nat} (ho : fd.offset = o) (hk : k + o = kk) [hr : RdSl a xs Hs] (hne : 0 < xs.length) (hd : Nat.blt d n = true)
    (K : wo r P n ops os ((d, .pointer (elemA a kk)) :: L) Hs Q) : wo r P n ops (⟨some d, .fieldAddr t x i, ty, pos, after, none⟩ :: os) L Hs Q := by
 obtain ⟨B, sh, hB⟩ := hr.get
 refine wo_read (by intro c; simp) hB hd (fun ac f w M h1 h2 hfr t' le yy dst pos after guard => ?_) K
 obtain ⟨g, off, rfl, _⟩ := sla_cell sh t' le yy (fun e => by rw [e] at hne; exact absurd hne (by simp))
 have := (pv_fieldAddr (n := n) (ty := ty) ht hf hi hz hx).run ac f w dst pos after guard
 rw [this, ho, Nat.add_assoc, hk]
 rfl
/-! The same in regions that draw. -/
theorem tl_elemAddr {t e : TypeId} {x y : Operand} {a : Option Addr} {k : IntKind} {i : Int} {m len cap kk : Nat} {ti : TypeInfo} {xs : List Value} {sz : Nat} {dst : Option Tmp} (ht : P.underlying t = some (.slice e)) (hi : P.info? e = some ti) (hsz : ti.size = sz)
    (hx : ev L x = some (.slice a len cap)) (hy : ev L y = some (.int k i)) (hm : i = (m : Int)) (h : m < len) [hr : RdSl a xs A] (hne : 0 < xs.length) (hk : m * sz = kk) : Tells P n ops ⟨dst, .indexAddr t x y, ty, pos, after, none⟩ A L (.pointer (elemA a kk)) := by
 obtain ⟨B, sh, hB⟩ := hr.get
 refine .inr ⟨.inl rfl, fun ac f w M hA hf dj s t' => ?_⟩
 obtain ⟨h1, le, yy⟩ := hB.sat s
 obtain ⟨g, off, rfl, _⟩ := sla_cell sh t' le yy (fun e => by rw [e] at hne; exact absurd hne (by simp))
 rw [run_elemAddr ht hi hsz f hx hy hm h w dst pos after none, hk]
 rfl
theorem tl_eload {t : TypeId} {td : TypeDesc} {x : Operand} {a : Option Addr} {k : Nat} {xs : List Value} {v : Value} {dst : Option Tmp} (ht : P.underlying t = some td) (hfl : flat td = true)
    (hx : ev L x = some (.pointer (elemA a k))) [hr : RdSl a xs A] (hv : xs[k]? = some v) : Tells P n ops ⟨dst, .load t x, ty, pos, after, none⟩ A L v := by
 obtain ⟨B, sh, hB⟩ := hr.get
 have hlt := (List.getElem?_eq_some_iff.1 hv).1
 refine .inr ⟨.inl rfl, fun ac f w M hA hf dj s t' => ?_⟩
 obtain ⟨h1, le, yy⟩ := hB.sat s
 obtain ⟨g, off, rfl, hc⟩ := sla_cell sh t' le yy (fun e => by rw [e] at hlt; exact absurd hlt (by simp))
 have h3 := hc k hlt
 rw [hv] at h3
 simp [execOp, f.ev hx, elemA, Instr.loadAt, Instr.sureAddr, loadVar, isAgg_flat ht hfl, run_load, h3]
theorem tl_eloada {t : TypeId} {td : TypeDesc} {x : Operand} {a : Option Addr} {k : Nat} {xs vs : List Value} {ti : TypeInfo} {sz : Nat} {dst : Option Tmp} (ht : P.underlying t = some td) (hfl : flat td = false) (hi : P.info? t = some ti) (hsz : ti.size = sz)
    (hx : ev L x = some (.pointer (elemA a k))) [hr : RdSl a xs A] (hl : k + sz ≤ xs.length) (hs0 : Nat.blt 0 sz = true) (hv : (xs.drop k).take sz = vs) : Tells P n ops ⟨dst, .load t x, ty, pos, after, none⟩ A L (.agg vs.toArray) := by
 obtain ⟨B, sh, hB⟩ := hr.get
 have hpos : 0 < sz := by simpa using hs0
 refine .inr ⟨.inl rfl, fun ac f w M hA hf dj s t' => ?_⟩
 obtain ⟨h1, le, yy⟩ := hB.sat s
 obtain ⟨g, off, rfl, hc⟩ := sla_cell sh t' le yy (fun e => by rw [e] at hl; simp at hl; omega)
 have h3 := run_ecells (P := P) hc hl hv
 simp [execOp, f.ev hx, elemA, Instr.loadAt, Instr.sureAddr, loadVar, isAgg_agg ht hfl, sizeOf, typeInfo, program, Sem.run, hi, hsz, h3]
theorem tl_efield {t : TypeId} {x : Operand} {i : Nat} {a : Option Addr} {k : Nat} {fs : Array Field} {fd : Field} {xs : List Value} {dst : Option Tmp} (ht : P.underlying t = some (.struct fs)) (hf : fs[i]? = some fd) {ti : TypeInfo} (hi : P.info? fd.type = some ti) (hz : Nat.beq ti.size 0 = false)
    (hx : ev L x = some (.pointer (elemA a k))) {o kk : Nat} (ho : fd.offset = o) (hk : k + o = kk) [hr : RdSl a xs A] (hne : 0 < xs.length) : Tells P n ops ⟨dst, .fieldAddr t x i, ty, pos, after, none⟩ A L (.pointer (elemA a kk)) := by
 obtain ⟨B, sh, hB⟩ := hr.get
 refine .inr ⟨.inl rfl, fun ac f w M hA hfr dj s t' => ?_⟩
 obtain ⟨h1, le, yy⟩ := hB.sat s
 obtain ⟨g, off, rfl, _⟩ := sla_cell sh t' le yy (fun e => by rw [e] at hne; exact absurd hne (by simp))
 have := (pv_fieldAddr (n := n) (ty := ty) ht hf hi hz hx).run ac f w dst pos after none
 rw [this, ho, Nat.add_assoc, hk]
 rfl
/-- One's own row is given up for good. -/
theorem row_freeze {e : TypeId} {sz k n' c' : Nat} {a : Option Addr} {xs : List Value} {w : World} {M : Kn} {h1 h : Res} (x : RowAt e sz (.slice a n' c') k xs M h1) (d : h1.dj h) (t : Sat w M (h1.add h)) :
    ∃ M' : Kn, M.le M' ∧ SlIAt a xs M' Res.emp ∧ Sat w M' h := by
 rcases x with ⟨_, _, e1⟩ | ⟨g, cap, cur, e1, e2, e3, e4, e5, e6, e7⟩
 · exact ⟨M, Kn.le_refl _, .inl e1, t.le (Res.le_add_right d)⟩
 · cases e1
   subst e7
   obtain ⟨M', le, hi, t'⟩ := freeze_sat d t
   exact ⟨M', le, .inr ⟨g, 0, cur, e, (0, 0), rfl, hi, by rw [List.drop_zero, e5]; exact e6⟩, t'⟩
theorem wo_freezeRow {e : TypeId} {sz k n' c' : Nat} {a : Option Addr} {xs : List Value} {Rs : List HP} (hp : Pick (Row e sz (.slice a n' c') k xs) Hs Rs) (K : wo r P n ops os L (SlI a xs :: Rs) Q) : wo r P n ops os L Hs Q := by
 intro ac M m s w hf dj t
 obtain ⟨g1, g2, dg, e, y, s2⟩ := s.2
 subst e
 obtain ⟨h1, h2, d12, e, hb, sr⟩ := hp.sat s2
 subst e
 obtain ⟨d1, d2⟩ := Res.dj_add_right.1 dg
 obtain ⟨f1, f2⟩ := Res.dj_add_left.1 dj
 obtain ⟨f3, f4⟩ := Res.dj_add_left.1 f2
 have eq : (g1.add (h1.add h2)).add hf = h1.add ((g1.add h2).add hf) := by
  rw [← Res.add_assoc g1, Res.add_comm d1]
  simp only [Res.add_assoc]
 rw [eq] at t
 obtain ⟨M', le, hi, t'⟩ := row_freeze hb (Res.dj_add_right.2 ⟨Res.dj_add_right.2 ⟨Res.dj_comm d1, d12⟩, f3⟩) t
 exact wo_on K (a := ac) (M := M') (h := g1.add h2) ⟨s.1, g1, h2, d2, rfl, (Al _).mono le y, Res.emp, h2, Res.emp_dj _, rfl, hi, SL.mono le sr⟩ le (Res.dj_add_left.2 ⟨f1, f4⟩) t'
/-- append(s, x...), whatever lets x be read. -/
theorem opt_appendA {dst : Option Tmp} {t e : TypeId} {x y : Operand} {i : TypeInfo} {z : Value} (ht : P.underlying t = some (.slice e)) (hi : P.info? e = some i) (hz : i.zero = some z) (hzs : Nat.beq z.cells.size i.size = true) {sz : Nat} (hsz : i.size = sz) (hs0 : Nat.blt 0 sz = true) {bytes : Nat} (hby : i.bytes = bytes)
    {v : Value} {k : Nat} {xs : List Value} {a : Option Addr} {m c : Nat} {news : List Value} {B : HP} (hx : ev L x = some v) (hy : ev L y = some (.slice a m c)) (sh : SlA B a news)
    (hl : news.length = m * sz) (h1 : news.all oneCell = true) (hbytes : (k + m) * bytes ≤ 140737488355328) (h63 : k + m ≤ maxLen) :
    OpT r P n ⟨dst, .call ⟨.builtin .append, #[x, y], #[t, t]⟩, ty, pos, after, none⟩ A L [Row e sz v k xs, B] (fun v' => v') (fun v' => ∃ a c, v' = .slice a (k + m) c) (fun v' => [Row e sz v' (k + m) (xs ++ news), B]) := by
 subst hsz; subst hby
 have hpos : 0 < i.size := by simpa using hs0
 intro ac f w M h hA hf dj dj' s sA t'
 obtain ⟨g1, g2, dg, e1, hrow, s2⟩ := s
 obtain ⟨g3, g4, dg2, e2, hB, _⟩ := s2
 subst e2; subst e1
 obtain ⟨d1, d2⟩ := Res.dj_add_right.1 dg
 obtain ⟨d3, d4⟩ := Res.dj_add_left.1 dj
 obtain ⟨d5, d6⟩ := Res.dj_add_left.1 dj'
 obtain ⟨d7, d8⟩ := Res.dj_add_left.1 d5
 have eq : ((g1.add (g3.add g4)).add hA).add hf = g1.add (((g3.add g4).add hA).add hf) := by simp only [Res.add_assoc]
 by_cases hne : news = []
 · subst hne
   have hm : m = 0 := by
    rcases Nat.mul_eq_zero.1 hl.symm with h | h
    · exact h
    · omega
   subst hm
   have hr : (Builtin.append_ #[t, t] ty #[v, .slice a 0 c]).run P w = .ok v w := by
    have hl0 : ∀ b : Addr, (loadCells b 0).run P w = .ok #[] w := fun b => by simpa using run_loadCells_list (P := P) w b [] (by simp)
    rcases hrow with ⟨rfl, rfl, _⟩ | ⟨g, cap, cur, rfl, hkc, _, _, _, _, _⟩
    · cases a <;> simp [Builtin.append_, run_underlying ht, sizeOf, typeInfo, hi, Builtin.lenOf, Builtin.firstCells, hl0]
    · cases a <;> simp [Builtin.append_, run_underlying ht, sizeOf, typeInfo, hi, Builtin.lenOf, Builtin.firstCells, hl0, hkc, storeCells]
   have hrun : (execOp ac.eval ⟨dst, .call ⟨.builtin .append, #[x, y], #[t, t]⟩, ty, pos, after, none⟩).run P w = .ok (.value v) w := by
    simp [execOp, resolve, f.ev hx, f.ev hy, invoke, builtin, hr]
   rw [hrun]
   refine ⟨v, M, g1.add (g3.add g4), rfl, RowAt.slice (M := M) hrow, Kn.le_refl _, dj, dj', t', g1, g3.add g4, dg, rfl, ?_, g3, g4, dg2, rfl, hB, trivial⟩
   simpa using hrow
 · have hle : g3.le (g1.add (g3.add g4)) := Res.le_trans (Res.le_add_left g3 g4) (Res.le_add_right dg)
   have t3 : Sat w M ((g1.add (g3.add g4)).add (hA.add hf)) := by rw [← Res.add_assoc]; exact t'
   obtain ⟨g, off, rfl, hc⟩ := sla_cell sh t3 hle hB hne
   rw [eq] at t'
   obtain ⟨v', w', h', hr, djn, sn, rn⟩ := run_append_row (P := P) ht hi hz (Nat.eq_of_beq_eq_true hzs) hpos (hf := ((g3.add g4).add hA).add hf) (Res.dj_add_right.2 ⟨Res.dj_add_right.2 ⟨dg, d3⟩, d7⟩) t' hrow hl (fun j u hj => by
    rw [addr_add, hc j (List.getElem?_eq_some_iff.1 hj).1]; exact hj) (fun u hu => List.all_eq_true.1 h1 u hu) hbytes h63 (ty := ty) (c := c)
   have hrun : (execOp ac.eval ⟨dst, .call ⟨.builtin .append, #[x, y], #[t, t]⟩, ty, pos, after, none⟩).run P w = .ok (.value v') w' := by
    simp [execOp, resolve, f.ev hx, f.ev hy, invoke, builtin, hr]
   rw [hrun]
   obtain ⟨y1, y2⟩ := Res.dj_add_right.1 djn
   obtain ⟨y3, y4⟩ := Res.dj_add_right.1 y1
   refine ⟨v', M, h'.add (g3.add g4), rfl, rn.slice, Kn.le_refl _, Res.dj_add_left.2 ⟨y4, d4⟩, Res.dj_add_left.2 ⟨Res.dj_add_left.2 ⟨y2, d8⟩, d6⟩, ?_, h', g3.add g4, y3, rfl, rn, g3, g4, dg2, rfl, hB, trivial⟩
   have eq2 : ((h'.add (g3.add g4)).add hA).add hf = h'.add (((g3.add g4).add hA).add hf) := by simp only [Res.add_assoc]
   rw [eq2]; exact sn
end
end
section
section
variable {r : Option Nat} {P : Program} {n : Nat} {L : Loc} {Hs : List HP} {Q : Out} {c : Code}
variable {b : Frame} {a : Act} {k : List Item} {cs : List Frame} {w : World}
theorem stepR_scope {c : Code} : step P (lone (b.atR a (.code (.scope c) :: k)) cs w) = .next (lone (b.atR a (.code c :: .inScope c :: k)) cs w) :=
 step_lone_go (by simp [stepG, stepG.exec, Frame.atR])
theorem stepR_inScope {c : Code} : step P (lone (b.atR a (.inScope c :: k)) cs w) = .next (lone (b.atR a k) cs w) :=
 step_lone_go (by simp [stepG, stepG.exec, Frame.atR])
def scopeO (Q : Out) : Out
 | .goto _ => fun _ _ _ => False
 | e => Q e
theorem wc_scope2 {c : Code} (h : wc r P n c L Hs (scopeO Q)) : wc r P n (.scope c) L Hs Q := by
 intro a M m s w hf d t b k cs hro hb hr
 have h0 : (lone (b.atR a (.code (.scope c) :: k)) cs w).fenced P (WF r) := fenced_calm hb hr rfl
 obtain ⟨e, a₁, w₁, ⟨M', h', l, d', t', q⟩, harr⟩ := h a M m s w hf d t b (.inScope c :: k) cs hro hb hr
 cases e with
 | normal => exact ⟨.normal, a₁, w₁, ⟨M', h', l, d', t', q⟩, .head h0 stepR_scope (StepsIn.trans harr (.one (fenced_calm hb hr rfl) stepR_inScope))⟩
 | exit id =>
   have hx : exitTo id (.inScope c :: k) = exitTo id k := by simp [exitTo]
   exact ⟨.exit id, a₁, w₁, ⟨M', h', l, d', t', q⟩, fun k' hk => .head h0 stepR_scope (harr.1 k' (by rw [hx]; exact hk)),
    fun hr' hk => let ⟨k₁, h1, h2⟩ := harr.2 hr' (by rw [hx]; exact hk); ⟨k₁, h1, .head h0 stepR_scope h2⟩⟩
 | goto l => exact q.elim
 | ret => exact ⟨_, a₁, w₁, ⟨M', h', l, d', t', q⟩, .of_steps (.one h0 stepR_scope) harr⟩
 | panic ch => exact ⟨_, a₁, w₁, ⟨M', h', l, d', t', q⟩, .of_steps (.one h0 stepR_scope) harr⟩
 | outgrown => exact ⟨_, a₁, w₁, ⟨M', h', l, d', t', q⟩, .of_steps (.one h0 stepR_scope) harr⟩
theorem p_scope2 (h : c = .scope (bB c)) (k : wc r P n (bB c) L Hs (scopeO Q)) : wc r P n c L Hs Q := by rw [h]; exact wc_scope2 k
end
end
end Go.Proofs.YtdnoacgopfcpbaaGreat
