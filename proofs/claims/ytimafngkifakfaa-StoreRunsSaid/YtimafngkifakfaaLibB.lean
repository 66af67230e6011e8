/- strings.Builder. -/
import Derived.Test.YtimafngkifakfaaLib0
import Derived.Lib.Builder
import Derived.Lib.UnsafeStr
import Derived.Lib.AppendStr
set_option linter.unusedVariables false
set_option linter.unusedSimpArgs false
set_option maxRecDepth 100000
namespace Go.Proofs.Ytimafngkifakfaa
section
variable {r : Option Nat} {P : Program} {n : Nat} {ops : Array Oper} {os : List Oper} {A : List HP} {L : Loc} {Hs : List HP} {Q : Out} {ty : TypeId} {d : Nat} {pos : String} {after : Array Edge} {c : Code}

theorem pv_ptr {x y : Operand} {a b : Option Addr} {t yt : TypeId} {op : BinOp} {v : Value} (hx : ev L x = some (.pointer a)) (hy : ev L y = some (.pointer b))
    (h : ∀ w, (binOp op t (.pointer a) (.pointer b)).run P w = .ok v w) : PV P n L (.binOp op t x y yt) ty v :=
  ⟨by intro c; simp, fun ac f w _ _ _ _ => by
    simp only [execOp, f.ev hx, f.ev hy, Sem.run_bind]
    have hg : (eqGuard op t x y (.pointer a) (.pointer b)).run P w = .ok () w := by
      unfold eqGuard
      split <;> rfl
    rw [hg]
    simp [h w]⟩
theorem pv_peql_nil {x y : Operand} {a : Option Addr} {t yt e : TypeId} (ht : P.underlying t = some (.pointer e)) (hx : ev L x = some (.pointer a)) (hy : ev L y = some (.pointer none)) : PV P n L (.binOp .eql t x y yt) ty (.bool a.isNone) :=
  pv_ptr hx hy fun w => by
    have h : ∀ d : Nat, (Op.equalIn (d + 1) t (.pointer a) (.pointer none)).run P w = .ok a.isNone w := fun d => by
      cases a <;> simp [Op.equalIn, run_underlying ht]
    simp only [binOp]
    simp [Op.equal, Op.maxDepth, h 9999]
theorem pv_pneq_nil {x y : Operand} {a : Option Addr} {t yt e : TypeId} (ht : P.underlying t = some (.pointer e)) (hx : ev L x = some (.pointer a)) (hy : ev L y = some (.pointer none)) : PV P n L (.binOp .neq t x y yt) ty (.bool a.isSome) :=
  pv_ptr hx hy fun w => by
    have h : ∀ d : Nat, (Op.equalIn (d + 1) t (.pointer a) (.pointer none)).run P w = .ok a.isNone w := fun d => by
      cases a <;> simp [Op.equalIn, run_underlying ht]
    simp only [binOp]
    cases a <;> simp [Op.equal, Op.maxDepth, h 9999]
theorem pv_pneq_same {x y : Operand} {a : Addr} {t yt e : TypeId} {j : TypeInfo} (ht : P.underlying t = some (.pointer e)) (he : P.info? e = some j) (hx : ev L x = some (.pointer (some a))) (hy : ev L y = some (.pointer (some a))) : PV P n L (.binOp .neq t x y yt) ty (.bool false) :=
  pv_ptr hx hy fun w => Lib.run_neq_ptr_same w a ht he
theorem pv_extern {f : FuncId} {fn : Func} {e : Array Value → Sem Value} {args : Array Operand} {ats : Array TypeId} {vs : List Value} {v : Value} (hf : P.funcs[f]? = some fn) (hname : (fn.name == "runtime.NumGoroutine") = false)
    (hb : fn.body.isNone = true) (hn : Extern.findNext fn = none) (he : Extern.find fn = some e) (ha : evs L args.toList = some vs) (h : ∀ w, (e vs.toArray).run P w = .ok v w) : PV P n L (.call ⟨.value (.func f), args, ats⟩) ty v :=
  ⟨by intro c; simp, fun a fr w _ _ _ _ => by
    have hargs : args.map a.eval = vs.toArray := by
      have := fr.evs _ ha
      apply Array.ext'
      simp [this]
    simp only [execOp, resolve, Act.eval, Deferred.ofValue, Sem.run_bind, Sem.run_pure, Result.andThen_ok, invoke]
    have := run_callFunc_extern hf hname hb hn he vs.toArray w
    rw [show (Array.map (fun x => a.eval x) args) = vs.toArray from hargs]
    simp only [Array.append_empty, Array.empty_append]
    rw [this, h w]
    rfl⟩

theorem shows_shape {A : HP} {b : Nat} {l : List Value} (sh : Shows A b l) {w : World} {M : Kn} {h hf h1 : Res} (t : Sat w M (h.add hf)) (le : h1.le h) (x : A.at_ M h1) : ∃ T, w.shape? b = some (T, l.length) := by
  obtain ⟨T, fz, e⟩ := sh x
  have hb : w.heap[b]? = some (.cells l.toArray T fz) := by
    rcases e with e | e
    · exact t.im _ _ e
    · exact t.ow _ _ (Res.le_add_left _ _ _ _ (le _ _ e))
  exact ⟨T, by simp [World.shape?, hb]⟩
theorem ce_shape {b T : Nat} {l : List Value} {w : World} {M : Kn} {h hf h1 : Res} (t : Sat w M (h.add hf)) (le : h1.le h) (x : (Ce b T l).at_ M h1) : w.shape? b = some (T, l.length) := by
  have e : h1 = Res.one b _ := x
  have hb : w.heap[b]? = some (.cells l.toArray T (0, 0)) := t.ow _ _ (Res.le_add_left _ _ _ _ (le _ _ (by rw [e]; exact Res.one_same _ _)))
  simp [World.shape?, hb]
theorem r_toUnsafe {src dst t T : TypeId} {j : TypeInfo} {x : Operand} {b : Nat} {l : List Value} (hs : P.underlying src = some (.pointer t)) (hd' : P.underlying dst = some .unsafePointer) (ht : P.info? t = some j) (hj : Nat.beq j.size 0 = false)
    (hx : ev L x = some (.pointer (some ⟨b, 0, none⟩))) (hA : Has (Ce b T l) Hs) (hl : Nat.blt 0 l.length = true) (hd : Nat.blt d n = true)
    (k : wo r P n ops os ((d, .pointer (some ⟨b, 0, none⟩)) :: L) Hs Q) : wo r P n ops (⟨some d, .convert src dst x, ty, pos, after, none⟩ :: os) L Hs Q := by
  refine wo_read (by intro c; simp) hA hd (fun a f w M h h1 hf t' le y _ _ _ _ => ?_) k
  have hsh := ce_shape t' le y
  have := Lib.run_to_unsafe (P := P) w ⟨b, 0, none⟩ hs hd' ht (fun e => by rw [e] at hj; cases hj) hsh (by simpa using hl)
  simp [execOp, f.ev hx, this]
theorem r_fromUnsafe {src dst u T : TypeId} {j : TypeInfo} {x : Operand} {b : Nat} {l : List Value} {len : Nat} (hs : P.underlying src = some .unsafePointer) (hd' : P.underlying dst = some (.pointer u)) (hu : P.info? u = some j) (hlen : l.length = len)
    (hlies : liesAt P P.depth T (len / P.cellsOf T) 0 u 1 = true)
    (hx : ev L x = some (.pointer (some ⟨b, 0, none⟩))) (hA : Has (Ce b T l) Hs) (hd : Nat.blt d n = true)
    (k : wo r P n ops os ((d, .pointer (some ⟨b, 0, none⟩)) :: L) Hs Q) : wo r P n ops (⟨some d, .convert src dst x, ty, pos, after, none⟩ :: os) L Hs Q := by
  refine wo_read (by intro c; simp) hA hd (fun a f w M h h1 hf t' le y _ _ _ _ => ?_) k
  have hsh := ce_shape t' le y
  have := Lib.run_from_unsafe (P := P) w ⟨b, 0, none⟩ hs hd' hu hsh (by rw [hlen]; exact hlies)
  simp [execOp, f.ev hx, this]

/-- append(b, s...), s a text. -/
theorem opt_appendS {dst : Option Tmp} {t u e : TypeId} {x y : Operand} {i : TypeInfo} (ht : P.underlying t = some (.slice e)) (hu : P.underlying u = some .string) (hi : P.info? e = some i) (hz : i.zero = some (.int .u8 0)) (hs1 : i.size = 1) (hb1 : i.bytes = 1)
    {v : Value} {k : Nat} {xs : List Value} {l : List UInt8} (hx : ev L x = some v) (hy : ev L y = some (vS l)) (h63 : k + l.length ≤ 140737488355328) :
    OpT r P n ⟨dst, .call ⟨.builtin .append, #[x, y], #[t, u]⟩, ty, pos, after, none⟩ A L [Row e 1 v k xs] (fun v' => v') (fun v' => (∃ a c, v' = .slice a (k + l.length) c) ∧ (k + l.length = 0 → v = .slice none 0 0 → v' = .slice none 0 0)) (fun v' => [Row e 1 v' (k + l.length) (xs ++ vUs l)]) := by
  intro a f w M h hA hf dj dj' s sA t'
  obtain ⟨g1, g2, dg, e1, hrow, _⟩ := s
  subst e1
  obtain ⟨d3, d4⟩ := Res.dj_add_left.1 dj
  obtain ⟨d5, d6⟩ := Res.dj_add_left.1 dj'
  obtain ⟨d7, d8⟩ := Res.dj_add_left.1 d5
  have eq : ((g1.add g2).add hA).add hf = g1.add ((g2.add hA).add hf) := by simp only [Res.add_assoc]
  rw [eq] at t'
  have djx : g1.dj ((g2.add hA).add hf) := Res.dj_add_right.2 ⟨Res.dj_add_right.2 ⟨dg, d3⟩, d7⟩
  have hmx : k + l.length ≤ maxLen := by simp only [maxLen]; omega
  have fin : ∀ v' w' h', (k + l.length = 0 → v = .slice none 0 0 → v' = .slice none 0 0) → (Builtin.append_ #[t, u] ty #[v, vS l]).run P w = .ok v' w' → h'.dj ((g2.add hA).add hf) → Sat w' M (h'.add ((g2.add hA).add hf)) → RowAt e 1 v' (k + l.length) (xs ++ vUs l) M h' →
      opV r P (fun u' w' => ∃ (x : Value) (M' : Kn) (h' : Res), u' = x ∧ ((∃ a c, x = .slice a (k + l.length) c) ∧ (k + l.length = 0 → v = Value.slice none 0 0 → x = .slice none 0 0)) ∧ M.le M' ∧ h'.dj hA ∧ (h'.add hA).dj hf ∧ Sat w' M' ((h'.add hA).add hf) ∧ SL [Row e 1 x (k + l.length) (xs ++ vUs l)] M' h')
        ((execOp a.eval ⟨dst, .call ⟨.builtin .append, #[x, y], #[t, u]⟩, ty, pos, after, none⟩).run P w) := by
    intro v' w' h' hz' hr djn sn rn
    have hrun : (execOp a.eval ⟨dst, .call ⟨.builtin .append, #[x, y], #[t, u]⟩, ty, pos, after, none⟩).run P w = .ok (.value v') w' := by
      simp [execOp, resolve, f.ev hx, f.ev hy, invoke, builtin, hr]
    rw [hrun]
    obtain ⟨y1, y2⟩ := Res.dj_add_right.1 djn
    obtain ⟨y3, y4⟩ := Res.dj_add_right.1 y1
    refine ⟨v', M, h'.add g2, rfl, ⟨rn.slice, hz'⟩, Kn.le_refl _, Res.dj_add_left.2 ⟨y4, d4⟩, Res.dj_add_left.2 ⟨Res.dj_add_left.2 ⟨y2, d8⟩, d6⟩, ?_, h', g2, y3, rfl, rn, trivial⟩
    have eq2 : ((h'.add g2).add hA).add hf = h'.add ((g2.add hA).add hf) := by simp only [Res.add_assoc]
    rw [eq2]; exact sn
  have hsl : Lib.strCells ⟨⟨l⟩⟩ = vUs l := rfl
  have hlen : (vUs l).length = l.length := by simp [vUs]
  have grown : ∀ (old : Nat), old < k + l.length → xs.length = k → ∃ h', h'.dj ((g2.add hA).add hf) ∧ Sat (w.drew.alloc (.cells (xs.toArray ++ (vUs l).toArray ++ Builtin.zeroCells (Value.int .u8 0).cells (grownCap w (k + l.length) old e - (k + l.length))) e)) M (h'.add ((g2.add hA).add hf)) ∧
      RowAt e 1 (.slice (some ⟨w.heap.size, 0, none⟩) (k + l.length) (grownCap w (k + l.length) old e)) (k + l.length) (xs ++ vUs l) M h' := by
    intro old ho hxl
    have hge := grownCap_ge w (k + l.length) old e
    have hcm : grownCap w (k + l.length) old e ≤ maxLen := grownCap_le_maxLen w (k + l.length) old e hmx
    have s2 := t'.drew.alloc (.cells (xs.toArray ++ (vUs l).toArray ++ Builtin.zeroCells (Value.int .u8 0).cells (grownCap w (k + l.length) old e - (k + l.length))) e)
    obtain ⟨f1, f2⟩ := fresh_none t'.drew
    obtain ⟨f3, f4⟩ := Res.add_none.1 f2
    refine ⟨Res.one w.heap.size (.cells (xs.toArray ++ (vUs l).toArray ++ Builtin.zeroCells (Value.int .u8 0).cells (grownCap w (k + l.length) old e - (k + l.length))) e), one_dj f4, s2.le ?_, .inr ⟨w.heap.size, _, xs ++ vUs l ++ (Builtin.zeroCells (Value.int .u8 0).cells (grownCap w (k + l.length) old e - (k + l.length))).toList, rfl, hge, hcm, ?_, ?_, ?_, ?_⟩⟩
    · intro b o e
      simp only [Res.add] at e ⊢
      show (match Res.one w.heap.size _ b with | some o => some o | none => _) = _
      cases eb : Res.one w.heap.size (Obj.cells (xs.toArray ++ (vUs l).toArray ++ Builtin.zeroCells (Value.int .u8 0).cells (grownCap w (k + l.length) old _ - (k + l.length))) _) b with
      | some u => rw [eb] at e; simpa using e
      | none =>
        rw [eb] at e
        rcases djx b with x | x
        · simpa [x] using e
        · have e' : ((g2.add hA).add hf) b = some o := e
          rw [x] at e'; cases e'
    · simp only [List.length_append, Array.length_toList, size_zeroCells, hxl, hlen]
      simp [Value.cells]
      omega
    · simp [hxl, hlen]
    · have : (xs ++ vUs l).length = (k + l.length) * 1 := by simp [hxl, hlen]
      rw [← this]
      exact List.take_left
    · congr 2
      apply Array.ext'
      simp
  rcases hrow with ⟨rfl, rfl, rfl⟩ | ⟨g, cap, cur, rfl, hkc, hcm, hcl, hxl, htake, rfl⟩
  · by_cases hm : l = []
    · subst hm
      refine fin (.slice none 0 0) w g1 (fun _ _ => rfl) ?_ djx t' (.inl ⟨rfl, rfl, rfl⟩)
      simp [Builtin.append_, run_underlying ht, run_underlying hu, sizeOf, typeInfo, hi, Builtin.lenOf, Builtin.firstCells, mk_size]
    · have hpos : 0 < l.length := List.length_pos_iff.2 hm
      have hr := run_append_nil_string (P := P) w t u ty e i (.int .u8 0) ht hu hi hz ⟨⟨l⟩⟩ (by rw [mk_size]; omega) (by rw [mk_size]; omega) (by rw [mk_size, hb1]; omega)
      obtain ⟨h', d', s', r'⟩ := grown 0 (by omega) (by simp)
      have hsl2 : Array.map (fun b : UInt8 => Value.int .u8 (b.toNat : Int)) ⟨l⟩ = (vUs l).toArray := by simp [vUs]
      simp only [Nat.zero_add, List.nil_append, Array.empty_append, mk_size, hsl2] at d' s' r' hr
      exact fin _ _ h' (fun e _ => by omega) hr d' s' (by simpa using r')
  · have hg : w.heap[g]? = some (.cells cur.toArray e (0, 0)) := t'.ow _ _ (by simp [Res.add, Res.one])
    simp only [Nat.mul_one] at hcl hxl htake
    by_cases hroom : k + l.length ≤ cap
    · have hr := Lib.run_append_room_string (P := P) w t u ty e i ht hu hi hs1 g k cap cur.toArray hg ⟨⟨l⟩⟩ hroom (by simp [mk_size, hcl]; exact hroom)
      rw [mk_size, hsl] at hr
      refine fin _ _ (Res.one g (.cells (cur.take k ++ vUs l ++ cur.drop (k + l.length)).toArray e (0, 0))) (fun _ e => by cases e) hr (dj_one_any djx) (Sat.setBlk djx t' ?_ (fun j hj => ?_) ⟨rfl, rfl, rfl, by simp [World.setRow]⟩) (.inr ⟨g, cap, cur.take k ++ vUs l ++ cur.drop (k + l.length), rfl, hroom, hcm, ?_, ?_, ?_, rfl⟩)
      · exact setRow_heap w g cur.toArray _ e _ hg
      · exact setRow_other w g j _ (fun x => hj x)
      · simp only [List.length_append, List.length_take, List.length_drop, hlen]
        omega
      · simp [hxl, hlen]
      · rw [htake]
        have : (xs ++ vUs l).length = (k + l.length) * 1 := by simp [hxl, hlen]
        rw [← this]
        exact List.take_left
    · have holds : ∀ j u, xs[j]? = some u → w.cell? ((⟨g, 0, none⟩ : Addr).add j) = some u := by
        intro j u hj
        have hlt := (List.getElem?_eq_some_iff.1 hj).1
        rw [addr_add, Nat.zero_add]
        simp only [World.cell?, hg]
        rw [← htake, List.getElem?_take_of_lt (by omega)] at hj
        simpa using hj
      have hr := Lib.run_append_grow_string (P := P) w t u ty e i (.int .u8 0) ht hu hi hz ⟨g, 0, none⟩ k cap xs (by rw [hs1]; omega) holds ⟨⟨l⟩⟩ (by rw [mk_size]; omega) (by rw [mk_size]; omega) (by rw [mk_size]; exact growslice_fits (by omega) (by rw [hb1]; omega))
      obtain ⟨h', d', s', r'⟩ := grown cap (by omega) hxl
      rw [mk_size, hsl] at hr
      exact fin _ _ h' (fun _ e => by cases e) hr d' s' r'
end

end Go.Proofs.Ytimafngkifakfaa
