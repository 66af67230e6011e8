/- Proved: the statement StoreTexts of chapter 7: whatever it is given, the function ammonitelaw7.StoreTexts answers true and turns nothing that was there. No conditions. -/
import Derived.Test.YtimafngkifakfaaRows
import Derived.Test.YtimafngkifakfaaLawTextsQ
import Derived.Test.YtimafngkifakfaaQA4
import Derived.WalkKit
import Derived.ProofKit
import Derived.OpenShut
import Derived.ShutString
import Derived.ChangeOld
import Derived.Below
import Derived.Carry
import Derived.SizedLaws
set_option linter.unusedVariables false
set_option linter.unusedSimpArgs false
namespace Go.Proofs.Ytimafngkifakfaa
/-- An ask among the arguments. -/
theorem ask_of {H : Type} {enc : TypeId × Value → H} {w : World} {spare : Nat → Bool} {held : Bool} {fuel : Nat} {cs : List Value} {x : DataW H × List MemPlace}
    (h : DataW.trod enc Try.prog w 0 spare held fuel 37 cs = some x) : ∃ q : AskV, cs = q.cells ∧ q.keys.length ≤ 9223372036854775807 ∧ q.vals.length ≤ 9223372036854775807 ∧ At w (SlI q.ka (q.keys.map vI)) ∧ At w (SlI q.va (q.vals.map vI)) := by
  have hl := od_len Try.underlying37 h
  have e5 : Try.prog.cellsOf 37 = 5 := by kernel_rfl
  have ei : Try.prog.cellsOf 3 = 1 := by kernel_rfl
  have es : Try.prog.cellsOf 35 = 1 := by kernel_rfl
  rw [e5] at hl
  obtain ⟨m0, y0, f0⟩ := od_field Try.underlying37 h 0 3 0 1 rfl ei
  obtain ⟨m1, y1, f1⟩ := od_field Try.underlying37 h 1 3 1 1 rfl ei
  obtain ⟨m2, y2, f2⟩ := od_field Try.underlying37 h 2 3 2 1 rfl ei
  obtain ⟨m3, y3, f3⟩ := od_field Try.underlying37 h 3 35 3 1 rfl es
  obtain ⟨m4, y4, f4⟩ := od_field Try.underlying37 h 4 35 4 1 rfl es
  match cs, hl with
  | [c0, c1, c2, c3, c4], _ =>
    simp only [List.drop_zero, List.drop_succ_cons, List.take_succ_cons, List.take_zero] at f0 f1 f2 f3 f4
    obtain ⟨n0, g0, _, _⟩ := DataW.trod_int Try.underlying3 f0
    obtain ⟨n1, g1, _, _⟩ := DataW.trod_int Try.underlying3 f1
    obtain ⟨n2, g2, _, _⟩ := DataW.trod_int Try.underlying3 f2
    obtain ⟨a3, k3, l3, g3, b3, s3, _⟩ := od_ints Try.underlying35 Try.underlying3 (by rw [ei]; decide) f3
    obtain ⟨a4, k4, l4, g4, b4, s4, _⟩ := od_ints Try.underlying35 Try.underlying3 (by rw [ei]; decide) f4
    cases g0; cases g1; cases g2; cases g3; cases g4
    exact ⟨⟨n0, n1, n2, a3, k3, l3, a4, k4, l4⟩, rfl, b3, b4, s3, s4⟩
end Go.Proofs.Ytimafngkifakfaa
namespace Go.Proofs.Ytimafngkifakfaa.storeTexts
open Go.ChangeShapes Go.WideShapes Go.ChangeAt Go.RowKit
open Go.ChangeMaps (open_string shut_string)
theorem own : ownKnob Try.prog.godebug = none := by kernel_rfl
theorem laidOut : laidOutB Try.prog = true := by kernel_rfl
set_option maxRecDepth 100000 in
theorem lifted (os : Os) (started : os.Started) (H : Type) (enc : TypeId × Value → H) :
    ReturnsInHanded {} Try.checked os 4 .any (Rows.storeTextsSpec.pre6 enc Try.prog Try.f4 Rows.storeTextsRow.domain false) (Rows.storeTextsSpec.post enc Try.prog Try.f4 false true false false) := by
  refine returnsInHanded_of_change_sized (C := Try.checked) own started (by kernel_rfl) Try.func4
    (ChangeSpec.witness6 (enc := enc) (C := Try.checked) false ⟨#[], #[.agg #[.int .i64 0, .int .i64 0, .int .i64 0, .slice none 0 0, .slice none 0 0], .agg #[.int .i64 0, .int .i64 0, .int .i64 0, .slice none 0 0, .slice none 0 0], .string ByteArray.empty, .int .i64 0, .int .u8 0, .int .i64 0], []⟩ 8 (by kernel_rfl) (by kernel_rfl) (by kernel_rfl) (by kernel_rfl)) ?_
  intro W base args ds gs before hval0 hW hcnd hsz0 _
  have hval : ∀ (j : Nat) t v, Try.f4.params[j]? = some t → args[j]? = some v → Value.okWide Try.prog W .any base t v := hval0
  have hW' := hW
  obtain ⟨p, q, hA0, hV, rfl, hfz, hnd⟩ := hW
  have hA : DataW.TrodAll enc Try.prog W 0 (fun _ => true) true Try.f4.params.toList args.toList ds p := hA0
  rw [Try.params4] at hA hval
  obtain ⟨v0, vs0, d0, ds0, p0, q0, hargs, rfl, rfl, h0, r0⟩ := trodAll_cons hA
  obtain ⟨v1, vs1, d1, ds1, p1, q1, rfl, rfl, rfl, h1, r1⟩ := trodAll_cons r0
  obtain ⟨v2, vs2, d2, ds2, p2, q2, rfl, rfl, rfl, h2, r2⟩ := trodAll_cons r1
  obtain ⟨v3, vs3, d3, ds3, p3, q3, rfl, rfl, rfl, h3, r3⟩ := trodAll_cons r2
  obtain ⟨v4, vs4, d4, ds4, p4, q4, rfl, rfl, rfl, h4, r4⟩ := trodAll_cons r3
  obtain ⟨v5, vs5, d5, ds5, p5, q5, rfl, rfl, rfl, h5, r5⟩ := trodAll_cons r4
  obtain ⟨rfl, rfl, rfl⟩ := trodAll_nil r5
  obtain rfl : args = #[v0, v1, v2, v3, v4, v5] := by cases args; simp_all
  obtain ⟨rfl, rfl⟩ := trodVars_none hV
  have lt0 : ∀ x ∈ p0, x.block < W.heap.size := by obtain ⟨m, hm⟩ := h0; exact DataW.trod_lt m _ _ _ hm
  have lt1 : ∀ x ∈ p1, x.block < W.heap.size := by obtain ⟨m, hm⟩ := h1; exact DataW.trod_lt m _ _ _ hm
  have k0 := h0
  have k1 := h1
  obtain ⟨c0, rfl, _⟩ := okWide_struct Try.underlying37 (hval 0 37 v0 rfl rfl)
  obtain ⟨c1, rfl, _⟩ := okWide_struct Try.underlying37 (hval 1 37 v1 rfl rfl)
  obtain ⟨m0, h0⟩ := h0
  obtain ⟨m1, h1⟩ := h1
  obtain ⟨qa, ga, la1, la2, sa1, sa2⟩ := ask_of h0
  obtain ⟨qb, gb, lb1, lb2, sb1, sb2⟩ := ask_of h1
  obtain rfl : c0 = qa.cells.toArray := by rw [← ga]; simp [Value.cells]
  obtain rfl : c1 = qb.cells.toArray := by rw [← gb]; simp [Value.cells]
  obtain ⟨a2, rfl, rfl, rfl, y2⟩ := open_string Try.underlying9 (hval 2 9 v2 rfl rfl) h2
  obtain ⟨a3, rfl, rfl, rfl, w3⟩ := open_int Try.underlying3 (hval 3 3 v3 rfl rfl) h3
  obtain ⟨a4, rfl, rfl, rfl, w4⟩ := open_int Try.underlying5 (hval 4 5 v4 rfl rfl) h4
  obtain ⟨a5, rfl, rfl, rfl, w5⟩ := open_int Try.underlying3 (hval 5 3 v5 rfl rfl) h5
  obtain ⟨c, rfl⟩ := byte_of w4
  have y2' : a2.data.toList.length ≤ 9223372036854775807 := y2
  clear hA0 hval0 hsz0
  have law := law_StoreTexts qa qb a2.data.toList a3 c a5 la1 la2 lb1 lb2 y2'
  refine (Sp.law law W (sl_start (by intro A hA; simp only [List.mem_cons, List.not_mem_nil, or_false] at hA; rcases hA with rfl | rfl | rfl | rfl <;> assumption))).mono fun e W' ⟨he, bel⟩ => ?_
  subst he
  exact ⟨_, rfl, _, _, _, [], _, [], hW', trodAll_mk1 (shut_bool Try.underlying4 _), (trodAll_cons_mk (Below.trod laidOut (by kernel_rfl) (of_decide_eq_true (by kernel_rfl)) k0 bel lt0) (trodAll_cons_mk (Below.trod laidOut (by kernel_rfl) (of_decide_eq_true (by kernel_rfl)) k1 bel lt1) (trodAll_cons_mk (shut_string Try.underlying9 y2) (trodAll_cons_mk (shut_int Try.underlying3 w3) (trodAll_cons_mk (shut_int Try.underlying5 w4) (trodAll_cons_mk (shut_int Try.underlying3 w5) trodAll_mk0)))))), rfl, bel.frame _, fun h => by cases h⟩
theorem over : Rows.storeTextsRow.holds Try.pinned (OpenSpec.ofChange Rows.storeTextsSpec) :=
  OpenClaim.holds_of_wide 4 Try.f4 rfl rfl rfl rfl rfl rfl rfl ⟨rfl, rfl, rfl, rfl, rfl⟩ rfl rfl rfl rfl rfl (by kernel_rfl) Try.func4 (by kernel_rfl)
    (of_decide_eq_true (by kernel_rfl)) (by unfold Func.isWrapper; first | (rw [if_pos (by decide +kernel)]; kernel_rfl) | (rw [if_neg (by decide +kernel)]; exact ⟨rfl, rfl⟩))
    (fun os started H enc _ => lifted os started H enc)
theorem proved : Rows.StoreTextsSaid := over
#print axioms proved
end Go.Proofs.Ytimafngkifakfaa.storeTexts
namespace Go.Proofs.Ytimafngkifakfaa
theorem storeTexts_holds : Rows.StoreTextsSaid := storeTexts.proved
end Go.Proofs.Ytimafngkifakfaa
