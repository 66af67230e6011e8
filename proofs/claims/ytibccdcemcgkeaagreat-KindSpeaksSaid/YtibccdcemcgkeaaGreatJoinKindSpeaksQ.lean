/- Proved: the statement KindSpeaks of chapter 15: whatever it is given, the function ammonitelaw15.KindSpeaks answers true and turns nothing that was there. No conditions. -/
import Derived.Test.YtibccdcemcgkeaaGreatRows
import Derived.WalkKit
import Derived.ProofKit
import Derived.OpenShut
import Derived.ShutString
import Derived.ChangeOld
import Derived.Below
import Derived.Carry
import Derived.SizedLaws
import Derived.Test.YtibccdcemcgkeaaGreatQ23
set_option linter.unusedVariables false
set_option linter.unusedSimpArgs false
namespace Go.Proofs.YtibccdcemcgkeaaGreat
theorem law_KindSpeaks (base d u tb tb2 : Int) (q1 q2 q3 q4 q5 q6 : IntsV) (l1 : q1.l.length ≤ 9223372036854775807) (l2 : q2.l.length ≤ 9223372036854775807) (l3 : q3.l.length ≤ 9223372036854775807) (l4 : q4.l.length ≤ 9223372036854775807) (l5 : q5.l.length ≤ 9223372036854775807) (l6 : q6.l.length ≤ 9223372036854775807) :
    Sp1 Tryz.prog 6 [.agg #[vI base, vI d, vI u, vI tb, q1.cell, q2.cell, q3.cell, q4.cell, q5.cell], .agg #[vI tb2, q6.cell]] [SlI q1.a (q1.l.map vI), SlI q2.a (q2.l.map vI), SlI q3.a (q3.l.map vI), SlI q4.a (q4.l.map vI), SlI q5.a (q5.l.map vI), SlI q6.a (q6.l.map vI)] (vB true) [] :=
 Sp.mono (KindSpeaks_sp base d u tb tb2 q1.c q2.c q3.c q4.c q5.c q6.c q1.l q2.l q3.l q4.l q5.l q6.l l1 l2 l3 l4 l5 l6 sla_sli sla_sli sla_sli sla_sli sla_sli sla_sli) (Ent.refl _) (fun u _ => ⟨(), rfl, trivial, ent_nil⟩)
end Go.Proofs.YtibccdcemcgkeaaGreat
namespace Go.Proofs.YtibccdcemcgkeaaGreat.kindSpeaks
open Go.ChangeShapes Go.WideShapes Go.ChangeAt Go.RowKit
open Go.ChangeMaps (open_string shut_string)
theorem own : ownKnob Tryz.prog.godebug = none := by kernel_rfl
theorem laidOut : laidOutB Tryz.prog = true := by kernel_rfl
set_option maxRecDepth 100000 in
theorem lifted (os : Os) (started : os.Started) (H : Type) (enc : TypeId × Value → H) :
    ReturnsInHanded {} Tryz.checked os 6 .any (Rows.kindSpeaksSpec.pre6 enc Tryz.prog Tryz.f6 Rows.kindSpeaksRow.domain false) (Rows.kindSpeaksSpec.post enc Tryz.prog Tryz.f6 false true false false) := by
 refine returnsInHanded_of_change_sized (C := Tryz.checked) own started (by kernel_rfl) Tryz.func6
  (ChangeSpec.witness6 (enc := enc) (C := Tryz.checked) false ⟨#[], #[.agg #[.int .i64 0, .int .i64 0, .int .i64 0, .int .i64 0, .slice none 0 0, .slice none 0 0, .slice none 0 0, .slice none 0 0, .slice none 0 0], .agg #[.int .i64 0, .slice none 0 0]], []⟩ 8 (by kernel_rfl) (by kernel_rfl) (by kernel_rfl) (by kernel_rfl)) ?_
 intro W base args ds gs before hval0 hW hcnd hsz0 _
 have hval : ∀ (j : Nat) t v, Tryz.f6.params[j]? = some t → args[j]? = some v → Value.okWide Tryz.prog W .any base t v := hval0
 have hW' := hW
 obtain ⟨p, q, hA0, hV, rfl, hfz, hnd⟩ := hW
 have hA : DataW.TrodAll enc Tryz.prog W 0 (fun _ => true) true Tryz.f6.params.toList args.toList ds p := hA0
 rw [Tryz.params6] at hA hval
 obtain ⟨v0, vs0, d0, ds0, p0, q0, hargs, rfl, rfl, h0, r0⟩ := trodAll_cons hA
 obtain ⟨v1, vs1, d1, ds1, p1, q1, rfl, rfl, rfl, h1, r1⟩ := trodAll_cons r0
 obtain ⟨rfl, rfl, rfl⟩ := trodAll_nil r1
 obtain rfl : args = #[v0, v1] := by cases args; simp_all
 obtain ⟨rfl, rfl⟩ := trodVars_none hV
 have lt0 : ∀ x ∈ p0, x.block < W.heap.size := by obtain ⟨m, hm⟩ := h0; exact DataW.trod_lt m _ _ _ hm
 have k0 := h0
 obtain ⟨x0, rfl, _⟩ := okWide_struct Tryz.underlying41 (hval 0 41 v0 rfl rfl)
 obtain ⟨m0, h0⟩ := h0
 obtain ⟨base, d, u, tb, q1, q2, q3, q4, q5, ga, ⟨la1, sa1⟩, ⟨la2, sa2⟩, ⟨la3, sa3⟩, ⟨la4, sa4⟩, ⟨la5, sa5⟩⟩ := keepCheckin_of h0
 obtain rfl : x0 = #[vI base, vI d, vI u, vI tb, q1.cell, q2.cell, q3.cell, q4.cell, q5.cell] := by rw [show (#[vI base, vI d, vI u, vI tb, q1.cell, q2.cell, q3.cell, q4.cell, q5.cell] : Array Value) = [vI base, vI d, vI u, vI tb, q1.cell, q2.cell, q3.cell, q4.cell, q5.cell].toArray from rfl, ← ga]; simp [Value.cells]
 have lt1 : ∀ x ∈ p1, x.block < W.heap.size := by obtain ⟨m, hm⟩ := h1; exact DataW.trod_lt m _ _ _ hm
 have k1 := h1
 obtain ⟨x1, rfl, _⟩ := okWide_struct Tryz.underlying39 (hval 1 39 v1 rfl rfl)
 obtain ⟨m1, h1⟩ := h1
 obtain ⟨tb2, q6, gb, ⟨lb1, sb1⟩⟩ := keepText_of h1
 obtain rfl : x1 = #[vI tb2, q6.cell] := by rw [show (#[vI tb2, q6.cell] : Array Value) = [vI tb2, q6.cell].toArray from rfl, ← gb]; simp [Value.cells]
 clear hA0 hval0 hsz0
 have law := law_KindSpeaks base d u tb tb2 q1 q2 q3 q4 q5 q6 la1 la2 la3 la4 la5 lb1
 refine (Sp.law law W (sl_start (by intro A hA; simp only [List.mem_cons, List.not_mem_nil, or_false] at hA; rcases hA with rfl | rfl | rfl | rfl | rfl | rfl <;> assumption))).mono fun e W' ⟨he, bel⟩ => ?_
 subst he
 exact ⟨_, rfl, _, _, _, [], _, [], hW', trodAll_mk1 (shut_bool Tryz.underlying4 _), (trodAll_cons_mk (Below.trod laidOut (by kernel_rfl) (of_decide_eq_true (by kernel_rfl)) k0 bel lt0) (trodAll_cons_mk (Below.trod laidOut (by kernel_rfl) (of_decide_eq_true (by kernel_rfl)) k1 bel lt1) trodAll_mk0)), rfl, bel.frame _, fun h => by cases h⟩
theorem over : Rows.kindSpeaksRow.holds Tryz.pinned (OpenSpec.ofChange Rows.kindSpeaksSpec) :=
 OpenClaim.holds_of_wide 6 Tryz.f6 rfl rfl rfl rfl rfl rfl rfl ⟨rfl, rfl, rfl, rfl, rfl⟩ rfl rfl rfl rfl rfl (by kernel_rfl) Tryz.func6 (by kernel_rfl)
  (of_decide_eq_true (by kernel_rfl)) (by unfold Func.isWrapper; first | (rw [if_pos (by decide +kernel)]; kernel_rfl) | (rw [if_neg (by decide +kernel)]; exact ⟨rfl, rfl⟩))
  (fun os started H enc _ => lifted os started H enc)
theorem proved : Rows.KindSpeaksSaid := over
#print axioms proved
end Go.Proofs.YtibccdcemcgkeaaGreat.kindSpeaks
namespace Go.Proofs.YtibccdcemcgkeaaGreat
theorem kindSpeaks_holds : Rows.KindSpeaksSaid := kindSpeaks.proved
end Go.Proofs.YtibccdcemcgkeaaGreat
