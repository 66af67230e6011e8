/- Proved: the statement KindControl of chapter 15: whatever it is given, the function ammonitelaw15.KindControl answers true and turns nothing that was there. No conditions. -/
import Derived.Test.YtibccdcemcgkeaaGreatRows
import Derived.WalkKit
import Derived.ProofKit
import Derived.OpenShut
import Derived.ShutString
import Derived.ChangeOld
import Derived.Below
import Derived.Carry
import Derived.SizedLaws
import Derived.Test.YtibccdcemcgkeaaGreatQ23
set_option linter.unusedVariables false
set_option linter.unusedSimpArgs false
namespace Go.Proofs.YtibccdcemcgkeaaGreat
theorem law_KindControl (d u : Int) (q1 q2 : IntsV) {na : Option Addr} (nc : Nat) (ns : List Int) (l1 : q1.l.length ≤ 9223372036854775807) (l2 : q2.l.length ≤ 9223372036854775807) (l3 : ns.length ≤ 9223372036854775807) :
    Sp1 Tryz.prog 7 [.agg #[vI d, vI u, q1.cell, q2.cell], .slice na ns.length nc] [SlI q1.a (q1.l.map vI), SlI q2.a (q2.l.map vI), SlI na (ns.map vI)] (vB true) [] :=
 Sp.mono (KindControl_sp d u q1.c q2.c nc q1.l q2.l ns l1 l2 l3 sla_sli sla_sli sla_sli) (Ent.refl _) (fun u _ => ⟨(), rfl, trivial, ent_nil⟩)
end Go.Proofs.YtibccdcemcgkeaaGreat
namespace Go.Proofs.YtibccdcemcgkeaaGreat.kindControl
open Go.ChangeShapes Go.WideShapes Go.ChangeAt Go.RowKit
open Go.ChangeMaps (open_string shut_string)
theorem own : ownKnob Tryz.prog.godebug = none := by kernel_rfl
theorem laidOut : laidOutB Tryz.prog = true := by kernel_rfl
set_option maxRecDepth 100000 in
theorem lifted (os : Os) (started : os.Started) (H : Type) (enc : TypeId × Value → H) :
    ReturnsInHanded {} Tryz.checked os 7 .any (Rows.kindControlSpec.pre6 enc Tryz.prog Tryz.f7 Rows.kindControlRow.domain false) (Rows.kindControlSpec.post enc Tryz.prog Tryz.f7 false true false false) := by
 refine returnsInHanded_of_change_sized (C := Tryz.checked) own started (by kernel_rfl) Tryz.func7
  (ChangeSpec.witness6 (enc := enc) (C := Tryz.checked) false ⟨#[], #[.agg #[.int .i64 0, .int .i64 0, .slice none 0 0, .slice none 0 0], .slice none 0 0], []⟩ 8 (by kernel_rfl) (by kernel_rfl) (by kernel_rfl) (by kernel_rfl)) ?_
 intro W base args ds gs before hval0 hW hcnd hsz0 _
 have hval : ∀ (j : Nat) t v, Tryz.f7.params[j]? = some t → args[j]? = some v → Value.okWide Tryz.prog W .any base t v := hval0
 have hW' := hW
 obtain ⟨p, q, hA0, hV, rfl, hfz, hnd⟩ := hW
 have hA : DataW.TrodAll enc Tryz.prog W 0 (fun _ => true) true Tryz.f7.params.toList args.toList ds p := hA0
 rw [Tryz.params7] at hA hval
 obtain ⟨v0, vs0, d0, ds0, p0, q0, hargs, rfl, rfl, h0, r0⟩ := trodAll_cons hA
 obtain ⟨v1, vs1, d1, ds1, p1, q1, rfl, rfl, rfl, h1, r1⟩ := trodAll_cons r0
 obtain ⟨rfl, rfl, rfl⟩ := trodAll_nil r1
 obtain rfl : args = #[v0, v1] := by cases args; simp_all
 obtain ⟨rfl, rfl⟩ := trodVars_none hV
 have lt0 : ∀ x ∈ p0, x.block < W.heap.size := by obtain ⟨m, hm⟩ := h0; exact DataW.trod_lt m _ _ _ hm
 have k0 := h0
 obtain ⟨x0, rfl, _⟩ := okWide_struct Tryz.underlying43 (hval 0 43 v0 rfl rfl)
 obtain ⟨m0, h0⟩ := h0
 obtain ⟨d, u, q1, q2, ga, ⟨la1, sa1'⟩, ⟨la2, sa2'⟩⟩ := keepControl_of h0
 obtain rfl : x0 = #[vI d, vI u, q1.cell, q2.cell] := by rw [show (#[vI d, vI u, q1.cell, q2.cell] : Array Value) = [vI d, vI u, q1.cell, q2.cell].toArray from rfl, ← ga]; simp [Value.cells]
 have lt1 : ∀ x ∈ p1, x.block < W.heap.size := by obtain ⟨m, hm⟩ := h1; exact DataW.trod_lt m _ _ _ hm
 have k1 := h1
 obtain ⟨b1, n1, k1', rfl⟩ := okWide_slice Tryz.underlying37 (hval 1 37 v1 rfl rfl)
 obtain ⟨m1, h1⟩ := h1
 obtain ⟨sa1, sc1, sl1, g1, lb1, sm1, z1⟩ := od_ints Tryz.underlying37 Tryz.underlying3 (by rw [show Tryz.prog.cellsOf 3 = 1 from by kernel_rfl]; decide) h1
 simp only [Value.cells, List.cons.injEq, Value.slice.injEq, and_true] at g1
 obtain ⟨rfl, rfl, rfl⟩ := g1
 clear hA0 hval0 hsz0
 have law := law_KindControl d u q1 q2 (na := b1) k1' sl1 la1 la2 lb1
 refine (Sp.law law W (sl_start (by intro A hA; simp only [List.mem_cons, List.not_mem_nil, or_false] at hA; rcases hA with rfl | rfl | rfl <;> assumption))).mono fun e W' ⟨he, bel⟩ => ?_
 subst he
 exact ⟨_, rfl, _, _, _, [], _, [], hW', trodAll_mk1 (shut_bool Tryz.underlying4 _), (trodAll_cons_mk (Below.trod laidOut (by kernel_rfl) (of_decide_eq_true (by kernel_rfl)) k0 bel lt0) (trodAll_cons_mk (Below.trod laidOut (by kernel_rfl) (of_decide_eq_true (by kernel_rfl)) k1 bel lt1) trodAll_mk0)), rfl, bel.frame _, fun h => by cases h⟩
theorem over : Rows.kindControlRow.holds Tryz.pinned (OpenSpec.ofChange Rows.kindControlSpec) :=
 OpenClaim.holds_of_wide 7 Tryz.f7 rfl rfl rfl rfl rfl rfl rfl ⟨rfl, rfl, rfl, rfl, rfl⟩ rfl rfl rfl rfl rfl (by kernel_rfl) Tryz.func7 (by kernel_rfl)
  (of_decide_eq_true (by kernel_rfl)) (by unfold Func.isWrapper; first | (rw [if_pos (by decide +kernel)]; kernel_rfl) | (rw [if_neg (by decide +kernel)]; exact ⟨rfl, rfl⟩))
  (fun os started H enc _ => lifted os started H enc)
theorem proved : Rows.KindControlSaid := over
#print axioms proved
end Go.Proofs.YtibccdcemcgkeaaGreat.kindControl
namespace Go.Proofs.YtibccdcemcgkeaaGreat
theorem kindControl_holds : Rows.KindControlSaid := kindControl.proved
end Go.Proofs.YtibccdcemcgkeaaGreat
