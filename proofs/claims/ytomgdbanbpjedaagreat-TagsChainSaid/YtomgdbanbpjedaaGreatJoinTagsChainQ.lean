/- Proved: the statement TagsChain of chapter 18: whatever it is given, the function ammonitelaw18.TagsChain answers true and turns nothing that was there. No conditions. -/
import Derived.Test.YtomgdbanbpjedaaGreatRows
import Derived.ProofKit
import Derived.OpenShut
import Derived.ShutString
import Derived.ChangeOld
import Derived.Carry
import Derived.SizedLaws
import Derived.Test.YtomgdbanbpjedaaGreatQ26
set_option linter.unusedVariables false
set_option linter.unusedSimpArgs false
namespace Go.Proofs.YtomgdbanbpjedaaGreat.tagsChain
open Go.ChangeShapes Go.WideShapes Go.ChangeAt Go.RowKit
open Go.ChangeMaps (open_string shut_string)
theorem own : ownKnob Tryz.prog.godebug = none := by kernel_rfl
theorem laidOut : laidOutB Tryz.prog = true := by kernel_rfl
set_option maxRecDepth 100000 in
theorem lifted (os : Os) (started : os.Started) (H : Type) (enc : TypeId × Value → H) :
    ReturnsInHanded {} Tryz.checked os 4 .any (Rows.tagsChainSpec.pre6 enc Tryz.prog Tryz.f4 Rows.tagsChainRow.domain false) (Rows.tagsChainSpec.post enc Tryz.prog Tryz.f4 false true false false) := by
 refine returnsInHanded_of_change_sized (C := Tryz.checked) own started (by kernel_rfl) Tryz.func4
  (ChangeSpec.witness6 (enc := enc) (C := Tryz.checked) false ⟨#[], #[.slice none 0 0, .slice none 0 0], []⟩ 8 (by kernel_rfl) (by kernel_rfl) (by kernel_rfl) (by kernel_rfl)) ?_
 intro W base args ds gs before hval0 hW hcnd hsz0 _
 have hval : ∀ (j : Nat) t v, Tryz.f4.params[j]? = some t → args[j]? = some v → Value.okWide Tryz.prog W .any base t v := hval0
 have hW' := hW
 obtain ⟨p, q, hA0, hV, rfl, hfz, hnd⟩ := hW
 have hA : DataW.TrodAll enc Tryz.prog W 0 (fun _ => true) true Tryz.f4.params.toList args.toList ds p := hA0
 rw [Tryz.params4] at hA hval
 obtain ⟨v0, vs0, d0, ds0, p0, q0, hargs, rfl, rfl, h0, r0⟩ := trodAll_cons hA
 obtain ⟨v1, vs1, d1, ds1, p1, q1, rfl, rfl, rfl, h1, r1⟩ := trodAll_cons r0
 obtain ⟨rfl, rfl, rfl⟩ := trodAll_nil r1
 obtain rfl : args = #[v0, v1] := by cases args; simp_all
 obtain ⟨rfl, rfl⟩ := trodVars_none hV
 have lt0 : ∀ x ∈ p0, x.block < W.heap.size := by obtain ⟨m, hm⟩ := h0; exact DataW.trod_lt m _ _ _ hm
 have k0 := h0
 obtain ⟨b0, n0, k0', rfl⟩ := okWide_slice Tryz.underlying41 (hval 0 41 v0 rfl rfl)
 obtain ⟨m0, h0⟩ := h0
 obtain ⟨sa0, sc0, sl0, g0, lb0, sm0, z0⟩ := od_ints Tryz.underlying41 Tryz.underlying3 (by rw [show Tryz.prog.cellsOf 3 = 1 from by kernel_rfl]; decide) h0
 simp only [Value.cells, List.cons.injEq, Value.slice.injEq, and_true] at g0
 obtain ⟨rfl, rfl, rfl⟩ := g0
 have lt1 : ∀ x ∈ p1, x.block < W.heap.size := by obtain ⟨m, hm⟩ := h1; exact DataW.trod_lt m _ _ _ hm
 have k1 := h1
 obtain ⟨b1, n1, k1', rfl⟩ := okWide_slice Tryz.underlying41 (hval 1 41 v1 rfl rfl)
 obtain ⟨m1, h1⟩ := h1
 obtain ⟨sa1, sc1, sl1, g1, lb1, sm1, z1⟩ := od_ints Tryz.underlying41 Tryz.underlying3 (by rw [show Tryz.prog.cellsOf 3 = 1 from by kernel_rfl]; decide) h1
 simp only [Value.cells, List.cons.injEq, Value.slice.injEq, and_true] at g1
 obtain ⟨rfl, rfl, rfl⟩ := g1
 clear hA0 hval0 hsz0
 have law := TagsChain_sp (ka := b0) (da := b1) k0' k1' sl0 sl1 lb0 lb1
 refine (Sp.law law W (sl_start (by intro A hA; simp only [List.mem_cons, List.not_mem_nil, or_false] at hA; rcases hA with rfl | rfl <;> assumption))).mono fun e W' ⟨he, bel⟩ => ?_
 subst he
 exact ⟨_, rfl, _, _, _, [], _, [], hW', trodAll_mk1 (shut_bool Tryz.underlying4 _), (trodAll_cons_mk (Below.trod laidOut (by kernel_rfl) (of_decide_eq_true (by kernel_rfl)) k0 bel lt0) (trodAll_cons_mk (Below.trod laidOut (by kernel_rfl) (of_decide_eq_true (by kernel_rfl)) k1 bel lt1) trodAll_mk0)), rfl, bel.frame _, fun h => by cases h⟩
theorem over : Rows.tagsChainRow.holds Tryz.pinned (OpenSpec.ofChange Rows.tagsChainSpec) :=
 OpenClaim.holds_of_wide 4 Tryz.f4 rfl rfl rfl rfl rfl rfl rfl ⟨rfl, rfl, rfl, rfl, rfl⟩ rfl rfl rfl rfl rfl (by kernel_rfl) Tryz.func4 (by kernel_rfl)
  (of_decide_eq_true (by kernel_rfl)) (by unfold Func.isWrapper; first | (rw [if_pos (by decide +kernel)]; kernel_rfl) | (rw [if_neg (by decide +kernel)]; exact ⟨rfl, rfl⟩))
  (fun os started H enc _ => lifted os started H enc)
theorem proved : Rows.TagsChainSaid := over
#print axioms proved
end Go.Proofs.YtomgdbanbpjedaaGreat.tagsChain
namespace Go.Proofs.YtomgdbanbpjedaaGreat
theorem tagsChain_holds : Rows.TagsChainSaid := tagsChain.proved
end Go.Proofs.YtomgdbanbpjedaaGreat
