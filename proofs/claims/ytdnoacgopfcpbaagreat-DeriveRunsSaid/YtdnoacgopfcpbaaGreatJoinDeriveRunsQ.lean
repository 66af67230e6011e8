/- Proved: the statement DeriveRuns of chapter 20: the function ammonitelaw20.DeriveRuns answers true and turns nothing that was there. No conditions. -/
import Derived.Test.YtdnoacgopfcpbaaGreatRows
import Derived.ProofKit
import Derived.OpenShut
import Derived.ShutString
import Derived.ChangeOld
import Derived.SizedLaws
import Derived.Test.YtdnoacgopfcpbaaGreatQ25
namespace Go.Proofs.YtdnoacgopfcpbaaGreat.deriveRuns
open Go.ChangeShapes Go.WideShapes Go.ChangeAt Go.RowKit
open Go.ChangeMaps (open_string shut_string)
set_option linter.unusedVariables false
set_option linter.unusedSimpArgs false
theorem and_t {a b : Bool} (h : a = true) (k : b = true) : (a && b) = true := by rw [h, k]; rfl
theorem own : ownKnob Tryz.prog.godebug = none := by kernel_rfl
set_option maxRecDepth 100000 in
theorem lifted (os : Os) (started : os.Started) (H : Type) (enc : TypeId × Value → H) :
    ReturnsInHanded {} Tryz.checked os 11 .any (Rows.deriveRunsSpec.pre6 enc Tryz.prog Tryz.f11 Rows.deriveRunsRow.domain false) (Rows.deriveRunsSpec.post enc Tryz.prog Tryz.f11 false true false false) := by
 refine returnsInHanded_of_change_sized (C := Tryz.checked) own started (by kernel_rfl) Tryz.func11
  (ChangeSpec.witness6 (enc := enc) (C := Tryz.checked) false ⟨#[], #[], []⟩ 8 (by kernel_rfl) (by kernel_rfl) (by kernel_rfl) (by kernel_rfl)) ?_
 intro W base args ds gs before hval0 hW hcnd hsz0 _
 have hW' := hW
 obtain ⟨p, q, hA0, hV, rfl, hfz, hnd⟩ := hW
 have hA : DataW.TrodAll enc Tryz.prog W 0 (fun _ => true) true Tryz.f11.params.toList args.toList ds p := hA0
 rw [Tryz.params11] at hA
 obtain ⟨hargs, rfl, rfl⟩ := trodAll_none hA
 obtain rfl : args = #[] := by cases args; simp_all
 obtain ⟨rfl, rfl⟩ := trodVars_none hV
 clear hA0 hval0 hsz0
 refine (Sp.law DeriveRuns_sp W trivial).mono fun e W' ⟨he, bel⟩ => ?_
 subst he
 exact ⟨_, rfl, _, _, _, [], _, [], hW', trodAll_mk1 (shut_bool Tryz.underlying4 _), trodAll_mk0, rfl, bel.frame _, fun h => by cases h⟩
set_option maxHeartbeats 8000000 in
theorem over : Rows.deriveRunsRow.holds Tryz.pinned (OpenSpec.ofChange Rows.deriveRunsSpec) :=
 OpenClaim.holds_of_wide 11 Tryz.f11 rfl rfl rfl rfl rfl rfl rfl ⟨rfl, rfl, rfl, rfl, rfl⟩ rfl rfl rfl rfl rfl (by kernel_rfl) Tryz.func11 (by unfold joinedFacts; (repeat' (with_reducible refine and_t ?_ ?_)); all_goals decide +kernel)
  (of_decide_eq_true (by kernel_rfl)) (by unfold Func.isWrapper; first | (rw [if_pos (by decide +kernel)]; kernel_rfl) | (rw [if_neg (by decide +kernel)]; exact ⟨rfl, rfl⟩))
  (fun os started H enc _ => lifted os started H enc)
theorem proved : Rows.DeriveRunsSaid := over
#print axioms proved
end Go.Proofs.YtdnoacgopfcpbaaGreat.deriveRuns
namespace Go.Proofs.YtdnoacgopfcpbaaGreat
theorem deriveRuns_holds : Rows.DeriveRunsSaid := deriveRuns.proved
end Go.Proofs.YtdnoacgopfcpbaaGreat
