/- Proved: the statement HeadsRuns of chapter 19: the function ammonitelaw19.HeadsRuns answers true and turns nothing that was there. No conditions. -/
import Derived.Test.YtdnoacgopfcpbaaGreatRows
import Derived.ProofKit
import Derived.OpenShut
import Derived.ShutString
import Derived.ChangeOld
import Derived.SizedLaws
import Derived.Test.YtdnoacgopfcpbaaGreatQ21
namespace Go.Proofs.YtdnoacgopfcpbaaGreat.headsRuns
open Go.ChangeShapes Go.WideShapes Go.ChangeAt Go.RowKit
open Go.ChangeMaps (open_string shut_string)
set_option linter.unusedVariables false
set_option linter.unusedSimpArgs false
theorem and_t {a b : Bool} (h : a = true) (k : b = true) : (a && b) = true := by rw [h, k]; rfl
theorem own : ownKnob Tryz.prog.godebug = none := by kernel_rfl
set_option maxRecDepth 100000 in
theorem lifted (os : Os) (started : os.Started) (H : Type) (enc : TypeId × Value → H) :
    ReturnsInHanded {} Tryz.checked os 6 .any (Rows.headsRunsSpec.pre6 enc Tryz.prog Tryz.f6 Rows.headsRunsRow.domain false) (Rows.headsRunsSpec.post enc Tryz.prog Tryz.f6 false true false false) := by
 refine returnsInHanded_of_change_sized (C := Tryz.checked) own started (by kernel_rfl) Tryz.func6
  (ChangeSpec.witness6 (enc := enc) (C := Tryz.checked) false ⟨#[], #[], []⟩ 8 (by kernel_rfl) (by kernel_rfl) (by kernel_rfl) (by kernel_rfl)) ?_
 intro W base args ds gs before hval0 hW hcnd hsz0 _
 have hW' := hW
 obtain ⟨p, q, hA0, hV, rfl, hfz, hnd⟩ := hW
 have hA : DataW.TrodAll enc Tryz.prog W 0 (fun _ => true) true Tryz.f6.params.toList args.toList ds p := hA0
 rw [Tryz.params6] at hA
 obtain ⟨hargs, rfl, rfl⟩ := trodAll_none hA
 obtain rfl : args = #[] := by cases args; simp_all
 obtain ⟨rfl, rfl⟩ := trodVars_none hV
 clear hA0 hval0 hsz0
 refine (Sp.law HeadsRuns_sp W trivial).mono fun e W' ⟨he, bel⟩ => ?_
 subst he
 exact ⟨_, rfl, _, _, _, [], _, [], hW', trodAll_mk1 (shut_bool Tryz.underlying4 _), trodAll_mk0, rfl, bel.frame _, fun h => by cases h⟩
set_option maxHeartbeats 8000000 in
theorem over : Rows.headsRunsRow.holds Tryz.pinned (OpenSpec.ofChange Rows.headsRunsSpec) :=
 OpenClaim.holds_of_wide 6 Tryz.f6 rfl rfl rfl rfl rfl rfl rfl ⟨rfl, rfl, rfl, rfl, rfl⟩ rfl rfl rfl rfl rfl (by kernel_rfl) Tryz.func6 (by unfold joinedFacts; (repeat' (with_reducible refine and_t ?_ ?_)); all_goals decide +kernel)
  (of_decide_eq_true (by kernel_rfl)) (by unfold Func.isWrapper; first | (rw [if_pos (by decide +kernel)]; kernel_rfl) | (rw [if_neg (by decide +kernel)]; exact ⟨rfl, rfl⟩))
  (fun os started H enc _ => lifted os started H enc)
theorem proved : Rows.HeadsRunsSaid := over
#print axioms proved
end Go.Proofs.YtdnoacgopfcpbaaGreat.headsRuns
namespace Go.Proofs.YtdnoacgopfcpbaaGreat
theorem headsRuns_holds : Rows.HeadsRunsSaid := headsRuns.proved
end Go.Proofs.YtdnoacgopfcpbaaGreat
