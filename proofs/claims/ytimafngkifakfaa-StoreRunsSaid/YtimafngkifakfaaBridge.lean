/- From the house's contracts, and to them. -/
import Derived.Test.YtimafngkifakfaaBuild
import Derived.Below
set_option linter.unusedVariables false
set_option linter.unusedSimpArgs false
namespace Go.Proofs.Ytimafngkifakfaa
open Go.RowKit (Below)

theorem Sat.below {w w' : World} {M : Kn} {h : Res} (t : Sat w M h) (b : Below w.heap.size w w') : Sat w' M h := by
  have old : ∀ i o, w.heap[i]? = some o → w'.heap[i]? = some o := fun i o e => by
    rw [b.block i (Array.getElem?_eq_some_iff.1 e).1]; exact e
  exact ⟨fun i o e => old i o (t.im i o e), fun i o e => old i o (t.ow i o e), t.dj, t.env.trans ⟨b.os, b.tape, b.output, b.size⟩⟩

theorem SpF.of_calls {P : Program} {f : FuncId} {args : List Value} {v : Value} (en : ∀ (args : Array Value) (w : World), (callFunc f args).run P w = .ok (.enter f args) w)
    (h : ∀ w, Calls P f args.toArray w fun e w' => e = .returned v ∧ Below w.heap.size w w') : SpF P f args v := by
  refine ⟨en, fun w M m hf d t s => callsIn_wide.2 ((h w).mono ?_)⟩
  rintro e w' ⟨rfl, b⟩
  exact ⟨(), M, m, rfl, trivial, Kn.le_refl _, d, t.below b, trivial⟩

/-- A law's contract: all that there was is as it was. -/
theorem Sp.law {P : Program} {f : FuncId} {args : List Value} {As : List HP} {v : Value} {Bs : Unit → List HP} (sp : Sp P f args As (X := Unit) (fun _ => v) (fun _ => True) Bs) (w : World)
    (hA : SL As ⟨fun b => w.heap[b]?, w⟩ Res.emp) : Calls P f args.toArray w fun e w' => e = .returned v ∧ Below w.heap.size w w' := by
  have t : Sat w ⟨fun b => w.heap[b]?, w⟩ (Res.emp.add Res.emp) := ⟨fun _ _ e => e, fun _ _ e => by simp [Res.add, Res.emp] at e, fun _ => .inr rfl, Env.refl w⟩
  refine (callsIn_wide.1 (sp.calls w _ Res.emp Res.emp (Res.dj_emp _) t hA)).mono ?_
  rintro e w' ⟨x, M', h', rfl, _, l, _, t', _⟩
  have en := t'.env
  rw [← l.2] at en
  refine ⟨rfl, en.os, en.tape, en.output, en.size, fun k hk => ?_⟩
  have e1 : w.heap[k]? = some w.heap[k] := Array.getElem?_eq_getElem hk
  rw [e1]
  exact t'.im k _ (l.1 k _ e1)
end Go.Proofs.Ytimafngkifakfaa
