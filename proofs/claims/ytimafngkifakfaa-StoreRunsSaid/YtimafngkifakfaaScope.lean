/- A scope that nobody leaves by goto. -/
import Derived.Test.YtimafngkifakfaaSli
set_option linter.unusedVariables false
set_option linter.unusedSimpArgs false
namespace Go.Proofs.Ytimafngkifakfaa
section
variable {r : Option Nat} {P : Program} {n : Nat} {L : Loc} {Hs : List HP} {Q : Out} {c : Code}
variable {b : Frame} {a : Act} {k : List Item} {cs : List Frame} {w : World}
theorem stepR_scope {c : Code} : step P (lone (b.atR a (.code (.scope c) :: k)) cs w) = .next (lone (b.atR a (.code c :: .inScope c :: k)) cs w) :=
  step_lone_go (by simp [stepG, stepG.exec, Frame.atR])
theorem stepR_inScope {c : Code} : step P (lone (b.atR a (.inScope c :: k)) cs w) = .next (lone (b.atR a k) cs w) :=
  step_lone_go (by simp [stepG, stepG.exec, Frame.atR])

def scopeO (Q : Out) : Out
  | .goto _ => fun _ _ _ => False
  | e => Q e
theorem wc_scope2 {c : Code} (h : wc r P n c L Hs (scopeO Q)) : wc r P n (.scope c) L Hs Q := by
  intro a M m s w hf d t b k cs hro hb hr
  have h0 : (lone (b.atR a (.code (.scope c) :: k)) cs w).fenced P (WF r) := fenced_calm hb hr rfl
  obtain ⟨e, a₁, w₁, ⟨M', h', l, d', t', q⟩, harr⟩ := h a M m s w hf d t b (.inScope c :: k) cs hro hb hr
  cases e with
  | normal => exact ⟨.normal, a₁, w₁, ⟨M', h', l, d', t', q⟩, .head h0 stepR_scope (StepsIn.trans harr (.one (fenced_calm hb hr rfl) stepR_inScope))⟩
  | exit id =>
    have hx : exitTo id (.inScope c :: k) = exitTo id k := by simp [exitTo]
    exact ⟨.exit id, a₁, w₁, ⟨M', h', l, d', t', q⟩, fun k' hk => .head h0 stepR_scope (harr.1 k' (by rw [hx]; exact hk)),
      fun hr' hk => let ⟨k₁, h1, h2⟩ := harr.2 hr' (by rw [hx]; exact hk); ⟨k₁, h1, .head h0 stepR_scope h2⟩⟩
  | goto l => exact q.elim
  | ret => exact ⟨_, a₁, w₁, ⟨M', h', l, d', t', q⟩, .of_steps (.one h0 stepR_scope) harr⟩
  | panic ch => exact ⟨_, a₁, w₁, ⟨M', h', l, d', t', q⟩, .of_steps (.one h0 stepR_scope) harr⟩
  | outgrown => exact ⟨_, a₁, w₁, ⟨M', h', l, d', t', q⟩, .of_steps (.one h0 stepR_scope) harr⟩
theorem p_scope2 (h : c = .scope (bB c)) (k : wc r P n (bB c) L Hs (scopeO Q)) : wc r P n c L Hs Q := by rw [h]; exact wc_scope2 k
theorem t_scope (h : tw n Q .normal L Hs) : tw n (scopeO Q) .normal L Hs := h
theorem t_scope_exit {id : Nat} (h : tw n Q (.exit id) L Hs) : tw n (scopeO Q) (.exit id) L Hs := h
theorem t_scope_ret (h : tw n Q .ret L Hs) : tw n (scopeO Q) .ret L Hs := h
end
end Go.Proofs.Ytimafngkifakfaa
