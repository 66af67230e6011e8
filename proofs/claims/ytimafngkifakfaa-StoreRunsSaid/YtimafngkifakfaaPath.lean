/- Code by paths: a goal bears the way to a piece of code, not the code. -/
import Derived.Test.YtimafngkifakfaaWalk1
set_option linter.unusedVariables false
set_option linter.unusedSimpArgs false
namespace Go.Proofs.Ytimafngkifakfaa

def bodyOf (f : Func) : Code := match f.body with | some c => c | none => .skip
def sA : Code → Code | .seq a _ => a | c => c
def sB : Code → Code | .seq _ b => b | c => c
def cX : Code → Operand | .cond x _ _ => x | _ => .func 0
def cT : Code → Code | .cond _ t _ => t | c => c
def cE : Code → Code | .cond _ _ e => e | c => c
def bB : Code → Code | .block _ b => b | .loop b => b | .scope b => b | c => c
def rF : Code → Operand | .rangeFunc f _ _ _ => f | _ => .func 0
def rP : Code → Array Tmp | .rangeFunc _ p _ _ => p | _ => #[]
def rA : Code → Code | .rangeFunc _ _ a _ => a | c => c
def rB : Code → Code | .rangeFunc _ _ _ b => b | c => c

/-- Behind a piece of code another one. -/
def seqO (r : Option Nat) (P : Program) (y : Code) (Q : Out) : Out := thenO (wout r P y Q) Q

section
variable {r : Option Nat} {P : Program} {n : Nat} {L : Loc} {Hs : List HP} {Q : Out} {c : Code}

theorem p_seq (h : c = .seq (sA c) (sB c)) (k : wc r P n (sA c) L Hs (seqO r P (sB c) Q)) : wc r P n c L Hs Q := by
  rw [h]; exact wc_seq k
theorem p_region {id : Nat} {l : List Oper} (h : c = .region id l.toArray false) (k : wo r P n l.toArray l L Hs Q) : wc r P n c L Hs Q := by
  rw [h]; exact wc_region k
theorem p_skip (h : c = .skip) (k : tw n Q .normal L Hs) : wc r P n c L Hs Q := by rw [h]; exact wc_skip k
theorem p_label {l : Nat} (h : c = .label l) (k : tw n Q .normal L Hs) : wc r P n c L Hs Q := by rw [h]; exact wc_label k
theorem p_exit (id : Nat) (h : c = .exit id) (k : tw n Q (.exit id) L Hs) : wc r P n c L Hs Q := by rw [h]; exact wc_exit k
theorem p_ret (h : c = .ret) (k : tw n Q .ret L Hs) : wc r P n c L Hs Q := by rw [h]; exact wc_ret k
theorem p_block (id : Nat) (h : c = .block id (bB c)) (k : wc r P n (bB c) L Hs (blockO id Q)) : wc r P n c L Hs Q := by rw [h]; exact wc_block k
theorem p_cond {b : Bool} (h : c = .cond (cX c) (cT c) (cE c)) (hc : ev L (cX c) = some (.bool b)) (ht : b = true → wc r P n (cT c) L Hs Q) (hf : b = false → wc r P n (cE c) L Hs Q) :
    wc r P n c L Hs Q := by rw [h]; exact wc_cond hc ht hf
theorem p_ite {p : Prop} [Decidable p] (h : c = .cond (cX c) (cT c) (cE c)) (hc : ev L (cX c) = some (.bool (decide p))) (ht : p → wc r P n (cT c) L Hs Q) (hf : ¬ p → wc r P n (cE c) L Hs Q) :
    wc r P n c L Hs Q := by rw [h]; exact wc_ite hc ht hf
theorem p_true (h : c = .cond (cX c) (cT c) (cE c)) (hc : ev L (cX c) = some (.bool true)) (k : wc r P n (cT c) L Hs Q) : wc r P n c L Hs Q := by rw [h]; exact wc_true hc k
theorem p_false (h : c = .cond (cX c) (cT c) (cE c)) (hc : ev L (cX c) = some (.bool false)) (k : wc r P n (cE c) L Hs Q) : wc r P n c L Hs Q := by rw [h]; exact wc_false hc k
theorem p_loop {ι : Type} (Li : ι → Loc) (Hi : ι → List HP) (μ : ι → Nat) (h : c = .loop (bB c)) (i : ι) (hL : Cov L (Li i)) (hH : Ent Hs (Hi i))
    (round : ∀ i, wc r P n (bB c) (Li i) (Hi i) (invO n Li Hi (fun j => μ j < μ i) Q)) : wc r P n c L Hs Q := by
  rw [h]; exact wc_ent hL hH (wc_loop Li Hi μ round i)
theorem p_scope (h : c = .scope (bB c)) (hg : ∀ l, Q (.goto l) = fun _ _ _ => False) (hs : ∀ (a : Act) (w : World) (Q' : Exit → Act → World → Prop), (∀ l, Q' (.goto l) = fun _ _ => False) → (bB c).wpIn (WF r) 0 P Q' a w → (Code.scope (bB c)).wpIn (WF r) 0 P Q' a w)
    (k : wc r P n (bB c) L Hs Q) : wc r P n c L Hs Q := by rw [h]; exact wc_scope hs hg k

theorem q_seq {ops : Array Oper} {y : Code} (h : wc r P n y L Hs Q) : wo r P n ops [] L Hs (seqO r P y Q) := wo_seq h
theorem t_seq {y : Code} (h : wc r P n y L Hs Q) : tw n (seqO r P y Q) .normal L Hs := to_then h
theorem t_seq_exit {y : Code} {id : Nat} (h : tw n Q (.exit id) L Hs) : tw n (seqO r P y Q) (.exit id) L Hs := h
theorem t_seq_ret {y : Code} (h : tw n Q .ret L Hs) : tw n (seqO r P y Q) .ret L Hs := h

theorem Sp.body {f : FuncId} {fn : Func} {args : List Value} {As : List HP} {X : Type} {val : X → Value} {φ : X → Prop} {Bs : X → List HP}
    (en : ∀ (args : Array Value) (w : World), (callFunc f args).run P w = .ok (.enter f args) w)
    (hf : P.funcs[f]? = some fn) (hb : fn.body = some (bodyOf fn)) (hn : fn.ntmps = n) (hl : Nat.ble args.length n = true)
    (h : wc none P n (bodyOf fn) (locs 0 args) As (finO P fn val φ Bs)) : Sp P f args As val φ Bs := Sp.of_body en hf hb hn hl h
end
end Go.Proofs.Ytimafngkifakfaa
