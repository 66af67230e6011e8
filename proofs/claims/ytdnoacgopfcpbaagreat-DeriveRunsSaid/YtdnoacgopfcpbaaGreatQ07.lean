/- Texts of this proof, put together: Mini, MDec, MStore, MDisk, PSha, PDec, PCard, PEsc. -/
import Derived.Test.YtdnoacgopfcpbaaGreatQ06
set_option linter.unusedVariables false
set_option linter.unusedSimpArgs false
namespace Go.Proofs.YtdnoacgopfcpbaaGreat
section
theorem flat_pos {α : Type} {f : α → List Value} {l : List α} (h : 0 < l.length) (hf : ∀ x, Nat.ble 1 (f x).length = true) : 0 < (l.flatMap f).length := by
 cases l with
 | nil => simp at h
 | cons a r => have := Nat.le_of_ble_eq_true (hf a); rw [List.flatMap_cons, List.length_append]; omega
section
variable {r : Option Nat} {P : Program} {n : Nat} {L : Loc} {Hs : List HP} {Q : Out} {c : Code} {ops : Array Oper} {os : List Oper} {ty : TypeId} {d : Nat} {pos : String} {after : Array Edge} {t e : TypeId} {x y : Operand} {v : Value}
/-! Code. -/
theorem Za (h : c = .seq (sA c) (sB c) := by exact rfl) (k : wc r P n (sA c) L Hs (seqO r P (sB c) Q)) : wc r P n c L Hs Q := p_seq h k
theorem Zr {id : Nat} {l : List Oper} (h : c = .region id l.toArray false := by exact rfl) (k : wo r P n l.toArray l L Hs Q) : wc r P n c L Hs Q := p_region h k
theorem Zk (h : c = .skip := by exact rfl) (k : tw n Q .normal L Hs) : wc r P n c L Hs Q := p_skip h k
theorem Zl {l : Nat} (h : c = .label l := by exact rfl) (k : tw n Q .normal L Hs) : wc r P n c L Hs Q := p_label h k
theorem Ze {id : Nat} (h : c = .exit id := by exact rfl) (k : tw n Q (.exit id) L Hs) : wc r P n c L Hs Q := p_exit id h k
theorem Zt (h : c = .ret := by exact rfl) (k : tw n Q .ret L Hs) : wc r P n c L Hs Q := p_ret h k
theorem Z1 (h : c = .cond (cX c) (cT c) (cE c) := by exact rfl) (hc : ev L (cX c) = some (.bool true) := by exact rfl) (k : wc r P n (cT c) L Hs Q) : wc r P n c L Hs Q := p_true h hc k
theorem Z0 (h : c = .cond (cX c) (cT c) (cE c) := by exact rfl) (hc : ev L (cX c) = some (.bool false) := by exact rfl) (k : wc r P n (cE c) L Hs Q) : wc r P n c L Hs Q := p_false h hc k
theorem Zb {id : Nat} (h : c = .block id (bB c) := by exact rfl) (k : wc r P n (bB c) L Hs (blockO id Q)) : wc r P n c L Hs Q := p_block id h k
theorem Zs (h : c = .scope (bB c) := by exact rfl) (k : wc r P n (bB c) L Hs (scopeO Q)) : wc r P n c L Hs Q := p_scope2 h k
theorem Zi {b : Bool} {p q : Prop} (h : c = .cond (cX c) (cT c) (cE c) := by exact rfl) (hc : ev L (cX c) = some (.bool b) := by exact rfl) (hb : BP b p q := by first | exact BP.dec | exact BP.raw)
    (t : p → wc r P n (cT c) L Hs Q) (f : q → wc r P n (cE c) L Hs Q) : wc r P n c L Hs Q := p_cond h hc (fun e => t (hb.t e)) (fun e => f (hb.f e))
theorem Gi {b : Bool} {p q : Prop} {s : Nat} (j : Nat) (hj : (ops[j]?).bind (·.dst) = some s := by exact rfl) (hs : lk L s = some (.bool b) := by exact rfl) (hb : BP b p q := by first | exact BP.dec | exact BP.raw)
    (t : p → wo r P n ops os ((s, .bool true) :: L) Hs Q) (f : q → wo r P n ops os ((s, .bool false) :: L) Hs Q) : wo r P n ops os L Hs Q := wo_gsplit hj hs (fun e => t (hb.t e)) (fun e => f (hb.f e))
theorem Gd {b : Bool} {p q : Prop} {s k : Nat} {ls : Array Bool} {A : List HP} (j : Nat) (hj : (ops[j]?).bind (·.dst) = some s := by exact rfl) (hs : lk L s = some (.bool b) := by exact rfl) (hb : BP b p q := by first | exact BP.dec | exact BP.raw)
    (t : p → An r P n ops A Q k ls ((s, .bool true) :: L) Hs) (f : q → An r P n ops A Q k ls ((s, .bool false) :: L) Hs) : An r P n ops A Q k ls L Hs := d_gsplit hj hs (fun e => t (hb.t e)) (fun e => f (hb.f e))
/-! Ways. -/
theorem Wq {y : Code} (k : wc r P n y L Hs Q) : wo r P n ops [] L Hs (seqO r P y Q) := q_seq k
theorem Wg {y : Code} (k : wc r P n y L Hs Q) : wo r P n ops [] L Hs (asgO r P y Q) := q_asg k
theorem Wn (k : tw n Q .normal L Hs) : wo r P n ops [] L Hs Q := wo_nil k
theorem Ya {y : Code} (k : wc r P n y L Hs Q) : tw n (seqO r P y Q) .normal L Hs := t_seq k
theorem Yb {id : Nat} (k : tw n Q .normal L Hs) : tw n (blockO id Q) .normal L Hs := to_block k
theorem Xa {y : Code} {id : Nat} (k : tw n Q (.exit id) L Hs) : tw n (seqO r P y Q) (.exit id) L Hs := k
theorem Xi {ι : Type} {Li : ι → Loc} {Hi : ι → List HP} {lt : ι → Prop} {id : Nat} (k : tw n Q (.exit id) L Hs) : tw n (invO n Li Hi lt Q) (.exit id) L Hs := k
theorem Xb {id : Nat} (k : tw n Q .normal L Hs) : tw n (blockO id Q) (.exit id) L Hs := to_block_here k
theorem Xo {id id' : Nat} (h : Nat.beq id' id = false := by exact rfl) (k : tw n Q (.exit id') L Hs) : tw n (blockO id Q) (.exit id') L Hs := to_block_other h k
theorem Xs {id : Nat} (k : tw n Q (.exit id) L Hs) : tw n (scopeO Q) (.exit id) L Hs := k
theorem Va {y : Code} (k : tw n Q .ret L Hs) : tw n (seqO r P y Q) .ret L Hs := k
theorem Vi {ι : Type} {Li : ι → Loc} {Hi : ι → List HP} {lt : ι → Prop} (k : tw n Q .ret L Hs) : tw n (invO n Li Hi lt Q) .ret L Hs := k
theorem Vb {id : Nat} (k : tw n Q .ret L Hs) : tw n (blockO id Q) .ret L Hs := k
theorem Vs (k : tw n Q .ret L Hs) : tw n (scopeO Q) .ret L Hs := k
/-! Quiet operations. -/
theorem Pv {op : Op} (h : PV P n L op ty v := by first
 | exact pv_move rfl | exact pv_assign rfl | exact pv_extract rfl rfl
 | exact pv_call_len_s UndC.h rfl | exact pv_call_len_sl UndC.h rfl
 | exact pv_notd rfl | exact pv_not rfl
 | exact pv_add rfl rfl (by omega) | exact pv_sub rfl rfl (by omega) | exact pv_mul rfl rfl (by omega)
 | exact pv_lss rfl rfl | exact pv_leq rfl rfl | exact pv_gtr rfl rfl | exact pv_geq rfl rfl | exact pv_eql rfl rfl | exact pv_neq rfl rfl
 | exact pv_seql rfl rfl | exact pv_sneq rfl rfl | exact pv_slss rfl rfl | exact pv_sleq rfl rfl | exact pv_sgtr rfl rfl | exact pv_sgeq rfl rfl
 | exact pv_nilCheck_p rfl | exact pv_nilCheck_f rfl
 | exact pv_cat rfl rfl (by first | (simp only [List.length_append, List.length_take, List.length_drop, List.length_cons, List.length_nil]; omega) | (simp; try omega))
 | exact pv_makeFunc rfl rfl | exact pv_call_cap_sl UndC.h rfl | exact pv_call_min rfl rfl | exact pv_call_max rfl rfl
 | exact pv_indexm UndC.h rfl rfl rfl (by omega)
 | exact pv_slice_tom UndC.h rfl rfl rfl (by omega) | exact pv_slice_fromm UndC.h rfl rfl rfl (by omega) | exact pv_slice_inm UndC.h rfl rfl rfl rfl rfl (by omega) (by omega)
 | exact pv_quo rfl rfl (by omega) | exact pv_rem rfl rfl (by omega)) : PV P n L op ty v := h
theorem Vv {op : Op} (h : PV P n L op ty v := by exact Pv) (hd : Nat.blt d n = true := by exact rfl) (k : wo r P n ops os ((d, v) :: L) Hs Q) : wo r P n ops (⟨some d, op, ty, pos, after, none⟩ :: os) L Hs Q := wo_pv h hd k
theorem Vf {i b off : Nat} {fs : Array Field} {fd : Field} {ti : TypeInfo} {m : Nat} (k0 : Nat) (ft : TypeId) (ht : P.underlying t = some (.struct fs) := by exact UndC.h) (hf : fs[i]? = some fd := by exact rfl) (hft : fd.type = ft := by exact rfl) (hi : P.info? ft = some ti := by exact InfC.h) (hz : Nat.beq ti.size 0 = false := by exact rfl)
    (hx : ev L x = some (.pointer (some ⟨b, off, none⟩)) := by exact rfl) (hk : fd.offset = k0 := by exact rfl) (hm : off + k0 = m := by first | exact Nat.zero_add _ | exact Nat.add_zero _ | exact rfl) (hd : Nat.blt d n = true := by exact rfl) (k : wo r P n ops os ((d, .pointer (some ⟨b, m, none⟩)) :: L) Hs Q) : wo r P n ops (⟨some d, .fieldAddr t x i, ty, pos, after, none⟩ :: os) L Hs Q :=
 wo_pv (pv_fieldAddrk ht hf (by rw [hft]; exact hi) hz hx hk hm) hd k
theorem Vx {op : Op} (h : PV P n L op ty v) (hd : Nat.blt d n = true := by exact rfl) (k : wo r P n ops os ((d, v) :: L) Hs Q) : wo r P n ops (⟨some d, op, ty, pos, after, none⟩ :: os) L Hs Q := wo_pv h hd k
theorem P1 {c x y : Operand} (hc : ev L c = some (.bool true) := by exact rfl) (hx : ev L x = some v := by exact rfl) (hd : Nat.blt d n = true := by exact rfl) (k : wo r P n ops os ((d, v) :: L) Hs Q) : wo r P n ops (⟨some d, .pick c x y, ty, pos, after, none⟩ :: os) L Hs Q := wo_pv (pv_pick_t hc hx) hd k
theorem P0 {c x y : Operand} (hc : ev L c = some (.bool false) := by exact rfl) (hy : ev L y = some v := by exact rfl) (hd : Nat.blt d n = true := by exact rfl) (k : wo r P n ops os ((d, v) :: L) Hs Q) : wo r P n ops (⟨some d, .pick c x y, ty, pos, after, none⟩ :: os) L Hs Q := wo_pv (pv_pick_f hc hy) hd k
/-! Guards. -/
theorem I1 {j : Nat} {dst : Option Tmp} {op : Op} (hj : gd ops L j = some (.bool true) := by exact rfl) (k : wo r P n ops (⟨dst, op, ty, pos, after, none⟩ :: os) L Hs Q) : wo r P n ops (⟨dst, op, ty, pos, after, some (j, true)⟩ :: os) L Hs Q := wo_in hj k
theorem I0 {j : Nat} {dst : Option Tmp} {op : Op} (hj : gd ops L j = some (.bool false) := by exact rfl) (k : wo r P n ops (⟨dst, op, ty, pos, after, none⟩ :: os) L Hs Q) : wo r P n ops (⟨dst, op, ty, pos, after, some (j, false)⟩ :: os) L Hs Q := wo_in hj k
theorem O1 {j : Nat} {op : Op} (hj : gd ops L j = some (.bool true) := by exact rfl) (hd : Nat.blt d n = true := by exact rfl) (k : wo r P n ops os ((d, undef) :: L) Hs Q) : wo r P n ops (⟨some d, op, ty, pos, after, some (j, false)⟩ :: os) L Hs Q := wo_out hj rfl hd k
theorem O0 {j : Nat} {op : Op} (hj : gd ops L j = some (.bool false) := by exact rfl) (hd : Nat.blt d n = true := by exact rfl) (k : wo r P n ops os ((d, undef) :: L) Hs Q) : wo r P n ops (⟨some d, op, ty, pos, after, some (j, true)⟩ :: os) L Hs Q := wo_out hj rfl hd k
theorem Ou {j : Nat} {want : Bool} {op : Op} (hj : gd ops L j = some undef := by exact rfl) (hd : Nat.blt d n = true := by exact rfl) (k : wo r P n ops os ((d, undef) :: L) Hs Q) : wo r P n ops (⟨some d, op, ty, pos, after, some (j, want)⟩ :: os) L Hs Q := wo_outU hj rfl hd k
/-! Memory. -/
theorem Zd {td : TypeDesc} {b off : Nat} {l : List Value} (ht : P.underlying t = some td := by exact UndC.h) (hfl : flat td = true := by exact rfl) (hx : ev L x = some (.pointer (some ⟨b, off, none⟩)) := by exact rfl) (hr : RdCe b l Hs := by exact inferInstance) (hv : l[off]? = some v := by exact rfl) (hd : Nat.blt d n = true := by exact rfl)
    (k : wo r P n ops os ((d, v) :: L) Hs Q) : wo r P n ops (⟨some d, .load t x, ty, pos, after, none⟩ :: os) L Hs Q := r_load ht hfl hx (hr := hr) hv hd k
theorem Zm {td : TypeDesc} {b off : Nat} {l : List Value} (vs : List Value) {ti : TypeInfo} (ht : P.underlying t = some td := by exact UndC.h) (hfl : flat td = false := by exact rfl) (hi : P.info? t = some ti := by exact InfC.h) (hx : ev L x = some (.pointer (some ⟨b, off, none⟩)) := by exact rfl) (hr : RdCe b l Hs := by exact inferInstance) (hl : off + ti.size ≤ l.length := by exact Nat.le_of_ble_eq_true rfl) (hv : (l.drop off).take ti.size = vs := by rfl) (hd : Nat.blt d n = true := by exact rfl)
    (k : wo r P n ops os ((d, .agg vs.toArray) :: L) Hs Q) : wo r P n ops (⟨some d, .load t x, ty, pos, after, none⟩ :: os) L Hs Q := r_loada ht hfl hi hx (hr := hr) hl hv hd k
theorem Zo {ti : TypeInfo} {b off : Nat} {T : TypeId} {l : List Value} {Gs : List HP} (hi : P.info? t = some ti := by exact InfC.h) (hs : Nat.beq ti.size 1 = true := by exact rfl) (hx : ev L x = some (.pointer (some ⟨b, off, none⟩)) := by exact rfl) (hy : ev L y = some v := by exact rfl) (hu : StC b off v T l Hs Gs := by exact inferInstance) (h1 : oneCell v = true := by exact rfl) (ho : off < l.length := by first | (simp; done) | (simp; omega))
    (k : wo r P n ops os L Gs Q) : wo r P n ops (⟨none, .store t x y, ty, pos, after, none⟩ :: os) L Hs Q := r_store hi hs hx hy (hu := hu) h1 ho k
theorem Zp {ti : TypeInfo} {b off : Nat} {T : TypeId} {l vs : List Value} {Gs : List HP} (hi : P.info? t = some ti := by exact InfC.h) (hx : ev L x = some (.pointer (some ⟨b, off, none⟩)) := by exact rfl) (hy : ev L y = some (.agg vs.toArray) := by exact rfl) (hs : Nat.beq ti.size vs.length = true := by exact rfl) (hu : StsC b off vs T l Hs Gs := by exact inferInstance) (h1 : vs.all oneCell = true := by exact rfl) (ho : off + vs.length ≤ l.length := by first | (simp; done) | (simp; omega))
    (k : wo r P n ops os L Gs Q) : wo r P n ops (⟨none, .store t x y, ty, pos, after, none⟩ :: os) L Hs Q := r_storea hi hs hx hy (hu := hu) h1 ho k
theorem Zc (zs : List Value) {ti : TypeInfo} {z : Value} (hi : P.info? t = some ti := by exact InfC.h) (hz : ti.zero = some z := by exact rfl) (hzs : z.cells.toList = zs := by exact rfl) (hd : Nat.blt d n = true := by exact rfl)
    (k : ∀ b, wo r P n ops os ((d, .pointer (some ⟨b, 0, none⟩)) :: L) (Ce b t zs :: Hs) Q) : wo r P n ops (⟨some d, .alloc t, ty, pos, after, none⟩ :: os) L Hs Q := wo_alloc hi hz hzs hd k
theorem Zx (vs : List Value) (hx : ev L x = some v := by exact rfl) (hv : v.cells.toList = vs := by exact rfl) (hd : Nat.blt d n = true := by exact rfl)
    (k : ∀ b, wo r P n ops os ((d, .pointer (some ⟨b, 0, none⟩)) :: L) (Ce b t vs :: Hs) Q) : wo r P n ops (⟨some d, .box t x, ty, pos, after, none⟩ :: os) L Hs Q := wo_box hx hv hd k
theorem Zv {ti : TypeInfo} {z : Value} {len : Nat} {ps : List (Nat × Operand)} (vs : List Value) {cs : List Value} (ht : P.underlying t = some (.slice e) := by exact UndC.h) (hi : P.info? e = some ti := by exact InfC.h) (hz : ti.zero = some z := by exact rfl) (hzs : Nat.beq z.cells.size ti.size = true := by exact rfl)
    (hps : evps L ps = some (parts 0 vs) := by exact rfl) (hlen : vs.length = len := by exact rfl) (hv : vs.all (fun v => Nat.beq v.cells.size ti.size) = true := by exact rfl) (hsm : Nat.ble (vs.length * ti.size) 16777216 = true := by exact rfl) (hcs : vs.flatMap (·.cells.toList) = cs := by exact rfl) (hd : Nat.blt d n = true := by exact rfl)
    (k : ∀ b, wo r P n ops os ((d, .slice (some ⟨b, 0, none⟩) len len) :: L) (Ce b e cs :: Hs) Q) : wo r P n ops (⟨some d, .buildSlice t len ps.toArray, ty, pos, after, none⟩ :: os) L Hs Q := r_buildSliceL vs ht hi hz hzs hps hlen hv hsm hcs hd k
theorem Ye (sz : Nat) {a : Option Addr} {kd : IntKind} {i : Int} {m len cap kk : Nat} {ti : TypeInfo} {xs : List Value} (ht : P.underlying t = some (.slice e) := by exact UndC.h) (hi : P.info? e = some ti := by exact InfC.h) (hsz : ti.size = sz := by exact rfl)
    (hx : ev L x = some (.slice a len cap) := by exact rfl) (hy : ev L y = some (.int kd i) := by exact rfl) (hm : i = (m : Int) := by exact rfl) (h : m < len := by omega) (hr : RdSl a xs Hs := by exact inferInstance) (hne : 0 < xs.length := by first | (rw [List.length_map]; omega) | exact flat_pos (by omega) (fun _ => rfl) | (simp; omega)) (hk : m * sz = kk := by first | exact Nat.mul_one _ | exact rfl) (hd : Nat.blt d n = true := by exact rfl)
    (k : wo r P n ops os ((d, .pointer (elemA a kk)) :: L) Hs Q) : wo r P n ops (⟨some d, .indexAddr t x y, ty, pos, after, none⟩ :: os) L Hs Q := r_elemAddr ht hi hsz hx hy hm h (hr := hr) hne hk hd k
theorem Yf (o : Nat) (ft : TypeId) {i : Nat} {a : Option Addr} {q : Nat} {fs : Array Field} {fd : Field} {xs : List Value} {ti : TypeInfo} {kk : Nat} (ht : P.underlying t = some (.struct fs) := by exact UndC.h) (hf : fs[i]? = some fd := by exact rfl) (hft : fd.type = ft := by exact rfl) (hi : P.info? ft = some ti := by exact InfC.h) (hz : Nat.beq ti.size 0 = false := by exact rfl)
    (hx : ev L x = some (.pointer (elemA a q)) := by exact rfl) (ho : fd.offset = o := by exact rfl) (hk : q + o = kk := by exact rfl) (hr : RdSl a xs Hs := by exact inferInstance) (hne : 0 < xs.length := by first | (rw [List.length_map]; omega) | exact flat_pos (by omega) (fun _ => rfl) | (simp; omega)) (hd : Nat.blt d n = true := by exact rfl)
    (k : wo r P n ops os ((d, .pointer (elemA a kk)) :: L) Hs Q) : wo r P n ops (⟨some d, .fieldAddr t x i, ty, pos, after, none⟩ :: os) L Hs Q := r_efield ht hf (by rw [hft]; exact hi) hz hx ho hk (hr := hr) hne hd k
theorem Ym {a : Option Addr} {q : Nat} {xs : List Value} {td : TypeDesc} (ht : P.underlying t = some td := by exact UndC.h) (hfl : flat td = true := by exact rfl) (hx : ev L x = some (.pointer (elemA a q)) := by exact rfl) (hr : RdSl a xs Hs := by exact inferInstance) (hv : xs[q]? = some v := by first | exact get_map (by omega) | exact rfl | (rw [get_field (fun _ => rfl) (by decide) (by omega)]; rfl)) (hd : Nat.blt d n = true := by exact rfl)
    (k : wo r P n ops os ((d, v) :: L) Hs Q) : wo r P n ops (⟨some d, .load t x, ty, pos, after, none⟩ :: os) L Hs Q := r_eload ht hfl hx (hr := hr) hv hd k
/-! Regions that draw. -/
theorem Di {o : Oper} {q : Nat} {ls : Array Bool} {A : List HP} (i : Nat) (hnd : noDefer ops = true := by exact rfl) (ho : ops[i]? = some o := by exact rfl) (hd : dstOk n o.dst = true := by exact rfl) (hr : (Region.ready .any ops ls).contains i = true := by kernel_rfl) (hf : free ops ls i o = true := by kernel_rfl)
    (t : Tells P n ops o A L v) (k : An r P n ops A Q q (ls.setIfInBounds i true) (putL o.dst v L) Hs) : An r P n ops A Q (q + 1) ls L Hs := d_first i hnd ho hd hr hf t k
theorem Dw {id : Nat} {l : List Oper} {Rs : List HP} (A : List HP) (hc : c = .region id l.toArray true := by exact rfl) (hm : P.follows .mixedOrders = true := by exact rfl) (hnd : noDefer l.toArray = true := by exact rfl) (hp : PicksC A Hs Rs := by exact inferInstance)
    (k : An r P n l.toArray A Q l.length (Array.replicate l.length false) L Rs) : wc r P n c L Hs Q := d_draw hc hm hnd A (hp := hp) k
theorem Dn {o : Oper} {q : Nat} {ls : Array Bool} {A : List HP} (j : Nat) (hr : Region.ready .any ops ls = [j] := by kernel_rfl) (ho : ops[j]? = some o := by exact rfl) (k : AnOp r P n ops A o (fun L' Hs' => An r P n ops A Q q (ls.setIfInBounds j true) L' Hs') L Hs) :
    An r P n ops A Q (q + 1) ls L Hs := d_next j hr ho k
theorem Dd {ls : Array Bool} {A : List HP} (hr : Region.ready .any ops ls = [] := by kernel_rfl) (k : tw n Q .normal L (A ++ Hs)) : An r P n ops A Q 0 ls L Hs := d_done hr k
section
variable {A : List HP} {dst : Option Tmp} {op : Op} {j : Nat}
theorem Uv (h : PV P n L op ty v := by exact Pv) : Tells P n ops ⟨dst, op, ty, pos, after, none⟩ A L v := tl_pv h
theorem UP1 {z x y : Operand} (hz : ev L z = some (.bool true) := by exact rfl) (hx : ev L x = some v := by exact rfl) : Tells P n ops ⟨dst, .pick z x y, ty, pos, after, none⟩ A L v := tl_pv (pv_pick_t hz hx)
theorem UP0 {z x y : Operand} (hz : ev L z = some (.bool false) := by exact rfl) (hy : ev L y = some v := by exact rfl) : Tells P n ops ⟨dst, .pick z x y, ty, pos, after, none⟩ A L v := tl_pv (pv_pick_f hz hy)
theorem Ux (h : PV P n L op ty v) : Tells P n ops ⟨dst, op, ty, pos, after, none⟩ A L v := tl_pv h
theorem U1 (hj : gd ops L j = some (.bool true) := by exact rfl) (h : Tells P n ops ⟨dst, op, ty, pos, after, none⟩ A L v) : Tells P n ops ⟨dst, op, ty, pos, after, some (j, true)⟩ A L v := tl_in hj h
theorem U0 (hj : gd ops L j = some (.bool false) := by exact rfl) (h : Tells P n ops ⟨dst, op, ty, pos, after, none⟩ A L v) : Tells P n ops ⟨dst, op, ty, pos, after, some (j, false)⟩ A L v := tl_in hj h
theorem Uu {want : Bool} (hj : gd ops L j = some undef := by exact rfl) : Tells P n ops ⟨dst, op, ty, pos, after, some (j, want)⟩ A L undef := tl_outU hj rfl
theorem Uf {i b off : Nat} {fs : Array Field} {fd : Field} {ti : TypeInfo} {m : Nat} (k0 : Nat) (ft : TypeId) (ht : P.underlying t = some (.struct fs) := by exact UndC.h) (hf : fs[i]? = some fd := by exact rfl) (hft : fd.type = ft := by exact rfl) (hi : P.info? ft = some ti := by exact InfC.h) (hz : Nat.beq ti.size 0 = false := by exact rfl)
    (hx : ev L x = some (.pointer (some ⟨b, off, none⟩)) := by exact rfl) (hk : fd.offset = k0 := by exact rfl) (hm : off + k0 = m := by first | exact Nat.zero_add _ | exact Nat.add_zero _ | exact rfl) : Tells P n ops ⟨dst, .fieldAddr t x i, ty, pos, after, none⟩ A L (.pointer (some ⟨b, m, none⟩)) :=
 tl_pv (pv_fieldAddrk ht hf (by rw [hft]; exact hi) hz hx hk hm)
theorem Ul {td : TypeDesc} {b off : Nat} {l : List Value} (ht : P.underlying t = some td := by exact UndC.h) (hfl : flat td = true := by exact rfl) (hx : ev L x = some (.pointer (some ⟨b, off, none⟩)) := by exact rfl) (hr : RdCe b l A := by exact inferInstance) (hv : l[off]? = some v := by exact rfl) :
    Tells P n ops ⟨dst, .load t x, ty, pos, after, none⟩ A L v := tl_load ht hfl hx (hr := hr) hv
end
theorem Ps {ps : List (Nat × Operand)} {pv : List (Nat × Value)} {fields : Array Field} {ti : TypeInfo} {z : Value} {zs : List Value} {pl : List (Nat × Nat)} (vs : List Value) (ht : P.underlying t = some (.struct fields) := by exact UndC.h) (hi : P.info? t = some ti := by exact InfC.h) (hz : ti.zero = some z := by exact rfl) (hzs : z.cells.toList = zs := by exact rfl)
    (hpl : fields.toList.mapM (fun f => (P.info? f.type).map fun i => (f.offset, i.size)) = some pl := by exact rfl) (hps : evps L ps = some pv := by exact rfl) (hf : fillL (fun i => pl[i]?) zs pv = some vs := by exact rfl) : PV P n L (.build t ps.toArray) ty (.agg vs.toArray) := pv_buildS ht hi hz hzs hpl hps hf
section
variable {A : List HP} {K : Loc → List HP → Prop}
theorem Nc (zs : List Value) {ti : TypeInfo} {z : Value} (hi : P.info? t = some ti := by exact InfC.h) (hz : ti.zero = some z := by exact rfl) (hzs : z.cells.toList = zs := by exact rfl) (hd : Nat.blt d n = true := by exact rfl)
    (k : ∀ b, K ((d, .pointer (some ⟨b, 0, none⟩)) :: L) (Ce b t zs :: Hs)) : AnOp r P n ops A ⟨some d, .alloc t, ty, pos, after, none⟩ K L Hs := an_alloc hi hz hzs hd k
theorem Nl {ti : TypeInfo} {z : Value} {len : Nat} {ps : List (Nat × Operand)} (vs : List Value) {cs : List Value} (ht : P.underlying t = some (.slice e) := by exact UndC.h) (hi : P.info? e = some ti := by exact InfC.h) (hz : ti.zero = some z := by exact rfl) (hzs : Nat.beq z.cells.size ti.size = true := by exact rfl)
    (hps : evps L ps = some (parts 0 vs) := by exact rfl) (hlen : vs.length = len := by exact rfl) (hv : vs.all (fun v => Nat.beq v.cells.size ti.size) = true := by exact rfl) (hsm : Nat.ble (vs.length * ti.size) 16777216 = true := by exact rfl) (hcs : vs.flatMap (·.cells.toList) = cs := by exact rfl) (hd : Nat.blt d n = true := by exact rfl)
    (k : ∀ b, K ((d, .slice (some ⟨b, 0, none⟩) len len) :: L) (Ce b e cs :: Hs)) : AnOp r P n ops A ⟨some d, .buildSlice t len ps.toArray, ty, pos, after, none⟩ K L Hs := an_buildSliceL vs ht hi hz hzs hps hlen hv hsm hcs hd k
theorem No {ti : TypeInfo} {b off : Nat} {T : TypeId} {l : List Value} {Gs : List HP} (hi : P.info? t = some ti := by exact InfC.h) (hs : Nat.beq ti.size 1 = true := by exact rfl) (hx : ev L x = some (.pointer (some ⟨b, off, none⟩)) := by exact rfl) (hy : ev L y = some v := by exact rfl) (hu : StC b off v T l Hs Gs := by exact inferInstance) (h1 : oneCell v = true := by exact rfl) (ho : off < l.length := by first | (simp; done) | (simp; omega))
    (k : K L Gs) : AnOp r P n ops A ⟨none, .store t x y, ty, pos, after, none⟩ K L Hs := an_store hi hs hx hy (hu := hu) h1 ho k
theorem Na {ti : TypeInfo} {b off : Nat} {T : TypeId} {l vs : List Value} {Gs : List HP} (hi : P.info? t = some ti := by exact InfC.h) (hx : ev L x = some (.pointer (some ⟨b, off, none⟩)) := by exact rfl) (hy : ev L y = some (.agg vs.toArray) := by exact rfl) (hs : Nat.beq ti.size vs.length = true := by exact rfl) (hu : StsC b off vs T l Hs Gs := by exact inferInstance) (h1 : vs.all oneCell = true := by exact rfl) (ho : off + vs.length ≤ l.length := by first | (simp; done) | (simp; omega))
    (k : K L Gs) : AnOp r P n ops A ⟨none, .store t x y, ty, pos, after, none⟩ K L Hs := an_storea hi hs hx hy (hu := hu) h1 ho k
end
/-! Several at once. -/
theorem Qc {id : Nat} {l : List Oper} (h : c = .seq (sA c) (sB c) := by exact rfl) (h2 : sA c = .region id l.toArray false := by exact rfl) (k : wo r P n l.toArray l L Hs (seqO r P (sB c) Q)) : wc r P n c L Hs Q := p_seq h (p_region h2 k)
section
variable {ty1 ty2 : TypeId} {d1 d2 : Nat} {pos1 pos2 : String} {after1 after2 : Array Edge} {o1 o2 : Op} {v1 v2 : Value}
theorem Qv (h1 : PV P n L o1 ty1 v1 := by exact Pv) (hd1 : Nat.blt d1 n = true := by exact rfl) (h2 : PV P n ((d1, v1) :: L) o2 ty2 v2 := by exact Pv) (hd2 : Nat.blt d2 n = true := by exact rfl) (k : wo r P n ops os ((d2, v2) :: (d1, v1) :: L) Hs Q) :
    wo r P n ops (⟨some d1, o1, ty1, pos1, after1, none⟩ :: ⟨some d2, o2, ty2, pos2, after2, none⟩ :: os) L Hs Q := wo_pv h1 hd1 (wo_pv h2 hd2 k)
theorem Qx {b off : Nat} {l : List Value} {td : TypeDesc} {i : Nat} {fs : Array Field} {fd : Field} {ti : TypeInfo} {m : Nat} {t2 : TypeId} (k0 : Nat) (ft : TypeId) (ht : P.underlying t = some (.struct fs) := by exact UndC.h) (hf : fs[i]? = some fd := by exact rfl) (hft : fd.type = ft := by exact rfl) (hi : P.info? ft = some ti := by exact InfC.h) (hz : Nat.beq ti.size 0 = false := by exact rfl)
    (hx : ev L x = some (.pointer (some ⟨b, off, none⟩)) := by exact rfl) (hk : fd.offset = k0 := by exact rfl) (hm : off + k0 = m := by first | exact Nat.zero_add _ | exact Nat.add_zero _ | exact rfl) (hd1 : Nat.blt d1 n = true := by exact rfl)
    (ht2 : P.underlying t2 = some td := by exact UndC.h) (hfl : flat td = true := by exact rfl) (hy : ev ((d1, .pointer (some ⟨b, m, none⟩)) :: L) y = some (.pointer (some ⟨b, m, none⟩)) := by exact rfl) (hr : RdCe b l Hs := by exact inferInstance) (hv : l[m]? = some v2 := by exact rfl) (hd2 : Nat.blt d2 n = true := by exact rfl)
    (k : wo r P n ops os ((d2, v2) :: (d1, .pointer (some ⟨b, m, none⟩)) :: L) Hs Q) : wo r P n ops (⟨some d1, .fieldAddr t x i, ty1, pos1, after1, none⟩ :: ⟨some d2, .load t2 y, ty2, pos2, after2, none⟩ :: os) L Hs Q :=
 wo_pv (pv_fieldAddrk ht hf (by rw [hft]; exact hi) hz hx hk hm) hd1 (r_load ht2 hfl hy (hr := hr) hv hd2 k)
end
theorem J1 {j : Nat} {op : Op} (hj : gd ops L j = some (.bool true) := by exact rfl) (h : PV P n L op ty v := by exact Pv) (hd : Nat.blt d n = true := by exact rfl) (k : wo r P n ops os ((d, v) :: L) Hs Q) : wo r P n ops (⟨some d, op, ty, pos, after, some (j, true)⟩ :: os) L Hs Q := wo_in hj (wo_pv h hd k)
theorem J0 {j : Nat} {op : Op} (hj : gd ops L j = some (.bool false) := by exact rfl) (h : PV P n L op ty v := by exact Pv) (hd : Nat.blt d n = true := by exact rfl) (k : wo r P n ops os ((d, v) :: L) Hs Q) : wo r P n ops (⟨some d, op, ty, pos, after, some (j, false)⟩ :: os) L Hs Q := wo_in hj (wo_pv h hd k)
theorem Dv {q : Nat} {ls : Array Bool} {A : List HP} {dst : Option Tmp} {op : Op} (i : Nat) (hnd : noDefer ops = true := by exact rfl) (ho : ops[i]? = some ⟨dst, op, ty, pos, after, none⟩ := by exact rfl) (hd : dstOk n dst = true := by exact rfl) (hr : (Region.ready .any ops ls).contains i = true := by kernel_rfl) (hf : free ops ls i ⟨dst, op, ty, pos, after, none⟩ = true := by kernel_rfl)
    (h : PV P n L op ty v := by exact Pv) (k : An r P n ops A Q q (ls.setIfInBounds i true) (putL dst v L) Hs) : An r P n ops A Q (q + 1) ls L Hs := d_first i hnd ho hd hr hf (tl_pv h) k
theorem D0 {q j : Nat} {ls : Array Bool} {A : List HP} {dst : Option Tmp} {op : Op} (i : Nat) (hnd : noDefer ops = true := by exact rfl) (ho : ops[i]? = some ⟨dst, op, ty, pos, after, some (j, true)⟩ := by exact rfl) (hd : dstOk n dst = true := by exact rfl) (hr : (Region.ready .any ops ls).contains i = true := by kernel_rfl) (hf : free ops ls i ⟨dst, op, ty, pos, after, some (j, true)⟩ = true := by kernel_rfl)
    (hj : gd ops L j = some (.bool false) := by exact rfl) (k : An r P n ops A Q q (ls.setIfInBounds i true) (putL dst undef L) Hs) : An r P n ops A Q (q + 1) ls L Hs := d_first i hnd ho hd hr hf (tl_out hj rfl) k
theorem D1 {q j : Nat} {ls : Array Bool} {A : List HP} {dst : Option Tmp} {op : Op} (i : Nat) (hnd : noDefer ops = true := by exact rfl) (ho : ops[i]? = some ⟨dst, op, ty, pos, after, some (j, false)⟩ := by exact rfl) (hd : dstOk n dst = true := by exact rfl) (hr : (Region.ready .any ops ls).contains i = true := by kernel_rfl) (hf : free ops ls i ⟨dst, op, ty, pos, after, some (j, false)⟩ = true := by kernel_rfl)
    (hj : gd ops L j = some (.bool true) := by exact rfl) (k : An r P n ops A Q q (ls.setIfInBounds i true) (putL dst undef L) Hs) : An r P n ops A Q (q + 1) ls L Hs := d_first i hnd ho hd hr hf (tl_out hj rfl) k
theorem DP0 {q : Nat} {ls : Array Bool} {A : List HP} {dst : Option Tmp} {z x y : Operand} (i : Nat) (hnd : noDefer ops = true := by exact rfl) (ho : ops[i]? = some ⟨dst, .pick z x y, ty, pos, after, none⟩ := by exact rfl) (hd : dstOk n dst = true := by exact rfl) (hr : (Region.ready .any ops ls).contains i = true := by kernel_rfl) (hf : free ops ls i ⟨dst, .pick z x y, ty, pos, after, none⟩ = true := by kernel_rfl)
    (hz : ev L z = some (.bool false) := by exact rfl) (hy : ev L y = some v := by exact rfl) (k : An r P n ops A Q q (ls.setIfInBounds i true) (putL dst v L) Hs) : An r P n ops A Q (q + 1) ls L Hs := d_first i hnd ho hd hr hf (tl_pv (pv_pick_f hz hy)) k
theorem DP1 {q : Nat} {ls : Array Bool} {A : List HP} {dst : Option Tmp} {z x y : Operand} (i : Nat) (hnd : noDefer ops = true := by exact rfl) (ho : ops[i]? = some ⟨dst, .pick z x y, ty, pos, after, none⟩ := by exact rfl) (hd : dstOk n dst = true := by exact rfl) (hr : (Region.ready .any ops ls).contains i = true := by kernel_rfl) (hf : free ops ls i ⟨dst, .pick z x y, ty, pos, after, none⟩ = true := by kernel_rfl)
    (hz : ev L z = some (.bool true) := by exact rfl) (hx : ev L x = some v := by exact rfl) (k : An r P n ops A Q q (ls.setIfInBounds i true) (putL dst v L) Hs) : An r P n ops A Q (q + 1) ls L Hs := d_first i hnd ho hd hr hf (tl_pv (pv_pick_t hz hx)) k
theorem Ne {a : Option Addr} {kd : IntKind} {i : Int} {len cap kk : Nat} {ti : TypeInfo} {xs : List Value} {A : List HP} {K : Loc → List HP → Prop} (sz m : Nat) (ht : P.underlying t = some (.slice e) := by exact UndC.h) (hi : P.info? e = some ti := by exact InfC.h) (hsz : ti.size = sz := by exact rfl)
    (hx : ev L x = some (.slice a len cap) := by exact rfl) (hy : ev L y = some (.int kd i) := by exact rfl) (hm : i = (m : Int) := by exact rfl) (h : m < len := by omega) (hr : RdSl a xs Hs := by exact inferInstance) (hne : 0 < xs.length := by first | (rw [List.length_map]; omega) | exact flat_pos (by omega) (fun _ => rfl) | (simp; omega) | simp) (hk : m * sz = kk := by first | exact Nat.mul_one _ | exact rfl) (hd : Nat.blt d n = true := by exact rfl)
    (k : K ((d, .pointer (elemA a kk)) :: L) Hs) : AnOp r P n ops A ⟨some d, .indexAddr t x y, ty, pos, after, none⟩ K L Hs := an_elemAddr ht hi hsz hx hy hm h (hr := hr) hne hk hd k
theorem Yl {a : Option Addr} {q : Nat} {xs : List Value} {td : TypeDesc} (ht : P.underlying t = some td := by exact UndC.h) (hfl : flat td = true := by exact rfl) (hx : ev L x = some (.pointer (elemA a q)) := by exact rfl) (hr : RdSl a xs Hs := by exact inferInstance) (hv : xs[q]? = some v) (hd : Nat.blt d n = true := by exact rfl)
    (k : wo r P n ops os ((d, v) :: L) Hs Q) : wo r P n ops (⟨some d, .load t x, ty, pos, after, none⟩ :: os) L Hs Q := r_eload ht hfl hx (hr := hr) hv hd k
end
end
/-- The last digit of a number, as a byte. -/
def dgt (n : Nat) : UInt8 := UInt8.ofNat (48 + n % 10)
def decN (n : Nat) : List UInt8 := if n < 10 then [dgt n] else decN (n / 10) ++ [dgt n]
termination_by n
/-- What stands ahead of the last digits. -/
def preN (n : Nat) : List UInt8 := if n = 0 then [] else decN n
theorem dgt_toNat (n : Nat) : (dgt n).toNat = 48 + n % 10 := by
 have : 48 + n % 10 < 256 := by omega
 simp [dgt, UInt8.toNat_ofNat, Nat.mod_eq_of_lt this]
theorem decN_split (n : Nat) : decN n = preN (n / 10) ++ [dgt n] := by
 rw [decN, preN]
 by_cases h : n < 10
 · have : n / 10 = 0 := by omega
   simp [h, this]
 · have : ¬ (n / 10 = 0) := by omega
   simp [h, this]
theorem preN_pos {n : Nat} (h : 0 < n) : preN n = preN (n / 10) ++ [dgt n] := by
 rw [preN, if_neg (by omega)]; exact decN_split n
theorem decN_len (n : Nat) : (decN n).length ≤ n + 1 := by
 induction n using Nat.strongRecOn with
 | _ n ih =>
   rw [decN]
   split
   · simp
   · have := ih (n / 10) (by omega)
     simp only [List.length_append, List.length_singleton]
     omega
abbrev Bs := List UInt8
/-- Decimals, read on. -/
def dn : Bs → Nat → Option Nat
 | [], n => some n
 | c :: r, n => if c.toNat < 48 ∨ 57 < c.toNat ∨ 1073741824 < n then none else dn r (10 * n + (c.toNat - 48))
def decP (n : Nat) : Bs := if n ≤ 1073741824 then decN n else []
def readDec (s : Bs) : Option Nat := match dn s 0 with
 | none => none
 | some n => if s = [] ∨ ¬ decP n = s then none else some n
theorem dn_step {s : Bs} {i : Nat} (h : i < s.length) (n : Nat) : dn (s.drop i) n = if (s.getD i 0).toNat < 48 ∨ 57 < (s.getD i 0).toNat ∨ 1073741824 < n then none else dn (s.drop (i + 1)) (10 * n + ((s.getD i 0).toNat - 48)) := by
 have e : s.drop i = s.getD i 0 :: s.drop (i + 1) := by
  rw [List.drop_eq_getElem_cons h]; simp [h]
 rw [e, dn]
def zeros (n : Nat) : Bs := List.replicate n 0
def wholeS (s : Bs) : Bs := s ++ zeros (32 - s.length)
/-- A disk: its sectors, whether it is armed, how many writes go well yet, how much of the one that is torn is kept, whether it is down. -/
structure Dk where
 secs : List Bs
 armed : Bool
 left : Int
 keep : Nat
 down : Bool
structure Dk.Ok (D : Dk) : Prop where
 secs : ∀ s ∈ D.secs, s.length = 32
 keep : D.keep ≤ 32
 many : D.secs.length ≤ 2000
def Dk.write (D : Dk) (i : Int) (s : Bs) : Dk × Bool :=
 if D.down = true ∨ i < 0 ∨ (D.secs.length : Int) ≤ i ∨ 32 < s.length then (D, false)
 else if D.armed = true ∧ D.left = 0 then
  ({ D with secs := D.secs.set i.toNat ((wholeS s).take D.keep ++ (D.secs.getD i.toNat []).drop D.keep), down := true, armed := false }, false)
 else ({ D with secs := D.secs.set i.toNat (wholeS s), left := D.left - 1 }, true)
/-- Sectors written one behind the other: the disk, whether all were written. -/
def Dk.writes : Dk → Nat → List Bs → Dk × Bool
 | D, _, [] => (D, true)
 | D, i, p :: r => match D.write i p with
   | (D', true) => D'.writes (i + 1) r
   | (D', false) => (D', false)
structure W5 where
 a : UInt32
 b : UInt32
 c : UInt32
 d : UInt32
 e : UInt32
def W5.list (h : W5) : List UInt32 := [h.a, h.b, h.c, h.d, h.e]
def byteW (c : UInt8) (k : Nat) : UInt32 := c.toUInt32 <<< UInt32.ofNat k
def blkW (b : Bs) (i : Nat) : UInt32 := byteW (b.getD (4 * i) 0) 24 ||| byteW (b.getD (4 * i + 1) 0) 16 ||| byteW (b.getD (4 * i + 2) 0) 8 ||| (b.getD (4 * i + 3) 0).toUInt32
def nextW (l : List UInt32) (i : Nat) : UInt32 := rotl (l.getD (i - 3) 0 ^^^ l.getD (i - 8) 0 ^^^ l.getD (i - 14) 0 ^^^ l.getD (i - 16) 0) 1
def spreadL (b : Bs) : Nat → List UInt32
 | 0 => []
 | n + 1 => spreadL b n ++ [if n < 16 then blkW b n else nextW (spreadL b n) n]
theorem spreadL_len (b : Bs) (n : Nat) : (spreadL b n).length = n := by
 induction n with
 | zero => rfl
 | succ n ih => simp [spreadL, ih]
def mixW (i : Nat) (b c d : UInt32) : UInt32 × UInt32 :=
 if i / 20 = 0 then ((b &&& c) ||| (~~~b &&& d), 0x5a827999)
 else if i / 20 = 1 then (b ^^^ c ^^^ d, 0x6ed9eba1)
 else if i / 20 = 2 then ((b &&& c) ||| (b &&& d) ||| (c &&& d), 0x8f1bbcdc)
 else (b ^^^ c ^^^ d, 0xca62c1d6)
def roundW (w : List UInt32) (i : Nat) (s : W5) : W5 := ⟨rotl s.a 5 + (mixW i s.b s.c s.d).1 + s.e + (mixW i s.b s.c s.d).2 + w.getD i 0, s.a, rotl s.b 30, s.c, s.d⟩
def roundsW (w : List UInt32) (h : W5) : Nat → W5
 | 0 => h
 | n + 1 => roundW w n (roundsW w h n)
def takeW (h : W5) (b : Bs) : W5 := let s := roundsW (spreadL b 80) h 80; ⟨h.a + s.a, h.b + s.b, h.c + s.c, h.d + s.d, h.e + s.e⟩
def blocksN (s : Bs) : Nat := (s.length + 8) / 64 + 1
def len8 (s : Bs) (i : Nat) : UInt8 := UInt8.ofNat (8 * s.length / 2 ^ (8 * (7 - i)))
def padB (s : Bs) : Bs := s ++ [0x80] ++ zeros (64 * blocksN s - 9 - s.length) ++ (List.range 8).map (len8 s)
theorem padB_len (s : Bs) : (padB s).length = 64 * blocksN s := by
 simp only [padB, blocksN, zeros, List.length_append, List.length_replicate, List.length_map, List.length_range, List.length_singleton]
 omega
def h0W : W5 := ⟨0x67452301, 0xefcdab89, 0x98badcfe, 0x10325476, 0xc3d2e1f0⟩
def sumsW (p : Bs) (h : W5) : Nat → W5
 | 0 => h
 | n + 1 => takeW (sumsW p h n) ((p.drop (64 * n)).take 64)
def hexD : Bs := [48, 49, 50, 51, 52, 53, 54, 55, 56, 57, 97, 98, 99, 100, 101, 102]
def hexW (x : UInt32) : Bs := (List.range 8).map fun j => hexD.getD ((x >>> UInt32.ofNat (28 - 4 * j)) &&& 15).toNat 0
/-- A content's name. -/
def shaB (s : Bs) : Bs := (sumsW (padB s) h0W (blocksN s)).list.flatMap hexW
theorem hexW_len (x : UInt32) : (hexW x).length = 8 := by simp [hexW]
theorem shaB_len (s : Bs) : (shaB s).length = 40 := by simp [shaB, W5.list, hexW_len]
theorem hexW_mem (x : UInt32) : ∀ c ∈ hexW x, c ∈ hexD := by
 intro c hc
 simp only [hexW, List.mem_map, List.mem_range] at hc
 obtain ⟨j, _, rfl⟩ := hc
 have hl : hexD.length = 16 := rfl
 have h : ((x >>> UInt32.ofNat (28 - 4 * j)) &&& 15).toNat < 16 := by
  rw [UInt32.toNat_and]
  exact Nat.lt_of_le_of_lt Nat.and_le_right (by decide)
 rw [List.getD_eq_getElem?_getD, List.getElem?_eq_getElem (by rw [hl]; exact h), Option.getD_some]
 exact List.getElem_mem _
theorem shaB_mem (s : Bs) : ∀ c ∈ shaB s, c ∈ hexD := by
 intro c hc
 obtain ⟨x, _, hx⟩ := List.mem_flatMap.1 hc
 exact hexW_mem x c hx
def dn2 : Bs → Nat → Option Nat
 | [], n => some n
 | c :: r, n => if c.toNat < 48 ∨ 57 < c.toNat then none else if 1073741824 < 10 * n + (c.toNat - 48) then none else dn2 r (10 * n + (c.toNat - 48))
theorem dn_ge : ∀ (s : Bs) (n m : Nat), dn s n = some m → n ≤ m := by
 intro s
 induction s with
 | nil => intro n m h; simp [dn] at h; omega
 | cons c r ih =>
   intro n m h
   simp only [dn] at h
   split at h
   · cases h
   · have := ih _ _ h; omega
theorem dn2_dn : ∀ (s : Bs) (n m : Nat), n ≤ 1073741824 → (dn2 s n = some m ↔ dn s n = some m ∧ m ≤ 1073741824) := by
 intro s
 induction s with
 | nil => intro n m h; simp [dn, dn2]; omega
 | cons c r ih =>
   intro n m h
   simp only [dn, dn2]
   by_cases h1 : c.toNat < 48 ∨ 57 < c.toNat
   · rw [if_pos h1, if_pos (by omega)]; simp
   · rw [if_neg h1, if_neg (show ¬ (c.toNat < 48 ∨ 57 < c.toNat ∨ 1073741824 < n) by omega)]
     by_cases h2 : 1073741824 < 10 * n + (c.toNat - 48)
     · rw [if_pos h2]
       constructor
       · intro e; cases e
       · rintro ⟨e, e2⟩
         have := dn_ge _ _ _ e
         omega
     · rw [if_neg h2]
       exact ih _ _ (by omega)
theorem dn2_app : ∀ (s t : Bs) (n : Nat), dn2 (s ++ t) n = (dn2 s n).bind (dn2 t) := by
 intro s
 induction s with
 | nil => intro t n; simp [dn2]
 | cons c r ih =>
   intro t n
   simp only [List.cons_append, dn2]
   split
   · rfl
   · split
     · rfl
     · exact ih _ _
theorem dn2_of_decN : ∀ n : Nat, n ≤ 1073741824 → dn2 (decN n) 0 = some n := by
 intro n
 induction n using Nat.strongRecOn with
 | _ n ih =>
   intro h
   rw [decN]
   have h48 := dgt_toNat n
   split
   · rw [dn2, if_neg (by omega), if_neg (by omega), dn2]
     congr 1; omega
   · rw [dn2_app, ih (n / 10) (by omega) (by omega)]
     simp only [Option.bind_some]
     rw [dn2, if_neg (by omega), if_neg (by omega), dn2]
     congr 1; omega
theorem decN_ne (n : Nat) : decN n ≠ [] := by rw [decN]; split <;> simp
theorem readDec_of {n : Nat} (h : n ≤ 1073741824) : readDec (decN n) = some n := by
 have h2 := dn2_of_decN n h
 obtain ⟨h1, _⟩ := (dn2_dn (decN n) 0 n (by omega)).1 h2
 unfold readDec
 rw [h1]
 dsimp only
 rw [if_neg]
 rintro (e | e)
 · exact decN_ne n e
 · exact e (by rw [decP, if_pos h])
section
structure Cd where
 l : UInt8
 args : List Bs
 deriving DecidableEq, Repr
def argsB (l : List Bs) : Bs := l.flatMap (fun a => 32 :: a)
def lineB (c : Cd) : Bs := c.l :: argsB c.args
def cardB (c : Cd) : Bs := lineB c ++ [10]
def bodyB (l : List Cd) : Bs := l.flatMap cardB
def sealB (s : Bs) : Bs := s ++ [90, 32] ++ shaB s ++ [10]
def printB (l : List Cd) : Bs := sealB (bodyB l)
def argOk (a : Bs) : Prop := a ≠ [] ∧ 32 ∉ a ∧ 10 ∉ a
instance (a : Bs) : Decidable (argOk a) := inferInstanceAs (Decidable (_ ∧ _ ∧ _))
def cd0 : Cd := ⟨0, []⟩
structure OkC (l : List Cd) (i : Nat) : Prop where
 lo : 65 ≤ (l.getD i cd0).l.toNat
 hi : (l.getD i cd0).l.toNat ≤ 89
 rise : 0 < i → (l.getD (i - 1) cd0).l.toNat ≤ (l.getD i cd0).l.toNat
 args : ∀ a ∈ (l.getD i cd0).args, argOk a
structure RightC (l : List Cd) : Prop where
 ne : l ≠ []
 ok : ∀ i, i < l.length → OkC l i
instance (l : List Cd) (i : Nat) : Decidable (OkC l i) := decidable_of_iff (65 ≤ (l.getD i cd0).l.toNat ∧ (l.getD i cd0).l.toNat ≤ 89 ∧ (0 < i → (l.getD (i - 1) cd0).l.toNat ≤ (l.getD i cd0).l.toNat) ∧ ∀ a ∈ (l.getD i cd0).args, argOk a) ⟨fun ⟨a, b, c, d⟩ => ⟨a, b, c, d⟩, fun ⟨a, b, c, d⟩ => ⟨a, b, c, d⟩⟩
instance (l : List Cd) : Decidable (RightC l) := decidable_of_iff (l ≠ [] ∧ ∀ i, i < l.length → OkC l i) ⟨fun ⟨a, b⟩ => ⟨a, b⟩, fun ⟨a, b⟩ => ⟨a, b⟩⟩
theorem right_not {l : List Cd} {i : Nat} (h : i < l.length) (hn : ¬ OkC l i) : ¬ RightC l := fun r => hn (r.ok i h)
theorem sealB_len (s : Bs) : (sealB s).length = s.length + 43 := by simp [sealB, shaB_len]
theorem sealB_inj {s t : Bs} (h : sealB s = sealB t) : s = t := by
 have hl : s.length = t.length := by have := congrArg List.length h; rw [sealB_len, sealB_len] at this; omega
 simp only [sealB, List.append_assoc] at h
 exact (List.append_inj h hl).1
theorem mem_getD {α : Type} {l : List α} {d x : α} (h : x ∈ l) : ∃ i, i < l.length ∧ l.getD i d = x := by
 obtain ⟨i, hi, rfl⟩ := List.getElem_of_mem h
 exact ⟨i, hi, by simp [hi]⟩
theorem RightC.lets {l : List Cd} (r : RightC l) : ∀ c ∈ l, 65 ≤ c.l.toNat ∧ c.l.toNat ≤ 89 := by
 intro c hc
 obtain ⟨i, hi, rfl⟩ := mem_getD (d := cd0) hc
 exact ⟨(r.ok i hi).lo, (r.ok i hi).hi⟩
theorem RightC.args {l : List Cd} (r : RightC l) : ∀ c ∈ l, ∀ a ∈ c.args, argOk a := by
 intro c hc
 obtain ⟨i, hi, rfl⟩ := mem_getD (d := cd0) hc
 exact (r.ok i hi).args
theorem RightC.mk' {l : List Cd} (ne : l ≠ []) (lets : ∀ c ∈ l, 65 ≤ c.l.toNat ∧ c.l.toNat ≤ 89) (args : ∀ c ∈ l, ∀ a ∈ c.args, argOk a) (rise : l.Pairwise (fun a b => a.l.toNat ≤ b.l.toNat)) : RightC l := by
 refine ⟨ne, fun i hi => ?_⟩
 have e : ∀ j, j < l.length → l.getD j cd0 ∈ l := fun j hj => by simp [hj]
 refine ⟨(lets _ (e i hi)).1, (lets _ (e i hi)).2, fun h0 => ?_, args _ (e i hi)⟩
 have := List.pairwise_iff_getElem.1 rise (i - 1) i (by omega) hi (by omega)
 simpa [hi, show i - 1 < l.length by omega] using this
theorem RightC.rise {l : List Cd} (r : RightC l) : l.Pairwise (fun a b => a.l.toNat ≤ b.l.toNat) := by
 rw [List.pairwise_iff_getElem]
 have key : ∀ d i (h : i + d < l.length), (l[i]'(by omega)).l.toNat ≤ (l[i + d]).l.toNat := by
  intro d
  induction d with
  | zero => intros; simp
  | succ d ih =>
    intro i h
    have h1 := ih i (by omega)
    have h2 := (r.ok (i + d + 1) (by omega)).rise (by omega)
    simp [show i + d < l.length by omega, show i + d + 1 < l.length by omega] at h2
    exact Nat.le_trans h1 h2
 intro i j hi hj hij
 have := key (j - i) i (by omega)
 simpa [show i + (j - i) = j by omega] using this
/-! Parts of a text between marks. -/
theorem cut_uniq {d : UInt8} : ∀ {x y r r' : Bs}, d ∉ x → d ∉ y → x ++ d :: r = y ++ d :: r' → x = y ∧ r = r' := by
 intro x
 induction x with
 | nil =>
   intro y r r' _ hy h
   cases y with
   | nil => simp at h; exact ⟨rfl, h⟩
   | cons c y => simp at h hy; exact absurd h.1 hy.1
 | cons c x ih =>
   intro y r r' hx hy h
   cases y with
   | nil => simp at h hx; exact absurd h.1.symm hx.1
   | cons c' y =>
     simp only [List.cons_append, List.cons.injEq] at h
     simp only [List.mem_cons, not_or] at hx hy
     obtain ⟨e1, e2⟩ := ih hx.2 hy.2 h.2
     exact ⟨by rw [h.1, e1], e2⟩
theorem argsB_nil : argsB [] = [] := rfl
theorem argsB_cons (a : Bs) (l : List Bs) : argsB (a :: l) = 32 :: (a ++ argsB l) := by simp [argsB]
theorem argsB_app (l m : List Bs) : argsB (l ++ m) = argsB l ++ argsB m := by simp [argsB]
/-- Parts between blanks. -/
def splitB (d : UInt8) : Bs → List Bs
 | [] => [[]]
 | c :: r => if c = d then [] :: splitB d r else match splitB d r with
   | [] => [[c]]
   | w :: ws => (c :: w) :: ws
theorem splitB_ne (d : UInt8) (s : Bs) : splitB d s ≠ [] := by
 cases s with
 | nil => simp [splitB]
 | cons c r =>
   simp only [splitB]
   split
   · simp
   · split <;> simp
theorem splitB_one {d : UInt8} : ∀ {x : Bs}, d ∉ x → splitB d x = [x] := by
 intro x
 induction x with
 | nil => intro _; rfl
 | cons c x ih =>
   intro h
   simp only [List.mem_cons, not_or] at h
   simp only [splitB, if_neg (Ne.symm h.1), ih h.2]
theorem splitB_cut {d : UInt8} : ∀ {x r : Bs}, d ∉ x → splitB d (x ++ d :: r) = x :: splitB d r := by
 intro x
 induction x with
 | nil => intro r _; simp [splitB]
 | cons c x ih =>
   intro r h
   simp only [List.mem_cons, not_or] at h
   simp only [List.cons_append, splitB, if_neg (Ne.symm h.1), ih h.2]
theorem splitB_args {x : Bs} {l : List Bs} (hx : 32 ∉ x) (hl : ∀ a ∈ l, 32 ∉ a) : splitB 32 (x ++ argsB l) = x :: l := by
 induction l generalizing x with
 | nil => rw [argsB_nil, List.append_nil, splitB_one hx]
 | cons a l ih =>
   rw [argsB_cons, splitB_cut hx, ih (hl a (by simp)) (fun b hb => hl b (by simp [hb]))]
theorem splitB_join (s : Bs) : argsB (splitB 32 s) = 32 :: s := by
 induction s with
 | nil => rfl
 | cons c s ih =>
   simp only [splitB]
   split
   · rename_i h
     rw [argsB_cons, ih, h]; rfl
   · split
     · rename_i e; exact absurd e (splitB_ne _ _)
     · rename_i w ws e
       rw [e, argsB_cons] at ih
       rw [argsB_cons]
       simp only [List.cons.injEq, true_and] at ih
       simp [ih]
theorem no32 {c : UInt8} (h : 65 ≤ c.toNat) : (32 : UInt8) ∉ ([c] : Bs) := by
 simp only [List.mem_singleton]; rintro rfl; revert h; decide
theorem no10 {c : UInt8} (h : 65 ≤ c.toNat) : c ≠ 10 := by rintro rfl; revert h; decide
theorem argsB_no10 : ∀ {l : List Bs}, (∀ a ∈ l, argOk a) → (10 : UInt8) ∉ argsB l := by
 intro l
 induction l with
 | nil => simp [argsB]
 | cons a l ih =>
   intro h
   rw [argsB_cons]
   simp only [List.mem_cons, List.mem_append, not_or]
   exact ⟨by decide, (h a (by simp)).2.2, ih fun b hb => h b (by simp [hb])⟩
theorem lineB_no10 {c : Cd} (h : 65 ≤ c.l.toNat) (ha : ∀ a ∈ c.args, argOk a) : (10 : UInt8) ∉ lineB c := by
 simp only [lineB, List.mem_cons, not_or]
 exact ⟨fun e => no10 h e.symm, argsB_no10 ha⟩
theorem lineB_split {c : Cd} (h : 65 ≤ c.l.toNat) (ha : ∀ a ∈ c.args, argOk a) : splitB 32 (lineB c) = [c.l] :: c.args :=
 splitB_args (x := [c.l]) (no32 h) fun a hx => (ha a hx).2.1
theorem lineB_inj {c c' : Cd} (h : 65 ≤ c.l.toNat) (ha : ∀ a ∈ c.args, argOk a) (h' : 65 ≤ c'.l.toNat) (ha' : ∀ a ∈ c'.args, argOk a) (e : lineB c = lineB c') : c = c' := by
 have e1 := lineB_split h ha
 rw [e, lineB_split h' ha'] at e1
 cases c; cases c'
 simp at e1
 simp [e1.1, e1.2]
theorem bodyB_cons (c : Cd) (l : List Cd) : bodyB (c :: l) = lineB c ++ 10 :: bodyB l := by simp [bodyB, cardB]
theorem bodyB_app (l m : List Cd) : bodyB (l ++ m) = bodyB l ++ bodyB m := by simp [bodyB]
theorem bodyB_inj : ∀ {l m : List Cd}, (∀ c ∈ l, 65 ≤ c.l.toNat ∧ ∀ a ∈ c.args, argOk a) → (∀ c ∈ m, 65 ≤ c.l.toNat ∧ ∀ a ∈ c.args, argOk a) → bodyB l = bodyB m → l = m := by
 intro l
 induction l with
 | nil =>
   intro m _ _ e
   cases m with
   | nil => rfl
   | cons c m => rw [bodyB_cons] at e; simp [bodyB] at e
 | cons c l ih =>
   intro m hl hm e
   cases m with
   | nil => rw [bodyB_cons] at e; simp [bodyB] at e
   | cons c' m =>
     rw [bodyB_cons, bodyB_cons] at e
     have h1 := hl c (by simp)
     have h2 := hm c' (by simp)
     obtain ⟨e1, e2⟩ := cut_uniq (lineB_no10 h1.1 h1.2) (lineB_no10 h2.1 h2.2) e
     rw [lineB_inj h1.1 h1.2 h2.1 h2.2 e1, ih (fun x hx => hl x (by simp [hx])) (fun x hx => hm x (by simp [hx])) e2]
/-- A text that some cards print. -/
def ReadsC (s : Bs) (l : List Cd) : Prop := RightC l ∧ printB l = s
theorem RightC.both {l : List Cd} (r : RightC l) : ∀ c ∈ l, 65 ≤ c.l.toNat ∧ ∀ a ∈ c.args, argOk a := fun c hc => ⟨(r.lets c hc).1, r.args c hc⟩
theorem ReadsC.uniq {s : Bs} {l m : List Cd} (h : ReadsC s l) (k : ReadsC s m) : l = m :=
 bodyB_inj h.1.both k.1.both (sealB_inj (h.2.trans k.2.symm))
open Classical in
noncomputable def readC (s : Bs) : Option (List Cd) := if h : ∃ l, ReadsC s l then some h.choose else none
theorem readC_iff {s : Bs} {l : List Cd} : readC s = some l ↔ ReadsC s l := by
 unfold readC
 split
 · rename_i h
   simp only [Option.some.injEq]
   exact ⟨fun e => e ▸ h.choose_spec, fun k => h.choose_spec.uniq k⟩
 · rename_i h
   simp only [reduceCtorEq, false_iff]
   exact fun k => h ⟨l, k⟩
theorem readC_none {s : Bs} : readC s = none ↔ ∀ l, ¬ ReadsC s l := by
 cases e : readC s with
 | none => simp only [true_iff]; intro l h; rw [readC_iff.2 h] at e; cases e
 | some l => simp only [reduceCtorEq, false_iff]; intro h; exact h l (readC_iff.1 e)
/-- The parts of a line, as a card, as they come. -/
def stepW (st : UInt8 × List Bs) (w : Bs) : Option (UInt8 × List Bs) := if 0 < st.1.toNat then some (st.1, st.2 ++ [w]) else if w.length = 1 then some (w.getD 0 0, st.2) else none
def foldW (l : List Bs) : Option (UInt8 × List Bs) := l.foldlM stepW (0, [])
theorem foldW_snoc (l : List Bs) (w : Bs) : foldW (l ++ [w]) = (foldW l).bind fun st => stepW st w := by
 simp [foldW, List.foldlM_append]
theorem foldlM_args (c : UInt8) (hc : 0 < c.toNat) : ∀ (l xs : List Bs), l.foldlM stepW (c, xs) = some (c, xs ++ l) := by
 intro l
 induction l with
 | nil => intro xs; simp
 | cons w l ih =>
   intro xs
   have e : stepW (c, xs) w = some (c, xs ++ [w]) := by simp only [stepW]; rw [if_pos hc]
   simp only [List.foldlM_cons, e]
   show List.foldlM stepW (c, xs ++ [w]) l = _
   rw [ih]; simp
theorem foldW_line {c : Cd} (h : 65 ≤ c.l.toNat) (ha : ∀ a ∈ c.args, argOk a) : foldW (splitB 32 (lineB c)) = some (c.l, c.args) := by
 rw [lineB_split h ha, foldW]
 have e : stepW (0, []) [c.l] = some (c.l, []) := by simp [stepW]
 simp only [List.foldlM_cons, e]
 show List.foldlM stepW (c.l, []) c.args = _
 rw [foldlM_args _ (by omega)]; simp
theorem foldW_len : ∀ (l : List Bs) (st st' : UInt8 × List Bs), l.foldlM stepW st = some st' → (argsB st'.2).length ≤ (argsB st.2).length + (argsB l).length ∧ (0 < st.1.toNat ∨ l = [] ∨ (argsB st'.2).length + 2 ≤ (argsB st.2).length + (argsB l).length) := by
 intro l
 induction l with
 | nil =>
   intro st st' h
   have : st = st' := by simpa using h
   subst this
   exact ⟨by simp [argsB], .inr (.inl rfl)⟩
 | cons w l ih =>
   intro st st' h
   simp only [List.foldlM_cons] at h
   cases e : stepW st w with
   | none => rw [e] at h; cases h
   | some s2 =>
     rw [e] at h
     have h' : List.foldlM stepW s2 l = some st' := h
     obtain ⟨i1, i2⟩ := ih s2 st' h'
     rw [argsB_cons, List.length_cons, List.length_append]
     simp only [stepW] at e
     split at e
     · rename_i hp
       cases e
       rw [argsB_app, argsB_cons, argsB_nil] at i1
       simp at i1
       exact ⟨by omega, .inl hp⟩
     · split at e
       · rename_i hw
         cases e
         dsimp only at i1
         exact ⟨by omega, .inr (.inr (by omega))⟩
       · cases e
theorem foldW_card {line : Bs} {c : UInt8} {xs : List Bs} (h : foldW (splitB 32 line) = some (c, xs)) : (cardB ⟨c, xs⟩).length ≤ line.length + 1 := by
 obtain ⟨_, h2⟩ := foldW_len _ _ _ h
 have hj := congrArg List.length (splitB_join line)
 rw [List.length_cons] at hj
 rcases h2 with h2 | h2 | h2
 · exact absurd h2 (by decide)
 · exact absurd h2 (splitB_ne _ _)
 · rw [hj] at h2
   simp only [argsB_nil, List.length_nil] at h2
   simp only [cardB, lineB, List.length_append, List.length_cons, List.length_nil]
   omega
end
theorem u8eq {c d : UInt8} : c = d ↔ c.toNat = d.toNat := UInt8.toNat_inj.symm
def escC (c : UInt8) : Bs := if c.toNat = 32 then [92, 115] else if c.toNat = 10 then [92, 110] else if c.toNat = 92 then [92, 92] else [c]
def escB (s : Bs) : Bs := s.flatMap escC
def unC (c : UInt8) : Option UInt8 := if c.toNat = 115 then some 32 else if c.toNat = 110 then some 10 else if c.toNat = 92 then some 92 else none
def unescB : Bs → Option Bs
 | [] => some []
 | c :: r => if c.toNat = 92 then (match r with
     | [] => none
     | d :: r' => match unC d with
       | none => none
       | some e => (unescB r').map (e :: ·))
   else if c.toNat = 32 ∨ c.toNat = 10 then none else (unescB r).map (c :: ·)
theorem unescB_eq (c : UInt8) (r : Bs) : unescB (c :: r) = if c.toNat = 92 then (match r with
      | [] => none
      | d :: r' => match unC d with
        | none => none
        | some e => (unescB r').map (e :: ·))
    else if c.toNat = 32 ∨ c.toNat = 10 then none else (unescB r).map (c :: ·) := by
 cases r <;> simp only [unescB]
theorem escB_cons (c : UInt8) (s : Bs) : escB (c :: s) = escC c ++ escB s := by simp [escB]
theorem escB_app (s t : Bs) : escB (s ++ t) = escB s ++ escB t := by simp [escB]
theorem unesc_esc (s : Bs) : unescB (escB s) = some s := by
 induction s with
 | nil => rfl
 | cons c s ih =>
   rw [escB_cons]
   unfold escC
   split
   · rename_i h
     have : c = 32 := u8eq.2 h
     subst this
     show unescB (92 :: 115 :: escB s) = _
     simp [unescB_eq, unC, ih]
   · split
     · rename_i h
       have : c = 10 := u8eq.2 h
       subst this
       show unescB (92 :: 110 :: escB s) = _
       simp [unescB_eq, unC, ih]
     · split
       · rename_i h
         have : c = 92 := u8eq.2 h
         subst this
         show unescB (92 :: 92 :: escB s) = _
         simp [unescB_eq, unC, ih]
       · rename_i h1 h2 h3
         show unescB (c :: escB s) = _
         simp [unescB_eq, h1, h2, h3, ih]
theorem escC_ok (c : UInt8) : (∀ d ∈ escC c, d.toNat ≠ 32 ∧ d.toNat ≠ 10) ∧ 1 ≤ (escC c).length ∧ (escC c).length ≤ 2 := by
 unfold escC
 split
 · exact ⟨by decide, by decide, by decide⟩
 · split
   · exact ⟨by decide, by decide, by decide⟩
   · split
     · exact ⟨by decide, by decide, by decide⟩
     · rename_i h1 h2 h3
       exact ⟨fun d hd => by rw [List.mem_singleton.1 hd]; exact ⟨h1, h2⟩, by simp, by simp⟩
theorem escB_ok (s : Bs) : ∀ d ∈ escB s, d.toNat ≠ 32 ∧ d.toNat ≠ 10 := by
 intro d hd
 obtain ⟨c, _, hc⟩ := List.mem_flatMap.1 hd
 exact (escC_ok c).1 d hc
theorem escB_len (s : Bs) : s.length ≤ (escB s).length ∧ (escB s).length ≤ 2 * s.length := by
 induction s with
 | nil => exact ⟨Nat.le_refl _, Nat.le_refl _⟩
 | cons c s ih =>
   have := escC_ok c
   rw [escB_cons, List.length_append, List.length_cons]; omega
theorem mem32 {a : Bs} (h : ∀ d ∈ a, d.toNat ≠ 32 ∧ d.toNat ≠ 10) : 32 ∉ a ∧ 10 ∉ a := ⟨fun e => (h _ e).1 rfl, fun e => (h _ e).2 rfl⟩
theorem argOk_iff {a : Bs} : argOk a ↔ a.length ≠ 0 ∧ ∀ d ∈ a, d.toNat ≠ 32 ∧ d.toNat ≠ 10 := by
 constructor
 · rintro ⟨h1, h2, h3⟩
   refine ⟨fun e => h1 (List.eq_nil_of_length_eq_zero e), fun d hd => ⟨fun e => h2 ?_, fun e => h3 ?_⟩⟩
   · have : d = 32 := u8eq.2 e
     exact this ▸ hd
   · have : d = 10 := u8eq.2 e
     exact this ▸ hd
 · rintro ⟨h1, h2⟩
   exact ⟨fun e => h1 (by simp [e]), mem32 h2⟩
theorem argOk_esc {s : Bs} (h : s ≠ []) : argOk (escB s) := by
 rw [argOk_iff]
 refine ⟨?_, escB_ok s⟩
 have := (escB_len s).1
 have := List.length_pos_iff.2 h
 omega
theorem drop_cons' {s : Bs} {i : Nat} (h : i < s.length) : s.drop i = s.getD i 0 :: s.drop (i + 1) := by
 rw [List.drop_eq_getElem_cons h]; simp [h]
theorem unescB_end {s : Bs} {i : Nat} (h : s.length ≤ i) : unescB (s.drop i) = some [] := by rw [List.drop_of_length_le h]; rfl
/-- A word: what may be a name. -/
def wordP (s : Bs) : Prop := (∀ c ∈ s, 32 < c.toNat ∧ c.toNat ≤ 126 ∧ c.toNat ≠ 92) ∧ 1 ≤ s.length ∧ s.length ≤ 12
instance (s : Bs) : Decidable (wordP s) := inferInstanceAs (Decidable (_ ∧ _ ∧ _))
theorem wordP_ok {s : Bs} (h : wordP s) : argOk s := argOk_iff.2 ⟨by have := h.2.1; omega, fun d hd => by have := h.1 d hd; omega⟩
theorem isN_ok {s : Bs} (h : s.length = 40) (k : ∀ c ∈ s, c ∈ hexD) : argOk s := argOk_iff.2 ⟨by omega, fun d hd => by
 have := k d hd
 revert this; revert d; intro d _ hm
 have key : ∀ d ∈ hexD, d.toNat ≠ 32 ∧ d.toNat ≠ 10 := by decide
 exact key d hm⟩
/-- A text, cut at a mark. -/
def cutP (d : UInt8) (s : Bs) : Bs × Bs × Bool := match s.findIdx? (· == d) with
 | none => (s, [], false)
 | some i => (s.take i, s.drop (i + 1), true)
theorem cutP_cases (d : UInt8) (s : Bs) : (d ∉ s ∧ cutP d s = (s, [], false)) ∨ ∃ x r, s = x ++ d :: r ∧ d ∉ x ∧ cutP d s = (x, r, true) := by
 unfold cutP
 cases h : s.findIdx? (· == d) with
 | none =>
   rw [List.findIdx?_eq_none_iff] at h
   exact .inl ⟨fun e => by simpa using h d e, rfl⟩
 | some i =>
   obtain ⟨h1, h2, h3⟩ := List.findIdx?_eq_some_iff_getElem.1 h
   refine .inr ⟨s.take i, s.drop (i + 1), ?_, ?_, rfl⟩
   · have : s[i] = d := by simpa using h2
     rw [← this, List.getElem_cons_drop, List.take_append_drop]
   · intro hm
     obtain ⟨j, hj, e⟩ := List.getElem_of_mem hm
     rw [List.length_take] at hj
     rw [List.getElem_take] at e
     have := h3 j (by omega)
     simp [e] at this
end Go.Proofs.YtdnoacgopfcpbaaGreat
