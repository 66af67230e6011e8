/- Texts of this proof, put together: Mini, Args, KeepOf, MDec, MStore, MDisk, PSha, PDec. -/
import Derived.ChangeArms
import Derived.DataReads
import Derived.WideShapes
import Derived.Test.YtibccdcemcgkeaaGreatQ06
set_option linter.unusedVariables false
set_option linter.unusedSimpArgs false
namespace Go.Proofs.YtibccdcemcgkeaaGreat
section
theorem flat_pos {α : Type} {f : α → List Value} {l : List α} (h : 0 < l.length) (hf : ∀ x, Nat.ble 1 (f x).length = true) : 0 < (l.flatMap f).length := by
 cases l with
 | nil => simp at h
 | cons a r => have := Nat.le_of_ble_eq_true (hf a); rw [List.flatMap_cons, List.length_append]; omega
section
variable {r : Option Nat} {P : Program} {n : Nat} {L : Loc} {Hs : List HP} {Q : Out} {c : Code} {ops : Array Oper} {os : List Oper} {ty : TypeId} {d : Nat} {pos : String} {after : Array Edge} {t e : TypeId} {x y : Operand} {v : Value}
/-! Code. -/
theorem Za (h : c = .seq (sA c) (sB c) := by exact rfl) (k : wc r P n (sA c) L Hs (seqO r P (sB c) Q)) : wc r P n c L Hs Q := p_seq h k
theorem Zr {id : Nat} {l : List Oper} (h : c = .region id l.toArray false := by exact rfl) (k : wo r P n l.toArray l L Hs Q) : wc r P n c L Hs Q := p_region h k
theorem Zk (h : c = .skip := by exact rfl) (k : tw n Q .normal L Hs) : wc r P n c L Hs Q := p_skip h k
theorem Zl {l : Nat} (h : c = .label l := by exact rfl) (k : tw n Q .normal L Hs) : wc r P n c L Hs Q := p_label h k
theorem Ze {id : Nat} (h : c = .exit id := by exact rfl) (k : tw n Q (.exit id) L Hs) : wc r P n c L Hs Q := p_exit id h k
theorem Zt (h : c = .ret := by exact rfl) (k : tw n Q .ret L Hs) : wc r P n c L Hs Q := p_ret h k
theorem Z1 (h : c = .cond (cX c) (cT c) (cE c) := by exact rfl) (hc : ev L (cX c) = some (.bool true) := by exact rfl) (k : wc r P n (cT c) L Hs Q) : wc r P n c L Hs Q := p_true h hc k
theorem Z0 (h : c = .cond (cX c) (cT c) (cE c) := by exact rfl) (hc : ev L (cX c) = some (.bool false) := by exact rfl) (k : wc r P n (cE c) L Hs Q) : wc r P n c L Hs Q := p_false h hc k
theorem Zb {id : Nat} (h : c = .block id (bB c) := by exact rfl) (k : wc r P n (bB c) L Hs (blockO id Q)) : wc r P n c L Hs Q := p_block id h k
theorem Zs (h : c = .scope (bB c) := by exact rfl) (k : wc r P n (bB c) L Hs (scopeO Q)) : wc r P n c L Hs Q := p_scope2 h k
theorem Zi {b : Bool} {p q : Prop} (h : c = .cond (cX c) (cT c) (cE c) := by exact rfl) (hc : ev L (cX c) = some (.bool b) := by exact rfl) (hb : BP b p q := by first | exact BP.dec | exact BP.raw)
    (t : p → wc r P n (cT c) L Hs Q) (f : q → wc r P n (cE c) L Hs Q) : wc r P n c L Hs Q := p_cond h hc (fun e => t (hb.t e)) (fun e => f (hb.f e))
theorem Gi {b : Bool} {p q : Prop} {s : Nat} (j : Nat) (hj : (ops[j]?).bind (·.dst) = some s := by exact rfl) (hs : lk L s = some (.bool b) := by exact rfl) (hb : BP b p q := by first | exact BP.dec | exact BP.raw)
    (t : p → wo r P n ops os ((s, .bool true) :: L) Hs Q) (f : q → wo r P n ops os ((s, .bool false) :: L) Hs Q) : wo r P n ops os L Hs Q := wo_gsplit hj hs (fun e => t (hb.t e)) (fun e => f (hb.f e))
theorem Gd {b : Bool} {p q : Prop} {s k : Nat} {ls : Array Bool} {A : List HP} (j : Nat) (hj : (ops[j]?).bind (·.dst) = some s := by exact rfl) (hs : lk L s = some (.bool b) := by exact rfl) (hb : BP b p q := by first | exact BP.dec | exact BP.raw)
    (t : p → An r P n ops A Q k ls ((s, .bool true) :: L) Hs) (f : q → An r P n ops A Q k ls ((s, .bool false) :: L) Hs) : An r P n ops A Q k ls L Hs := d_gsplit hj hs (fun e => t (hb.t e)) (fun e => f (hb.f e))
/-! Ways. -/
theorem Wq {y : Code} (k : wc r P n y L Hs Q) : wo r P n ops [] L Hs (seqO r P y Q) := q_seq k
theorem Wg {y : Code} (k : wc r P n y L Hs Q) : wo r P n ops [] L Hs (asgO r P y Q) := q_asg k
theorem Wn (k : tw n Q .normal L Hs) : wo r P n ops [] L Hs Q := wo_nil k
theorem Ya {y : Code} (k : wc r P n y L Hs Q) : tw n (seqO r P y Q) .normal L Hs := t_seq k
theorem Yb {id : Nat} (k : tw n Q .normal L Hs) : tw n (blockO id Q) .normal L Hs := to_block k
theorem Yg {y : Code} (k : wc r P n y L Hs Q) : tw n (asgO r P y Q) .normal L Hs := t_asg k
theorem Xa {y : Code} {id : Nat} (k : tw n Q (.exit id) L Hs) : tw n (seqO r P y Q) (.exit id) L Hs := k
theorem Xi {ι : Type} {Li : ι → Loc} {Hi : ι → List HP} {lt : ι → Prop} {id : Nat} (k : tw n Q (.exit id) L Hs) : tw n (invO n Li Hi lt Q) (.exit id) L Hs := k
theorem Xb {id : Nat} (k : tw n Q .normal L Hs) : tw n (blockO id Q) (.exit id) L Hs := to_block_here k
theorem Xo {id id' : Nat} (h : Nat.beq id' id = false := by exact rfl) (k : tw n Q (.exit id') L Hs) : tw n (blockO id Q) (.exit id') L Hs := to_block_other h k
theorem Va {y : Code} (k : tw n Q .ret L Hs) : tw n (seqO r P y Q) .ret L Hs := k
theorem Vi {ι : Type} {Li : ι → Loc} {Hi : ι → List HP} {lt : ι → Prop} (k : tw n Q .ret L Hs) : tw n (invO n Li Hi lt Q) .ret L Hs := k
theorem Vb {id : Nat} (k : tw n Q .ret L Hs) : tw n (blockO id Q) .ret L Hs := k
theorem Vs (k : tw n Q .ret L Hs) : tw n (scopeO Q) .ret L Hs := k
/-! Quiet operations. -/
theorem Pv {op : Op} (h : PV P n L op ty v := by first
 | exact pv_move rfl | exact pv_assign rfl | exact pv_extract rfl rfl
 | exact pv_call_len_s UndC.h rfl | exact pv_call_len_sl UndC.h rfl
 | exact pv_notd rfl | exact pv_not rfl
 | exact pv_add rfl rfl (by omega) | exact pv_sub rfl rfl (by omega) | exact pv_mul rfl rfl (by omega)
 | exact pv_lss rfl rfl | exact pv_leq rfl rfl | exact pv_gtr rfl rfl | exact pv_geq rfl rfl | exact pv_eql rfl rfl | exact pv_neq rfl rfl
 | exact pv_seql rfl rfl | exact pv_sneq rfl rfl | exact pv_slss rfl rfl | exact pv_sleq rfl rfl | exact pv_sgtr rfl rfl | exact pv_sgeq rfl rfl
 | exact pv_nilCheck_p rfl | exact pv_nilCheck_f rfl
 | exact pv_cat rfl rfl (by first | (simp only [List.length_append, List.length_take, List.length_drop, List.length_cons, List.length_nil]; omega) | (simp; try omega))
 | exact pv_makeFunc rfl rfl | exact pv_call_cap_sl UndC.h rfl | exact pv_call_min rfl rfl | exact pv_call_max rfl rfl
 | exact pv_indexm UndC.h rfl rfl rfl (by omega)
 | exact pv_slice_tom UndC.h rfl rfl rfl (by omega) | exact pv_slice_fromm UndC.h rfl rfl rfl (by omega) | exact pv_slice_inm UndC.h rfl rfl rfl rfl rfl (by omega) (by omega)
 | exact pv_quo rfl rfl (by omega) | exact pv_rem rfl rfl (by omega)) : PV P n L op ty v := h
theorem Vv {op : Op} (h : PV P n L op ty v := by exact Pv) (hd : Nat.blt d n = true := by exact rfl) (k : wo r P n ops os ((d, v) :: L) Hs Q) : wo r P n ops (⟨some d, op, ty, pos, after, none⟩ :: os) L Hs Q := wo_pv h hd k
theorem Vf {i b off : Nat} {fs : Array Field} {fd : Field} {ti : TypeInfo} {m : Nat} (k0 : Nat) (ft : TypeId) (ht : P.underlying t = some (.struct fs) := by exact UndC.h) (hf : fs[i]? = some fd := by exact rfl) (hft : fd.type = ft := by exact rfl) (hi : P.info? ft = some ti := by exact InfC.h) (hz : Nat.beq ti.size 0 = false := by exact rfl)
    (hx : ev L x = some (.pointer (some ⟨b, off, none⟩)) := by exact rfl) (hk : fd.offset = k0 := by exact rfl) (hm : off + k0 = m := by first | exact Nat.zero_add _ | exact Nat.add_zero _ | exact rfl) (hd : Nat.blt d n = true := by exact rfl) (k : wo r P n ops os ((d, .pointer (some ⟨b, m, none⟩)) :: L) Hs Q) : wo r P n ops (⟨some d, .fieldAddr t x i, ty, pos, after, none⟩ :: os) L Hs Q :=
 wo_pv (pv_fieldAddrk ht hf (by rw [hft]; exact hi) hz hx hk hm) hd k
theorem Vx {op : Op} (h : PV P n L op ty v) (hd : Nat.blt d n = true := by exact rfl) (k : wo r P n ops os ((d, v) :: L) Hs Q) : wo r P n ops (⟨some d, op, ty, pos, after, none⟩ :: os) L Hs Q := wo_pv h hd k
theorem P1 {c x y : Operand} (hc : ev L c = some (.bool true) := by exact rfl) (hx : ev L x = some v := by exact rfl) (hd : Nat.blt d n = true := by exact rfl) (k : wo r P n ops os ((d, v) :: L) Hs Q) : wo r P n ops (⟨some d, .pick c x y, ty, pos, after, none⟩ :: os) L Hs Q := wo_pv (pv_pick_t hc hx) hd k
theorem P0 {c x y : Operand} (hc : ev L c = some (.bool false) := by exact rfl) (hy : ev L y = some v := by exact rfl) (hd : Nat.blt d n = true := by exact rfl) (k : wo r P n ops os ((d, v) :: L) Hs Q) : wo r P n ops (⟨some d, .pick c x y, ty, pos, after, none⟩ :: os) L Hs Q := wo_pv (pv_pick_f hc hy) hd k
/-! Guards. -/
theorem I1 {j : Nat} {dst : Option Tmp} {op : Op} (hj : gd ops L j = some (.bool true) := by exact rfl) (k : wo r P n ops (⟨dst, op, ty, pos, after, none⟩ :: os) L Hs Q) : wo r P n ops (⟨dst, op, ty, pos, after, some (j, true)⟩ :: os) L Hs Q := wo_in hj k
theorem I0 {j : Nat} {dst : Option Tmp} {op : Op} (hj : gd ops L j = some (.bool false) := by exact rfl) (k : wo r P n ops (⟨dst, op, ty, pos, after, none⟩ :: os) L Hs Q) : wo r P n ops (⟨dst, op, ty, pos, after, some (j, false)⟩ :: os) L Hs Q := wo_in hj k
theorem O1 {j : Nat} {op : Op} (hj : gd ops L j = some (.bool true) := by exact rfl) (hd : Nat.blt d n = true := by exact rfl) (k : wo r P n ops os ((d, undef) :: L) Hs Q) : wo r P n ops (⟨some d, op, ty, pos, after, some (j, false)⟩ :: os) L Hs Q := wo_out hj rfl hd k
theorem O0 {j : Nat} {op : Op} (hj : gd ops L j = some (.bool false) := by exact rfl) (hd : Nat.blt d n = true := by exact rfl) (k : wo r P n ops os ((d, undef) :: L) Hs Q) : wo r P n ops (⟨some d, op, ty, pos, after, some (j, true)⟩ :: os) L Hs Q := wo_out hj rfl hd k
theorem Ou {j : Nat} {want : Bool} {op : Op} (hj : gd ops L j = some undef := by exact rfl) (hd : Nat.blt d n = true := by exact rfl) (k : wo r P n ops os ((d, undef) :: L) Hs Q) : wo r P n ops (⟨some d, op, ty, pos, after, some (j, want)⟩ :: os) L Hs Q := wo_outU hj rfl hd k
/-! Memory. -/
theorem Zd {td : TypeDesc} {b off : Nat} {l : List Value} (ht : P.underlying t = some td := by exact UndC.h) (hfl : flat td = true := by exact rfl) (hx : ev L x = some (.pointer (some ⟨b, off, none⟩)) := by exact rfl) (hr : RdCe b l Hs := by exact inferInstance) (hv : l[off]? = some v := by exact rfl) (hd : Nat.blt d n = true := by exact rfl)
    (k : wo r P n ops os ((d, v) :: L) Hs Q) : wo r P n ops (⟨some d, .load t x, ty, pos, after, none⟩ :: os) L Hs Q := r_load ht hfl hx (hr := hr) hv hd k
theorem Zm {td : TypeDesc} {b off : Nat} {l : List Value} (vs : List Value) {ti : TypeInfo} (ht : P.underlying t = some td := by exact UndC.h) (hfl : flat td = false := by exact rfl) (hi : P.info? t = some ti := by exact InfC.h) (hx : ev L x = some (.pointer (some ⟨b, off, none⟩)) := by exact rfl) (hr : RdCe b l Hs := by exact inferInstance) (hl : off + ti.size ≤ l.length := by exact Nat.le_of_ble_eq_true rfl) (hv : (l.drop off).take ti.size = vs := by rfl) (hd : Nat.blt d n = true := by exact rfl)
    (k : wo r P n ops os ((d, .agg vs.toArray) :: L) Hs Q) : wo r P n ops (⟨some d, .load t x, ty, pos, after, none⟩ :: os) L Hs Q := r_loada ht hfl hi hx (hr := hr) hl hv hd k
theorem Zo {ti : TypeInfo} {b off : Nat} {T : TypeId} {l : List Value} {Gs : List HP} (hi : P.info? t = some ti := by exact InfC.h) (hs : Nat.beq ti.size 1 = true := by exact rfl) (hx : ev L x = some (.pointer (some ⟨b, off, none⟩)) := by exact rfl) (hy : ev L y = some v := by exact rfl) (hu : StC b off v T l Hs Gs := by exact inferInstance) (h1 : oneCell v = true := by exact rfl) (ho : off < l.length := by first | (simp; done) | (simp; omega))
    (k : wo r P n ops os L Gs Q) : wo r P n ops (⟨none, .store t x y, ty, pos, after, none⟩ :: os) L Hs Q := r_store hi hs hx hy (hu := hu) h1 ho k
theorem Zp {ti : TypeInfo} {b off : Nat} {T : TypeId} {l vs : List Value} {Gs : List HP} (hi : P.info? t = some ti := by exact InfC.h) (hx : ev L x = some (.pointer (some ⟨b, off, none⟩)) := by exact rfl) (hy : ev L y = some (.agg vs.toArray) := by exact rfl) (hs : Nat.beq ti.size vs.length = true := by exact rfl) (hu : StsC b off vs T l Hs Gs := by exact inferInstance) (h1 : vs.all oneCell = true := by exact rfl) (ho : off + vs.length ≤ l.length := by first | (simp; done) | (simp; omega))
    (k : wo r P n ops os L Gs Q) : wo r P n ops (⟨none, .store t x y, ty, pos, after, none⟩ :: os) L Hs Q := r_storea hi hs hx hy (hu := hu) h1 ho k
theorem Zc (zs : List Value) {ti : TypeInfo} {z : Value} (hi : P.info? t = some ti := by exact InfC.h) (hz : ti.zero = some z := by exact rfl) (hzs : z.cells.toList = zs := by exact rfl) (hd : Nat.blt d n = true := by exact rfl)
    (k : ∀ b, wo r P n ops os ((d, .pointer (some ⟨b, 0, none⟩)) :: L) (Ce b t zs :: Hs) Q) : wo r P n ops (⟨some d, .alloc t, ty, pos, after, none⟩ :: os) L Hs Q := wo_alloc hi hz hzs hd k
theorem Zx (vs : List Value) (hx : ev L x = some v := by exact rfl) (hv : v.cells.toList = vs := by exact rfl) (hd : Nat.blt d n = true := by exact rfl)
    (k : ∀ b, wo r P n ops os ((d, .pointer (some ⟨b, 0, none⟩)) :: L) (Ce b t vs :: Hs) Q) : wo r P n ops (⟨some d, .box t x, ty, pos, after, none⟩ :: os) L Hs Q := wo_box hx hv hd k
theorem Zv {ti : TypeInfo} {z : Value} {len : Nat} {ps : List (Nat × Operand)} (vs : List Value) {cs : List Value} (ht : P.underlying t = some (.slice e) := by exact UndC.h) (hi : P.info? e = some ti := by exact InfC.h) (hz : ti.zero = some z := by exact rfl) (hzs : Nat.beq z.cells.size ti.size = true := by exact rfl)
    (hps : evps L ps = some (parts 0 vs) := by exact rfl) (hlen : vs.length = len := by exact rfl) (hv : vs.all (fun v => Nat.beq v.cells.size ti.size) = true := by exact rfl) (hsm : Nat.ble (vs.length * ti.size) 16777216 = true := by exact rfl) (hcs : vs.flatMap (·.cells.toList) = cs := by exact rfl) (hd : Nat.blt d n = true := by exact rfl)
    (k : ∀ b, wo r P n ops os ((d, .slice (some ⟨b, 0, none⟩) len len) :: L) (Ce b e cs :: Hs) Q) : wo r P n ops (⟨some d, .buildSlice t len ps.toArray, ty, pos, after, none⟩ :: os) L Hs Q := r_buildSliceL vs ht hi hz hzs hps hlen hv hsm hcs hd k
theorem Ye (sz : Nat) {a : Option Addr} {kd : IntKind} {i : Int} {m len cap kk : Nat} {ti : TypeInfo} {xs : List Value} (ht : P.underlying t = some (.slice e) := by exact UndC.h) (hi : P.info? e = some ti := by exact InfC.h) (hsz : ti.size = sz := by exact rfl)
    (hx : ev L x = some (.slice a len cap) := by exact rfl) (hy : ev L y = some (.int kd i) := by exact rfl) (hm : i = (m : Int) := by exact rfl) (h : m < len := by omega) (hr : RdSl a xs Hs := by exact inferInstance) (hne : 0 < xs.length := by first | (rw [List.length_map]; omega) | exact flat_pos (by omega) (fun _ => rfl) | (simp; omega)) (hk : m * sz = kk := by first | exact Nat.mul_one _ | exact rfl) (hd : Nat.blt d n = true := by exact rfl)
    (k : wo r P n ops os ((d, .pointer (elemA a kk)) :: L) Hs Q) : wo r P n ops (⟨some d, .indexAddr t x y, ty, pos, after, none⟩ :: os) L Hs Q := r_elemAddr ht hi hsz hx hy hm h (hr := hr) hne hk hd k
theorem Ym {a : Option Addr} {q : Nat} {xs : List Value} {td : TypeDesc} (ht : P.underlying t = some td := by exact UndC.h) (hfl : flat td = true := by exact rfl) (hx : ev L x = some (.pointer (elemA a q)) := by exact rfl) (hr : RdSl a xs Hs := by exact inferInstance) (hv : xs[q]? = some v := by first | exact get_map (by omega) | exact rfl | (rw [get_field (fun _ => rfl) (by decide) (by omega)]; rfl)) (hd : Nat.blt d n = true := by exact rfl)
    (k : wo r P n ops os ((d, v) :: L) Hs Q) : wo r P n ops (⟨some d, .load t x, ty, pos, after, none⟩ :: os) L Hs Q := r_eload ht hfl hx (hr := hr) hv hd k
/-! Regions that draw. -/
theorem Di {o : Oper} {q : Nat} {ls : Array Bool} {A : List HP} (i : Nat) (hnd : noDefer ops = true := by exact rfl) (ho : ops[i]? = some o := by exact rfl) (hd : dstOk n o.dst = true := by exact rfl) (hr : (Region.ready .any ops ls).contains i = true := by kernel_rfl) (hf : free ops ls i o = true := by kernel_rfl)
    (t : Tells P n ops o A L v) (k : An r P n ops A Q q (ls.setIfInBounds i true) (putL o.dst v L) Hs) : An r P n ops A Q (q + 1) ls L Hs := d_first i hnd ho hd hr hf t k
theorem Dw {id : Nat} {l : List Oper} {Rs : List HP} (A : List HP) (hc : c = .region id l.toArray true := by exact rfl) (hm : P.follows .mixedOrders = true := by exact rfl) (hnd : noDefer l.toArray = true := by exact rfl) (hp : PicksC A Hs Rs := by exact inferInstance)
    (k : An r P n l.toArray A Q l.length (Array.replicate l.length false) L Rs) : wc r P n c L Hs Q := d_draw hc hm hnd A (hp := hp) k
theorem Dn {o : Oper} {q : Nat} {ls : Array Bool} {A : List HP} (j : Nat) (hr : Region.ready .any ops ls = [j] := by kernel_rfl) (ho : ops[j]? = some o := by exact rfl) (k : AnOp r P n ops A o (fun L' Hs' => An r P n ops A Q q (ls.setIfInBounds j true) L' Hs') L Hs) :
    An r P n ops A Q (q + 1) ls L Hs := d_next j hr ho k
theorem Dd {ls : Array Bool} {A : List HP} (hr : Region.ready .any ops ls = [] := by kernel_rfl) (k : tw n Q .normal L (A ++ Hs)) : An r P n ops A Q 0 ls L Hs := d_done hr k
section
variable {A : List HP} {dst : Option Tmp} {op : Op} {j : Nat}
theorem Uv (h : PV P n L op ty v := by exact Pv) : Tells P n ops ⟨dst, op, ty, pos, after, none⟩ A L v := tl_pv h
theorem UP1 {z x y : Operand} (hz : ev L z = some (.bool true) := by exact rfl) (hx : ev L x = some v := by exact rfl) : Tells P n ops ⟨dst, .pick z x y, ty, pos, after, none⟩ A L v := tl_pv (pv_pick_t hz hx)
theorem UP0 {z x y : Operand} (hz : ev L z = some (.bool false) := by exact rfl) (hy : ev L y = some v := by exact rfl) : Tells P n ops ⟨dst, .pick z x y, ty, pos, after, none⟩ A L v := tl_pv (pv_pick_f hz hy)
theorem Ux (h : PV P n L op ty v) : Tells P n ops ⟨dst, op, ty, pos, after, none⟩ A L v := tl_pv h
theorem U1 (hj : gd ops L j = some (.bool true) := by exact rfl) (h : Tells P n ops ⟨dst, op, ty, pos, after, none⟩ A L v) : Tells P n ops ⟨dst, op, ty, pos, after, some (j, true)⟩ A L v := tl_in hj h
theorem U0 (hj : gd ops L j = some (.bool false) := by exact rfl) (h : Tells P n ops ⟨dst, op, ty, pos, after, none⟩ A L v) : Tells P n ops ⟨dst, op, ty, pos, after, some (j, false)⟩ A L v := tl_in hj h
theorem Uu {want : Bool} (hj : gd ops L j = some undef := by exact rfl) : Tells P n ops ⟨dst, op, ty, pos, after, some (j, want)⟩ A L undef := tl_outU hj rfl
theorem Uf {i b off : Nat} {fs : Array Field} {fd : Field} {ti : TypeInfo} {m : Nat} (k0 : Nat) (ft : TypeId) (ht : P.underlying t = some (.struct fs) := by exact UndC.h) (hf : fs[i]? = some fd := by exact rfl) (hft : fd.type = ft := by exact rfl) (hi : P.info? ft = some ti := by exact InfC.h) (hz : Nat.beq ti.size 0 = false := by exact rfl)
    (hx : ev L x = some (.pointer (some ⟨b, off, none⟩)) := by exact rfl) (hk : fd.offset = k0 := by exact rfl) (hm : off + k0 = m := by first | exact Nat.zero_add _ | exact Nat.add_zero _ | exact rfl) : Tells P n ops ⟨dst, .fieldAddr t x i, ty, pos, after, none⟩ A L (.pointer (some ⟨b, m, none⟩)) :=
 tl_pv (pv_fieldAddrk ht hf (by rw [hft]; exact hi) hz hx hk hm)
theorem Ul {td : TypeDesc} {b off : Nat} {l : List Value} (ht : P.underlying t = some td := by exact UndC.h) (hfl : flat td = true := by exact rfl) (hx : ev L x = some (.pointer (some ⟨b, off, none⟩)) := by exact rfl) (hr : RdCe b l A := by exact inferInstance) (hv : l[off]? = some v := by exact rfl) :
    Tells P n ops ⟨dst, .load t x, ty, pos, after, none⟩ A L v := tl_load ht hfl hx (hr := hr) hv
end
theorem Ps {ps : List (Nat × Operand)} {pv : List (Nat × Value)} {fields : Array Field} {ti : TypeInfo} {z : Value} {zs : List Value} {pl : List (Nat × Nat)} (vs : List Value) (ht : P.underlying t = some (.struct fields) := by exact UndC.h) (hi : P.info? t = some ti := by exact InfC.h) (hz : ti.zero = some z := by exact rfl) (hzs : z.cells.toList = zs := by exact rfl)
    (hpl : fields.toList.mapM (fun f => (P.info? f.type).map fun i => (f.offset, i.size)) = some pl := by exact rfl) (hps : evps L ps = some pv := by exact rfl) (hf : fillL (fun i => pl[i]?) zs pv = some vs := by exact rfl) : PV P n L (.build t ps.toArray) ty (.agg vs.toArray) := pv_buildS ht hi hz hzs hpl hps hf
section
variable {A : List HP} {K : Loc → List HP → Prop}
theorem Nc (zs : List Value) {ti : TypeInfo} {z : Value} (hi : P.info? t = some ti := by exact InfC.h) (hz : ti.zero = some z := by exact rfl) (hzs : z.cells.toList = zs := by exact rfl) (hd : Nat.blt d n = true := by exact rfl)
    (k : ∀ b, K ((d, .pointer (some ⟨b, 0, none⟩)) :: L) (Ce b t zs :: Hs)) : AnOp r P n ops A ⟨some d, .alloc t, ty, pos, after, none⟩ K L Hs := an_alloc hi hz hzs hd k
theorem Nl {ti : TypeInfo} {z : Value} {len : Nat} {ps : List (Nat × Operand)} (vs : List Value) {cs : List Value} (ht : P.underlying t = some (.slice e) := by exact UndC.h) (hi : P.info? e = some ti := by exact InfC.h) (hz : ti.zero = some z := by exact rfl) (hzs : Nat.beq z.cells.size ti.size = true := by exact rfl)
    (hps : evps L ps = some (parts 0 vs) := by exact rfl) (hlen : vs.length = len := by exact rfl) (hv : vs.all (fun v => Nat.beq v.cells.size ti.size) = true := by exact rfl) (hsm : Nat.ble (vs.length * ti.size) 16777216 = true := by exact rfl) (hcs : vs.flatMap (·.cells.toList) = cs := by exact rfl) (hd : Nat.blt d n = true := by exact rfl)
    (k : ∀ b, K ((d, .slice (some ⟨b, 0, none⟩) len len) :: L) (Ce b e cs :: Hs)) : AnOp r P n ops A ⟨some d, .buildSlice t len ps.toArray, ty, pos, after, none⟩ K L Hs := an_buildSliceL vs ht hi hz hzs hps hlen hv hsm hcs hd k
theorem No {ti : TypeInfo} {b off : Nat} {T : TypeId} {l : List Value} {Gs : List HP} (hi : P.info? t = some ti := by exact InfC.h) (hs : Nat.beq ti.size 1 = true := by exact rfl) (hx : ev L x = some (.pointer (some ⟨b, off, none⟩)) := by exact rfl) (hy : ev L y = some v := by exact rfl) (hu : StC b off v T l Hs Gs := by exact inferInstance) (h1 : oneCell v = true := by exact rfl) (ho : off < l.length := by first | (simp; done) | (simp; omega))
    (k : K L Gs) : AnOp r P n ops A ⟨none, .store t x y, ty, pos, after, none⟩ K L Hs := an_store hi hs hx hy (hu := hu) h1 ho k
theorem Na {ti : TypeInfo} {b off : Nat} {T : TypeId} {l vs : List Value} {Gs : List HP} (hi : P.info? t = some ti := by exact InfC.h) (hx : ev L x = some (.pointer (some ⟨b, off, none⟩)) := by exact rfl) (hy : ev L y = some (.agg vs.toArray) := by exact rfl) (hs : Nat.beq ti.size vs.length = true := by exact rfl) (hu : StsC b off vs T l Hs Gs := by exact inferInstance) (h1 : vs.all oneCell = true := by exact rfl) (ho : off + vs.length ≤ l.length := by first | (simp; done) | (simp; omega))
    (k : K L Gs) : AnOp r P n ops A ⟨none, .store t x y, ty, pos, after, none⟩ K L Hs := an_storea hi hs hx hy (hu := hu) h1 ho k
end
/-! Several at once. -/
theorem Qc {id : Nat} {l : List Oper} (h : c = .seq (sA c) (sB c) := by exact rfl) (h2 : sA c = .region id l.toArray false := by exact rfl) (k : wo r P n l.toArray l L Hs (seqO r P (sB c) Q)) : wc r P n c L Hs Q := p_seq h (p_region h2 k)
section
variable {ty1 ty2 : TypeId} {d1 d2 : Nat} {pos1 pos2 : String} {after1 after2 : Array Edge} {o1 o2 : Op} {v1 v2 : Value}
theorem Qv (h1 : PV P n L o1 ty1 v1 := by exact Pv) (hd1 : Nat.blt d1 n = true := by exact rfl) (h2 : PV P n ((d1, v1) :: L) o2 ty2 v2 := by exact Pv) (hd2 : Nat.blt d2 n = true := by exact rfl) (k : wo r P n ops os ((d2, v2) :: (d1, v1) :: L) Hs Q) :
    wo r P n ops (⟨some d1, o1, ty1, pos1, after1, none⟩ :: ⟨some d2, o2, ty2, pos2, after2, none⟩ :: os) L Hs Q := wo_pv h1 hd1 (wo_pv h2 hd2 k)
theorem Qx {b off : Nat} {l : List Value} {td : TypeDesc} {i : Nat} {fs : Array Field} {fd : Field} {ti : TypeInfo} {m : Nat} {t2 : TypeId} (k0 : Nat) (ft : TypeId) (ht : P.underlying t = some (.struct fs) := by exact UndC.h) (hf : fs[i]? = some fd := by exact rfl) (hft : fd.type = ft := by exact rfl) (hi : P.info? ft = some ti := by exact InfC.h) (hz : Nat.beq ti.size 0 = false := by exact rfl)
    (hx : ev L x = some (.pointer (some ⟨b, off, none⟩)) := by exact rfl) (hk : fd.offset = k0 := by exact rfl) (hm : off + k0 = m := by first | exact Nat.zero_add _ | exact Nat.add_zero _ | exact rfl) (hd1 : Nat.blt d1 n = true := by exact rfl)
    (ht2 : P.underlying t2 = some td := by exact UndC.h) (hfl : flat td = true := by exact rfl) (hy : ev ((d1, .pointer (some ⟨b, m, none⟩)) :: L) y = some (.pointer (some ⟨b, m, none⟩)) := by exact rfl) (hr : RdCe b l Hs := by exact inferInstance) (hv : l[m]? = some v2 := by exact rfl) (hd2 : Nat.blt d2 n = true := by exact rfl)
    (k : wo r P n ops os ((d2, v2) :: (d1, .pointer (some ⟨b, m, none⟩)) :: L) Hs Q) : wo r P n ops (⟨some d1, .fieldAddr t x i, ty1, pos1, after1, none⟩ :: ⟨some d2, .load t2 y, ty2, pos2, after2, none⟩ :: os) L Hs Q :=
 wo_pv (pv_fieldAddrk ht hf (by rw [hft]; exact hi) hz hx hk hm) hd1 (r_load ht2 hfl hy (hr := hr) hv hd2 k)
end
theorem J1 {j : Nat} {op : Op} (hj : gd ops L j = some (.bool true) := by exact rfl) (h : PV P n L op ty v := by exact Pv) (hd : Nat.blt d n = true := by exact rfl) (k : wo r P n ops os ((d, v) :: L) Hs Q) : wo r P n ops (⟨some d, op, ty, pos, after, some (j, true)⟩ :: os) L Hs Q := wo_in hj (wo_pv h hd k)
theorem J0 {j : Nat} {op : Op} (hj : gd ops L j = some (.bool false) := by exact rfl) (h : PV P n L op ty v := by exact Pv) (hd : Nat.blt d n = true := by exact rfl) (k : wo r P n ops os ((d, v) :: L) Hs Q) : wo r P n ops (⟨some d, op, ty, pos, after, some (j, false)⟩ :: os) L Hs Q := wo_in hj (wo_pv h hd k)
theorem Dv {q : Nat} {ls : Array Bool} {A : List HP} {dst : Option Tmp} {op : Op} (i : Nat) (hnd : noDefer ops = true := by exact rfl) (ho : ops[i]? = some ⟨dst, op, ty, pos, after, none⟩ := by exact rfl) (hd : dstOk n dst = true := by exact rfl) (hr : (Region.ready .any ops ls).contains i = true := by kernel_rfl) (hf : free ops ls i ⟨dst, op, ty, pos, after, none⟩ = true := by kernel_rfl)
    (h : PV P n L op ty v := by exact Pv) (k : An r P n ops A Q q (ls.setIfInBounds i true) (putL dst v L) Hs) : An r P n ops A Q (q + 1) ls L Hs := d_first i hnd ho hd hr hf (tl_pv h) k
theorem D0 {q j : Nat} {ls : Array Bool} {A : List HP} {dst : Option Tmp} {op : Op} (i : Nat) (hnd : noDefer ops = true := by exact rfl) (ho : ops[i]? = some ⟨dst, op, ty, pos, after, some (j, true)⟩ := by exact rfl) (hd : dstOk n dst = true := by exact rfl) (hr : (Region.ready .any ops ls).contains i = true := by kernel_rfl) (hf : free ops ls i ⟨dst, op, ty, pos, after, some (j, true)⟩ = true := by kernel_rfl)
    (hj : gd ops L j = some (.bool false) := by exact rfl) (k : An r P n ops A Q q (ls.setIfInBounds i true) (putL dst undef L) Hs) : An r P n ops A Q (q + 1) ls L Hs := d_first i hnd ho hd hr hf (tl_out hj rfl) k
theorem D1 {q j : Nat} {ls : Array Bool} {A : List HP} {dst : Option Tmp} {op : Op} (i : Nat) (hnd : noDefer ops = true := by exact rfl) (ho : ops[i]? = some ⟨dst, op, ty, pos, after, some (j, false)⟩ := by exact rfl) (hd : dstOk n dst = true := by exact rfl) (hr : (Region.ready .any ops ls).contains i = true := by kernel_rfl) (hf : free ops ls i ⟨dst, op, ty, pos, after, some (j, false)⟩ = true := by kernel_rfl)
    (hj : gd ops L j = some (.bool true) := by exact rfl) (k : An r P n ops A Q q (ls.setIfInBounds i true) (putL dst undef L) Hs) : An r P n ops A Q (q + 1) ls L Hs := d_first i hnd ho hd hr hf (tl_out hj rfl) k
theorem DP0 {q : Nat} {ls : Array Bool} {A : List HP} {dst : Option Tmp} {z x y : Operand} (i : Nat) (hnd : noDefer ops = true := by exact rfl) (ho : ops[i]? = some ⟨dst, .pick z x y, ty, pos, after, none⟩ := by exact rfl) (hd : dstOk n dst = true := by exact rfl) (hr : (Region.ready .any ops ls).contains i = true := by kernel_rfl) (hf : free ops ls i ⟨dst, .pick z x y, ty, pos, after, none⟩ = true := by kernel_rfl)
    (hz : ev L z = some (.bool false) := by exact rfl) (hy : ev L y = some v := by exact rfl) (k : An r P n ops A Q q (ls.setIfInBounds i true) (putL dst v L) Hs) : An r P n ops A Q (q + 1) ls L Hs := d_first i hnd ho hd hr hf (tl_pv (pv_pick_f hz hy)) k
theorem DP1 {q : Nat} {ls : Array Bool} {A : List HP} {dst : Option Tmp} {z x y : Operand} (i : Nat) (hnd : noDefer ops = true := by exact rfl) (ho : ops[i]? = some ⟨dst, .pick z x y, ty, pos, after, none⟩ := by exact rfl) (hd : dstOk n dst = true := by exact rfl) (hr : (Region.ready .any ops ls).contains i = true := by kernel_rfl) (hf : free ops ls i ⟨dst, .pick z x y, ty, pos, after, none⟩ = true := by kernel_rfl)
    (hz : ev L z = some (.bool true) := by exact rfl) (hx : ev L x = some v := by exact rfl) (k : An r P n ops A Q q (ls.setIfInBounds i true) (putL dst v L) Hs) : An r P n ops A Q (q + 1) ls L Hs := d_first i hnd ho hd hr hf (tl_pv (pv_pick_t hz hx)) k
theorem Ne {a : Option Addr} {kd : IntKind} {i : Int} {len cap kk : Nat} {ti : TypeInfo} {xs : List Value} {A : List HP} {K : Loc → List HP → Prop} (sz m : Nat) (ht : P.underlying t = some (.slice e) := by exact UndC.h) (hi : P.info? e = some ti := by exact InfC.h) (hsz : ti.size = sz := by exact rfl)
    (hx : ev L x = some (.slice a len cap) := by exact rfl) (hy : ev L y = some (.int kd i) := by exact rfl) (hm : i = (m : Int) := by exact rfl) (h : m < len := by omega) (hr : RdSl a xs Hs := by exact inferInstance) (hne : 0 < xs.length := by first | (rw [List.length_map]; omega) | exact flat_pos (by omega) (fun _ => rfl) | (simp; omega) | simp) (hk : m * sz = kk := by first | exact Nat.mul_one _ | exact rfl) (hd : Nat.blt d n = true := by exact rfl)
    (k : K ((d, .pointer (elemA a kk)) :: L) Hs) : AnOp r P n ops A ⟨some d, .indexAddr t x y, ty, pos, after, none⟩ K L Hs := an_elemAddr ht hi hsz hx hy hm h (hr := hr) hne hk hd k
theorem Nm {a : Option Addr} {q : Nat} {xs : List Value} {td : TypeDesc} {A : List HP} {K : Loc → List HP → Prop} (ht : P.underlying t = some td := by exact UndC.h) (hfl : flat td = true := by exact rfl) (hx : ev L x = some (.pointer (elemA a q)) := by exact rfl) (hr : RdSl a xs Hs := by exact inferInstance) (hv : xs[q]? = some v) (hd : Nat.blt d n = true := by exact rfl)
    (k : K ((d, v) :: L) Hs) : AnOp r P n ops A ⟨some d, .load t x, ty, pos, after, none⟩ K L Hs := an_eload ht hfl hx (hr := hr) hv hd k
theorem Yl {a : Option Addr} {q : Nat} {xs : List Value} {td : TypeDesc} (ht : P.underlying t = some td := by exact UndC.h) (hfl : flat td = true := by exact rfl) (hx : ev L x = some (.pointer (elemA a q)) := by exact rfl) (hr : RdSl a xs Hs := by exact inferInstance) (hv : xs[q]? = some v) (hd : Nat.blt d n = true := by exact rfl)
    (k : wo r P n ops os ((d, v) :: L) Hs Q) : wo r P n ops (⟨some d, .load t x, ty, pos, after, none⟩ :: os) L Hs Q := r_eload ht hfl hx (hr := hr) hv hd k
end
end
section
/-- The memory as it is when the law begins. -/
abbrev kn (w : World) : Kn := ⟨fun b => w.heap[b]?, w⟩
abbrev At (w : World) (A : HP) : Prop := A.at_ (kn w) Res.emp
section
variable {H : Type} {enc : TypeId × Value → H} {P : Program} {w : World} {spare : Nat → Bool} {held : Bool} {fuel : Nat} {t e : TypeId} {cs : List Value} {x : DataW H × List MemPlace}
theorem cell_block {a : Addr} {v : Value} (h : w.cell? a = some v) : ∃ c T fz, w.heap[a.block]? = some (.cells c T fz) ∧ a.spot = none ∧ c[a.off]? = some v := by
 unfold World.cell? at h
 split at h
 · rename_i c T fz hb
   split at h
   · cases h
   · rename_i hs
     refine ⟨c, T, fz, hb, ?_, h⟩
     cases hq : a.spot with
     | none => rfl
     | some s => rw [hq] at hs; simp at hs
 · cases h
theorem addr_zero (a : Addr) : a.add 0 = a := rfl
theorem od_slice (ht : P.underlying t = some (.slice e)) (hc : 0 < P.cellsOf e) (h : DataW.trod enc P w 0 spare held fuel t cs = some x) :
    ∃ (a : Option Addr) (n c : Nat) (css : List (List Value)), cs = [.slice a n c] ∧ css.length = n ∧ n ≤ 9223372036854775807 ∧ At w (SlI a css.flatten) ∧ ∀ u ∈ css, u.length = P.cellsOf e ∧ ∃ m y, DataW.trod enc P w 0 spare held m e u = some y := by
 rcases DataW.trod_slice ht h with ⟨rfl, _⟩ | ⟨a, len, cap, elems, rest, n, _, rfl, _, hb, hl, hm, hlen, hel, _, _⟩
 · exact ⟨none, 0, 0, [], rfl, rfl, by omega, .inl rfl, by simp⟩
 · have hsz : ∃ sz, P.cellsOf e = sz := ⟨_, rfl⟩
   obtain ⟨sz, hsz⟩ := hsz
   rw [hsz] at hel hc
   let f : Nat → List Value := fun i => (List.range sz).map fun j => (w.cell? ((a.add (i * sz)).add j)).getD undef
   have hf : ∀ i, (f i).length = sz := fun i => by simp [f]
   have key : ∀ i, i < len → w.cells? 0 (a.add (i * sz)) sz = some (f i) ∧ (∃ y, DataW.trod enc P w 0 spare held n e (f i) = some y) ∧ ∀ j, j < sz → w.cell? ((a.add (i * sz)).add j) = (f i)[j]? := by
    intro i hi
    have h1 := hel i hi
    have h2 : elems[i]? = some elems[i] := List.getElem?_eq_getElem (by omega)
    rw [h2, Option.bind_eq_some_iff] at h1
    obtain ⟨u, hu, hy⟩ := h1
    obtain ⟨_, hul, huc⟩ := World.cells?_some hu
    have e1 : u = f i := by
     apply List.ext_getElem?
     intro j
     by_cases hj : j < sz
     · have h3 := huc j hj
       have h4 : u[j]? = some (u[j]'(by omega)) := List.getElem?_eq_getElem (by omega)
       simp only [f, List.getElem?_map, List.getElem?_range hj, Option.map_some, h3, h4, Option.getD_some]
     · rw [List.getElem?_eq_none (by omega), List.getElem?_eq_none (by rw [hf]; omega)]
    subst e1
    exact ⟨hu, ⟨_, hy⟩, huc⟩
   have hm' : len ≤ 9223372036854775807 := by
    have : maxLen = 9223372036854775807 := by decide
    omega
   refine ⟨some a, len, cap, (List.range len).map f, rfl, by simp, hm', ?_, ?_⟩
   · by_cases h0 : len = 0
     · subst h0; exact .inl rfl
     · right
       have c0 := (key 0 (by omega)).2.2 0 hc
       have c1 : (f 0)[0]? = some ((f 0)[0]'(by rw [hf]; exact hc)) := List.getElem?_eq_getElem _
       rw [c1, Nat.zero_mul, addr_zero, addr_zero] at c0
       obtain ⟨c, T, fz, hblk, hsp, _⟩ := cell_block c0
       obtain ⟨g, off, sp⟩ := a
       dsimp only at hsp hblk
       subst hsp
       refine ⟨g, off, c.toList, T, fz, rfl, by simpa using hblk, ?_⟩
       apply List.ext_getElem?
       intro k
       have hfl : ((List.range len).map f).flatten = (List.range len).flatMap f := by rw [List.flatMap_def]
       rw [hfl]
       have hlenf : ((List.range len).flatMap f).length = len * sz := by rw [flat_len hf, List.length_range]
       rw [hlenf]
       by_cases hk : k < len * sz
       · have hi : k / sz < len := Nat.div_lt_of_lt_mul (by rw [Nat.mul_comm]; exact hk)
         have hj : k % sz < sz := Nat.mod_lt _ hc
         have hkk : k / sz * sz + k % sz = k := by rw [Nat.mul_comm]; exact Nat.div_add_mod k sz
         have h3 := get_flat (f := f) (sz := sz) hf (l := List.range len) (m := k / sz) (by simpa using hi)
         have h4 : ((List.range len).flatMap f)[k]? = (f (k / sz))[k % sz]? := by
          have := congrArg (fun l => l[k % sz]?) h3
          simp only [List.getElem?_take, hj, if_true, List.getElem?_drop, hkk, List.getElem_range] at this
          exact this
         have h5 := (key (k / sz) hi).2.2 (k % sz) hj
         rw [h4, ← h5, List.getElem?_take_of_lt hk, List.getElem?_drop, addr_add, addr_add]
         simp only [World.cell?, hblk]
         have e5 : off + k / sz * sz + k % sz = off + k := by omega
         simp [e5]
       · rw [List.getElem?_eq_none (by rw [List.length_take]; omega), List.getElem?_eq_none (by omega)]
   · intro u hu
     simp only [List.mem_map, List.mem_range] at hu
     obtain ⟨i, hi, rfl⟩ := hu
     refine ⟨by rw [hf, hsz], n, (key i hi).2.1⟩
theorem od_field {fs : Array Field} (ht : P.underlying t = some (.struct fs)) (h : DataW.trod enc P w 0 spare held fuel t cs = some x) (i ft off sz : Nat) (hf : (fs[i]?).map (fun f => (f.type, f.offset)) = some (ft, off)) (hs : P.cellsOf ft = sz) :
    ∃ m y, DataW.trod enc P w 0 spare held m ft ((cs.drop off).take sz) = some y := by
 obtain ⟨xs, n, _, _, _, hl, hx⟩ := DataW.trod_struct ht h
 cases hfi : fs[i]? with
 | none => rw [hfi] at hf; cases hf
 | some f =>
   rw [hfi] at hf
   simp only [Option.map_some, Option.some.injEq, Prod.mk.injEq] at hf
   obtain ⟨rfl, rfl⟩ := hf
   have h1 := hx i f hfi
   have hi := (Array.getElem?_eq_some_iff.1 hfi).1
   rw [List.getElem?_eq_getElem (by omega)] at h1
   rw [← hs]
   exact ⟨n, _, h1⟩
theorem od_len {fs : Array Field} (ht : P.underlying t = some (.struct fs)) (h : DataW.trod enc P w 0 spare held fuel t cs = some x) : cs.length = P.cellsOf t := by
 obtain ⟨xs, n, _, _, hl, _⟩ := DataW.trod_struct ht h
 exact hl
theorem list_map_of {α : Type} {f : α → List Value} {css : List (List Value)} (h : ∀ u ∈ css, ∃ a, u = f a) : ∃ l : List α, css = l.map f := by
 induction css with
 | nil => exact ⟨[], rfl⟩
 | cons u r ih =>
   obtain ⟨a, rfl⟩ := h u (by simp)
   obtain ⟨l, rfl⟩ := ih fun v hv => h v (by simp [hv])
   exact ⟨a :: l, rfl⟩
theorem od_list {α : Type} (f : α → List Value) (φ : α → Prop) (ht : P.underlying t = some (.slice e)) (hc : 0 < P.cellsOf e)
    (hel : ∀ {u : List Value} {m : Nat} {y : DataW H × List MemPlace}, u.length = P.cellsOf e → DataW.trod enc P w 0 spare held m e u = some y → ∃ a, u = f a ∧ φ a) (h : DataW.trod enc P w 0 spare held fuel t cs = some x) :
    ∃ (a : Option Addr) (c : Nat) (l : List α), cs = [.slice a l.length c] ∧ l.length ≤ 9223372036854775807 ∧ At w (SlI a (l.flatMap f)) ∧ ∀ z ∈ l, φ z := by
 obtain ⟨a, n, c, css, rfl, hn, hm, hs, hu⟩ := od_slice ht hc h
 have : ∃ l : List { a : α // φ a }, css = l.map fun a => f a.1 := list_map_of fun u hu' => by
  obtain ⟨hl, m, y, hy⟩ := hu u hu'
  obtain ⟨z, hz, hp⟩ := hel hl hy
  exact ⟨⟨z, hp⟩, hz⟩
 obtain ⟨l, rfl⟩ := this
 refine ⟨a, c, l.map (·.1), ?_, ?_, ?_, ?_⟩
 · rw [← hn]; simp
 · simp at hn ⊢; omega
 · have e1 : (l.map fun a => f a.1).flatten = (l.map (·.1)).flatMap f := by simp [List.flatMap_def, Function.comp_def]
   rw [← e1]; exact hs
 · intro z hz
   simp only [List.mem_map] at hz
   obtain ⟨q, _, rfl⟩ := hz
   exact q.2
theorem flat_one {α : Type} (f : α → Value) (l : List α) : l.flatMap (fun a => [f a]) = l.map f := by
 induction l with
 | nil => rfl
 | cons a r ih => simp [ih]
theorem od_ints {k : IntKind} (ht : P.underlying t = some (.slice e)) (he : P.underlying e = some (.int k)) (hc : 0 < P.cellsOf e) (h : DataW.trod enc P w 0 spare held fuel t cs = some x) :
    ∃ (a : Option Addr) (c : Nat) (l : List Int), cs = [.slice a l.length c] ∧ l.length ≤ 9223372036854775807 ∧ At w (SlI a (l.map (.int k))) ∧ ∀ z ∈ l, (Lit.int k z).wf = true := by
 have := od_list (fun z : Int => [.int k z]) (fun z => (Lit.int k z).wf = true) ht hc (fun _ hy => by
  obtain ⟨n, hn, _, hw⟩ := DataW.trod_int he hy
  exact ⟨n, hn, hw⟩) h
 simpa only [flat_one] using this
end
theorem wf_i64 {n : Int} (h : (Lit.int .i64 n).wf = true) : -9223372036854775808 ≤ n ∧ n ≤ 9223372036854775807 := by
 simp [Lit.wf] at h
 have e1 : IntKind.i64.min = -9223372036854775808 := by decide
 have e2 : IntKind.i64.max = 9223372036854775807 := by decide
 omega
/-- Several things that are there from the beginning. -/
theorem sl_start {w : World} : ∀ {As : List HP}, (∀ A ∈ As, At w A) → SL As (kn w) Res.emp
 | [], _ => trivial
 | A :: r, h => ⟨Res.emp, Res.emp, Res.emp_dj _, rfl, h A (by simp), sl_start fun B hB => h B (by simp [hB])⟩
end
/-- A list of whole numbers in memory. -/
structure IntsV where
 a : Option Addr
 c : Nat
 l : List Int
def IntsV.cell (x : IntsV) : Value := .slice x.a x.l.length x.c
def IntsV.ok (w : World) (x : IntsV) : Prop := x.l.length ≤ 9223372036854775807 ∧ At w (SlI x.a (x.l.map vI))
theorem ints_of {H : Type} {enc : TypeId × Value → H} {w : World} {spare : Nat → Bool} {held : Bool} {fuel : Nat} {cs : List Value} {x : DataW H × List MemPlace}
    (h : DataW.trod enc Tryz.prog w 0 spare held fuel 37 cs = some x) : ∃ q : IntsV, cs = [q.cell] ∧ q.ok w := by
 have ei : Tryz.prog.cellsOf 3 = 1 := by kernel_rfl
 obtain ⟨a, k, l, g, b, s, _⟩ := od_ints Tryz.underlying37 Tryz.underlying3 (by rw [ei]; decide) h
 exact ⟨⟨a, k, l⟩, g, b, s⟩
theorem keepText_of {H : Type} {enc : TypeId × Value → H} {w : World} {spare : Nat → Bool} {held : Bool} {fuel : Nat} {cs : List Value} {x : DataW H × List MemPlace}
    (h : DataW.trod enc Tryz.prog w 0 spare held fuel 39 cs = some x) : ∃ (b : Int) (q : IntsV), cs = [vI b, q.cell] ∧ q.ok w := by
 have hl := od_len Tryz.underlying39 h
 have e2 : Tryz.prog.cellsOf 39 = 2 := by kernel_rfl
 have ei : Tryz.prog.cellsOf 3 = 1 := by kernel_rfl
 have es : Tryz.prog.cellsOf 37 = 1 := by kernel_rfl
 rw [e2] at hl
 obtain ⟨m0, y0, f0⟩ := od_field Tryz.underlying39 h 0 3 0 1 rfl ei
 obtain ⟨m1, y1, f1⟩ := od_field Tryz.underlying39 h 1 37 1 1 rfl es
 match cs, hl with
 | [c0, c1], _ =>
   simp only [List.drop_zero, List.drop_succ_cons, List.take_succ_cons, List.take_zero] at f0 f1
   obtain ⟨n0, g0, _, _⟩ := DataW.trod_int Tryz.underlying3 f0
   obtain ⟨q, g1, hq⟩ := ints_of f1
   cases g0; cases g1
   exact ⟨n0, q, rfl, hq⟩
theorem keepCheckin_of {H : Type} {enc : TypeId × Value → H} {w : World} {spare : Nat → Bool} {held : Bool} {fuel : Nat} {cs : List Value} {x : DataW H × List MemPlace}
    (h : DataW.trod enc Tryz.prog w 0 spare held fuel 41 cs = some x) : ∃ (base d u tb : Int) (q1 q2 q3 q4 q5 : IntsV), cs = [vI base, vI d, vI u, vI tb, q1.cell, q2.cell, q3.cell, q4.cell, q5.cell] ∧ q1.ok w ∧ q2.ok w ∧ q3.ok w ∧ q4.ok w ∧ q5.ok w := by
 have hl := od_len Tryz.underlying41 h
 have e9 : Tryz.prog.cellsOf 41 = 9 := by kernel_rfl
 have e2 : Tryz.prog.cellsOf 39 = 2 := by kernel_rfl
 have ei : Tryz.prog.cellsOf 3 = 1 := by kernel_rfl
 have es : Tryz.prog.cellsOf 37 = 1 := by kernel_rfl
 rw [e9] at hl
 obtain ⟨m0, y0, f0⟩ := od_field Tryz.underlying41 h 0 3 0 1 rfl ei
 obtain ⟨m1, y1, f1⟩ := od_field Tryz.underlying41 h 1 3 1 1 rfl ei
 obtain ⟨m2, y2, f2⟩ := od_field Tryz.underlying41 h 2 3 2 1 rfl ei
 obtain ⟨m3, y3, f3⟩ := od_field Tryz.underlying41 h 3 39 3 2 rfl e2
 obtain ⟨m4, y4, f4⟩ := od_field Tryz.underlying41 h 4 37 5 1 rfl es
 obtain ⟨m5, y5, f5⟩ := od_field Tryz.underlying41 h 5 37 6 1 rfl es
 obtain ⟨m6, y6, f6⟩ := od_field Tryz.underlying41 h 6 37 7 1 rfl es
 obtain ⟨m7, y7, f7⟩ := od_field Tryz.underlying41 h 7 37 8 1 rfl es
 match cs, hl with
 | [c0, c1, c2, c3, c4, c5, c6, c7, c8], _ =>
   simp only [List.drop_zero, List.drop_succ_cons, List.take_succ_cons, List.take_zero] at f0 f1 f2 f3 f4 f5 f6 f7
   obtain ⟨n0, g0, _, _⟩ := DataW.trod_int Tryz.underlying3 f0
   obtain ⟨n1, g1, _, _⟩ := DataW.trod_int Tryz.underlying3 f1
   obtain ⟨n2, g2, _, _⟩ := DataW.trod_int Tryz.underlying3 f2
   obtain ⟨b, q1, g3, h1⟩ := keepText_of f3
   obtain ⟨q2, g4, h2⟩ := ints_of f4
   obtain ⟨q3, g5, h3⟩ := ints_of f5
   obtain ⟨q4, g6, h4⟩ := ints_of f6
   obtain ⟨q5, g7, h5⟩ := ints_of f7
   cases g0; cases g1; cases g2; cases g3; cases g4; cases g5; cases g6; cases g7
   exact ⟨n0, n1, n2, b, q1, q2, q3, q4, q5, rfl, h1, h2, h3, h4, h5⟩
theorem keepControl_of {H : Type} {enc : TypeId × Value → H} {w : World} {spare : Nat → Bool} {held : Bool} {fuel : Nat} {cs : List Value} {x : DataW H × List MemPlace}
    (h : DataW.trod enc Tryz.prog w 0 spare held fuel 43 cs = some x) : ∃ (d u : Int) (q1 q2 : IntsV), cs = [vI d, vI u, q1.cell, q2.cell] ∧ q1.ok w ∧ q2.ok w := by
 have hl := od_len Tryz.underlying43 h
 have e4 : Tryz.prog.cellsOf 43 = 4 := by kernel_rfl
 have ei : Tryz.prog.cellsOf 3 = 1 := by kernel_rfl
 have es : Tryz.prog.cellsOf 37 = 1 := by kernel_rfl
 rw [e4] at hl
 obtain ⟨m0, y0, f0⟩ := od_field Tryz.underlying43 h 0 3 0 1 rfl ei
 obtain ⟨m1, y1, f1⟩ := od_field Tryz.underlying43 h 1 3 1 1 rfl ei
 obtain ⟨m2, y2, f2⟩ := od_field Tryz.underlying43 h 2 37 2 1 rfl es
 obtain ⟨m3, y3, f3⟩ := od_field Tryz.underlying43 h 3 37 3 1 rfl es
 match cs, hl with
 | [c0, c1, c2, c3], _ =>
   simp only [List.drop_zero, List.drop_succ_cons, List.take_succ_cons, List.take_zero] at f0 f1 f2 f3
   obtain ⟨n0, g0, _, _⟩ := DataW.trod_int Tryz.underlying3 f0
   obtain ⟨n1, g1, _, _⟩ := DataW.trod_int Tryz.underlying3 f1
   obtain ⟨q2, g2, h2⟩ := ints_of f2
   obtain ⟨q3, g3, h3⟩ := ints_of f3
   cases g0; cases g1; cases g2; cases g3
   exact ⟨n0, n1, q2, q3, rfl, h2, h3⟩
/-- The last digit of a number, as a byte. -/
def dgt (n : Nat) : UInt8 := UInt8.ofNat (48 + n % 10)
def decN (n : Nat) : List UInt8 := if n < 10 then [dgt n] else decN (n / 10) ++ [dgt n]
termination_by n
/-- What stands ahead of the last digits. -/
def preN (n : Nat) : List UInt8 := if n = 0 then [] else decN n
theorem dgt_toNat (n : Nat) : (dgt n).toNat = 48 + n % 10 := by
 have : 48 + n % 10 < 256 := by omega
 simp [dgt, UInt8.toNat_ofNat, Nat.mod_eq_of_lt this]
theorem decN_split (n : Nat) : decN n = preN (n / 10) ++ [dgt n] := by
 rw [decN, preN]
 by_cases h : n < 10
 · have : n / 10 = 0 := by omega
   simp [h, this]
 · have : ¬ (n / 10 = 0) := by omega
   simp [h, this]
theorem preN_pos {n : Nat} (h : 0 < n) : preN n = preN (n / 10) ++ [dgt n] := by
 rw [preN, if_neg (by omega)]; exact decN_split n
theorem decN_len (n : Nat) : (decN n).length ≤ n + 1 := by
 induction n using Nat.strongRecOn with
 | _ n ih =>
   rw [decN]
   split
   · simp
   · have := ih (n / 10) (by omega)
     simp only [List.length_append, List.length_singleton]
     omega
abbrev Bs := List UInt8
/-- Decimals, read on. -/
def dn : Bs → Nat → Option Nat
 | [], n => some n
 | c :: r, n => if c.toNat < 48 ∨ 57 < c.toNat ∨ 1073741824 < n then none else dn r (10 * n + (c.toNat - 48))
def decP (n : Nat) : Bs := if n ≤ 1073741824 then decN n else []
def readDec (s : Bs) : Option Nat := match dn s 0 with
 | none => none
 | some n => if s = [] ∨ ¬ decP n = s then none else some n
theorem dn_step {s : Bs} {i : Nat} (h : i < s.length) (n : Nat) : dn (s.drop i) n = if (s.getD i 0).toNat < 48 ∨ 57 < (s.getD i 0).toNat ∨ 1073741824 < n then none else dn (s.drop (i + 1)) (10 * n + ((s.getD i 0).toNat - 48)) := by
 have e : s.drop i = s.getD i 0 :: s.drop (i + 1) := by
  rw [List.drop_eq_getElem_cons h]; simp [h]
 rw [e, dn]
def zeros (n : Nat) : Bs := List.replicate n 0
structure W5 where
 a : UInt32
 b : UInt32
 c : UInt32
 d : UInt32
 e : UInt32
def W5.list (h : W5) : List UInt32 := [h.a, h.b, h.c, h.d, h.e]
def byteW (c : UInt8) (k : Nat) : UInt32 := c.toUInt32 <<< UInt32.ofNat k
def blkW (b : Bs) (i : Nat) : UInt32 := byteW (b.getD (4 * i) 0) 24 ||| byteW (b.getD (4 * i + 1) 0) 16 ||| byteW (b.getD (4 * i + 2) 0) 8 ||| (b.getD (4 * i + 3) 0).toUInt32
def nextW (l : List UInt32) (i : Nat) : UInt32 := rotl (l.getD (i - 3) 0 ^^^ l.getD (i - 8) 0 ^^^ l.getD (i - 14) 0 ^^^ l.getD (i - 16) 0) 1
def spreadL (b : Bs) : Nat → List UInt32
 | 0 => []
 | n + 1 => spreadL b n ++ [if n < 16 then blkW b n else nextW (spreadL b n) n]
theorem spreadL_len (b : Bs) (n : Nat) : (spreadL b n).length = n := by
 induction n with
 | zero => rfl
 | succ n ih => simp [spreadL, ih]
def mixW (i : Nat) (b c d : UInt32) : UInt32 × UInt32 :=
 if i / 20 = 0 then ((b &&& c) ||| (~~~b &&& d), 0x5a827999)
 else if i / 20 = 1 then (b ^^^ c ^^^ d, 0x6ed9eba1)
 else if i / 20 = 2 then ((b &&& c) ||| (b &&& d) ||| (c &&& d), 0x8f1bbcdc)
 else (b ^^^ c ^^^ d, 0xca62c1d6)
def roundW (w : List UInt32) (i : Nat) (s : W5) : W5 := ⟨rotl s.a 5 + (mixW i s.b s.c s.d).1 + s.e + (mixW i s.b s.c s.d).2 + w.getD i 0, s.a, rotl s.b 30, s.c, s.d⟩
def roundsW (w : List UInt32) (h : W5) : Nat → W5
 | 0 => h
 | n + 1 => roundW w n (roundsW w h n)
def takeW (h : W5) (b : Bs) : W5 := let s := roundsW (spreadL b 80) h 80; ⟨h.a + s.a, h.b + s.b, h.c + s.c, h.d + s.d, h.e + s.e⟩
def blocksN (s : Bs) : Nat := (s.length + 8) / 64 + 1
def len8 (s : Bs) (i : Nat) : UInt8 := UInt8.ofNat (8 * s.length / 2 ^ (8 * (7 - i)))
def padB (s : Bs) : Bs := s ++ [0x80] ++ zeros (64 * blocksN s - 9 - s.length) ++ (List.range 8).map (len8 s)
theorem padB_len (s : Bs) : (padB s).length = 64 * blocksN s := by
 simp only [padB, blocksN, zeros, List.length_append, List.length_replicate, List.length_map, List.length_range, List.length_singleton]
 omega
def h0W : W5 := ⟨0x67452301, 0xefcdab89, 0x98badcfe, 0x10325476, 0xc3d2e1f0⟩
def sumsW (p : Bs) (h : W5) : Nat → W5
 | 0 => h
 | n + 1 => takeW (sumsW p h n) ((p.drop (64 * n)).take 64)
def hexD : Bs := [48, 49, 50, 51, 52, 53, 54, 55, 56, 57, 97, 98, 99, 100, 101, 102]
def hexW (x : UInt32) : Bs := (List.range 8).map fun j => hexD.getD ((x >>> UInt32.ofNat (28 - 4 * j)) &&& 15).toNat 0
/-- A content's name. -/
def shaB (s : Bs) : Bs := (sumsW (padB s) h0W (blocksN s)).list.flatMap hexW
theorem hexW_len (x : UInt32) : (hexW x).length = 8 := by simp [hexW]
theorem shaB_len (s : Bs) : (shaB s).length = 40 := by simp [shaB, W5.list, hexW_len]
theorem hexW_mem (x : UInt32) : ∀ c ∈ hexW x, c ∈ hexD := by
 intro c hc
 simp only [hexW, List.mem_map, List.mem_range] at hc
 obtain ⟨j, _, rfl⟩ := hc
 have hl : hexD.length = 16 := rfl
 have h : ((x >>> UInt32.ofNat (28 - 4 * j)) &&& 15).toNat < 16 := by
  rw [UInt32.toNat_and]
  exact Nat.lt_of_le_of_lt Nat.and_le_right (by decide)
 rw [List.getD_eq_getElem?_getD, List.getElem?_eq_getElem (by rw [hl]; exact h), Option.getD_some]
 exact List.getElem_mem _
theorem shaB_mem (s : Bs) : ∀ c ∈ shaB s, c ∈ hexD := by
 intro c hc
 obtain ⟨x, _, hx⟩ := List.mem_flatMap.1 hc
 exact hexW_mem x c hx
def dn2 : Bs → Nat → Option Nat
 | [], n => some n
 | c :: r, n => if c.toNat < 48 ∨ 57 < c.toNat then none else if 1073741824 < 10 * n + (c.toNat - 48) then none else dn2 r (10 * n + (c.toNat - 48))
theorem dn2_step {s : Bs} {i : Nat} (h : i < s.length) (n : Nat) : dn2 (s.drop i) n = if (s.getD i 0).toNat < 48 ∨ 57 < (s.getD i 0).toNat then none else if 1073741824 < 10 * n + ((s.getD i 0).toNat - 48) then none else dn2 (s.drop (i + 1)) (10 * n + ((s.getD i 0).toNat - 48)) := by
 have e : s.drop i = s.getD i 0 :: s.drop (i + 1) := by
  rw [List.drop_eq_getElem_cons h]; simp [h]
 rw [e, dn2]
theorem dn_ge : ∀ (s : Bs) (n m : Nat), dn s n = some m → n ≤ m := by
 intro s
 induction s with
 | nil => intro n m h; simp [dn] at h; omega
 | cons c r ih =>
   intro n m h
   simp only [dn] at h
   split at h
   · cases h
   · have := ih _ _ h; omega
theorem dn2_dn : ∀ (s : Bs) (n m : Nat), n ≤ 1073741824 → (dn2 s n = some m ↔ dn s n = some m ∧ m ≤ 1073741824) := by
 intro s
 induction s with
 | nil => intro n m h; simp [dn, dn2]; omega
 | cons c r ih =>
   intro n m h
   simp only [dn, dn2]
   by_cases h1 : c.toNat < 48 ∨ 57 < c.toNat
   · rw [if_pos h1, if_pos (by omega)]; simp
   · rw [if_neg h1, if_neg (show ¬ (c.toNat < 48 ∨ 57 < c.toNat ∨ 1073741824 < n) by omega)]
     by_cases h2 : 1073741824 < 10 * n + (c.toNat - 48)
     · rw [if_pos h2]
       constructor
       · intro e; cases e
       · rintro ⟨e, e2⟩
         have := dn_ge _ _ _ e
         omega
     · rw [if_neg h2]
       exact ih _ _ (by omega)
theorem dgt_of {c : UInt8} {n : Nat} (h : ¬ (c.toNat < 48 ∨ 57 < c.toNat)) : dgt (10 * n + (c.toNat - 48)) = c := by
 apply UInt8.toNat_inj.1
 rw [dgt_toNat]; omega
theorem dn2_decN : ∀ (s : Bs) (n m : Nat), 0 < n → dn2 s n = some m → decN m = decN n ++ s := by
 intro s
 induction s with
 | nil => intro n m _ h; simp [dn2] at h; simp [h]
 | cons c r ih =>
   intro n m hn h
   simp only [dn2] at h
   split at h
   · cases h
   · rename_i h1
     split at h
     · cases h
     · rw [ih _ _ (by omega) h, decN_split (10 * n + (c.toNat - 48)), dgt_of h1]
       have e : (10 * n + (c.toNat - 48)) / 10 = n := by omega
       rw [e, preN, if_neg (by omega)]
       simp
theorem decN_head : ∀ n : Nat, 0 < n → (decN n).head? ≠ some 48 := by
 intro n
 induction n using Nat.strongRecOn with
 | _ n ih =>
   intro h
   rw [decN]
   split
   · intro e
     simp only [List.head?_cons, Option.some.injEq] at e
     have := congrArg UInt8.toNat e
     rw [dgt_toNat] at this
     simp at this; omega
   · have h2 := ih (n / 10) (by omega) (by omega)
     cases e : decN (n / 10) with
     | nil => rw [decN] at e; split at e <;> simp at e
     | cons c r => rw [e] at h2; exact h2
theorem decN_zero : decN 0 = [48] := by rw [decN]; rfl
/-- What the document's reading is. -/
def readDec2 (s : Bs) : Option Nat := match dn2 s 0 with
 | none => none
 | some n => if s.length = 0 ∨ (1 < s.length ∧ s.getD 0 0 = 48) then none else some n
theorem readDec_eq2 (s : Bs) : readDec s = readDec2 s := by
 unfold readDec readDec2
 cases s with
 | nil => simp [dn, dn2]
 | cons c r =>
   cases h2 : dn2 (c :: r) 0 with
   | none =>
     cases h1 : dn (c :: r) 0 with
     | none => rfl
     | some m =>
       dsimp only
       have hm : 1073741824 < m := by
        apply Classical.byContradiction
        intro hc
        rw [(dn2_dn (c :: r) 0 m (by omega)).2 ⟨h1, by omega⟩] at h2
        cases h2
       rw [if_pos]
       right
       rw [decP, if_neg (by omega)]
       intro e; cases e
   | some m =>
     obtain ⟨h1, hm⟩ := (dn2_dn (c :: r) 0 m (by omega)).1 h2
     rw [h1]
     dsimp only
     have key : decP m = c :: r ↔ ¬ (1 < (c :: r).length ∧ c = 48) := by
      rw [decP, if_pos hm]
      simp only [dn2] at h2
      split at h2
      · cases h2
      · rename_i hc
        split at h2
        · cases h2
        · by_cases h0 : c = 48
          · subst h0
            cases r with
            | nil =>
              simp only [dn2, Option.some.injEq] at h2
              subst h2
              simp only [List.length_cons, List.length_nil]
              constructor
              · intro _; omega
              · intro _; exact decN_zero
            | cons d r =>
              constructor
              · intro e
                rcases Nat.eq_zero_or_pos m with hz | hp
                · subst hz; rw [decN_zero] at e; cases e
                · have := decN_head m hp
                  rw [e] at this
                  simp at this
              · intro e; exact absurd ⟨by simp, rfl⟩ e
          · have hpos : 0 < c.toNat - 48 := by
              have : c.toNat ≠ 48 := fun e => h0 (UInt8.toNat_inj.1 (by simpa using e))
              omega
            have := dn2_decN r _ m (by omega) h2
            rw [this]
            have e2 : decN (10 * 0 + (c.toNat - 48)) = [c] := by
             rw [decN, if_pos (by omega), dgt_of hc]
            rw [e2]
            constructor
            · intro _ ⟨_, e⟩; exact h0 e
            · intro _; rfl
     by_cases hk : 1 < (c :: r).length ∧ c = 48
     · rw [if_pos (.inr (fun e => key.1 e hk)), if_pos (.inr (by simpa using hk))]
     · rw [if_neg, if_neg]
       · rintro (e | e)
         · simp at e
         · exact hk (by simpa using e)
       · rintro (e | e)
         · cases e
         · exact e (key.2 hk)
theorem dn2_app : ∀ (s t : Bs) (n : Nat), dn2 (s ++ t) n = (dn2 s n).bind (dn2 t) := by
 intro s
 induction s with
 | nil => intro t n; simp [dn2]
 | cons c r ih =>
   intro t n
   simp only [List.cons_append, dn2]
   split
   · rfl
   · split
     · rfl
     · exact ih _ _
theorem dn2_of_decN : ∀ n : Nat, n ≤ 1073741824 → dn2 (decN n) 0 = some n := by
 intro n
 induction n using Nat.strongRecOn with
 | _ n ih =>
   intro h
   rw [decN]
   have h48 := dgt_toNat n
   split
   · rw [dn2, if_neg (by omega), if_neg (by omega), dn2]
     congr 1; omega
   · rw [dn2_app, ih (n / 10) (by omega) (by omega)]
     simp only [Option.bind_some]
     rw [dn2, if_neg (by omega), if_neg (by omega), dn2]
     congr 1; omega
theorem decN_ne (n : Nat) : decN n ≠ [] := by rw [decN]; split <;> simp
theorem readDec_of {n : Nat} (h : n ≤ 1073741824) : readDec (decN n) = some n := by
 have h2 := dn2_of_decN n h
 obtain ⟨h1, _⟩ := (dn2_dn (decN n) 0 n (by omega)).1 h2
 unfold readDec
 rw [h1]
 dsimp only
 rw [if_neg]
 rintro (e | e)
 · exact decN_ne n e
 · exact e (by rw [decP, if_pos h])
end Go.Proofs.YtibccdcemcgkeaaGreat
