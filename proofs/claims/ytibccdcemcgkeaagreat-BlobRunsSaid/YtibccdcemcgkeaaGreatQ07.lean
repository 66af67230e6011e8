/- Texts of this proof, put together: Mini, MDec, Digit, MStore, Digit2, LibS, MDisk. -/
import Derived.Test.YtibccdcemcgkeaaGreatQ06
set_option linter.unusedVariables false
set_option linter.unusedSimpArgs false
namespace Go.Proofs.YtibccdcemcgkeaaGreat
section
theorem flat_pos {α : Type} {f : α → List Value} {l : List α} (h : 0 < l.length) (hf : ∀ x, Nat.ble 1 (f x).length = true) : 0 < (l.flatMap f).length := by
 cases l with
 | nil => simp at h
 | cons a r => have := Nat.le_of_ble_eq_true (hf a); rw [List.flatMap_cons, List.length_append]; omega
section
variable {r : Option Nat} {P : Program} {n : Nat} {L : Loc} {Hs : List HP} {Q : Out} {c : Code} {ops : Array Oper} {os : List Oper} {ty : TypeId} {d : Nat} {pos : String} {after : Array Edge} {t e : TypeId} {x y : Operand} {v : Value}
/-! Code. -/
theorem Za (h : c = .seq (sA c) (sB c) := by exact rfl) (k : wc r P n (sA c) L Hs (seqO r P (sB c) Q)) : wc r P n c L Hs Q := p_seq h k
theorem Zr {id : Nat} {l : List Oper} (h : c = .region id l.toArray false := by exact rfl) (k : wo r P n l.toArray l L Hs Q) : wc r P n c L Hs Q := p_region h k
theorem Zk (h : c = .skip := by exact rfl) (k : tw n Q .normal L Hs) : wc r P n c L Hs Q := p_skip h k
theorem Zl {l : Nat} (h : c = .label l := by exact rfl) (k : tw n Q .normal L Hs) : wc r P n c L Hs Q := p_label h k
theorem Ze {id : Nat} (h : c = .exit id := by exact rfl) (k : tw n Q (.exit id) L Hs) : wc r P n c L Hs Q := p_exit id h k
theorem Zt (h : c = .ret := by exact rfl) (k : tw n Q .ret L Hs) : wc r P n c L Hs Q := p_ret h k
theorem Z1 (h : c = .cond (cX c) (cT c) (cE c) := by exact rfl) (hc : ev L (cX c) = some (.bool true) := by exact rfl) (k : wc r P n (cT c) L Hs Q) : wc r P n c L Hs Q := p_true h hc k
theorem Z0 (h : c = .cond (cX c) (cT c) (cE c) := by exact rfl) (hc : ev L (cX c) = some (.bool false) := by exact rfl) (k : wc r P n (cE c) L Hs Q) : wc r P n c L Hs Q := p_false h hc k
theorem Zb {id : Nat} (h : c = .block id (bB c) := by exact rfl) (k : wc r P n (bB c) L Hs (blockO id Q)) : wc r P n c L Hs Q := p_block id h k
theorem Zs (h : c = .scope (bB c) := by exact rfl) (k : wc r P n (bB c) L Hs (scopeO Q)) : wc r P n c L Hs Q := p_scope2 h k
theorem Zi {b : Bool} {p q : Prop} (h : c = .cond (cX c) (cT c) (cE c) := by exact rfl) (hc : ev L (cX c) = some (.bool b) := by exact rfl) (hb : BP b p q := by first | exact BP.dec | exact BP.raw)
    (t : p → wc r P n (cT c) L Hs Q) (f : q → wc r P n (cE c) L Hs Q) : wc r P n c L Hs Q := p_cond h hc (fun e => t (hb.t e)) (fun e => f (hb.f e))
theorem Gi {b : Bool} {p q : Prop} {s : Nat} (j : Nat) (hj : (ops[j]?).bind (·.dst) = some s := by exact rfl) (hs : lk L s = some (.bool b) := by exact rfl) (hb : BP b p q := by first | exact BP.dec | exact BP.raw)
    (t : p → wo r P n ops os ((s, .bool true) :: L) Hs Q) (f : q → wo r P n ops os ((s, .bool false) :: L) Hs Q) : wo r P n ops os L Hs Q := wo_gsplit hj hs (fun e => t (hb.t e)) (fun e => f (hb.f e))
theorem Gd {b : Bool} {p q : Prop} {s k : Nat} {ls : Array Bool} {A : List HP} (j : Nat) (hj : (ops[j]?).bind (·.dst) = some s := by exact rfl) (hs : lk L s = some (.bool b) := by exact rfl) (hb : BP b p q := by first | exact BP.dec | exact BP.raw)
    (t : p → An r P n ops A Q k ls ((s, .bool true) :: L) Hs) (f : q → An r P n ops A Q k ls ((s, .bool false) :: L) Hs) : An r P n ops A Q k ls L Hs := d_gsplit hj hs (fun e => t (hb.t e)) (fun e => f (hb.f e))
/-! Ways. -/
theorem Wq {y : Code} (k : wc r P n y L Hs Q) : wo r P n ops [] L Hs (seqO r P y Q) := q_seq k
theorem Wg {y : Code} (k : wc r P n y L Hs Q) : wo r P n ops [] L Hs (asgO r P y Q) := q_asg k
theorem Wn (k : tw n Q .normal L Hs) : wo r P n ops [] L Hs Q := wo_nil k
theorem Ya {y : Code} (k : wc r P n y L Hs Q) : tw n (seqO r P y Q) .normal L Hs := t_seq k
theorem Yb {id : Nat} (k : tw n Q .normal L Hs) : tw n (blockO id Q) .normal L Hs := to_block k
theorem Xa {y : Code} {id : Nat} (k : tw n Q (.exit id) L Hs) : tw n (seqO r P y Q) (.exit id) L Hs := k
theorem Xi {ι : Type} {Li : ι → Loc} {Hi : ι → List HP} {lt : ι → Prop} {id : Nat} (k : tw n Q (.exit id) L Hs) : tw n (invO n Li Hi lt Q) (.exit id) L Hs := k
theorem Xb {id : Nat} (k : tw n Q .normal L Hs) : tw n (blockO id Q) (.exit id) L Hs := to_block_here k
theorem Xo {id id' : Nat} (h : Nat.beq id' id = false := by exact rfl) (k : tw n Q (.exit id') L Hs) : tw n (blockO id Q) (.exit id') L Hs := to_block_other h k
theorem Xs {id : Nat} (k : tw n Q (.exit id) L Hs) : tw n (scopeO Q) (.exit id) L Hs := k
theorem Va {y : Code} (k : tw n Q .ret L Hs) : tw n (seqO r P y Q) .ret L Hs := k
theorem Vi {ι : Type} {Li : ι → Loc} {Hi : ι → List HP} {lt : ι → Prop} (k : tw n Q .ret L Hs) : tw n (invO n Li Hi lt Q) .ret L Hs := k
theorem Vb {id : Nat} (k : tw n Q .ret L Hs) : tw n (blockO id Q) .ret L Hs := k
theorem Vs (k : tw n Q .ret L Hs) : tw n (scopeO Q) .ret L Hs := k
/-! Quiet operations. -/
theorem Pv {op : Op} (h : PV P n L op ty v := by first
 | exact pv_move rfl | exact pv_assign rfl | exact pv_extract rfl rfl
 | exact pv_call_len_s UndC.h rfl | exact pv_call_len_sl UndC.h rfl
 | exact pv_notd rfl | exact pv_not rfl
 | exact pv_add rfl rfl (by omega) | exact pv_sub rfl rfl (by omega) | exact pv_mul rfl rfl (by omega)
 | exact pv_lss rfl rfl | exact pv_leq rfl rfl | exact pv_gtr rfl rfl | exact pv_geq rfl rfl | exact pv_eql rfl rfl | exact pv_neq rfl rfl
 | exact pv_seql rfl rfl | exact pv_sneq rfl rfl | exact pv_slss rfl rfl | exact pv_sleq rfl rfl | exact pv_sgtr rfl rfl | exact pv_sgeq rfl rfl
 | exact pv_nilCheck_p rfl | exact pv_nilCheck_f rfl
 | exact pv_cat rfl rfl (by first | (simp only [List.length_append, List.length_take, List.length_drop, List.length_cons, List.length_nil]; omega) | (simp; try omega))
 | exact pv_makeFunc rfl rfl | exact pv_call_cap_sl UndC.h rfl | exact pv_call_min rfl rfl | exact pv_call_max rfl rfl
 | exact pv_indexm UndC.h rfl rfl rfl (by omega)
 | exact pv_slice_tom UndC.h rfl rfl rfl (by omega) | exact pv_slice_fromm UndC.h rfl rfl rfl (by omega) | exact pv_slice_inm UndC.h rfl rfl rfl rfl rfl (by omega) (by omega)
 | exact pv_quo rfl rfl (by omega) | exact pv_rem rfl rfl (by omega)) : PV P n L op ty v := h
theorem Vv {op : Op} (h : PV P n L op ty v := by exact Pv) (hd : Nat.blt d n = true := by exact rfl) (k : wo r P n ops os ((d, v) :: L) Hs Q) : wo r P n ops (⟨some d, op, ty, pos, after, none⟩ :: os) L Hs Q := wo_pv h hd k
theorem Vf {i b off : Nat} {fs : Array Field} {fd : Field} {ti : TypeInfo} {m : Nat} (k0 : Nat) (ft : TypeId) (ht : P.underlying t = some (.struct fs) := by exact UndC.h) (hf : fs[i]? = some fd := by exact rfl) (hft : fd.type = ft := by exact rfl) (hi : P.info? ft = some ti := by exact InfC.h) (hz : Nat.beq ti.size 0 = false := by exact rfl)
    (hx : ev L x = some (.pointer (some ⟨b, off, none⟩)) := by exact rfl) (hk : fd.offset = k0 := by exact rfl) (hm : off + k0 = m := by first | exact Nat.zero_add _ | exact Nat.add_zero _ | exact rfl) (hd : Nat.blt d n = true := by exact rfl) (k : wo r P n ops os ((d, .pointer (some ⟨b, m, none⟩)) :: L) Hs Q) : wo r P n ops (⟨some d, .fieldAddr t x i, ty, pos, after, none⟩ :: os) L Hs Q :=
 wo_pv (pv_fieldAddrk ht hf (by rw [hft]; exact hi) hz hx hk hm) hd k
theorem Vx {op : Op} (h : PV P n L op ty v) (hd : Nat.blt d n = true := by exact rfl) (k : wo r P n ops os ((d, v) :: L) Hs Q) : wo r P n ops (⟨some d, op, ty, pos, after, none⟩ :: os) L Hs Q := wo_pv h hd k
theorem P1 {c x y : Operand} (hc : ev L c = some (.bool true) := by exact rfl) (hx : ev L x = some v := by exact rfl) (hd : Nat.blt d n = true := by exact rfl) (k : wo r P n ops os ((d, v) :: L) Hs Q) : wo r P n ops (⟨some d, .pick c x y, ty, pos, after, none⟩ :: os) L Hs Q := wo_pv (pv_pick_t hc hx) hd k
theorem P0 {c x y : Operand} (hc : ev L c = some (.bool false) := by exact rfl) (hy : ev L y = some v := by exact rfl) (hd : Nat.blt d n = true := by exact rfl) (k : wo r P n ops os ((d, v) :: L) Hs Q) : wo r P n ops (⟨some d, .pick c x y, ty, pos, after, none⟩ :: os) L Hs Q := wo_pv (pv_pick_f hc hy) hd k
/-! Guards. -/
theorem I1 {j : Nat} {dst : Option Tmp} {op : Op} (hj : gd ops L j = some (.bool true) := by exact rfl) (k : wo r P n ops (⟨dst, op, ty, pos, after, none⟩ :: os) L Hs Q) : wo r P n ops (⟨dst, op, ty, pos, after, some (j, true)⟩ :: os) L Hs Q := wo_in hj k
theorem I0 {j : Nat} {dst : Option Tmp} {op : Op} (hj : gd ops L j = some (.bool false) := by exact rfl) (k : wo r P n ops (⟨dst, op, ty, pos, after, none⟩ :: os) L Hs Q) : wo r P n ops (⟨dst, op, ty, pos, after, some (j, false)⟩ :: os) L Hs Q := wo_in hj k
theorem O1 {j : Nat} {op : Op} (hj : gd ops L j = some (.bool true) := by exact rfl) (hd : Nat.blt d n = true := by exact rfl) (k : wo r P n ops os ((d, undef) :: L) Hs Q) : wo r P n ops (⟨some d, op, ty, pos, after, some (j, false)⟩ :: os) L Hs Q := wo_out hj rfl hd k
theorem O0 {j : Nat} {op : Op} (hj : gd ops L j = some (.bool false) := by exact rfl) (hd : Nat.blt d n = true := by exact rfl) (k : wo r P n ops os ((d, undef) :: L) Hs Q) : wo r P n ops (⟨some d, op, ty, pos, after, some (j, true)⟩ :: os) L Hs Q := wo_out hj rfl hd k
theorem Ou {j : Nat} {want : Bool} {op : Op} (hj : gd ops L j = some undef := by exact rfl) (hd : Nat.blt d n = true := by exact rfl) (k : wo r P n ops os ((d, undef) :: L) Hs Q) : wo r P n ops (⟨some d, op, ty, pos, after, some (j, want)⟩ :: os) L Hs Q := wo_outU hj rfl hd k
/-! Memory. -/
theorem Zd {td : TypeDesc} {b off : Nat} {l : List Value} (ht : P.underlying t = some td := by exact UndC.h) (hfl : flat td = true := by exact rfl) (hx : ev L x = some (.pointer (some ⟨b, off, none⟩)) := by exact rfl) (hr : RdCe b l Hs := by exact inferInstance) (hv : l[off]? = some v := by exact rfl) (hd : Nat.blt d n = true := by exact rfl)
    (k : wo r P n ops os ((d, v) :: L) Hs Q) : wo r P n ops (⟨some d, .load t x, ty, pos, after, none⟩ :: os) L Hs Q := r_load ht hfl hx (hr := hr) hv hd k
theorem Zm {td : TypeDesc} {b off : Nat} {l : List Value} (vs : List Value) {ti : TypeInfo} (ht : P.underlying t = some td := by exact UndC.h) (hfl : flat td = false := by exact rfl) (hi : P.info? t = some ti := by exact InfC.h) (hx : ev L x = some (.pointer (some ⟨b, off, none⟩)) := by exact rfl) (hr : RdCe b l Hs := by exact inferInstance) (hl : off + ti.size ≤ l.length := by exact Nat.le_of_ble_eq_true rfl) (hv : (l.drop off).take ti.size = vs := by rfl) (hd : Nat.blt d n = true := by exact rfl)
    (k : wo r P n ops os ((d, .agg vs.toArray) :: L) Hs Q) : wo r P n ops (⟨some d, .load t x, ty, pos, after, none⟩ :: os) L Hs Q := r_loada ht hfl hi hx (hr := hr) hl hv hd k
theorem Zo {ti : TypeInfo} {b off : Nat} {T : TypeId} {l : List Value} {Gs : List HP} (hi : P.info? t = some ti := by exact InfC.h) (hs : Nat.beq ti.size 1 = true := by exact rfl) (hx : ev L x = some (.pointer (some ⟨b, off, none⟩)) := by exact rfl) (hy : ev L y = some v := by exact rfl) (hu : StC b off v T l Hs Gs := by exact inferInstance) (h1 : oneCell v = true := by exact rfl) (ho : off < l.length := by first | (simp; done) | (simp; omega))
    (k : wo r P n ops os L Gs Q) : wo r P n ops (⟨none, .store t x y, ty, pos, after, none⟩ :: os) L Hs Q := r_store hi hs hx hy (hu := hu) h1 ho k
theorem Zp {ti : TypeInfo} {b off : Nat} {T : TypeId} {l vs : List Value} {Gs : List HP} (hi : P.info? t = some ti := by exact InfC.h) (hx : ev L x = some (.pointer (some ⟨b, off, none⟩)) := by exact rfl) (hy : ev L y = some (.agg vs.toArray) := by exact rfl) (hs : Nat.beq ti.size vs.length = true := by exact rfl) (hu : StsC b off vs T l Hs Gs := by exact inferInstance) (h1 : vs.all oneCell = true := by exact rfl) (ho : off + vs.length ≤ l.length := by first | (simp; done) | (simp; omega))
    (k : wo r P n ops os L Gs Q) : wo r P n ops (⟨none, .store t x y, ty, pos, after, none⟩ :: os) L Hs Q := r_storea hi hs hx hy (hu := hu) h1 ho k
theorem Zc (zs : List Value) {ti : TypeInfo} {z : Value} (hi : P.info? t = some ti := by exact InfC.h) (hz : ti.zero = some z := by exact rfl) (hzs : z.cells.toList = zs := by exact rfl) (hd : Nat.blt d n = true := by exact rfl)
    (k : ∀ b, wo r P n ops os ((d, .pointer (some ⟨b, 0, none⟩)) :: L) (Ce b t zs :: Hs) Q) : wo r P n ops (⟨some d, .alloc t, ty, pos, after, none⟩ :: os) L Hs Q := wo_alloc hi hz hzs hd k
theorem Zx (vs : List Value) (hx : ev L x = some v := by exact rfl) (hv : v.cells.toList = vs := by exact rfl) (hd : Nat.blt d n = true := by exact rfl)
    (k : ∀ b, wo r P n ops os ((d, .pointer (some ⟨b, 0, none⟩)) :: L) (Ce b t vs :: Hs) Q) : wo r P n ops (⟨some d, .box t x, ty, pos, after, none⟩ :: os) L Hs Q := wo_box hx hv hd k
theorem Zv {ti : TypeInfo} {z : Value} {len : Nat} {ps : List (Nat × Operand)} (vs : List Value) {cs : List Value} (ht : P.underlying t = some (.slice e) := by exact UndC.h) (hi : P.info? e = some ti := by exact InfC.h) (hz : ti.zero = some z := by exact rfl) (hzs : Nat.beq z.cells.size ti.size = true := by exact rfl)
    (hps : evps L ps = some (parts 0 vs) := by exact rfl) (hlen : vs.length = len := by exact rfl) (hv : vs.all (fun v => Nat.beq v.cells.size ti.size) = true := by exact rfl) (hsm : Nat.ble (vs.length * ti.size) 16777216 = true := by exact rfl) (hcs : vs.flatMap (·.cells.toList) = cs := by exact rfl) (hd : Nat.blt d n = true := by exact rfl)
    (k : ∀ b, wo r P n ops os ((d, .slice (some ⟨b, 0, none⟩) len len) :: L) (Ce b e cs :: Hs) Q) : wo r P n ops (⟨some d, .buildSlice t len ps.toArray, ty, pos, after, none⟩ :: os) L Hs Q := r_buildSliceL vs ht hi hz hzs hps hlen hv hsm hcs hd k
theorem Ye (sz : Nat) {a : Option Addr} {kd : IntKind} {i : Int} {m len cap kk : Nat} {ti : TypeInfo} {xs : List Value} (ht : P.underlying t = some (.slice e) := by exact UndC.h) (hi : P.info? e = some ti := by exact InfC.h) (hsz : ti.size = sz := by exact rfl)
    (hx : ev L x = some (.slice a len cap) := by exact rfl) (hy : ev L y = some (.int kd i) := by exact rfl) (hm : i = (m : Int) := by exact rfl) (h : m < len := by omega) (hr : RdSl a xs Hs := by exact inferInstance) (hne : 0 < xs.length := by first | (rw [List.length_map]; omega) | exact flat_pos (by omega) (fun _ => rfl) | (simp; omega)) (hk : m * sz = kk := by first | exact Nat.mul_one _ | exact rfl) (hd : Nat.blt d n = true := by exact rfl)
    (k : wo r P n ops os ((d, .pointer (elemA a kk)) :: L) Hs Q) : wo r P n ops (⟨some d, .indexAddr t x y, ty, pos, after, none⟩ :: os) L Hs Q := r_elemAddr ht hi hsz hx hy hm h (hr := hr) hne hk hd k
theorem Ym {a : Option Addr} {q : Nat} {xs : List Value} {td : TypeDesc} (ht : P.underlying t = some td := by exact UndC.h) (hfl : flat td = true := by exact rfl) (hx : ev L x = some (.pointer (elemA a q)) := by exact rfl) (hr : RdSl a xs Hs := by exact inferInstance) (hv : xs[q]? = some v := by first | exact get_map (by omega) | exact rfl | (rw [get_field (fun _ => rfl) (by decide) (by omega)]; rfl)) (hd : Nat.blt d n = true := by exact rfl)
    (k : wo r P n ops os ((d, v) :: L) Hs Q) : wo r P n ops (⟨some d, .load t x, ty, pos, after, none⟩ :: os) L Hs Q := r_eload ht hfl hx (hr := hr) hv hd k
/-! Regions that draw. -/
theorem Di {o : Oper} {q : Nat} {ls : Array Bool} {A : List HP} (i : Nat) (hnd : noDefer ops = true := by exact rfl) (ho : ops[i]? = some o := by exact rfl) (hd : dstOk n o.dst = true := by exact rfl) (hr : (Region.ready .any ops ls).contains i = true := by kernel_rfl) (hf : free ops ls i o = true := by kernel_rfl)
    (t : Tells P n ops o A L v) (k : An r P n ops A Q q (ls.setIfInBounds i true) (putL o.dst v L) Hs) : An r P n ops A Q (q + 1) ls L Hs := d_first i hnd ho hd hr hf t k
theorem Dw {id : Nat} {l : List Oper} {Rs : List HP} (A : List HP) (hc : c = .region id l.toArray true := by exact rfl) (hm : P.follows .mixedOrders = true := by exact rfl) (hnd : noDefer l.toArray = true := by exact rfl) (hp : PicksC A Hs Rs := by exact inferInstance)
    (k : An r P n l.toArray A Q l.length (Array.replicate l.length false) L Rs) : wc r P n c L Hs Q := d_draw hc hm hnd A (hp := hp) k
theorem Dn {o : Oper} {q : Nat} {ls : Array Bool} {A : List HP} (j : Nat) (hr : Region.ready .any ops ls = [j] := by kernel_rfl) (ho : ops[j]? = some o := by exact rfl) (k : AnOp r P n ops A o (fun L' Hs' => An r P n ops A Q q (ls.setIfInBounds j true) L' Hs') L Hs) :
    An r P n ops A Q (q + 1) ls L Hs := d_next j hr ho k
theorem Dd {ls : Array Bool} {A : List HP} (hr : Region.ready .any ops ls = [] := by kernel_rfl) (k : tw n Q .normal L (A ++ Hs)) : An r P n ops A Q 0 ls L Hs := d_done hr k
section
variable {A : List HP} {dst : Option Tmp} {op : Op} {j : Nat}
theorem Uv (h : PV P n L op ty v := by exact Pv) : Tells P n ops ⟨dst, op, ty, pos, after, none⟩ A L v := tl_pv h
theorem Ux (h : PV P n L op ty v) : Tells P n ops ⟨dst, op, ty, pos, after, none⟩ A L v := tl_pv h
theorem U0 (hj : gd ops L j = some (.bool false) := by exact rfl) (h : Tells P n ops ⟨dst, op, ty, pos, after, none⟩ A L v) : Tells P n ops ⟨dst, op, ty, pos, after, some (j, false)⟩ A L v := tl_in hj h
theorem Uf {i b off : Nat} {fs : Array Field} {fd : Field} {ti : TypeInfo} {m : Nat} (k0 : Nat) (ft : TypeId) (ht : P.underlying t = some (.struct fs) := by exact UndC.h) (hf : fs[i]? = some fd := by exact rfl) (hft : fd.type = ft := by exact rfl) (hi : P.info? ft = some ti := by exact InfC.h) (hz : Nat.beq ti.size 0 = false := by exact rfl)
    (hx : ev L x = some (.pointer (some ⟨b, off, none⟩)) := by exact rfl) (hk : fd.offset = k0 := by exact rfl) (hm : off + k0 = m := by first | exact Nat.zero_add _ | exact Nat.add_zero _ | exact rfl) : Tells P n ops ⟨dst, .fieldAddr t x i, ty, pos, after, none⟩ A L (.pointer (some ⟨b, m, none⟩)) :=
 tl_pv (pv_fieldAddrk ht hf (by rw [hft]; exact hi) hz hx hk hm)
theorem Ul {td : TypeDesc} {b off : Nat} {l : List Value} (ht : P.underlying t = some td := by exact UndC.h) (hfl : flat td = true := by exact rfl) (hx : ev L x = some (.pointer (some ⟨b, off, none⟩)) := by exact rfl) (hr : RdCe b l A := by exact inferInstance) (hv : l[off]? = some v := by exact rfl) :
    Tells P n ops ⟨dst, .load t x, ty, pos, after, none⟩ A L v := tl_load ht hfl hx (hr := hr) hv
end
theorem Ps {ps : List (Nat × Operand)} {pv : List (Nat × Value)} {fields : Array Field} {ti : TypeInfo} {z : Value} {zs : List Value} {pl : List (Nat × Nat)} (vs : List Value) (ht : P.underlying t = some (.struct fields) := by exact UndC.h) (hi : P.info? t = some ti := by exact InfC.h) (hz : ti.zero = some z := by exact rfl) (hzs : z.cells.toList = zs := by exact rfl)
    (hpl : fields.toList.mapM (fun f => (P.info? f.type).map fun i => (f.offset, i.size)) = some pl := by exact rfl) (hps : evps L ps = some pv := by exact rfl) (hf : fillL (fun i => pl[i]?) zs pv = some vs := by exact rfl) : PV P n L (.build t ps.toArray) ty (.agg vs.toArray) := pv_buildS ht hi hz hzs hpl hps hf
section
variable {A : List HP} {K : Loc → List HP → Prop}
theorem Nl {ti : TypeInfo} {z : Value} {len : Nat} {ps : List (Nat × Operand)} (vs : List Value) {cs : List Value} (ht : P.underlying t = some (.slice e) := by exact UndC.h) (hi : P.info? e = some ti := by exact InfC.h) (hz : ti.zero = some z := by exact rfl) (hzs : Nat.beq z.cells.size ti.size = true := by exact rfl)
    (hps : evps L ps = some (parts 0 vs) := by exact rfl) (hlen : vs.length = len := by exact rfl) (hv : vs.all (fun v => Nat.beq v.cells.size ti.size) = true := by exact rfl) (hsm : Nat.ble (vs.length * ti.size) 16777216 = true := by exact rfl) (hcs : vs.flatMap (·.cells.toList) = cs := by exact rfl) (hd : Nat.blt d n = true := by exact rfl)
    (k : ∀ b, K ((d, .slice (some ⟨b, 0, none⟩) len len) :: L) (Ce b e cs :: Hs)) : AnOp r P n ops A ⟨some d, .buildSlice t len ps.toArray, ty, pos, after, none⟩ K L Hs := an_buildSliceL vs ht hi hz hzs hps hlen hv hsm hcs hd k
theorem No {ti : TypeInfo} {b off : Nat} {T : TypeId} {l : List Value} {Gs : List HP} (hi : P.info? t = some ti := by exact InfC.h) (hs : Nat.beq ti.size 1 = true := by exact rfl) (hx : ev L x = some (.pointer (some ⟨b, off, none⟩)) := by exact rfl) (hy : ev L y = some v := by exact rfl) (hu : StC b off v T l Hs Gs := by exact inferInstance) (h1 : oneCell v = true := by exact rfl) (ho : off < l.length := by first | (simp; done) | (simp; omega))
    (k : K L Gs) : AnOp r P n ops A ⟨none, .store t x y, ty, pos, after, none⟩ K L Hs := an_store hi hs hx hy (hu := hu) h1 ho k
theorem Na {ti : TypeInfo} {b off : Nat} {T : TypeId} {l vs : List Value} {Gs : List HP} (hi : P.info? t = some ti := by exact InfC.h) (hx : ev L x = some (.pointer (some ⟨b, off, none⟩)) := by exact rfl) (hy : ev L y = some (.agg vs.toArray) := by exact rfl) (hs : Nat.beq ti.size vs.length = true := by exact rfl) (hu : StsC b off vs T l Hs Gs := by exact inferInstance) (h1 : vs.all oneCell = true := by exact rfl) (ho : off + vs.length ≤ l.length := by first | (simp; done) | (simp; omega))
    (k : K L Gs) : AnOp r P n ops A ⟨none, .store t x y, ty, pos, after, none⟩ K L Hs := an_storea hi hs hx hy (hu := hu) h1 ho k
end
/-! Several at once. -/
theorem Qc {id : Nat} {l : List Oper} (h : c = .seq (sA c) (sB c) := by exact rfl) (h2 : sA c = .region id l.toArray false := by exact rfl) (k : wo r P n l.toArray l L Hs (seqO r P (sB c) Q)) : wc r P n c L Hs Q := p_seq h (p_region h2 k)
section
variable {ty1 ty2 : TypeId} {d1 d2 : Nat} {pos1 pos2 : String} {after1 after2 : Array Edge} {o1 o2 : Op} {v1 v2 : Value}
theorem Qv (h1 : PV P n L o1 ty1 v1 := by exact Pv) (hd1 : Nat.blt d1 n = true := by exact rfl) (h2 : PV P n ((d1, v1) :: L) o2 ty2 v2 := by exact Pv) (hd2 : Nat.blt d2 n = true := by exact rfl) (k : wo r P n ops os ((d2, v2) :: (d1, v1) :: L) Hs Q) :
    wo r P n ops (⟨some d1, o1, ty1, pos1, after1, none⟩ :: ⟨some d2, o2, ty2, pos2, after2, none⟩ :: os) L Hs Q := wo_pv h1 hd1 (wo_pv h2 hd2 k)
theorem Qx {b off : Nat} {l : List Value} {td : TypeDesc} {i : Nat} {fs : Array Field} {fd : Field} {ti : TypeInfo} {m : Nat} {t2 : TypeId} (k0 : Nat) (ft : TypeId) (ht : P.underlying t = some (.struct fs) := by exact UndC.h) (hf : fs[i]? = some fd := by exact rfl) (hft : fd.type = ft := by exact rfl) (hi : P.info? ft = some ti := by exact InfC.h) (hz : Nat.beq ti.size 0 = false := by exact rfl)
    (hx : ev L x = some (.pointer (some ⟨b, off, none⟩)) := by exact rfl) (hk : fd.offset = k0 := by exact rfl) (hm : off + k0 = m := by first | exact Nat.zero_add _ | exact Nat.add_zero _ | exact rfl) (hd1 : Nat.blt d1 n = true := by exact rfl)
    (ht2 : P.underlying t2 = some td := by exact UndC.h) (hfl : flat td = true := by exact rfl) (hy : ev ((d1, .pointer (some ⟨b, m, none⟩)) :: L) y = some (.pointer (some ⟨b, m, none⟩)) := by exact rfl) (hr : RdCe b l Hs := by exact inferInstance) (hv : l[m]? = some v2 := by exact rfl) (hd2 : Nat.blt d2 n = true := by exact rfl)
    (k : wo r P n ops os ((d2, v2) :: (d1, .pointer (some ⟨b, m, none⟩)) :: L) Hs Q) : wo r P n ops (⟨some d1, .fieldAddr t x i, ty1, pos1, after1, none⟩ :: ⟨some d2, .load t2 y, ty2, pos2, after2, none⟩ :: os) L Hs Q :=
 wo_pv (pv_fieldAddrk ht hf (by rw [hft]; exact hi) hz hx hk hm) hd1 (r_load ht2 hfl hy (hr := hr) hv hd2 k)
end
theorem J1 {j : Nat} {op : Op} (hj : gd ops L j = some (.bool true) := by exact rfl) (h : PV P n L op ty v := by exact Pv) (hd : Nat.blt d n = true := by exact rfl) (k : wo r P n ops os ((d, v) :: L) Hs Q) : wo r P n ops (⟨some d, op, ty, pos, after, some (j, true)⟩ :: os) L Hs Q := wo_in hj (wo_pv h hd k)
theorem J0 {j : Nat} {op : Op} (hj : gd ops L j = some (.bool false) := by exact rfl) (h : PV P n L op ty v := by exact Pv) (hd : Nat.blt d n = true := by exact rfl) (k : wo r P n ops os ((d, v) :: L) Hs Q) : wo r P n ops (⟨some d, op, ty, pos, after, some (j, false)⟩ :: os) L Hs Q := wo_in hj (wo_pv h hd k)
theorem Dv {q : Nat} {ls : Array Bool} {A : List HP} {dst : Option Tmp} {op : Op} (i : Nat) (hnd : noDefer ops = true := by exact rfl) (ho : ops[i]? = some ⟨dst, op, ty, pos, after, none⟩ := by exact rfl) (hd : dstOk n dst = true := by exact rfl) (hr : (Region.ready .any ops ls).contains i = true := by kernel_rfl) (hf : free ops ls i ⟨dst, op, ty, pos, after, none⟩ = true := by kernel_rfl)
    (h : PV P n L op ty v := by exact Pv) (k : An r P n ops A Q q (ls.setIfInBounds i true) (putL dst v L) Hs) : An r P n ops A Q (q + 1) ls L Hs := d_first i hnd ho hd hr hf (tl_pv h) k
theorem D1 {q j : Nat} {ls : Array Bool} {A : List HP} {dst : Option Tmp} {op : Op} (i : Nat) (hnd : noDefer ops = true := by exact rfl) (ho : ops[i]? = some ⟨dst, op, ty, pos, after, some (j, false)⟩ := by exact rfl) (hd : dstOk n dst = true := by exact rfl) (hr : (Region.ready .any ops ls).contains i = true := by kernel_rfl) (hf : free ops ls i ⟨dst, op, ty, pos, after, some (j, false)⟩ = true := by kernel_rfl)
    (hj : gd ops L j = some (.bool true) := by exact rfl) (k : An r P n ops A Q q (ls.setIfInBounds i true) (putL dst undef L) Hs) : An r P n ops A Q (q + 1) ls L Hs := d_first i hnd ho hd hr hf (tl_out hj rfl) k
theorem DP0 {q : Nat} {ls : Array Bool} {A : List HP} {dst : Option Tmp} {z x y : Operand} (i : Nat) (hnd : noDefer ops = true := by exact rfl) (ho : ops[i]? = some ⟨dst, .pick z x y, ty, pos, after, none⟩ := by exact rfl) (hd : dstOk n dst = true := by exact rfl) (hr : (Region.ready .any ops ls).contains i = true := by kernel_rfl) (hf : free ops ls i ⟨dst, .pick z x y, ty, pos, after, none⟩ = true := by kernel_rfl)
    (hz : ev L z = some (.bool false) := by exact rfl) (hy : ev L y = some v := by exact rfl) (k : An r P n ops A Q q (ls.setIfInBounds i true) (putL dst v L) Hs) : An r P n ops A Q (q + 1) ls L Hs := d_first i hnd ho hd hr hf (tl_pv (pv_pick_f hz hy)) k
theorem DP1 {q : Nat} {ls : Array Bool} {A : List HP} {dst : Option Tmp} {z x y : Operand} (i : Nat) (hnd : noDefer ops = true := by exact rfl) (ho : ops[i]? = some ⟨dst, .pick z x y, ty, pos, after, none⟩ := by exact rfl) (hd : dstOk n dst = true := by exact rfl) (hr : (Region.ready .any ops ls).contains i = true := by kernel_rfl) (hf : free ops ls i ⟨dst, .pick z x y, ty, pos, after, none⟩ = true := by kernel_rfl)
    (hz : ev L z = some (.bool true) := by exact rfl) (hx : ev L x = some v := by exact rfl) (k : An r P n ops A Q q (ls.setIfInBounds i true) (putL dst v L) Hs) : An r P n ops A Q (q + 1) ls L Hs := d_first i hnd ho hd hr hf (tl_pv (pv_pick_t hz hx)) k
theorem Ne {a : Option Addr} {kd : IntKind} {i : Int} {len cap kk : Nat} {ti : TypeInfo} {xs : List Value} {A : List HP} {K : Loc → List HP → Prop} (sz m : Nat) (ht : P.underlying t = some (.slice e) := by exact UndC.h) (hi : P.info? e = some ti := by exact InfC.h) (hsz : ti.size = sz := by exact rfl)
    (hx : ev L x = some (.slice a len cap) := by exact rfl) (hy : ev L y = some (.int kd i) := by exact rfl) (hm : i = (m : Int) := by exact rfl) (h : m < len := by omega) (hr : RdSl a xs Hs := by exact inferInstance) (hne : 0 < xs.length := by first | (rw [List.length_map]; omega) | exact flat_pos (by omega) (fun _ => rfl) | (simp; omega) | simp) (hk : m * sz = kk := by first | exact Nat.mul_one _ | exact rfl) (hd : Nat.blt d n = true := by exact rfl)
    (k : K ((d, .pointer (elemA a kk)) :: L) Hs) : AnOp r P n ops A ⟨some d, .indexAddr t x y, ty, pos, after, none⟩ K L Hs := an_elemAddr ht hi hsz hx hy hm h (hr := hr) hne hk hd k
theorem Yl {a : Option Addr} {q : Nat} {xs : List Value} {td : TypeDesc} (ht : P.underlying t = some td := by exact UndC.h) (hfl : flat td = true := by exact rfl) (hx : ev L x = some (.pointer (elemA a q)) := by exact rfl) (hr : RdSl a xs Hs := by exact inferInstance) (hv : xs[q]? = some v) (hd : Nat.blt d n = true := by exact rfl)
    (k : wo r P n ops os ((d, v) :: L) Hs Q) : wo r P n ops (⟨some d, .load t x, ty, pos, after, none⟩ :: os) L Hs Q := r_eload ht hfl hx (hr := hr) hv hd k
end
end
/-- The last digit of a number, as a byte. -/
def dgt (n : Nat) : UInt8 := UInt8.ofNat (48 + n % 10)
def decN (n : Nat) : List UInt8 := if n < 10 then [dgt n] else decN (n / 10) ++ [dgt n]
termination_by n
/-- What stands ahead of the last digits. -/
def preN (n : Nat) : List UInt8 := if n = 0 then [] else decN n
theorem dgt_toNat (n : Nat) : (dgt n).toNat = 48 + n % 10 := by
 have : 48 + n % 10 < 256 := by omega
 simp [dgt, UInt8.toNat_ofNat, Nat.mod_eq_of_lt this]
theorem decN_split (n : Nat) : decN n = preN (n / 10) ++ [dgt n] := by
 rw [decN, preN]
 by_cases h : n < 10
 · have : n / 10 = 0 := by omega
   simp [h, this]
 · have : ¬ (n / 10 = 0) := by omega
   simp [h, this]
theorem preN_pos {n : Nat} (h : 0 < n) : preN n = preN (n / 10) ++ [dgt n] := by
 rw [preN, if_neg (by omega)]; exact decN_split n
theorem decN_len (n : Nat) : (decN n).length ≤ n + 1 := by
 induction n using Nat.strongRecOn with
 | _ n ih =>
   rw [decN]
   split
   · simp
   · have := ih (n / 10) (by omega)
     simp only [List.length_append, List.length_singleton]
     omega
section
set_option maxRecDepth 100000
theorem digit_may_sp (n : Int) : SpF Tryz.prog 127 [vI n] (vB (decide (0 ≤ n ∧ n ≤ 1073741824))) := by
 refine Sp.body (n := 9) Tryz.call127 Tryz.func127 rfl rfl rfl ?_
 refine Qc (k:=Vv (k:=Wq (Qc (k:=Qv (k:=Vv (k:=Gi 2 (t:=fun h5 => ?_) (f:=fun h5 => ?_)))))))
 ·
  refine J1 (k:=J1 (k:=P1 (k:=Vv (k:=Wq (Zt (k:=?_))))))
  refine fin_ret () (vs := [_]) rfl (.tmp rfl .nil) ?_ trivial ent_nil
  simp [pack]; omega
 ·
  refine O0 (k:=O0 (k:=P0 (k:=Vv (k:=Wq (Zt (k:=?_))))))
  refine fin_ret () (vs := [_]) rfl (.tmp rfl .nil) ?_ trivial ent_nil
  simp [pack]; omega
theorem wrap_dgt (m : Nat) : IntKind.u8.wrap (48 + (m : Int) % 10) = ((dgt m).toNat : Int) := by
 rw [dgt_toNat, IntWalk.u8_in _ (by omega)]; omega
theorem digit_Dec_sp (n : Nat) (h : n ≤ 1073741824) : SpF Tryz.prog 78 [vI n] (vS (decN n)) := by
 refine Sp.body (n := 28) Tryz.call78 Tryz.func78 rfl rfl rfl ?_
 refine Qc (k:=Vv (k:=Wq (Za (k:=Qc (k:=Vv (k:=?_))))))
 refine r_callF (digit_may_sp n) rfl rfl rfl ?_
 refine Vv (k:=Wq (Zi (t:=fun h6 => ?_) (f:=fun h6 => ?_)))
 ·
  exfalso; exact h6 ⟨by omega, by omega⟩
  --done
 ·
  refine Zk (k:=Ya (Qc (k:=Qv (k:=Vv (k:=?_)))))
  refine wo_pv (pv_conv rfl Tryz.underlying3 Tryz.underlying5) rfl ?_
  refine Zv [_] (cs := [_]) (k:=fun b11 => ?_)
  refine r_b2s (l := [dgt n]) Tryz.underlying89 Tryz.underlying9 Tryz.underlying5 rfl (by simp [vUs, wrap_dgt]) (by simp) rfl ?_
  refine Vv (k:=Wq (Za (k:=Qc (k:=Qv (k:=Vv (k:=Wq (Zb (k:=?_))))))))
  refine p_loop (fun (i : { p : Nat × List UInt8 // preN p.1 ++ p.2 = decN n ∧ p.1 ≤ n }) => [(0, vI i.1.1), (3, vS i.1.2)]) (fun (i : { p : Nat × List UInt8 // preN p.1 ++ p.2 = decN n ∧ p.1 ≤ n }) => []) (fun (i : { p : Nat × List UInt8 // preN p.1 ++ p.2 = decN n ∧ p.1 ≤ n }) => i.1.1) rfl (⟨(n / 10, [dgt n]), (decN_split n).symm, by dsimp only; omega⟩) ?_ ?_ (fun i => ?_)
  · exact ⟨rfl, rfl, trivial⟩
  ·
   exact ent_pick
  obtain ⟨⟨m, out⟩, hi, hm⟩ := i
  have hlen := decN_len n
  rw [← hi, List.length_append] at hlen
  dsimp only at hi hm hlen
  try dsimp only
  refine Za (k:=Qc (k:=Qv (k:=Wq (Zi (t:=fun h16 => ?_) (f:=fun h16 => ?_)))))
  ·
   refine Zk (k:=Ya (Za (k:=Zb (k:=Zr (k:=Qv (k:=Vv (k:=?_)))))))
   refine wo_pv (pv_conv rfl Tryz.underlying3 Tryz.underlying5) rfl ?_
   refine Zv [_] (cs := [_]) (k:=fun b23 => ?_)
   refine r_b2s (l := [dgt m]) Tryz.underlying89 Tryz.underlying9 Tryz.underlying5 rfl (by simp [vUs, wrap_dgt]) (by simp) rfl ?_
   refine Qv (k:=Vv (k:=Wn (Yb (Ya (Zr (k:=Qv (k:=Vv (k:=Wn ?_))))))))
   refine to_inv ⟨(m / 10, dgt m :: out), ?_, ?_⟩ ?_ ⟨rfl, rfl, trivial⟩ ent_nil
   · rw [← hi, preN_pos (n := m) (by omega)]; simp
   · dsimp only; omega
   · dsimp only; omega
  ·
   refine Ze (k:=Xa (Xi (Xb (Ya (Qc (k:=Qv (k:=Wq (Zt (k:=?_)))))))))
   have hm0 : m = 0 := by omega
   subst hm0
   refine fin_ret () (vs := [_]) rfl (.tmp rfl .nil) ?_ trivial ent_nil
   rw [← hi]; simp [pack, preN]
end
abbrev Bs := List UInt8
/-- Decimals, read on. -/
def dn : Bs → Nat → Option Nat
 | [], n => some n
 | c :: r, n => if c.toNat < 48 ∨ 57 < c.toNat ∨ 1073741824 < n then none else dn r (10 * n + (c.toNat - 48))
def decP (n : Nat) : Bs := if n ≤ 1073741824 then decN n else []
def readDec (s : Bs) : Option Nat := match dn s 0 with
 | none => none
 | some n => if s = [] ∨ ¬ decP n = s then none else some n
theorem dn_step {s : Bs} {i : Nat} (h : i < s.length) (n : Nat) : dn (s.drop i) n = if (s.getD i 0).toNat < 48 ∨ 57 < (s.getD i 0).toNat ∨ 1073741824 < n then none else dn (s.drop (i + 1)) (10 * n + ((s.getD i 0).toNat - 48)) := by
 have e : s.drop i = s.getD i 0 :: s.drop (i + 1) := by
  rw [List.drop_eq_getElem_cons h]; simp [h]
 rw [e, dn]
structure Rw where
 key : Bs
 val : Bs
 gone : Bool
 deriving DecidableEq, Repr
def rowText (r : Rw) : Bs := decN r.key.length ++ [32] ++ (if r.gone then [45] ++ r.key else decN r.val.length ++ [32] ++ r.key ++ r.val)
def textOf (l : List Rw) : Bs := l.flatMap rowText
/-- Where a byte stands. -/
def numR (s : Bs) : Nat × Bs × Bool := match s.findIdx? (· == 32) with
 | none => (0, [], false)
 | some i => match readDec (s.take i) with
   | none => (0, s.drop (i + 1), false)
   | some n => (n, s.drop (i + 1), true)
def rowR (s : Bs) : Option (Rw × Bs) :=
 match numR s with
 | (_, _, false) => none
 | (k, s, true) =>
   if k < 1 ∨ 60 < k then none else
   if s.take 1 = [45] then
    (if (s.drop 1).length < k then none else some (⟨(s.drop 1).take k, [], true⟩, (s.drop 1).drop k))
   else match numR s with
    | (_, _, false) => none
    | (v, s, true) => if s.length < k ∨ s.length - k < v then none else some (⟨s.take k, (s.drop k).take v, false⟩, s.drop (k + v))
theorem numR_len (s : Bs) : (numR s).2.1.length ≤ s.length := by
 simp only [numR]
 split
 · simp
 · split <;> simp
theorem numR_lt (s : Bs) : s ≠ [] → (numR s).2.1.length < s.length := by
 intro h
 have hp := List.length_pos_iff.2 h
 simp only [numR]
 split
 · simpa using hp
 · rename_i i hi
   have := (List.findIdx?_eq_some_iff_getElem.1 hi).1
   split <;> simp <;> omega
theorem rowR_lt {s : Bs} {r : Rw} {t : Bs} (h : rowR s = some (r, t)) : t.length < s.length := by
 have hs : s ≠ [] := by
  intro e; subst e
  simp [rowR, numR] at h
 have h1 := numR_lt s hs
 simp only [rowR] at h
 split at h
 · cases h
 · rename_i k s1 e1
   rw [e1] at h1
   split at h
   · cases h
   · split at h
     · split at h
       · cases h
       · simp only [Option.some.injEq, Prod.mk.injEq] at h
         obtain ⟨_, rfl⟩ := h
         simp at h1 ⊢; omega
     · have h2 := numR_len s1
       split at h
       · cases h
       · rename_i v s2 e2
         rw [e2] at h2
         split at h
         · cases h
         · simp only [Option.some.injEq, Prod.mk.injEq] at h
           obtain ⟨_, rfl⟩ := h
           simp at h1 h2 ⊢; omega
def readR (s : Bs) : Option (List Rw) :=
 if s = [] then some [] else match h : rowR s with
  | none => none
  | some (r, t) => have := rowR_lt h; match readR t with
    | none => none
    | some l => some (r :: l)
termination_by s.length
theorem readR_nil : readR [] = some [] := by rw [readR]; simp
theorem readR_none {s : Bs} (h : s ≠ []) (hr : rowR s = none) : readR s = none := by
 rw [readR, if_neg h]
 split
 · rfl
 · rename_i r t e; rw [hr] at e; cases e
theorem readR_some {s t : Bs} {r : Rw} (h : s ≠ []) (hr : rowR s = some (r, t)) : readR s = (readR t).map (r :: ·) := by
 rw [readR, if_neg h]
 split
 · rename_i e; rw [hr] at e; cases e
 · rename_i r' t' e
   rw [hr] at e
   simp only [Option.some.injEq, Prod.mk.injEq] at e
   obtain ⟨rfl, rfl⟩ := e
   split <;> simp_all
section
set_option maxRecDepth 100000
theorem digit_DecP_sp (n : Nat) : SpF Tryz.prog 78 [vI n] (vS (decP n)) := by
 by_cases h : n ≤ 1073741824
 · rw [decP, if_pos h]; exact digit_Dec_sp n h
 · rw [decP, if_neg h]
   refine Sp.body (n := 28) Tryz.call78 Tryz.func78 rfl rfl rfl ?_
   refine Qc (k:=Vv (k:=Wq (Za (k:=Qc (k:=Vv (k:=?_))))))
   refine r_callF (digit_may_sp n) rfl rfl rfl ?_
   refine Vv (k:=Wq (Zi (t:=fun h6 => ?_) (f:=fun h6 => ?_)))
   ·
    refine Qc (k:=Vv (k:=Wq (Zt (k:=Va ?_))))
    exact fin_ret () (vs := [_]) rfl (.tmp rfl .nil) rfl trivial ent_nil
   ·
    exfalso; exact h6 (by omega)
    --done
theorem zb69ret6 {G : Prop} (h : G := by
    have hd := dn_step (s := s) (i := j) (by omega) n
    rw [hi, if_pos (by omega)] at hd
    refine fin_ret () (vs := [_, _]) rfl (.tmp rfl (.tmp rfl .nil)) ?_ trivial ent_nil
    simp [readDec, hd, pack]) : G := h
theorem zb69ret10 {G : Prop} (h : G := by
    have hjs : j = s.length := by omega
    subst hjs
    rw [List.drop_length, dn] at hi
    have hc : s = [] ∨ ¬ decP n = s := by first | exact .inl ‹s = []› | exact .inr ‹_›
    refine fin_ret () (vs := [_, _]) rfl (.tmp rfl (.tmp rfl .nil)) ?_ trivial ent_nil
    simp only [readDec, ← hi, if_pos hc]
    rfl) : G := h
theorem digit_ReadDec_sp (s : List UInt8) (hs : s.length ≤ 140737488355328) : SpF Tryz.prog 69 [vS s] (.tuple #[vI ((readDec s).getD 0 : Nat), vB (readDec s).isSome]) := by
 refine Sp.body (n := 43) Tryz.call69 Tryz.func69 rfl rfl rfl ?_
 refine Qc (k:=Qv (k:=Wq (Qc (k:=Vv (k:=Wq (Za (k:=Qc (k:=?_))))))))
 refine Qv (k:=Vv (k:=Wq (Zb (k:=?_))))
 refine p_loop (fun (i : { p : Nat × Nat // dn (s.drop p.1) p.2 = dn s 0 ∧ p.1 ≤ s.length ∧ p.2 ≤ 10737418249 }) => [(0, vS s), (7, vI s.length), (8, vI i.1.1), (4, vI i.1.2)]) (fun (i : { p : Nat × Nat // dn (s.drop p.1) p.2 = dn s 0 ∧ p.1 ≤ s.length ∧ p.2 ≤ 10737418249 }) => []) (fun (i : { p : Nat × Nat // dn (s.drop p.1) p.2 = dn s 0 ∧ p.1 ≤ s.length ∧ p.2 ≤ 10737418249 }) => s.length - i.1.1) rfl (⟨(0, 0), rfl, Nat.zero_le _, by omega⟩) ?_ ?_ (fun i => ?_)
 · exact ⟨rfl, rfl, rfl, rfl, trivial⟩
 ·
  exact ent_pick
 obtain ⟨⟨j, n⟩, hi, hj, hn⟩ := i
 dsimp only at hi hj hn
 try dsimp only
 refine Qc (k:=Vv (k:=Wq (Za (k:=Zi (t:=fun h9 => ?_) (f:=fun h9 => ?_)))))
 ·
  refine Zk (k:=Ya (Za (k:=Zb (k:=Qc (k:=Qv (k:=Wq (Za (k:=Qc (k:=?_)))))))))
  refine Qv (k:=Qv (k:=Vv (k:=Gi 4 (t:=fun h15 => ?_) (f:=fun h15 => ?_))))
  ·
   refine O1 (k:=O1 (k:=O1 (k:=O1 (k:=P1 (k:=Vv (k:=O1 (k:=O1 (k:=P1 (k:=Wq (Z1 (k:=Za (k:=?_))))))))))))
   refine Zr (k:=Qv (k:=Wq (Zt (k:=Va (Vb (Va (Vi (Vb (Va ?_)))))))))
   exact zb69ret6
  ·
   refine J0 (k:=J0 (k:=J0 (k:=J0 (k:=P0 (k:=Vv (k:=Gi 10 (t:=fun h21 => ?_) (f:=fun h21 => ?_)))))))
   ·
    refine O1 (k:=O1 (k:=P1 (k:=Wq (Z1 (k:=Qc (k:=Qv (k:=Wq (Zt (k:=Va ?_)))))))))
    refine Vb (Va (Vi (Vb (Va ?_))))
    exact zb69ret6
   ·
    refine J0 (k:=J0 (k:=P0 (k:=Wq (Zi (t:=fun h24 => ?_) (f:=fun h24 => ?_)))))
    ·
     refine Qc (k:=Qv (k:=Wq (Zt (k:=Va (Vb (Va (Vi (Vb (Va ?_)))))))))
     exact zb69ret6
    ·
     refine Zk (k:=Ya (Zr (k:=Qv (k:=Qv (k:=Vv (k:=?_))))))
     refine wo_pv (by first | exact pv_subu rfl rfl (by omega) | exact pv_subw rfl rfl) rfl ?_
     refine wo_pv (pv_conv_in rfl Tryz.underlying5 Tryz.underlying3 (by first | exact wrap_byte _ | exact wrap_u8 _ | exact i64_in' (by omega))) rfl ?_
     refine Qv (k:=Wn (Yb (Ya (Zr (k:=Qv (k:=Wn ?_))))))
     have hd := dn_step (s := s) (i := j) (by omega) n
     rw [hi, if_neg (by omega)] at hd
     refine to_inv ⟨(j + 1, 10 * n + ((s.getD j 0).toNat - 48)), hd.symm, ?_, ?_⟩ ?_ ⟨rfl, rfl, rfl, ?_, trivial⟩ ent_nil
     · dsimp only; omega
     · dsimp only; omega
     · dsimp only; omega
     · have e : (((10 * n + ((s.getD j 0).toNat - 48) : Nat)) : Int) = 10 * (n : Int) + (((s.getD j 0).toNat : Int) - 48) := by omega
       dsimp only; rw [e]; rfl
 ·
  refine Ze (k:=Xa (Xi (Xb (Ya (Za (k:=Qc (k:=Qv (k:=Vv (k:=Gi 2 (t:=fun h36 => ?_) (f:=fun h36 => ?_))))))))))
  ·
   refine O1 (k:=O1 (k:=O1 (k:=O1 (k:=P1 (k:=Wq (Z1 (k:=Qc (k:=Qv (k:=Wq ?_)))))))))
   refine Zt (k:=Va ?_)
   exact zb69ret10
  ·
   refine J0 (k:=I0 (k:=?_))
   refine r_callF (digit_DecP_sp n) rfl rfl rfl ?_
   refine J0 (k:=J0 (k:=P0 (k:=Wq (Zi (t:=fun h41 => ?_) (f:=fun h41 => ?_)))))
   ·
    refine Qc (k:=Qv (k:=Wq (Zt (k:=Va ?_))))
    exact zb69ret10
   ·
    refine Zk (k:=Ya (Qc (k:=Qv (k:=Vv (k:=Wq (Zt (k:=?_)))))))
    have hjs : j = s.length := by omega
    subst hjs
    rw [List.drop_length, dn] at hi
    refine fin_ret () (vs := [_, _]) rfl (.tmp rfl (.tmp rfl .nil)) ?_ trivial ent_nil
    simp_all [readDec, pack, ← hi]
end
section
set_option maxRecDepth 100000
/-- A Builder that one has, with what it holds. -/
def IsB (p : Nat) (l : List UInt8) : HP := Ex fun q1 : Value => Ex fun q2 : Value => Al [Pu ((q1 = .pointer none ∨ q1 = .pointer (some ⟨p, 0, none⟩)) ∧ (l.length = 0 → q2 = .slice none 0 0)), Ce p 174 [q1, q2], Row 5 1 q2 l.length (vUs l)]
theorem copyCheck_nil (p : Nat) (v : Value) : Sp1 Tryz.prog 172 [.pointer (some ⟨p, 0, none⟩)] [Ce p 174 [.pointer none, v]] (.tuple #[]) [Ce p 174 [.pointer (some ⟨p, 0, none⟩), v]] := by
 refine Sp.body (n := 20) Tryz.call172 Tryz.func172 rfl rfl rfl ?_
 refine Qc (k:=Qv (k:=Qx 0 172 (k:=?_)))
 refine wo_pv (pv_peql_nil Tryz.underlying172 rfl rfl) rfl ?_
 refine Wq (Zi (t:=fun h6 => ?_) (f:=fun h6 => ?_))
 ·
  refine Zr (k:=Qv (k:=?_))
  refine r_toUnsafe Tryz.underlying172 Tryz.underlying243 ti174 rfl rfl .here rfl rfl ?_
  refine wo_pv (pv_extern Tryz.func198 (by kernel_rfl) (by kernel_rfl) (by kernel_rfl) (e := Extern.AbiNoEscape.same) (by kernel_rfl) rfl (fun w => rfl)) rfl ?_
  refine r_fromUnsafe Tryz.underlying243 Tryz.underlying172 ti174 rfl (by kernel_rfl) rfl .here rfl ?_
  refine Vv (k:=Vf 0 172 (k:=Zo (k:=Wn ?_)))
  refine fin_end () (vs := []) (Cs := []) rfl .nil rfl trivial ?_
  exact ent_pick
 ·
  simp at h6
  --done
theorem copyCheck_own (p : Nat) (v : Value) : Sp1 Tryz.prog 172 [.pointer (some ⟨p, 0, none⟩)] [Ce p 174 [.pointer (some ⟨p, 0, none⟩), v]] (.tuple #[]) [Ce p 174 [.pointer (some ⟨p, 0, none⟩), v]] := by
 refine Sp.body (n := 20) Tryz.call172 Tryz.func172 rfl rfl rfl ?_
 refine Qc (k:=Qv (k:=Qx 0 172 (k:=?_)))
 refine wo_pv (pv_peql_nil Tryz.underlying172 rfl rfl) rfl ?_
 refine Wq (Zi (t:=fun h6 => ?_) (f:=fun h6 => ?_))
 ·
  simp at h6
  --done
 ·
  refine Qc (k:=Qv (k:=Qx 0 172 (k:=Vv (k:=?_))))
  refine wo_pv (pv_pneq_same Tryz.underlying172 ti174 rfl rfl) rfl ?_
  refine Wq (Zi (t:=fun h19 => ?_) (f:=fun h19 => ?_))
  ·
   cases h19
   --done
  ·
   refine Zk (k:=?_)
   refine fin_end () (vs := []) (Cs := []) rfl .nil rfl trivial ?_
   exact ent_pick
theorem copyCheck_sp (p : Nat) (q v : Value) (hq : q = .pointer none ∨ q = .pointer (some ⟨p, 0, none⟩)) : Sp1 Tryz.prog 172 [.pointer (some ⟨p, 0, none⟩)] [Ce p 174 [q, v]] (.tuple #[]) [Ce p 174 [.pointer (some ⟨p, 0, none⟩), v]] := by
 rcases hq with rfl | rfl
 · exact copyCheck_nil p v
 · exact copyCheck_own p v
theorem WriteString_sp (p : Nat) (l s : List UInt8) (h : l.length + s.length ≤ 140737488355328) : Sp1 Tryz.prog 126 [.pointer (some ⟨p, 0, none⟩), vS s] [IsB p l] (.tuple #[vI s.length, .nilIface]) [IsB p (l ++ s)] := by
 refine Sp.body (n := 19) Tryz.call126 Tryz.func126 rfl rfl rfl ?_
 refine wc_exi fun q1 => wc_exi fun q2 => wc_al (wc_pu fun hq => ?_)
 refine Qc (k:=Qv (k:=Wq (Qc (k:=Vv (k:=?_)))))
 refine r_call1 (copyCheck_sp p q1 q2 hq.1) rfl rfl rfl ?_
 refine Wq (Qc (k:=Qv (k:=Vv (k:=Qx 1 89 (k:=Vv (k:=?_))))))
 refine wo_opT (by intro c; simp) (opt_appendS Tryz.underlying89 Tryz.underlying9 ti5 rfl rfl rfl rfl rfl h (xs := vUs l)) rfl (fun x14 hx14 => ?_)
 obtain ⟨⟨a14, c14, rfl⟩, hx14⟩ := hx14
 refine Vv (k:=Vf 1 89 (k:=?_))
 refine r_store ti89 rfl rfl rfl rfl (by simp) ?_
 refine Wq (Qc (k:=Qv (k:=Qv (k:=Wq (Zt (k:=?_))))))
 refine fin_ret () (vs := [_, _]) (Cs := []) rfl (.tmp rfl (.tmp rfl .nil)) rfl trivial ?_
 refine ent_ex (.pointer (some ⟨p, 0, none⟩)) ?_
 refine ent_ex (.slice a14 (l.length + s.length) c14) ?_
 refine ent_al ?_
 have e1 : (l ++ s).length = l.length + s.length := List.length_append
 have e2 : vUs (l ++ s) = vUs l ++ vUs s := by simp [vUs]
 rw [e1, e2]
 refine ent_pu ⟨.inr rfl, fun e => hx14 e (hq.2 (by omega))⟩ ent_pick
theorem String_nil (p : Nat) (q1 : Value) : wc none Tryz.prog 14 (bodyOf Tryz.f117) (locs 0 [.pointer (some ⟨p, 0, none⟩)]) [Ce p 174 [q1, .slice none 0 0]] (finO Tryz.prog Tryz.f117 (fun _ : Unit => vS []) (fun _ => True) (fun _ => [])) := by
 refine Qc (k:=Vv (k:=Wq (Za (k:=Dw [Ce p 174 [q1, .slice none 0 0]] (k:=?_)))))
 refine Dv 0 (k:=Dv 1 (k:=Di 2 (t:=Uf 1 89) (k:=Di 3 (t:=Ul) (k:=?_))))
 refine d_first 4 rfl rfl rfl (by kernel_rfl) (by kernel_rfl) (tl_pv (pv_usd_nil rfl)) ?_
 refine Dv 5 (k:=Dv 6 (k:=Di 7 (t:=Uf 1 89) (k:=Di 8 (t:=Ul) (k:=Dv 9 (k:=?_)))))
 refine d_first 10 rfl rfl rfl (by kernel_rfl) (by kernel_rfl) (tl_pv (pv_us_none rfl rfl)) ?_
 refine Dv 11 (k:=Dd (k:=Ya (Zt (k:=?_))))
 exact fin_ret () (vs := [_]) (Cs := []) rfl (.tmp rfl .nil) rfl trivial ent_nil
theorem String_own (p : Nat) (q1 : Value) (g cap : Nat) (cur : List Value) (l : List UInt8) (h0 : l ≠ []) (hc : l.length ≤ cap) (hcur : cur.take l.length = vUs l) (h : l.length ≤ 140737488355328) :
    wc none Tryz.prog 14 (bodyOf Tryz.f117) (locs 0 [.pointer (some ⟨p, 0, none⟩)]) [Ce g 5 cur, Ce p 174 [q1, .slice (some ⟨g, 0, none⟩) l.length cap]] (finO Tryz.prog Tryz.f117 (fun _ : Unit => vS l) (fun _ => True) (fun _ => [])) := by
 have hl0 : l.length ≠ 0 := by simpa using h0
 refine Qc (k:=Vv (k:=Wq (Za (k:=Dw [Ce p 174 [q1, .slice (some ⟨g, 0, none⟩) l.length cap]] (k:=?_)))))
 refine Dv 0 (k:=Dv 1 (k:=Di 2 (t:=Uf 1 89) (k:=Di 3 (t:=Ul) (k:=?_))))
 refine d_first 4 rfl rfl rfl (by kernel_rfl) (by kernel_rfl) (tl_pv (pv_usd_row rfl (by omega))) ?_
 refine Dv 5 (k:=Dv 6 (k:=Di 7 (t:=Uf 1 89) (k:=Di 8 (t:=Ul) (k:=Dv 9 (k:=Dn 10 (k:=?_))))))
 refine an_opT (opt_us_row Tryz.underlying224 (by kernel_rfl) rfl rfl h0 (by omega) hcur) rfl (fun _ _ => ?_)
 refine Dv 11 (k:=Dd (k:=Ya (Zt (k:=?_))))
 exact fin_ret () (vs := [_]) (Cs := []) rfl (.tmp rfl .nil) rfl trivial ent_nil
theorem String_sp (p : Nat) (l : List UInt8) (h : l.length ≤ 140737488355328) : Sp1 Tryz.prog 117 [.pointer (some ⟨p, 0, none⟩)] [IsB p l] (vS l) [] := by
 refine Sp.body (n := 14) Tryz.call117 Tryz.func117 rfl rfl rfl ?_
 refine wc_exi fun q1 => wc_exi fun q2 => wc_al (wc_pu fun hq => ?_)
 refine wc_front (Row 5 1 q2 l.length (vUs l)) (wc_row (fun e1 e2 e3 => ?_) (fun g cap cur e1 e2 e3 e4 e5 e6 => ?_))
 · subst e1
   have e4 : l = [] := List.eq_nil_of_length_eq_zero e2
   subst e4
   exact String_nil p q1
 · subst e1
   have h0 : l ≠ [] := fun x => by have := hq.2 (by rw [x]; rfl); cases this
   exact String_own p q1 g cap cur l h0 e2 (by simpa using e6) h
end
def zeros (n : Nat) : Bs := List.replicate n 0
def wholeS (s : Bs) : Bs := s ++ zeros (32 - s.length)
/-- A disk: its sectors, whether it is armed, how many writes go well yet, how much of the one that is torn is kept, whether it is down. -/
structure Dk where
 secs : List Bs
 armed : Bool
 left : Int
 keep : Nat
 down : Bool
structure Dk.Ok (D : Dk) : Prop where
 secs : ∀ s ∈ D.secs, s.length = 32
 keep : D.keep ≤ 32
 many : D.secs.length ≤ 2000
def newD (n : Int) : Dk := ⟨List.replicate (max 1 (min n 2000)).toNat (wholeS []), false, 0, 0, false⟩
def Dk.write (D : Dk) (i : Int) (s : Bs) : Dk × Bool :=
 if D.down = true ∨ i < 0 ∨ (D.secs.length : Int) ≤ i ∨ 32 < s.length then (D, false)
 else if D.armed = true ∧ D.left = 0 then
  ({ D with secs := D.secs.set i.toNat ((wholeS s).take D.keep ++ (D.secs.getD i.toNat []).drop D.keep), down := true, armed := false }, false)
 else ({ D with secs := D.secs.set i.toNat (wholeS s), left := D.left - 1 }, true)
theorem wholeS_len {s : Bs} (h : s.length ≤ 32) : (wholeS s).length = 32 := by simp [wholeS, zeros]; omega
/-- A transaction's sectors. -/
def pieceS (s : Bs) (mark : UInt8) : Bs := [UInt8.ofNat s.length] ++ s ++ zeros (30 - s.length) ++ [mark]
def piecesS (s : Bs) : List Bs := if 30 < s.length then pieceS (s.take 30) 1 :: piecesS (s.drop 30) else [pieceS s 2]
termination_by s.length
decreasing_by simp; omega
/-- What an opened journal holds: its texts, the place behind the last one; on the way the text that is under way. -/
def scanS : List Bs → Nat → Bs → List Bs → Nat → List Bs × Nat
 | [], _, _, l, e => (l, e)
 | s :: r, i, t, l, e =>
   if 30 < (s.getD 0 0).toNat then (l, e)
   else if s.getD 31 0 = 1 then scanS r (i + 1) (t ++ (s.drop 1).take (s.getD 0 0).toNat) l e
   else if s.getD 31 0 = 2 then scanS r (i + 1) [] (l ++ [t ++ (s.drop 1).take (s.getD 0 0).toNat]) (i + 1)
   else (l, e)
theorem piecesS_more {s : Bs} (h : 30 < s.length) : piecesS s = pieceS (s.take 30) 1 :: piecesS (s.drop 30) := by rw [piecesS, if_pos h]
theorem piecesS_last {s : Bs} (h : ¬ 30 < s.length) : piecesS s = [pieceS s 2] := by rw [piecesS, if_neg h]
theorem piecesS_len (s : Bs) : 0 < (piecesS s).length ∧ (piecesS s).length ≤ s.length + 1 := by
 induction h : s.length using Nat.strongRecOn generalizing s with
 | _ n ih =>
   by_cases hs : 30 < s.length
   · rw [piecesS_more hs]
     have := ih (s.drop 30).length (by simp; omega) (s.drop 30) rfl
     simp only [List.length_cons, List.length_drop] at *
     omega
   · rw [piecesS_last hs]; simp
theorem pieceS_len {s : Bs} (h : s.length ≤ 30) (m : UInt8) : (pieceS s m).length = 32 := by simp [pieceS, zeros]; omega
theorem piecesS_mem {s p : Bs} (hp : p ∈ piecesS s) : p.length = 32 := by
 induction h : s.length using Nat.strongRecOn generalizing s with
 | _ n ih =>
   by_cases hs : 30 < s.length
   · rw [piecesS_more hs] at hp
     rcases List.mem_cons.1 hp with rfl | hp
     · exact pieceS_len (by simp; omega) _
     · exact ih (s.drop 30).length (by simp; omega) hp rfl
   · rw [piecesS_last hs] at hp
     simp at hp; subst hp
     exact pieceS_len (by omega) _
def scanD (D : Dk) : List Bs × Nat := scanS D.secs 0 [] [] 0
theorem scanS_len : ∀ (ss : List Bs) (i : Nat) (t : Bs) (l : List Bs) (e N : Nat), t.length + 30 * ss.length ≤ N → (∀ s ∈ l, s.length ≤ N) → ∀ s ∈ (scanS ss i t l e).1, s.length ≤ N := by
 intro ss
 induction ss with
 | nil => intro i t l e N h hl s hs; exact hl s hs
 | cons x r ih =>
   intro i t l e N h hl s hs
   simp only [List.length_cons] at h
   simp only [scanS] at hs
   split at hs
   · exact hl s hs
   · have hx : ((x.drop 1).take (x.getD 0 0).toNat).length ≤ 30 := by rw [List.length_take]; omega
     split at hs
     · exact ih _ _ _ _ N (by rw [List.length_append]; omega) hl s hs
     · split at hs
       · refine ih _ _ _ _ N (by rw [List.length_nil]; omega) (fun u hu => ?_) s hs
         rcases List.mem_append.1 hu with hu | hu
         · exact hl u hu
         · simp only [List.mem_singleton] at hu
           subst hu; rw [List.length_append]; omega
       · exact hl s hs
theorem scanS_end : ∀ (ss : List Bs) (i : Nat) (t : Bs) (l : List Bs) (e : Nat), l.length ≤ e → e ≤ i → (scanS ss i t l e).1.length ≤ (scanS ss i t l e).2 ∧ (scanS ss i t l e).2 ≤ i + ss.length := by
 intro ss
 induction ss with
 | nil => intro i t l e h1 h2; simp only [scanS, List.length_nil]; omega
 | cons x r ih =>
   intro i t l e h1 h2
   simp only [scanS, List.length_cons]
   split
   · dsimp only; omega
   · split
     · have := ih (i + 1) (t ++ (x.drop 1).take (x.getD 0 0).toNat) l e h1 (by omega); omega
     · split
       · have := ih (i + 1) [] (l ++ [t ++ (x.drop 1).take (x.getD 0 0).toNat]) (i + 1) (by rw [List.length_append, List.length_singleton]; omega) (Nat.le_refl _); omega
       · dsimp only; omega
theorem scanS_step {ss : List Bs} {i : Nat} (h : i < ss.length) (t : Bs) (l : List Bs) (e : Nat) : scanS (ss.drop i) i t l e =
    (if 30 < ((ss.getD i []).getD 0 0).toNat then (l, e)
    else if (ss.getD i []).getD 31 0 = 1 then scanS (ss.drop (i + 1)) (i + 1) (t ++ ((ss.getD i []).drop 1).take ((ss.getD i []).getD 0 0).toNat) l e
    else if (ss.getD i []).getD 31 0 = 2 then scanS (ss.drop (i + 1)) (i + 1) [] (l ++ [t ++ ((ss.getD i []).drop 1).take ((ss.getD i []).getD 0 0).toNat]) (i + 1)
    else (l, e)) := by
 have e1 : ss.drop i = ss.getD i [] :: ss.drop (i + 1) := by
  rw [List.drop_eq_getElem_cons h]; simp [h]
 rw [e1, scanS]
/-- A journal: its texts, the place behind the last one, whether the disk went down under it. -/
structure Jn where
 l : List Bs
 e : Nat
 down : Bool
def openJ (D : Dk) : Jn := ⟨(scanD D).1, (scanD D).2, false⟩
/-- Sectors written one behind the other: the disk, whether all were written. -/
def Dk.writes : Dk → Nat → List Bs → Dk × Bool
 | D, _, [] => (D, true)
 | D, i, p :: r => match D.write i p with
   | (D', true) => D'.writes (i + 1) r
   | (D', false) => (D', false)
/-- A commit: the journal, the disk, the answer (0: done; 6: full; 9: down). -/
def commitJ (J : Jn) (D : Dk) (s : Bs) : Jn × Dk × Nat :=
 if J.down = true then (J, D, 9)
 else if (D.secs.length : Int) - J.e < (piecesS s).length then (J, D, 6)
 else match D.writes J.e (piecesS s) with
  | (D', true) => (⟨J.l ++ [s], J.e + (piecesS s).length, false⟩, D', 0)
  | (D', false) => (⟨J.l, J.e, true⟩, D', 9)
end Go.Proofs.YtibccdcemcgkeaaGreat
