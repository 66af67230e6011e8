/- Texts of this proof, put together: Mini, MDec, MStore, MDisk, PSha, PDec, PCard. -/
import Derived.Test.YtdnoacgopfcpbaaGreatQ06
set_option linter.unusedVariables false
set_option linter.unusedSimpArgs false
namespace Go.Proofs.YtdnoacgopfcpbaaGreat
section
theorem Amc {α:Type} {f:α→List Value} {l:List α} (h:0<l.length) (hf:∀x,Nat.ble 1 (f x).length=true):0<(l.flatMap f).length:=by
 cases l with
 | nil=>simp at h
 | cons a r=>have:=Nat.le_of_ble_eq_true (hf a);rw[List.flatMap_cons,List.length_append];omega
section
variable {r:Option Nat} {P:Program} {n:Nat} {L:Loc} {Hs:List HP} {Q:Out} {c:Code} {ops:Array Oper} {os:List Oper} {ty:TypeId} {d:Nat} {pos:String} {after:Array Edge} {t e:TypeId} {x y:Operand} {v:Value}
theorem Za (h:c=.seq (sA c) (sB c):=by exact rfl) (k:wc r P n (sA c) L Hs (Aoq r P (sB c) Q)):wc r P n c L Hs Q:=AvZ h k
theorem Zr {id:Nat} {l:List Oper} (h:c=.region id l.toArray false:=by exact rfl) (k:wo r P n l.toArray l L Hs Q):wc r P n c L Hs Q:=ApW h k
theorem Zk (h:c=.skip:=by exact rfl) (k:tw n Q .normal L Hs):wc r P n c L Hs Q:=Awy h k
theorem Zl {l:Nat} (h:c=.label l:=by exact rfl) (k:tw n Q .normal L Hs):wc r P n c L Hs Q:=Avi h k
theorem Ze {id:Nat} (h:c=.exit id:=by exact rfl) (k:tw n Q (.exit id) L Hs):wc r P n c L Hs Q:=Awz id h k
theorem Zt (h:c=.ret:=by exact rfl) (k:tw n Q .ret L Hs):wc r P n c L Hs Q:=Axk h k
theorem Z1 (h:c=.cond (cX c) (cT c) (cE c):=by exact rfl) (hc:ev L (cX c)=some (.bool true):=by exact rfl) (k:wc r P n (cT c) L Hs Q):wc r P n c L Hs Q:=Awx h hc k
theorem Z0 (h:c=.cond (cX c) (cT c) (cE c):=by exact rfl) (hc:ev L (cX c)=some (.bool false):=by exact rfl) (k:wc r P n (cE c) L Hs Q):wc r P n c L Hs Q:=Avj h hc k
theorem Zb {id:Nat} (h:c=.block id (bB c):=by exact rfl) (k:wc r P n (bB c) L Hs (Aec id Q)):wc r P n c L Hs Q:=Avk id h k
theorem Zs (h:c=.scope (bB c):=by exact rfl) (k:wc r P n (bB c) L Hs (AlI Q)):wc r P n c L Hs Q:=AtX h k
theorem Zi {b:Bool} {p q:Prop} (h:c=.cond (cX c) (cT c) (cE c):=by exact rfl) (hc:ev L (cX c)=some (.bool b):=by exact rfl) (hb:BP b p q:=by first | exact BP.dec | exact BP.raw)
    (t:p→wc r P n (cT c) L Hs Q) (f:q→wc r P n (cE c) L Hs Q):wc r P n c L Hs Q:=AwB h hc (fun e=>t (hb.t e)) (fun e=>f (hb.f e))
theorem Gi {b:Bool} {p q:Prop} {s:Nat} (j:Nat) (hj:(ops[j]?).bind (·.dst)=some s:=by exact rfl) (hs:lk L s=some (.bool b):=by exact rfl) (hb:BP b p q:=by first | exact BP.dec | exact BP.raw)
    (t:p→wo r P n ops os ((s,.bool true)::L) Hs Q) (f:q→wo r P n ops os ((s,.bool false)::L) Hs Q):wo r P n ops os L Hs Q:=Asf hj hs (fun e=>t (hb.t e)) (fun e=>f (hb.f e))
theorem Gd {b:Bool} {p q:Prop} {s k:Nat} {ls:Array Bool} {A:List HP} (j:Nat) (hj:(ops[j]?).bind (·.dst)=some s:=by exact rfl) (hs:lk L s=some (.bool b):=by exact rfl) (hb:BP b p q:=by first | exact BP.dec | exact BP.raw)
    (t:p→An r P n ops A Q k ls ((s,.bool true)::L) Hs) (f:q→An r P n ops A Q k ls ((s,.bool false)::L) Hs):An r P n ops A Q k ls L Hs:=Auy hj hs (fun e=>t (hb.t e)) (fun e=>f (hb.f e))
theorem Wq {y:Code} (k:wc r P n y L Hs Q):wo r P n ops [] L Hs (Aoq r P y Q):=Axi k
theorem Wg {y:Code} (k:wc r P n y L Hs Q):wo r P n ops [] L Hs (Amo r P y Q):=Axj k
theorem Wn (k:tw n Q .normal L Hs):wo r P n ops [] L Hs Q:=AqD k
theorem Ya {y:Code} (k:wc r P n y L Hs Q):tw n (Aoq r P y Q) .normal L Hs:=Axa k
theorem Yb {id:Nat} (k:tw n Q .normal L Hs):tw n (Aec id Q) .normal L Hs:=Ato k
theorem Yg {y:Code} (k:wc r P n y L Hs Q):tw n (Amo r P y Q) .normal L Hs:=Axb k
theorem Xa {y:Code} {id:Nat} (k:tw n Q (.exit id) L Hs):tw n (Aoq r P y Q) (.exit id) L Hs:=k
theorem Xi {ι:Type} {Li:ι→Loc} {Hi:ι→List HP} {lt:ι→Prop} {id:Nat} (k:tw n Q (.exit id) L Hs):tw n (AsO n Li Hi lt Q) (.exit id) L Hs:=k
theorem Xb {id:Nat} (k:tw n Q .normal L Hs):tw n (Aec id Q) (.exit id) L Hs:=AmA k
theorem Xo {id id':Nat} (h:Nat.beq id' id=false:=by exact rfl) (k:tw n Q (.exit id') L Hs):tw n (Aec id Q) (.exit id') L Hs:=AlE h k
theorem Xs {id:Nat} (k:tw n Q (.exit id) L Hs):tw n (AlI Q) (.exit id) L Hs:=k
theorem Va {y:Code} (k:tw n Q .ret L Hs):tw n (Aoq r P y Q) .ret L Hs:=k
theorem Vi {ι:Type} {Li:ι→Loc} {Hi:ι→List HP} {lt:ι→Prop} (k:tw n Q .ret L Hs):tw n (AsO n Li Hi lt Q) .ret L Hs:=k
theorem Vb {id:Nat} (k:tw n Q .ret L Hs):tw n (Aec id Q) .ret L Hs:=k
theorem Vs (k:tw n Q .ret L Hs):tw n (AlI Q) .ret L Hs:=k
theorem Pv {op:Op} (h:PV P n L op ty v:=by first
 | exact Ave rfl | exact Asx rfl | exact Aa7 rfl rfl
 | exact AmM UndC.h rfl | exact AlQ UndC.h rfl
 | exact Avc rfl | exact AtN rfl
 | exact Awu rfl rfl (by omega) | exact Awj rfl rfl (by omega) | exact Awo rfl rfl (by omega)
 | exact Awp rfl rfl | exact Awq rfl rfl | exact Awr rfl rfl | exact Aws rfl rfl | exact Awt rfl rfl | exact Awn rfl rfl
 | exact Avb rfl rfl | exact Av6 rfl rfl | exact Av7 rfl rfl | exact Av8 rfl rfl | exact Av9 rfl rfl | exact Ava rfl rfl
 | exact AmK rfl | exact AmL rfl
 | exact AiI rfl rfl (by first | (simp only[List.length_append,List.length_take,List.length_drop,List.length_cons,List.length_nil];omega) | (simp;try omega))
 | exact ApL rfl rfl | exact AlR UndC.h rfl | exact ApM rfl rfl | exact ApN rfl rfl
 | exact Abt UndC.h rfl rfl rfl (by omega)
 | exact Acd UndC.h rfl rfl rfl (by omega) | exact Ac5 UndC.h rfl rfl rfl (by omega) | exact Ad9 UndC.h rfl rfl rfl rfl rfl (by omega) (by omega)
 | exact Awm rfl rfl (by omega) | exact Awl rfl rfl (by omega)):PV P n L op ty v:=h
theorem Vv {op:Op} (h:PV P n L op ty v:=by exact Pv) (hd:Nat.blt d n=true:=by exact rfl) (k:wo r P n ops os ((d,v)::L) Hs Q):wo r P n ops (⟨some d,op,ty,pos,after,none⟩::os) L Hs Q:=Aa6 h hd k
theorem Vf {i b off:Nat} {fs:Array Field} {fd:Field} {ti:TypeInfo} {m:Nat} (k0:Nat) (ft:TypeId) (ht:P.underlying t=some (.struct fs):=by exact UndC.h) (hf:fs[i]?=some fd:=by exact rfl) (hft:fd.type=ft:=by exact rfl) (hi:P.info? ft=some ti:=by exact InfC.h) (hz:Nat.beq ti.size 0=false:=by exact rfl)
    (hx:ev L x=some (.pointer (some ⟨b,off,none⟩)):=by exact rfl) (hk:fd.offset=k0:=by exact rfl) (hm:off+k0=m:=by first | exact Nat.zero_add _ | exact Nat.add_zero _ | exact rfl) (hd:Nat.blt d n=true:=by exact rfl) (k:wo r P n ops os ((d,.pointer (some ⟨b,m,none⟩))::L) Hs Q):wo r P n ops (⟨some d,.fieldAddr t x i,ty,pos,after,none⟩::os) L Hs Q :=
 Aa6 (AfK ht hf (by rw[hft];exact hi) hz hx hk hm) hd k
theorem Vx {op:Op} (h:PV P n L op ty v) (hd:Nat.blt d n=true:=by exact rfl) (k:wo r P n ops os ((d,v)::L) Hs Q):wo r P n ops (⟨some d,op,ty,pos,after,none⟩::os) L Hs Q:=Aa6 h hd k
theorem P1 {c x y:Operand} (hc:ev L c=some (.bool true):=by exact rfl) (hx:ev L x=some v:=by exact rfl) (hd:Nat.blt d n=true:=by exact rfl) (k:wo r P n ops os ((d,v)::L) Hs Q):wo r P n ops (⟨some d,.pick c x y,ty,pos,after,none⟩::os) L Hs Q:=Aa6 (Ak0 hc hx) hd k
theorem P0 {c x y:Operand} (hc:ev L c=some (.bool false):=by exact rfl) (hy:ev L y=some v:=by exact rfl) (hd:Nat.blt d n=true:=by exact rfl) (k:wo r P n ops os ((d,v)::L) Hs Q):wo r P n ops (⟨some d,.pick c x y,ty,pos,after,none⟩::os) L Hs Q:=Aa6 (Ak1 hc hy) hd k
theorem I1 {j:Nat} {dst:Option Tmp} {op:Op} (hj:gd ops L j=some (.bool true):=by exact rfl) (k:wo r P n ops (⟨dst,op,ty,pos,after,none⟩::os) L Hs Q):wo r P n ops (⟨dst,op,ty,pos,after,some (j,true)⟩::os) L Hs Q:=ArF hj k
theorem I0 {j:Nat} {dst:Option Tmp} {op:Op} (hj:gd ops L j=some (.bool false):=by exact rfl) (k:wo r P n ops (⟨dst,op,ty,pos,after,none⟩::os) L Hs Q):wo r P n ops (⟨dst,op,ty,pos,after,some (j,false)⟩::os) L Hs Q:=ArF hj k
theorem O1 {j:Nat} {op:Op} (hj:gd ops L j=some (.bool true):=by exact rfl) (hd:Nat.blt d n=true:=by exact rfl) (k:wo r P n ops os ((d,undef)::L) Hs Q):wo r P n ops (⟨some d,op,ty,pos,after,some (j,false)⟩::os) L Hs Q:=Atb hj rfl hd k
theorem O0 {j:Nat} {op:Op} (hj:gd ops L j=some (.bool false):=by exact rfl) (hd:Nat.blt d n=true:=by exact rfl) (k:wo r P n ops os ((d,undef)::L) Hs Q):wo r P n ops (⟨some d,op,ty,pos,after,some (j,true)⟩::os) L Hs Q:=Atb hj rfl hd k
theorem Ou {j:Nat} {want:Bool} {op:Op} (hj:gd ops L j=some undef:=by exact rfl) (hd:Nat.blt d n=true:=by exact rfl) (k:wo r P n ops os ((d,undef)::L) Hs Q):wo r P n ops (⟨some d,op,ty,pos,after,some (j,want)⟩::os) L Hs Q:=AuQ hj rfl hd k
theorem Zd {td:TypeDesc} {b off:Nat} {l:List Value} (ht:P.underlying t=some td:=by exact UndC.h) (hfl:Ae9 td=true:=by exact rfl) (hx:ev L x=some (.pointer (some ⟨b,off,none⟩)):=by exact rfl) (hr:AgK b l Hs:=by exact inferInstance) (hv:l[off]?=some v:=by exact rfl) (hd:Nat.blt d n=true:=by exact rfl)
    (k:wo r P n ops os ((d,v)::L) Hs Q):wo r P n ops (⟨some d,.load t x,ty,pos,after,none⟩::os) L Hs Q:=AtK ht hfl hx (hr:=hr) hv hd k
theorem Zm {td:TypeDesc} {b off:Nat} {l:List Value} (vs:List Value) {ti:TypeInfo} (ht:P.underlying t=some td:=by exact UndC.h) (hfl:Ae9 td=false:=by exact rfl) (hi:P.info? t=some ti:=by exact InfC.h) (hx:ev L x=some (.pointer (some ⟨b,off,none⟩)):=by exact rfl) (hr:AgK b l Hs:=by exact inferInstance) (hl:off+ti.size≤l.length:=by exact Nat.le_of_ble_eq_true rfl) (hv:(l.drop off).take ti.size=vs:=by rfl) (hd:Nat.blt d n=true:=by exact rfl)
    (k:wo r P n ops os ((d,.agg vs.toArray)::L) Hs Q):wo r P n ops (⟨some d,.load t x,ty,pos,after,none⟩::os) L Hs Q:=Aox ht hfl hi hx (hr:=hr) hl hv hd k
theorem Zo {ti:TypeInfo} {b off:Nat} {T:TypeId} {l:List Value} {Gs:List HP} (hi:P.info? t=some ti:=by exact InfC.h) (hs:Nat.beq ti.size 1=true:=by exact rfl) (hx:ev L x=some (.pointer (some ⟨b,off,none⟩)):=by exact rfl) (hy:ev L y=some v:=by exact rfl) (hu:StC b off v T l Hs Gs:=by exact inferInstance) (h1:Aay v=true:=by exact rfl) (ho:off<l.length:=by first | (simp;done) | (simp;omega))
    (k:wo r P n ops os L Gs Q):wo r P n ops (⟨none,.store t x y,ty,pos,after,none⟩::os) L Hs Q:=Agw hi hs hx hy (hu:=hu) h1 ho k
theorem Zp {ti:TypeInfo} {b off:Nat} {T:TypeId} {l vs:List Value} {Gs:List HP} (hi:P.info? t=some ti:=by exact InfC.h) (hx:ev L x=some (.pointer (some ⟨b,off,none⟩)):=by exact rfl) (hy:ev L y=some (.agg vs.toArray):=by exact rfl) (hs:Nat.beq ti.size vs.length=true:=by exact rfl) (hu:Amu b off vs T l Hs Gs:=by exact inferInstance) (h1:vs.all Aay=true:=by exact rfl) (ho:off+vs.length≤l.length:=by first | (simp;done) | (simp;omega))
    (k:wo r P n ops os L Gs Q):wo r P n ops (⟨none,.store t x y,ty,pos,after,none⟩::os) L Hs Q:=AlO hi hs hx hy (hu:=hu) h1 ho k
theorem Zc (zs:List Value) {ti:TypeInfo} {z:Value} (hi:P.info? t=some ti:=by exact InfC.h) (hz:ti.zero=some z:=by exact rfl) (hzs:z.cells.toList=zs:=by exact rfl) (hd:Nat.blt d n=true:=by exact rfl)
    (k:∀b,wo r P n ops os ((d,.pointer (some ⟨b,0,none⟩))::L) (Ce b t zs::Hs) Q):wo r P n ops (⟨some d,.alloc t,ty,pos,after,none⟩::os) L Hs Q:=Atd hi hz hzs hd k
theorem Zx (vs:List Value) (hx:ev L x=some v:=by exact rfl) (hv:v.cells.toList=vs:=by exact rfl) (hd:Nat.blt d n=true:=by exact rfl)
    (k:∀b,wo r P n ops os ((d,.pointer (some ⟨b,0,none⟩))::L) (Ce b t vs::Hs) Q):wo r P n ops (⟨some d,.box t x,ty,pos,after,none⟩::os) L Hs Q:=Aw9 hx hv hd k
theorem Zv {ti:TypeInfo} {z:Value} {len:Nat} {ps:List (Nat×Operand)} (vs:List Value) {cs:List Value} (ht:P.underlying t=some (.slice e):=by exact UndC.h) (hi:P.info? e=some ti:=by exact InfC.h) (hz:ti.zero=some z:=by exact rfl) (hzs:Nat.beq z.cells.size ti.size=true:=by exact rfl)
    (hps:evps L ps=some (AfB 0 vs):=by exact rfl) (hlen:vs.length=len:=by exact rfl) (hv:vs.all (fun v=>Nat.beq v.cells.size ti.size)=true:=by exact rfl) (hsm:Nat.ble (vs.length * ti.size) 16777216=true:=by exact rfl) (hcs:vs.flatMap (·.cells.toList)=cs:=by exact rfl) (hd:Nat.blt d n=true:=by exact rfl)
    (k:∀b,wo r P n ops os ((d,.slice (some ⟨b,0,none⟩) len len)::L) (Ce b e cs::Hs) Q):wo r P n ops (⟨some d,.buildSlice t len ps.toArray,ty,pos,after,none⟩::os) L Hs Q:=AmG vs ht hi hz hzs hps hlen hv hsm hcs hd k
theorem Ye (sz:Nat) {a:Option Addr} {kd:IntKind} {i:Int} {m len cap kk:Nat} {ti:TypeInfo} {xs:List Value} (ht:P.underlying t=some (.slice e):=by exact UndC.h) (hi:P.info? e=some ti:=by exact InfC.h) (hsz:ti.size=sz:=by exact rfl)
    (hx:ev L x=some (.slice a len cap):=by exact rfl) (hy:ev L y=some (.int kd i):=by exact rfl) (hm:i=(m:Int):=by exact rfl) (h:m<len:=by omega) (hr:Abu a xs Hs:=by exact inferInstance) (hne:0<xs.length:=by first | (rw[List.length_map];omega) | exact Amc (by omega) (fun _=>rfl) | (simp;omega)) (hk:m * sz=kk:=by first | exact Nat.mul_one _ | exact rfl) (hd:Nat.blt d n=true:=by exact rfl)
    (k:wo r P n ops os ((d,.pointer (Abr a kk))::L) Hs Q):wo r P n ops (⟨some d,.indexAddr t x y,ty,pos,after,none⟩::os) L Hs Q:=AaQ ht hi hsz hx hy hm h (hr:=hr) hne hk hd k
theorem Yf (o:Nat) (ft:TypeId) {i:Nat} {a:Option Addr} {q:Nat} {fs:Array Field} {fd:Field} {xs:List Value} {ti:TypeInfo} {kk:Nat} (ht:P.underlying t=some (.struct fs):=by exact UndC.h) (hf:fs[i]?=some fd:=by exact rfl) (hft:fd.type=ft:=by exact rfl) (hi:P.info? ft=some ti:=by exact InfC.h) (hz:Nat.beq ti.size 0=false:=by exact rfl)
    (hx:ev L x=some (.pointer (Abr a q)):=by exact rfl) (ho:fd.offset=o:=by exact rfl) (hk:q+o=kk:=by exact rfl) (hr:Abu a xs Hs:=by exact inferInstance) (hne:0<xs.length:=by first | (rw[List.length_map];omega) | exact Amc (by omega) (fun _=>rfl) | (simp;omega)) (hd:Nat.blt d n=true:=by exact rfl)
    (k:wo r P n ops os ((d,.pointer (Abr a kk))::L) Hs Q):wo r P n ops (⟨some d,.fieldAddr t x i,ty,pos,after,none⟩::os) L Hs Q:=Ahe ht hf (by rw[hft];exact hi) hz hx ho hk (hr:=hr) hne hd k
theorem Ym {a:Option Addr} {q:Nat} {xs:List Value} {td:TypeDesc} (ht:P.underlying t=some td:=by exact UndC.h) (hfl:Ae9 td=true:=by exact rfl) (hx:ev L x=some (.pointer (Abr a q)):=by exact rfl) (hr:Abu a xs Hs:=by exact inferInstance) (hv:xs[q]?=some v:=by first | exact Adg (by omega) | exact rfl | (rw[Af1 (fun _=>rfl) (by decide) (by omega)];rfl)) (hd:Nat.blt d n=true:=by exact rfl)
    (k:wo r P n ops os ((d,v)::L) Hs Q):wo r P n ops (⟨some d,.load t x,ty,pos,after,none⟩::os) L Hs Q:=AbS ht hfl hx (hr:=hr) hv hd k
theorem Di {o:Oper} {q:Nat} {ls:Array Bool} {A:List HP} (i:Nat) (hnd:Adc ops=true:=by exact rfl) (ho:ops[i]?=some o:=by exact rfl) (hd:Ad2 n o.dst=true:=by exact rfl) (hr:(Region.ready .any ops ls).contains i=true:=by kernel_rfl) (hf:AmV ops ls i o=true:=by kernel_rfl)
    (t:Tells P n ops o A L v) (k:An r P n ops A Q q (ls.setIfInBounds i true) (putL o.dst v L) Hs):An r P n ops A Q (q+1) ls L Hs:=Aa1 i hnd ho hd hr hf t k
theorem Dw {id:Nat} {l:List Oper} {Rs:List HP} (A:List HP) (hc:c=.region id l.toArray true:=by exact rfl) (hm:P.follows .mixedOrders=true:=by exact rfl) (hnd:Adc l.toArray=true:=by exact rfl) (hp:Ab4 A Hs Rs:=by exact inferInstance)
    (k:An r P n l.toArray A Q l.length (Array.replicate l.length false) L Rs):wc r P n c L Hs Q:=Auz hc hm hnd A (hp:=hp) k
theorem Dn {o:Oper} {q:Nat} {ls:Array Bool} {A:List HP} (j:Nat) (hr:Region.ready .any ops ls=[j]:=by kernel_rfl) (ho:ops[j]?=some o:=by exact rfl) (k:AnOp r P n ops A o (fun L' Hs'=>An r P n ops A Q q (ls.setIfInBounds j true) L' Hs') L Hs) :
    An r P n ops A Q (q+1) ls L Hs:=AwT j hr ho k
theorem Dd {ls:Array Bool} {A:List HP} (hr:Region.ready .any ops ls=[]:=by kernel_rfl) (k:tw n Q .normal L (A++Hs)):An r P n ops A Q 0 ls L Hs:=AwU hr k
section
variable {A:List HP} {dst:Option Tmp} {op:Op} {j:Nat}
theorem Uv (h:PV P n L op ty v:=by exact Pv):Tells P n ops ⟨dst,op,ty,pos,after,none⟩ A L v:=Aat h
theorem UP1 {z x y:Operand} (hz:ev L z=some (.bool true):=by exact rfl) (hx:ev L x=some v:=by exact rfl):Tells P n ops ⟨dst,.pick z x y,ty,pos,after,none⟩ A L v:=Aat (Ak0 hz hx)
theorem UP0 {z x y:Operand} (hz:ev L z=some (.bool false):=by exact rfl) (hy:ev L y=some v:=by exact rfl):Tells P n ops ⟨dst,.pick z x y,ty,pos,after,none⟩ A L v:=Aat (Ak1 hz hy)
theorem Ux (h:PV P n L op ty v):Tells P n ops ⟨dst,op,ty,pos,after,none⟩ A L v:=Aat h
theorem U1 (hj:gd ops L j=some (.bool true):=by exact rfl) (h:Tells P n ops ⟨dst,op,ty,pos,after,none⟩ A L v):Tells P n ops ⟨dst,op,ty,pos,after,some (j,true)⟩ A L v:=Aau hj h
theorem U0 (hj:gd ops L j=some (.bool false):=by exact rfl) (h:Tells P n ops ⟨dst,op,ty,pos,after,none⟩ A L v):Tells P n ops ⟨dst,op,ty,pos,after,some (j,false)⟩ A L v:=Aau hj h
theorem Uu {want:Bool} (hj:gd ops L j=some undef:=by exact rfl):Tells P n ops ⟨dst,op,ty,pos,after,some (j,want)⟩ A L undef:=Av1 hj rfl
theorem Uf {i b off:Nat} {fs:Array Field} {fd:Field} {ti:TypeInfo} {m:Nat} (k0:Nat) (ft:TypeId) (ht:P.underlying t=some (.struct fs):=by exact UndC.h) (hf:fs[i]?=some fd:=by exact rfl) (hft:fd.type=ft:=by exact rfl) (hi:P.info? ft=some ti:=by exact InfC.h) (hz:Nat.beq ti.size 0=false:=by exact rfl)
    (hx:ev L x=some (.pointer (some ⟨b,off,none⟩)):=by exact rfl) (hk:fd.offset=k0:=by exact rfl) (hm:off+k0=m:=by first | exact Nat.zero_add _ | exact Nat.add_zero _ | exact rfl):Tells P n ops ⟨dst,.fieldAddr t x i,ty,pos,after,none⟩ A L (.pointer (some ⟨b,m,none⟩)) :=
 Aat (AfK ht hf (by rw[hft];exact hi) hz hx hk hm)
theorem Ul {td:TypeDesc} {b off:Nat} {l:List Value} (ht:P.underlying t=some td:=by exact UndC.h) (hfl:Ae9 td=true:=by exact rfl) (hx:ev L x=some (.pointer (some ⟨b,off,none⟩)):=by exact rfl) (hr:AgK b l A:=by exact inferInstance) (hv:l[off]?=some v:=by exact rfl) :
    Tells P n ops ⟨dst,.load t x,ty,pos,after,none⟩ A L v:=Ads ht hfl hx (hr:=hr) hv
end
theorem Ps {ps:List (Nat×Operand)} {pv:List (Nat×Value)} {fields:Array Field} {ti:TypeInfo} {z:Value} {zs:List Value} {pl:List (Nat×Nat)} (vs:List Value) (ht:P.underlying t=some (.struct fields):=by exact UndC.h) (hi:P.info? t=some ti:=by exact InfC.h) (hz:ti.zero=some z:=by exact rfl) (hzs:z.cells.toList=zs:=by exact rfl)
    (hpl:fields.toList.mapM (fun f=>(P.info? f.type).map fun i=>(f.offset,i.size))=some pl:=by exact rfl) (hps:evps L ps=some pv:=by exact rfl) (hf:AnY (fun i=>pl[i]?) zs pv=some vs:=by exact rfl):PV P n L (.build t ps.toArray) ty (.agg vs.toArray):=Asw ht hi hz hzs hpl hps hf
section
variable {A:List HP} {K:Loc→List HP→Prop}
theorem Nc (zs:List Value) {ti:TypeInfo} {z:Value} (hi:P.info? t=some ti:=by exact InfC.h) (hz:ti.zero=some z:=by exact rfl) (hzs:z.cells.toList=zs:=by exact rfl) (hd:Nat.blt d n=true:=by exact rfl)
    (k:∀b,K ((d,.pointer (some ⟨b,0,none⟩))::L) (Ce b t zs::Hs)):AnOp r P n ops A ⟨some d,.alloc t,ty,pos,after,none⟩ K L Hs:=AuK hi hz hzs hd k
theorem Nl {ti:TypeInfo} {z:Value} {len:Nat} {ps:List (Nat×Operand)} (vs:List Value) {cs:List Value} (ht:P.underlying t=some (.slice e):=by exact UndC.h) (hi:P.info? e=some ti:=by exact InfC.h) (hz:ti.zero=some z:=by exact rfl) (hzs:Nat.beq z.cells.size ti.size=true:=by exact rfl)
    (hps:evps L ps=some (AfB 0 vs):=by exact rfl) (hlen:vs.length=len:=by exact rfl) (hv:vs.all (fun v=>Nat.beq v.cells.size ti.size)=true:=by exact rfl) (hsm:Nat.ble (vs.length * ti.size) 16777216=true:=by exact rfl) (hcs:vs.flatMap (·.cells.toList)=cs:=by exact rfl) (hd:Nat.blt d n=true:=by exact rfl)
    (k:∀b,K ((d,.slice (some ⟨b,0,none⟩) len len)::L) (Ce b e cs::Hs)):AnOp r P n ops A ⟨some d,.buildSlice t len ps.toArray,ty,pos,after,none⟩ K L Hs:=Amr vs ht hi hz hzs hps hlen hv hsm hcs hd k
theorem No {ti:TypeInfo} {b off:Nat} {T:TypeId} {l:List Value} {Gs:List HP} (hi:P.info? t=some ti:=by exact InfC.h) (hs:Nat.beq ti.size 1=true:=by exact rfl) (hx:ev L x=some (.pointer (some ⟨b,off,none⟩)):=by exact rfl) (hy:ev L y=some v:=by exact rfl) (hu:StC b off v T l Hs Gs:=by exact inferInstance) (h1:Aay v=true:=by exact rfl) (ho:off<l.length:=by first | (simp;done) | (simp;omega))
    (k:K L Gs):AnOp r P n ops A ⟨none,.store t x y,ty,pos,after,none⟩ K L Hs:=AuH hi hs hx hy (hu:=hu) h1 ho k
theorem Na {ti:TypeInfo} {b off:Nat} {T:TypeId} {l vs:List Value} {Gs:List HP} (hi:P.info? t=some ti:=by exact InfC.h) (hx:ev L x=some (.pointer (some ⟨b,off,none⟩)):=by exact rfl) (hy:ev L y=some (.agg vs.toArray):=by exact rfl) (hs:Nat.beq ti.size vs.length=true:=by exact rfl) (hu:Amu b off vs T l Hs Gs:=by exact inferInstance) (h1:vs.all Aay=true:=by exact rfl) (ho:off+vs.length≤l.length:=by first | (simp;done) | (simp;omega))
    (k:K L Gs):AnOp r P n ops A ⟨none,.store t x y,ty,pos,after,none⟩ K L Hs:=Ao8 hi hs hx hy (hu:=hu) h1 ho k
end
theorem Qc {id:Nat} {l:List Oper} (h:c=.seq (sA c) (sB c):=by exact rfl) (h2:sA c=.region id l.toArray false:=by exact rfl) (k:wo r P n l.toArray l L Hs (Aoq r P (sB c) Q)):wc r P n c L Hs Q:=AvZ h (ApW h2 k)
section
variable {ty1 ty2:TypeId} {d1 d2:Nat} {pos1 pos2:String} {after1 after2:Array Edge} {o1 o2:Op} {v1 v2:Value}
theorem Qv (h1:PV P n L o1 ty1 v1:=by exact Pv) (hd1:Nat.blt d1 n=true:=by exact rfl) (h2:PV P n ((d1,v1)::L) o2 ty2 v2:=by exact Pv) (hd2:Nat.blt d2 n=true:=by exact rfl) (k:wo r P n ops os ((d2,v2)::(d1,v1)::L) Hs Q) :
    wo r P n ops (⟨some d1,o1,ty1,pos1,after1,none⟩::⟨some d2,o2,ty2,pos2,after2,none⟩::os) L Hs Q:=Aa6 h1 hd1 (Aa6 h2 hd2 k)
theorem Qx {b off:Nat} {l:List Value} {td:TypeDesc} {i:Nat} {fs:Array Field} {fd:Field} {ti:TypeInfo} {m:Nat} {t2:TypeId} (k0:Nat) (ft:TypeId) (ht:P.underlying t=some (.struct fs):=by exact UndC.h) (hf:fs[i]?=some fd:=by exact rfl) (hft:fd.type=ft:=by exact rfl) (hi:P.info? ft=some ti:=by exact InfC.h) (hz:Nat.beq ti.size 0=false:=by exact rfl)
    (hx:ev L x=some (.pointer (some ⟨b,off,none⟩)):=by exact rfl) (hk:fd.offset=k0:=by exact rfl) (hm:off+k0=m:=by first | exact Nat.zero_add _ | exact Nat.add_zero _ | exact rfl) (hd1:Nat.blt d1 n=true:=by exact rfl)
    (ht2:P.underlying t2=some td:=by exact UndC.h) (hfl:Ae9 td=true:=by exact rfl) (hy:ev ((d1,.pointer (some ⟨b,m,none⟩))::L) y=some (.pointer (some ⟨b,m,none⟩)):=by exact rfl) (hr:AgK b l Hs:=by exact inferInstance) (hv:l[m]?=some v2:=by exact rfl) (hd2:Nat.blt d2 n=true:=by exact rfl)
    (k:wo r P n ops os ((d2,v2)::(d1,.pointer (some ⟨b,m,none⟩))::L) Hs Q):wo r P n ops (⟨some d1,.fieldAddr t x i,ty1,pos1,after1,none⟩::⟨some d2,.load t2 y,ty2,pos2,after2,none⟩::os) L Hs Q :=
 Aa6 (AfK ht hf (by rw[hft];exact hi) hz hx hk hm) hd1 (AtK ht2 hfl hy (hr:=hr) hv hd2 k)
end
theorem J1 {j:Nat} {op:Op} (hj:gd ops L j=some (.bool true):=by exact rfl) (h:PV P n L op ty v:=by exact Pv) (hd:Nat.blt d n=true:=by exact rfl) (k:wo r P n ops os ((d,v)::L) Hs Q):wo r P n ops (⟨some d,op,ty,pos,after,some (j,true)⟩::os) L Hs Q:=ArF hj (Aa6 h hd k)
theorem J0 {j:Nat} {op:Op} (hj:gd ops L j=some (.bool false):=by exact rfl) (h:PV P n L op ty v:=by exact Pv) (hd:Nat.blt d n=true:=by exact rfl) (k:wo r P n ops os ((d,v)::L) Hs Q):wo r P n ops (⟨some d,op,ty,pos,after,some (j,false)⟩::os) L Hs Q:=ArF hj (Aa6 h hd k)
theorem Dv {q:Nat} {ls:Array Bool} {A:List HP} {dst:Option Tmp} {op:Op} (i:Nat) (hnd:Adc ops=true:=by exact rfl) (ho:ops[i]?=some ⟨dst,op,ty,pos,after,none⟩:=by exact rfl) (hd:Ad2 n dst=true:=by exact rfl) (hr:(Region.ready .any ops ls).contains i=true:=by kernel_rfl) (hf:AmV ops ls i ⟨dst,op,ty,pos,after,none⟩=true:=by kernel_rfl)
    (h:PV P n L op ty v:=by exact Pv) (k:An r P n ops A Q q (ls.setIfInBounds i true) (putL dst v L) Hs):An r P n ops A Q (q+1) ls L Hs:=Aa1 i hnd ho hd hr hf (Aat h) k
theorem D0 {q j:Nat} {ls:Array Bool} {A:List HP} {dst:Option Tmp} {op:Op} (i:Nat) (hnd:Adc ops=true:=by exact rfl) (ho:ops[i]?=some ⟨dst,op,ty,pos,after,some (j,true)⟩:=by exact rfl) (hd:Ad2 n dst=true:=by exact rfl) (hr:(Region.ready .any ops ls).contains i=true:=by kernel_rfl) (hf:AmV ops ls i ⟨dst,op,ty,pos,after,some (j,true)⟩=true:=by kernel_rfl)
    (hj:gd ops L j=some (.bool false):=by exact rfl) (k:An r P n ops A Q q (ls.setIfInBounds i true) (putL dst undef L) Hs):An r P n ops A Q (q+1) ls L Hs:=Aa1 i hnd ho hd hr hf (Atp hj rfl) k
theorem D1 {q j:Nat} {ls:Array Bool} {A:List HP} {dst:Option Tmp} {op:Op} (i:Nat) (hnd:Adc ops=true:=by exact rfl) (ho:ops[i]?=some ⟨dst,op,ty,pos,after,some (j,false)⟩:=by exact rfl) (hd:Ad2 n dst=true:=by exact rfl) (hr:(Region.ready .any ops ls).contains i=true:=by kernel_rfl) (hf:AmV ops ls i ⟨dst,op,ty,pos,after,some (j,false)⟩=true:=by kernel_rfl)
    (hj:gd ops L j=some (.bool true):=by exact rfl) (k:An r P n ops A Q q (ls.setIfInBounds i true) (putL dst undef L) Hs):An r P n ops A Q (q+1) ls L Hs:=Aa1 i hnd ho hd hr hf (Atp hj rfl) k
theorem DP0 {q:Nat} {ls:Array Bool} {A:List HP} {dst:Option Tmp} {z x y:Operand} (i:Nat) (hnd:Adc ops=true:=by exact rfl) (ho:ops[i]?=some ⟨dst,.pick z x y,ty,pos,after,none⟩:=by exact rfl) (hd:Ad2 n dst=true:=by exact rfl) (hr:(Region.ready .any ops ls).contains i=true:=by kernel_rfl) (hf:AmV ops ls i ⟨dst,.pick z x y,ty,pos,after,none⟩=true:=by kernel_rfl)
    (hz:ev L z=some (.bool false):=by exact rfl) (hy:ev L y=some v:=by exact rfl) (k:An r P n ops A Q q (ls.setIfInBounds i true) (putL dst v L) Hs):An r P n ops A Q (q+1) ls L Hs:=Aa1 i hnd ho hd hr hf (Aat (Ak1 hz hy)) k
theorem DP1 {q:Nat} {ls:Array Bool} {A:List HP} {dst:Option Tmp} {z x y:Operand} (i:Nat) (hnd:Adc ops=true:=by exact rfl) (ho:ops[i]?=some ⟨dst,.pick z x y,ty,pos,after,none⟩:=by exact rfl) (hd:Ad2 n dst=true:=by exact rfl) (hr:(Region.ready .any ops ls).contains i=true:=by kernel_rfl) (hf:AmV ops ls i ⟨dst,.pick z x y,ty,pos,after,none⟩=true:=by kernel_rfl)
    (hz:ev L z=some (.bool true):=by exact rfl) (hx:ev L x=some v:=by exact rfl) (k:An r P n ops A Q q (ls.setIfInBounds i true) (putL dst v L) Hs):An r P n ops A Q (q+1) ls L Hs:=Aa1 i hnd ho hd hr hf (Aat (Ak0 hz hx)) k
theorem Ne {a:Option Addr} {kd:IntKind} {i:Int} {len cap kk:Nat} {ti:TypeInfo} {xs:List Value} {A:List HP} {K:Loc→List HP→Prop} (sz m:Nat) (ht:P.underlying t=some (.slice e):=by exact UndC.h) (hi:P.info? e=some ti:=by exact InfC.h) (hsz:ti.size=sz:=by exact rfl)
    (hx:ev L x=some (.slice a len cap):=by exact rfl) (hy:ev L y=some (.int kd i):=by exact rfl) (hm:i=(m:Int):=by exact rfl) (h:m<len:=by omega) (hr:Abu a xs Hs:=by exact inferInstance) (hne:0<xs.length:=by first | (rw[List.length_map];omega) | exact Amc (by omega) (fun _=>rfl) | (simp;omega) | simp) (hk:m * sz=kk:=by first | exact Nat.mul_one _ | exact rfl) (hd:Nat.blt d n=true:=by exact rfl)
    (k:K ((d,.pointer (Abr a kk))::L) Hs):AnOp r P n ops A ⟨some d,.indexAddr t x y,ty,pos,after,none⟩ K L Hs:=AkK ht hi hsz hx hy hm h (hr:=hr) hne hk hd k
theorem Nm {a:Option Addr} {q:Nat} {xs:List Value} {td:TypeDesc} {A:List HP} {K:Loc→List HP→Prop} (ht:P.underlying t=some td:=by exact UndC.h) (hfl:Ae9 td=true:=by exact rfl) (hx:ev L x=some (.pointer (Abr a q)):=by exact rfl) (hr:Abu a xs Hs:=by exact inferInstance) (hv:xs[q]?=some v) (hd:Nat.blt d n=true:=by exact rfl)
    (k:K ((d,v)::L) Hs):AnOp r P n ops A ⟨some d,.load t x,ty,pos,after,none⟩ K L Hs:=AuJ ht hfl hx (hr:=hr) hv hd k
theorem Yl {a:Option Addr} {q:Nat} {xs:List Value} {td:TypeDesc} (ht:P.underlying t=some td:=by exact UndC.h) (hfl:Ae9 td=true:=by exact rfl) (hx:ev L x=some (.pointer (Abr a q)):=by exact rfl) (hr:Abu a xs Hs:=by exact inferInstance) (hv:xs[q]?=some v) (hd:Nat.blt d n=true:=by exact rfl)
    (k:wo r P n ops os ((d,v)::L) Hs Q):wo r P n ops (⟨some d,.load t x,ty,pos,after,none⟩::os) L Hs Q:=AbS ht hfl hx (hr:=hr) hv hd k
end
end
def dgt (n:Nat):UInt8:=UInt8.ofNat (48+n % 10)
def AaX (n:Nat):List UInt8:=if n<10 then [dgt n] else AaX (n / 10)++[dgt n]
termination_by n
def AmO (n:Nat):List UInt8:=if n=0 then [] else AaX n
theorem Aeb (n:Nat):(dgt n).toNat=48+n % 10:=by
 have:48+n % 10<256:=by omega
 simp[dgt,UInt8.toNat_ofNat,Nat.mod_eq_of_lt this]
theorem AiP (n:Nat):AaX n=AmO (n / 10)++[dgt n]:=by
 rw[AaX,AmO];by_cases h:n<10
 · have:n / 10=0:=by omega
   simp[h,this]
 · have:¬(n / 10=0):=by omega
   simp[h,this]
theorem AtU {n:Nat} (h:0<n):AmO n=AmO (n / 10)++[dgt n]:=by
 rw[AmO,if_neg (by omega)];exact AiP n
theorem Amg (n:Nat):(AaX n).length≤n+1:=by
 induction n using Nat.strongRecOn with
 | _ n ih =>
   rw[AaX];split
   · simp
   · have:=ih (n / 10) (by omega)
     simp only[List.length_append,List.length_singleton];omega
abbrev Bs:=List UInt8
def dn:Bs→Nat→Option Nat
 | [],n=>some n
 | c::r,n=>if c.toNat<48∨57<c.toNat∨1073741824<n then none else dn r (10 * n+(c.toNat-48))
def AoV (n:Nat):Bs:=if n≤1073741824 then AaX n else []
def AbM (s:Bs):Option Nat:=match dn s 0 with
 | none=>none
 | some n=>if s=[]∨¬AoV n=s then none else some n
theorem As5 {s:Bs} {i:Nat} (h:i<s.length) (n:Nat):dn (s.drop i) n=if (s.getD i 0).toNat<48∨57<(s.getD i 0).toNat∨1073741824<n then none else dn (s.drop (i+1)) (10 * n+((s.getD i 0).toNat-48)):=by
 have e:s.drop i=s.getD i 0::s.drop (i+1):=by
  rw[List.drop_eq_getElem_cons h];simp[h]
 rw[e,dn]
def AcU (n:Nat):Bs:=List.replicate n 0
structure W5 where
 a:UInt32
 b:UInt32
 c:UInt32
 d:UInt32
 e:UInt32
def W5.list (h:W5):List UInt32:=[h.a,h.b,h.c,h.d,h.e]
def AuC (c:UInt8) (k:Nat):UInt32:=c.toUInt32 <<< UInt32.ofNat k
def AvS (b:Bs) (i:Nat):UInt32:=AuC (b.getD (4 * i) 0) 24 ||| AuC (b.getD (4 * i+1) 0) 16 ||| AuC (b.getD (4 * i+2) 0) 8 ||| (b.getD (4 * i+3) 0).toUInt32
def ArY (l:List UInt32) (i:Nat):UInt32:=AtE (l.getD (i-3) 0 ^^^ l.getD (i-8) 0 ^^^ l.getD (i-14) 0 ^^^ l.getD (i-16) 0) 1
def Ab7 (b:Bs):Nat→List UInt32
 | 0=>[]
 | n+1=>Ab7 b n++[if n<16 then AvS b n else ArY (Ab7 b n) n]
theorem AbX (b:Bs) (n:Nat):(Ab7 b n).length=n:=by
 induction n with
 | zero=>rfl
 | succ n ih=>simp[Ab7,ih]
def Aq4 (i:Nat) (b c d:UInt32):UInt32×UInt32 :=
 if i / 20=0 then ((b &&& c) ||| (~~~b &&& d),0x5a827999)
 else if i / 20=1 then (b ^^^ c ^^^ d,0x6ed9eba1)
 else if i / 20=2 then ((b &&& c) ||| (b &&& d) ||| (c &&& d),0x8f1bbcdc)
 else (b ^^^ c ^^^ d,0xca62c1d6)
def AqQ (w:List UInt32) (i:Nat) (s:W5):W5:=⟨AtE s.a 5+(Aq4 i s.b s.c s.d).1+s.e+(Aq4 i s.b s.c s.d).2+w.getD i 0,s.a,AtE s.b 30,s.c,s.d⟩
def Acq (w:List UInt32) (h:W5):Nat→W5
 | 0=>h
 | n+1=>AqQ w n (Acq w h n)
def Aig (h:W5) (b:Bs):W5:=let s:=Acq (Ab7 b 80) h 80;⟨h.a+s.a,h.b+s.b,h.c+s.c,h.d+s.d,h.e+s.e⟩
def Aaz (s:Bs):Nat:=(s.length+8) / 64+1
def Ak7 (s:Bs) (i:Nat):UInt8:=UInt8.ofNat (8 * s.length / 2 ^ (8 * (7-i)))
def AmP (s:Bs):Bs:=s++[0x80]++AcU (64 * Aaz s-9-s.length)++(List.range 8).map (Ak7 s)
theorem ApV (s:Bs):(AmP s).length=64 * Aaz s:=by
 simp only[AmP,Aaz,AcU,List.length_append,List.length_replicate,List.length_map,List.length_range,List.length_singleton];omega
def h0W:W5:=⟨0x67452301,0xefcdab89,0x98badcfe,0x10325476,0xc3d2e1f0⟩
def Adj (p:Bs) (h:W5):Nat→W5
 | 0=>h
 | n+1=>Aig (Adj p h n) ((p.drop (64 * n)).take 64)
def hexD:Bs:=[48,49,50,51,52,53,54,55,56,57,97,98,99,100,101,102]
def AiN (x:UInt32):Bs:=(List.range 8).map fun j=>hexD.getD ((x >>> UInt32.ofNat (28-4 * j)) &&& 15).toNat 0
def AcX (s:Bs):Bs:=(Adj (AmP s) h0W (Aaz s)).list.flatMap AiN
theorem Aqa (x:UInt32):(AiN x).length=8:=by simp[AiN]
theorem Aeq (s:Bs):(AcX s).length=40:=by simp[AcX,W5.list,Aqa]
theorem Aul (x:UInt32):∀c∈AiN x,c∈hexD:=by
 intro c hc;simp only[AiN,List.mem_map,List.mem_range] at hc;obtain⟨j,_,rfl⟩:=hc;have hl:hexD.length=16:=rfl;have h:((x >>> UInt32.ofNat (28-4 * j)) &&& 15).toNat<16:=by
  rw[UInt32.toNat_and];exact Nat.lt_of_le_of_lt Nat.and_le_right (by decide)
 rw[List.getD_eq_getElem?_getD,List.getElem?_eq_getElem (by rw[hl];exact h),Option.getD_some];exact List.getElem_mem _
theorem Ajb (s:Bs):∀c∈AcX s,c∈hexD:=by
 intro c hc;obtain⟨x,_,hx⟩:=List.mem_flatMap.1 hc;exact Aul x c hx
def dn2:Bs→Nat→Option Nat
 | [],n=>some n
 | c::r,n=>if c.toNat<48∨57<c.toNat then none else if 1073741824<10 * n+(c.toNat-48) then none else dn2 r (10 * n+(c.toNat-48))
theorem Aut {s:Bs} {i:Nat} (h:i<s.length) (n:Nat):dn2 (s.drop i) n=if (s.getD i 0).toNat<48∨57<(s.getD i 0).toNat then none else if 1073741824<10 * n+((s.getD i 0).toNat-48) then none else dn2 (s.drop (i+1)) (10 * n+((s.getD i 0).toNat-48)):=by
 have e:s.drop i=s.getD i 0::s.drop (i+1):=by
  rw[List.drop_eq_getElem_cons h];simp[h]
 rw[e,dn2]
theorem Axs:∀(s:Bs) (n m:Nat),dn s n=some m→n≤m:=by
 intro s
 induction s with
 | nil=>intro n m h;simp[dn] at h;omega
 | cons c r ih =>
   intro n m h;simp only[dn] at h;split at h
   · cases h
   · have:=ih _ _ h;omega
theorem Arl:∀(s:Bs) (n m:Nat),n≤1073741824→(dn2 s n=some m↔dn s n=some m∧m≤1073741824):=by
 intro s
 induction s with
 | nil=>intro n m h;simp[dn,dn2];omega
 | cons c r ih =>
   intro n m h;simp only[dn,dn2];by_cases h1:c.toNat<48∨57<c.toNat
   · rw[if_pos h1,if_pos (by omega)];simp
   · rw [if_neg h1,if_neg (show ¬(c.toNat<48∨57<c.toNat∨1073741824<n) by omega)]
     by_cases h2:1073741824<10 * n+(c.toNat-48)
     · rw [if_pos h2]
       constructor
       · intro e;cases e
       · rintro⟨e,e2⟩
         have:=Axs _ _ _ e;omega
     · rw[if_neg h2]
       exact ih _ _ (by omega)
theorem Auw {c:UInt8} {n:Nat} (h:¬(c.toNat<48∨57<c.toNat)):dgt (10 * n+(c.toNat-48))=c:=by
 apply UInt8.toNat_inj.1;rw[Aeb];omega
theorem Auu:∀(s:Bs) (n m:Nat),0<n→dn2 s n=some m→AaX m=AaX n++s:=by
 intro s
 induction s with
 | nil=>intro n m _ h;simp[dn2] at h;simp[h]
 | cons c r ih =>
   intro n m hn h;simp only[dn2] at h;split at h
   · cases h
   · rename_i h1
     split at h
     · cases h
     · rw[ih _ _ (by omega) h,AiP (10 * n+(c.toNat-48)),Auw h1]
       have e:(10 * n+(c.toNat-48)) / 10=n:=by omega
       rw[e,AmO,if_neg (by omega)]
       simp
theorem AsS:∀n:Nat,0<n→(AaX n).head?≠some 48:=by
 intro n
 induction n using Nat.strongRecOn with
 | _ n ih =>
   intro h;rw[AaX];split
   · intro e
     simp only[List.head?_cons,Option.some.injEq] at e;have:=congrArg UInt8.toNat e;rw[Aeb] at this;simp at this;omega
   · have h2:=ih (n / 10) (by omega) (by omega)
     cases e:AaX (n / 10) with
     | nil=>rw[AaX] at e;split at e<;>simp at e
     | cons c r=>rw[e] at h2;exact h2
theorem Ao1:AaX 0=[48]:=by rw[AaX];rfl
def Af9 (s:Bs):Option Nat:=match dn2 s 0 with
 | none=>none
 | some n=>if s.length=0∨(1<s.length∧s.getD 0 0=48) then none else some n
theorem ApD (s : Bs):AbM s=Af9 s:=by
 unfold AbM Af9
 cases s with
 | nil=>simp[dn,dn2]
 | cons c r =>
   cases h2:dn2 (c::r) 0 with
   | none =>
     cases h1:dn (c::r) 0 with
     | none=>rfl
     | some m =>
       dsimp only;have hm:1073741824<m:=by
        apply Classical.byContradiction;intro hc;rw[(Arl (c::r) 0 m (by omega)).2 ⟨h1,by omega⟩] at h2
        cases h2
       rw[if_pos]
       right
       rw[AoV,if_neg (by omega)];intro e;cases e
   | some m =>
     obtain⟨h1,hm⟩:=(Arl (c::r) 0 m (by omega)).1 h2;rw[h1];dsimp only;have key : AoV m=c::r↔¬(1<(c::r).length∧c=48):=by
      rw[AoV,if_pos hm];simp only[dn2] at h2;split at h2
      · cases h2
      · rename_i hc
        split at h2
        · cases h2
        · by_cases h0:c=48
          · subst h0
            cases r with
            | nil =>
              simp only[dn2,Option.some.injEq] at h2;subst h2;simp only[List.length_cons,List.length_nil];constructor
              · intro _;omega
              · intro _;exact Ao1
            | cons d r =>
              constructor
              · intro e
                rcases Nat.eq_zero_or_pos m with hz | hp
                · subst hz;rw[Ao1] at e;cases e
                · have:=AsS m hp
                  rw[e] at this;simp at this
              · intro e;exact absurd ⟨by simp,rfl⟩ e
          · have hpos:0<c.toNat-48:=by
              have:c.toNat≠48:=fun e=>h0 (UInt8.toNat_inj.1 (by simpa using e));omega
            have:=Auu r _ m (by omega) h2;rw[this];have e2:AaX (10 * 0+(c.toNat-48))=[c]:=by
             rw[AaX,if_pos (by omega),Auw hc]
            rw[e2];constructor
            · intro _ ⟨_,e⟩;exact h0 e
            · intro _;rfl
     by_cases hk:1<(c::r).length∧c=48
     · rw[if_pos (.inr (fun e=>key.1 e hk)),if_pos (.inr (by simpa using hk))]
     · rw [if_neg,if_neg]
       · rintro(e | e)
         · simp at e
         · exact hk (by simpa using e)
       · rintro(e | e)
         · cases e
         · exact e (key.2 hk)
theorem AvI:∀(s t:Bs) (n:Nat),dn2 (s++t) n=(dn2 s n).bind (dn2 t):=by
 intro s
 induction s with
 | nil=>intro t n;simp[dn2]
 | cons c r ih =>
   intro t n;simp only[List.cons_append,dn2];split
   · rfl
   · split
     · rfl
     · exact ih _ _
theorem Aqg:∀n:Nat,n≤1073741824→dn2 (AaX n) 0=some n:=by
 intro n
 induction n using Nat.strongRecOn with
 | _ n ih =>
   intro h;rw[AaX];have h48:=Aeb n;split
   · rw[dn2,if_neg (by omega),if_neg (by omega),dn2]
     congr 1;omega
   · rw[AvI,ih (n / 10) (by omega) (by omega)]
     simp only[Option.bind_some];rw[dn2,if_neg (by omega),if_neg (by omega),dn2];congr 1;omega
theorem AvJ (n:Nat):AaX n≠[]:=by rw[AaX];split<;>simp
theorem AiH {n:Nat} (h:n≤1073741824):AbM (AaX n)=some n:=by
 have h2:=Aqg n h;obtain⟨h1,_⟩:=(Arl (AaX n) 0 n (by omega)).1 h2;unfold AbM;rw[h1];dsimp only;rw[if_neg];rintro(e | e)
 · exact AvJ n e
 · exact e (by rw[AoV,if_pos h])
section
structure Cd where
 l:UInt8
 args:List Bs
 deriving DecidableEq,Repr
def AaM (l:List Bs):Bs:=l.flatMap (fun a=>32::a)
def AbN (c:Cd):Bs:=c.l::AaM c.args
def Aco (c:Cd):Bs:=AbN c++[10]
def Aav (l:List Cd):Bs:=l.flatMap Aco
def Afw (s:Bs):Bs:=s++[90,32]++AcX s++[10]
def AcI (l:List Cd):Bs:=Afw (Aav l)
def AbZ (a:Bs):Prop:=a≠[]∧32∉a∧10∉a
instance (a:Bs):Decidable (AbZ a):=inferInstanceAs (Decidable (_∧_∧_))
def cd0:Cd:=⟨0,[]⟩
structure OkC (l:List Cd) (i:Nat):Prop where
 lo:65≤(l.getD i cd0).l.toNat
 hi:(l.getD i cd0).l.toNat≤89
 rise:0<i→(l.getD (i-1) cd0).l.toNat≤(l.getD i cd0).l.toNat
 args:∀a∈(l.getD i cd0).args,AbZ a
structure RightC (l:List Cd):Prop where
 ne:l≠[]
 ok:∀i,i<l.length→OkC l i
instance (l:List Cd) (i:Nat):Decidable (OkC l i):=decidable_of_iff (65≤(l.getD i cd0).l.toNat∧(l.getD i cd0).l.toNat≤89∧(0<i→(l.getD (i-1) cd0).l.toNat≤(l.getD i cd0).l.toNat)∧∀a∈(l.getD i cd0).args,AbZ a) ⟨fun ⟨a,b,c,d⟩=>⟨a,b,c,d⟩,fun ⟨a,b,c,d⟩=>⟨a,b,c,d⟩⟩
instance (l:List Cd):Decidable (RightC l):=decidable_of_iff (l≠[]∧∀i,i<l.length→OkC l i) ⟨fun ⟨a,b⟩=>⟨a,b⟩,fun ⟨a,b⟩=>⟨a,b⟩⟩
theorem AnD {l:List Cd} {i:Nat} (h:i<l.length) (hn:¬OkC l i):¬RightC l:=fun r=>hn (r.ok i h)
theorem Ac1 (s:Bs):(Afw s).length=s.length+43:=by simp[Afw,Aeq]
theorem Aso {s t:Bs} (h:Afw s=Afw t):s=t:=by
 have hl:s.length=t.length:=by have:=congrArg List.length h;rw[Ac1,Ac1] at this;omega
 simp only[Afw,List.append_assoc] at h;exact(List.append_inj h hl).1
theorem Aby {α:Type} {l:List α} {d x:α} (h:x∈l):∃i,i<l.length∧l.getD i d=x:=by
 obtain⟨i,hi,rfl⟩:=List.getElem_of_mem h;exact⟨i,hi,by simp[hi]⟩
theorem RightC.lets {l:List Cd} (r:RightC l):∀c∈l,65≤c.l.toNat∧c.l.toNat≤89:=by
 intro c hc;obtain⟨i,hi,rfl⟩:=Aby (d:=cd0) hc;exact⟨(r.ok i hi).lo,(r.ok i hi).hi⟩
theorem RightC.args {l:List Cd} (r:RightC l):∀c∈l,∀a∈c.args,AbZ a:=by
 intro c hc;obtain⟨i,hi,rfl⟩:=Aby (d:=cd0) hc;exact(r.ok i hi).args
theorem RightC.mk' {l:List Cd} (ne:l≠[]) (lets:∀c∈l,65≤c.l.toNat∧c.l.toNat≤89) (args:∀c∈l,∀a∈c.args,AbZ a) (rise:l.Pairwise (fun a b=>a.l.toNat≤b.l.toNat)):RightC l:=by
 refine⟨ne,fun i hi=>?_⟩;have e:∀j,j<l.length→l.getD j cd0∈l:=fun j hj=>by simp[hj]
 refine⟨(lets _ (e i hi)).1,(lets _ (e i hi)).2,fun h0=>?_,args _ (e i hi)⟩;have:=List.pairwise_iff_getElem.1 rise (i-1) i (by omega) hi (by omega);simpa [hi,show i-1<l.length by omega] using this
theorem RightC.rise {l:List Cd} (r:RightC l):l.Pairwise (fun a b=>a.l.toNat≤b.l.toNat):=by
 rw[List.pairwise_iff_getElem];have key:∀d i (h:i+d<l.length),(l[i]'(by omega)).l.toNat≤(l[i+d]).l.toNat:=by
  intro d
  induction d with
  | zero=>intros;simp
  | succ d ih =>
    intro i h;have h1:=ih i (by omega);have h2:=(r.ok (i+d+1) (by omega)).rise (by omega);simp[show i+d<l.length by omega,show i+d+1<l.length by omega] at h2;exact Nat.le_trans h1 h2
 intro i j hi hj hij;have:=key (j-i) i (by omega);simpa [show i+(j-i)=j by omega] using this
theorem Ahw {d:UInt8}:∀{x y r r':Bs},d∉x→d∉y→x++d::r=y++d::r'→x=y∧r=r':=by
 intro x
 induction x with
 | nil =>
   intro y r r' _ hy h
   cases y with
   | nil=>simp at h;exact⟨rfl,h⟩
   | cons c y=>simp at h hy;exact absurd h.1 hy.1
 | cons c x ih =>
   intro y r r' hx hy h
   cases y with
   | nil=>simp at h hx;exact absurd h.1.symm hx.1
   | cons c' y =>
     simp only[List.cons_append,List.cons.injEq] at h;simp only[List.mem_cons,not_or] at hx hy;obtain⟨e1,e2⟩:=ih hx.2 hy.2 h.2;exact⟨by rw[h.1,e1],e2⟩
theorem Aef:AaM []=[]:=rfl
theorem AbQ (a:Bs) (l:List Bs):AaM (a::l)=32::(a++AaM l):=by simp[AaM]
theorem Agf (l m:List Bs):AaM (l++m)=AaM l++AaM m:=by simp[AaM]
def Aaw (d:UInt8):Bs→List Bs
 | []=>[[]]
 | c::r=>if c=d then []::Aaw d r else match Aaw d r with
   | []=>[[c]]
   | w::ws=>(c::w)::ws
theorem AjS (d:UInt8) (s:Bs):Aaw d s≠[]:=by
 cases s with
 | nil=>simp[Aaw]
 | cons c r =>
   simp only[Aaw];split
   · simp
   · split<;>simp
theorem Ags {d:UInt8}:∀{x:Bs},d∉x→Aaw d x=[x]:=by
 intro x
 induction x with
 | nil=>intro _;rfl
 | cons c x ih =>
   intro h;simp only[List.mem_cons,not_or] at h;simp only[Aaw,if_neg (Ne.symm h.1),ih h.2]
theorem AiB {d:UInt8}:∀{x r:Bs},d∉x→Aaw d (x++d::r)=x::Aaw d r:=by
 intro x
 induction x with
 | nil=>intro r _;simp[Aaw]
 | cons c x ih =>
   intro r h;simp only[List.mem_cons,not_or] at h;simp only[List.cons_append,Aaw,if_neg (Ne.symm h.1),ih h.2]
theorem Akq {x:Bs} {l:List Bs} (hx:32∉x) (hl:∀a∈l,32∉a):Aaw 32 (x++AaM l)=x::l:=by
 induction l generalizing x with
 | nil=>rw[Aef,List.append_nil,Ags hx]
 | cons a l ih =>
   rw[AbQ,AiB hx,ih (hl a (by simp)) (fun b hb=>hl b (by simp[hb]))]
theorem Ah6 (s:Bs):AaM (Aaw 32 s)=32::s:=by
 induction s with
 | nil=>rfl
 | cons c s ih =>
   simp only[Aaw];split
   · rename_i h
     rw[AbQ,ih,h];rfl
   · split
     · rename_i e;exact absurd e (AjS _ _)
     · rename_i w ws e
       rw[e,AbQ] at ih;rw[AbQ];simp only[List.cons.injEq,true_and] at ih;simp[ih]
theorem AqK {d:UInt8}:∀{s:Bs},∀w∈Aaw d s,d∉w:=by
 intro s
 induction s with
 | nil=>simp[Aaw]
 | cons c s ih =>
   intro w hw;simp only[Aaw] at hw;split at hw
   · rcases List.mem_cons.1 hw with rfl | hw
     · simp
     · exact ih w hw
   · rename_i hc
     split at hw
     · rename_i e;exact absurd e (AjS _ _)
     · rename_i v vs e
       rw[e] at ih;rcases List.mem_cons.1 hw with rfl | hw
       · simp only[List.mem_cons,not_or]
         exact⟨fun x=>hc x.symm,ih v (by simp)⟩
       · exact ih w (by simp[hw])
theorem AxD {c:UInt8} (h:65≤c.toNat):(32:UInt8)∉([c]:Bs):=by
 simp only[List.mem_singleton];rintro rfl;revert h;decide
theorem AxE {c:UInt8} (h:65≤c.toNat):c≠10:=by rintro rfl;revert h;decide
theorem Arv:∀{l:List Bs},(∀a∈l,AbZ a)→(10:UInt8)∉AaM l:=by
 intro l
 induction l with
 | nil=>simp[AaM]
 | cons a l ih =>
   intro h;rw[AbQ];simp only[List.mem_cons,List.mem_append,not_or];exact⟨by decide,(h a (by simp)).2.2,ih fun b hb=>h b (by simp[hb])⟩
theorem AgD {c:Cd} (h:65≤c.l.toNat) (ha:∀a∈c.args,AbZ a):(10:UInt8)∉AbN c:=by
 simp only[AbN,List.mem_cons,not_or];exact⟨fun e=>AxE h e.symm,Arv ha⟩
theorem Ahj {c:Cd} (h:65≤c.l.toNat) (ha:∀a∈c.args,AbZ a):Aaw 32 (AbN c)=[c.l]::c.args :=
 Akq (x:=[c.l]) (AxD h) fun a hx=>(ha a hx).2.1
theorem AnO {c c':Cd} (h:65≤c.l.toNat) (ha:∀a∈c.args,AbZ a) (h':65≤c'.l.toNat) (ha':∀a∈c'.args,AbZ a) (e:AbN c=AbN c'):c=c':=by
 have e1:=Ahj h ha;rw[e,Ahj h' ha'] at e1
 cases c;cases c';simp at e1;simp[e1.1,e1.2]
theorem Ac8 (c:Cd) (l:List Cd):Aav (c::l)=AbN c++10::Aav l:=by simp[Aav,Aco]
theorem Af4 (l m:List Cd):Aav (l++m)=Aav l++Aav m:=by simp[Aav]
theorem AsY:∀{l m:List Cd},(∀c∈l,65≤c.l.toNat∧∀a∈c.args,AbZ a)→(∀c∈m,65≤c.l.toNat∧∀a∈c.args,AbZ a)→Aav l=Aav m→l=m:=by
 intro l
 induction l with
 | nil =>
   intro m _ _ e
   cases m with
   | nil=>rfl
   | cons c m=>rw[Ac8] at e;simp[Aav] at e
 | cons c l ih =>
   intro m hl hm e
   cases m with
   | nil=>rw[Ac8] at e;simp[Aav] at e
   | cons c' m =>
     rw[Ac8,Ac8] at e;have h1:=hl c (by simp);have h2:=hm c' (by simp);obtain⟨e1,e2⟩:=Ahw (AgD h1.1 h1.2) (AgD h2.1 h2.2) e;rw[AnO h1.1 h1.2 h2.1 h2.2 e1,ih (fun x hx=>hl x (by simp[hx])) (fun x hx=>hm x (by simp[hx])) e2]
def ReadsC (s:Bs) (l:List Cd):Prop:=RightC l∧AcI l=s
theorem RightC.both {l:List Cd} (r:RightC l):∀c∈l,65≤c.l.toNat∧∀a∈c.args,AbZ a:=fun c hc=>⟨(r.lets c hc).1,r.args c hc⟩
theorem ReadsC.uniq {s:Bs} {l m:List Cd} (h:ReadsC s l) (k:ReadsC s m):l=m :=
 AsY h.1.both k.1.both (Aso (h.2.trans k.2.symm))
open Classical in
noncomputable def Abv (s:Bs):Option (List Cd):=if h:∃l,ReadsC s l then some h.choose else none
theorem readC_iff {s:Bs} {l:List Cd}:Abv s=some l↔ReadsC s l:=by
 unfold Abv;split
 · rename_i h
   simp only[Option.some.injEq];exact⟨fun e=>e▸h.choose_spec,fun k=>h.choose_spec.uniq k⟩
 · rename_i h
   simp only[reduceCtorEq,false_iff];exact fun k=>h ⟨l,k⟩
theorem readC_none {s:Bs}:Abv s=none↔∀l,¬ReadsC s l:=by
 cases e:Abv s with
 | none=>simp only[true_iff];intro l h;rw[readC_iff.2 h] at e;cases e
 | some l=>simp only[reduceCtorEq,false_iff];intro h;exact h l (readC_iff.1 e)
def AdE (st:UInt8×List Bs) (w:Bs):Option (UInt8×List Bs):=if 0<st.1.toNat then some (st.1,st.2++[w]) else if w.length=1 then some (w.getD 0 0,st.2) else none
def Aet (l:List Bs):Option (UInt8×List Bs):=l.foldlM AdE (0,[])
theorem AiO (l:List Bs) (w:Bs):Aet (l++[w])=(Aet l).bind fun st=>AdE st w:=by
 simp[Aet,List.foldlM_append]
theorem Aqd (c:UInt8) (hc:0<c.toNat):∀(l xs:List Bs),l.foldlM AdE (c,xs)=some (c,xs++l):=by
 intro l
 induction l with
 | nil=>intro xs;simp
 | cons w l ih =>
   intro xs;have e:AdE (c,xs) w=some (c,xs++[w]):=by simp only[AdE];rw[if_pos hc]
   simp only[List.foldlM_cons,e];show List.foldlM AdE (c,xs++[w]) l=_;rw[ih];simp
theorem Arg {c:Cd} (h:65≤c.l.toNat) (ha:∀a∈c.args,AbZ a):Aet (Aaw 32 (AbN c))=some (c.l,c.args):=by
 rw[Ahj h ha,Aet];have e:AdE (0,[]) [c.l]=some (c.l,[]):=by simp[AdE]
 simp only[List.foldlM_cons,e];show List.foldlM AdE (c.l,[]) c.args=_;rw[Aqd _ (by omega)];simp
theorem AnX:∀(l:List Bs) (st st':UInt8×List Bs),l.foldlM AdE st=some st'→(AaM st'.2).length≤(AaM st.2).length+(AaM l).length∧(0<st.1.toNat∨l=[]∨(AaM st'.2).length+2≤(AaM st.2).length+(AaM l).length):=by
 intro l
 induction l with
 | nil =>
   intro st st' h;have:st=st':=by simpa using h
   subst this;exact⟨by simp[AaM],.inr (.inl rfl)⟩
 | cons w l ih =>
   intro st st' h;simp only[List.foldlM_cons] at h
   cases e:AdE st w with
   | none=>rw[e] at h;cases h
   | some s2 =>
     rw[e] at h;have h':List.foldlM AdE s2 l=some st':=h;obtain⟨i1,i2⟩:=ih s2 st' h';rw[AbQ,List.length_cons,List.length_append];simp only[AdE] at e;split at e
     · rename_i hp
       cases e;rw[Agf,AbQ,Aef] at i1;simp at i1;exact⟨by omega,.inl hp⟩
     · split at e
       · rename_i hw
         cases e;dsimp only at i1;exact⟨by omega,.inr (.inr (by omega))⟩
       · cases e
theorem Arh {line:Bs} {c:UInt8} {xs:List Bs} (h:Aet (Aaw 32 line)=some (c,xs)):(Aco ⟨c,xs⟩).length≤line.length+1:=by
 obtain⟨_,h2⟩:=AnX _ _ _ h;have hj:=congrArg List.length (Ah6 line);rw[List.length_cons] at hj;rcases h2 with h2 | h2 | h2
 · exact absurd h2 (by decide)
 · exact absurd h2 (AjS _ _)
 · rw[hj] at h2
   simp only[Aef,List.length_nil] at h2;simp only[Aco,AbN,List.length_append,List.length_cons,List.length_nil];omega
end
end Go.Proofs.YtdnoacgopfcpbaaGreat
