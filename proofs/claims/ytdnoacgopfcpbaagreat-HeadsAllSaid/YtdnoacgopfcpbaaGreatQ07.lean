/- Texts of this proof, put together: Mini, MDec, MStore, MDisk, PSha, PDec, PCard. -/
import Derived.Test.YtdnoacgopfcpbaaGreatQ06
set_option linter.unusedVariables false
set_option linter.unusedSimpArgs false
namespace Go.Proofs.YtdnoacgopfcpbaaGreat
section
theorem Alk {α:Type} {f:α→List Value} {l:List α} (h:0<l.length) (hf:∀x,Nat.ble 1 (f x).length=true):0<(l.flatMap f).length:=by
 cases l with
 | nil=>simp at h
 | cons a r=>have:=Nat.le_of_ble_eq_true (hf a);rw[List.flatMap_cons,List.length_append];omega
section
variable {r:Option Nat} {P:Program} {n:Nat} {L:Loc} {Hs:List HP} {Q:Out} {c:Code} {ops:Array Oper} {os:List Oper} {ty:TypeId} {d:Nat} {pos:String} {after:Array Edge} {t e:TypeId} {x y:Operand} {v:Value}
/-! Code. -/
theorem Za (h:c=.seq (sA c) (sB c):=by exact rfl) (k:wc r P n (sA c) L Hs (Ang r P (sB c) Q)):wc r P n c L Hs Q:=Aut h k
theorem Zr {id:Nat} {l:List Oper} (h:c=.region id l.toArray false:=by exact rfl) (k:wo r P n l.toArray l L Hs Q):wc r P n c L Hs Q:=AoK h k
theorem Zk (h:c=.skip:=by exact rfl) (k:tw n Q .normal L Hs):wc r P n c L Hs Q:=AuZ h k
theorem Zl {l:Nat} (h:c=.label l:=by exact rfl) (k:tw n Q .normal L Hs):wc r P n c L Hs Q:=AtS h k
theorem Ze {id:Nat} (h:c=.exit id:=by exact rfl) (k:tw n Q (.exit id) L Hs):wc r P n c L Hs Q:=Av0 id h k
theorem Zt (h:c=.ret:=by exact rfl) (k:tw n Q .ret L Hs):wc r P n c L Hs Q:=AvI h k
theorem Z1 (h:c=.cond (cX c) (cT c) (cE c):=by exact rfl) (hc:ev L (cX c)=some (.bool true):=by exact rfl) (k:wc r P n (cT c) L Hs Q):wc r P n c L Hs Q:=AuY h hc k
theorem Z0 (h:c=.cond (cX c) (cT c) (cE c):=by exact rfl) (hc:ev L (cX c)=some (.bool false):=by exact rfl) (k:wc r P n (cE c) L Hs Q):wc r P n c L Hs Q:=AtT h hc k
theorem Zb {id:Nat} (h:c=.block id (bB c):=by exact rfl) (k:wc r P n (bB c) L Hs (AdM id Q)):wc r P n c L Hs Q:=AtU id h k
theorem Zs (h:c=.scope (bB c):=by exact rfl) (k:wc r P n (bB c) L Hs (AkQ Q)):wc r P n c L Hs Q:=AsF h k
theorem Zi {b:Bool} {p q:Prop} (h:c=.cond (cX c) (cT c) (cE c):=by exact rfl) (hc:ev L (cX c)=some (.bool b):=by exact rfl) (hb:BP b p q:=by first | exact BP.dec | exact BP.raw)
    (t:p→wc r P n (cT c) L Hs Q) (f:q→wc r P n (cE c) L Hs Q):wc r P n c L Hs Q:=Av2 h hc (fun e=>t (hb.t e)) (fun e=>f (hb.f e))
theorem Gi {b:Bool} {p q:Prop} {s:Nat} (j:Nat) (hj:(ops[j]?).bind (·.dst)=some s:=by exact rfl) (hs:lk L s=some (.bool b):=by exact rfl) (hb:BP b p q:=by first | exact BP.dec | exact BP.raw)
    (t:p→wo r P n ops os ((s,.bool true)::L) Hs Q) (f:q→wo r P n ops os ((s,.bool false)::L) Hs Q):wo r P n ops os L Hs Q:=AqU hj hs (fun e=>t (hb.t e)) (fun e=>f (hb.f e))
theorem Gd {b:Bool} {p q:Prop} {s k:Nat} {ls:Array Bool} {A:List HP} (j:Nat) (hj:(ops[j]?).bind (·.dst)=some s:=by exact rfl) (hs:lk L s=some (.bool b):=by exact rfl) (hb:BP b p q:=by first | exact BP.dec | exact BP.raw)
    (t:p→An r P n ops A Q k ls ((s,.bool true)::L) Hs) (f:q→An r P n ops A Q k ls ((s,.bool false)::L) Hs):An r P n ops A Q k ls L Hs:=Ata hj hs (fun e=>t (hb.t e)) (fun e=>f (hb.f e))
/-! Ways. -/
theorem Wq {y:Code} (k:wc r P n y L Hs Q):wo r P n ops [] L Hs (Ang r P y Q):=AvG k
theorem Wg {y:Code} (k:wc r P n y L Hs Q):wo r P n ops [] L Hs (AnM r P y Q):=AvH k
theorem Wn (k:tw n Q .normal L Hs):wo r P n ops [] L Hs Q:=App k
theorem Ya {y:Code} (k:wc r P n y L Hs Q):tw n (Ang r P y Q) .normal L Hs:=Avz k
theorem Yb {id:Nat} (k:tw n Q .normal L Hs):tw n (AdM id Q) .normal L Hs:=As3 k
theorem Xa {y:Code} {id:Nat} (k:tw n Q (.exit id) L Hs):tw n (Ang r P y Q) (.exit id) L Hs:=k
theorem Xi {ι:Type} {Li:ι→Loc} {Hi:ι→List HP} {lt:ι→Prop} {id:Nat} (k:tw n Q (.exit id) L Hs):tw n (Art n Li Hi lt Q) (.exit id) L Hs:=k
theorem Xb {id:Nat} (k:tw n Q .normal L Hs):tw n (AdM id Q) (.exit id) L Hs:=AlI k
theorem Xo {id id':Nat} (h:Nat.beq id' id=false:=by exact rfl) (k:tw n Q (.exit id') L Hs):tw n (AdM id Q) (.exit id') L Hs:=AkM h k
theorem Xs {id:Nat} (k:tw n Q (.exit id) L Hs):tw n (AkQ Q) (.exit id) L Hs:=k
theorem Va {y:Code} (k:tw n Q .ret L Hs):tw n (Ang r P y Q) .ret L Hs:=k
theorem Vi {ι:Type} {Li:ι→Loc} {Hi:ι→List HP} {lt:ι→Prop} (k:tw n Q .ret L Hs):tw n (Art n Li Hi lt Q) .ret L Hs:=k
theorem Vb {id:Nat} (k:tw n Q .ret L Hs):tw n (AdM id Q) .ret L Hs:=k
theorem Vs (k:tw n Q .ret L Hs):tw n (AkQ Q) .ret L Hs:=k
/-! Quiet operations. -/
theorem Pv {op:Op} (h:PV P n L op ty v:=by first
 | exact AtO rfl | exact Ara rfl | exact Aa9 rfl rfl
 | exact AlT UndC.h rfl | exact AkY UndC.h rfl
 | exact AtM rfl | exact Asu rfl
 | exact AuV rfl rfl (by omega) | exact AuK rfl rfl (by omega) | exact AuP rfl rfl (by omega)
 | exact AuQ rfl rfl | exact AuR rfl rfl | exact AuS rfl rfl | exact AuT rfl rfl | exact AuU rfl rfl | exact AuO rfl rfl
 | exact AtL rfl rfl | exact AtG rfl rfl | exact AtH rfl rfl | exact AtI rfl rfl | exact AtJ rfl rfl | exact AtK rfl rfl
 | exact AlR rfl | exact AlS rfl
 | exact AhR rfl rfl (by first | (simp only[List.length_append,List.length_take,List.length_drop,List.length_cons,List.length_nil];omega) | (simp;try omega))
 | exact Aoy rfl rfl | exact AkZ UndC.h rfl | exact Aoz rfl rfl | exact AoA rfl rfl
 | exact Abj UndC.h rfl rfl rfl (by omega)
 | exact AbW UndC.h rfl rfl rfl (by omega) | exact AbM UndC.h rfl rfl rfl (by omega) | exact AcO UndC.h rfl rfl rfl rfl rfl (by omega) (by omega)
 | exact AuN rfl rfl (by omega) | exact AuM rfl rfl (by omega)):PV P n L op ty v:=h
theorem Vv {op:Op} (h:PV P n L op ty v:=by exact Pv) (hd:Nat.blt d n=true:=by exact rfl) (k:wo r P n ops os ((d,v)::L) Hs Q):wo r P n ops (⟨some d,op,ty,pos,after,none⟩::os) L Hs Q:=Aa5 h hd k
theorem Vf {i b off:Nat} {fs:Array Field} {fd:Field} {ti:TypeInfo} {m:Nat} (k0:Nat) (ft:TypeId) (ht:P.underlying t=some (.struct fs):=by exact UndC.h) (hf:fs[i]?=some fd:=by exact rfl) (hft:fd.type=ft:=by exact rfl) (hi:P.info? ft=some ti:=by exact InfC.h) (hz:Nat.beq ti.size 0=false:=by exact rfl)
    (hx:ev L x=some (.pointer (some ⟨b,off,none⟩)):=by exact rfl) (hk:fd.offset=k0:=by exact rfl) (hm:off+k0=m:=by first | exact Nat.zero_add _ | exact Nat.add_zero _ | exact rfl) (hd:Nat.blt d n=true:=by exact rfl) (k:wo r P n ops os ((d,.pointer (some ⟨b,m,none⟩))::L) Hs Q):wo r P n ops (⟨some d,.fieldAddr t x i,ty,pos,after,none⟩::os) L Hs Q :=
 Aa5 (Afe ht hf (by rw[hft];exact hi) hz hx hk hm) hd k
theorem Vx {op:Op} (h:PV P n L op ty v) (hd:Nat.blt d n=true:=by exact rfl) (k:wo r P n ops os ((d,v)::L) Hs Q):wo r P n ops (⟨some d,op,ty,pos,after,none⟩::os) L Hs Q:=Aa5 h hd k
theorem P1 {c x y:Operand} (hc:ev L c=some (.bool true):=by exact rfl) (hx:ev L x=some v:=by exact rfl) (hd:Nat.blt d n=true:=by exact rfl) (k:wo r P n ops os ((d,v)::L) Hs Q):wo r P n ops (⟨some d,.pick c x y,ty,pos,after,none⟩::os) L Hs Q:=Aa5 (Ajh hc hx) hd k
theorem P0 {c x y:Operand} (hc:ev L c=some (.bool false):=by exact rfl) (hy:ev L y=some v:=by exact rfl) (hd:Nat.blt d n=true:=by exact rfl) (k:wo r P n ops os ((d,v)::L) Hs Q):wo r P n ops (⟨some d,.pick c x y,ty,pos,after,none⟩::os) L Hs Q:=Aa5 (Aji hc hy) hd k
/-! Guards. -/
theorem I1 {j:Nat} {dst:Option Tmp} {op:Op} (hj:gd ops L j=some (.bool true):=by exact rfl) (k:wo r P n ops (⟨dst,op,ty,pos,after,none⟩::os) L Hs Q):wo r P n ops (⟨dst,op,ty,pos,after,some (j,true)⟩::os) L Hs Q:=Aqq hj k
theorem I0 {j:Nat} {dst:Option Tmp} {op:Op} (hj:gd ops L j=some (.bool false):=by exact rfl) (k:wo r P n ops (⟨dst,op,ty,pos,after,none⟩::os) L Hs Q):wo r P n ops (⟨dst,op,ty,pos,after,some (j,false)⟩::os) L Hs Q:=Aqq hj k
theorem O1 {j:Nat} {op:Op} (hj:gd ops L j=some (.bool true):=by exact rfl) (hd:Nat.blt d n=true:=by exact rfl) (k:wo r P n ops os ((d,undef)::L) Hs Q):wo r P n ops (⟨some d,op,ty,pos,after,some (j,false)⟩::os) L Hs Q:=ArR hj rfl hd k
theorem O0 {j:Nat} {op:Op} (hj:gd ops L j=some (.bool false):=by exact rfl) (hd:Nat.blt d n=true:=by exact rfl) (k:wo r P n ops os ((d,undef)::L) Hs Q):wo r P n ops (⟨some d,op,ty,pos,after,some (j,true)⟩::os) L Hs Q:=ArR hj rfl hd k
theorem Ou {j:Nat} {want:Bool} {op:Op} (hj:gd ops L j=some undef:=by exact rfl) (hd:Nat.blt d n=true:=by exact rfl) (k:wo r P n ops os ((d,undef)::L) Hs Q):wo r P n ops (⟨some d,op,ty,pos,after,some (j,want)⟩::os) L Hs Q:=Ats hj rfl hd k
/-! Memory. -/
theorem Zd {td:TypeDesc} {b off:Nat} {l:List Value} (ht:P.underlying t=some td:=by exact UndC.h) (hfl:AdK td=true:=by exact rfl) (hx:ev L x=some (.pointer (some ⟨b,off,none⟩)):=by exact rfl) (hr:Aga b l Hs:=by exact inferInstance) (hv:l[off]?=some v:=by exact rfl) (hd:Nat.blt d n=true:=by exact rfl)
    (k:wo r P n ops os ((d,v)::L) Hs Q):wo r P n ops (⟨some d,.load t x,ty,pos,after,none⟩::os) L Hs Q:=Asr ht hfl hx (hr:=hr) hv hd k
theorem Zm {td:TypeDesc} {b off:Nat} {l:List Value} (vs:List Value) {ti:TypeInfo} (ht:P.underlying t=some td:=by exact UndC.h) (hfl:AdK td=false:=by exact rfl) (hi:P.info? t=some ti:=by exact InfC.h) (hx:ev L x=some (.pointer (some ⟨b,off,none⟩)):=by exact rfl) (hr:Aga b l Hs:=by exact inferInstance) (hl:off+ti.size≤l.length:=by exact Nat.le_of_ble_eq_true rfl) (hv:(l.drop off).take ti.size=vs:=by rfl) (hd:Nat.blt d n=true:=by exact rfl)
    (k:wo r P n ops os ((d,.agg vs.toArray)::L) Hs Q):wo r P n ops (⟨some d,.load t x,ty,pos,after,none⟩::os) L Hs Q:=Anm ht hfl hi hx (hr:=hr) hl hv hd k
theorem Zo {ti:TypeInfo} {b off:Nat} {T:TypeId} {l:List Value} {Gs:List HP} (hi:P.info? t=some ti:=by exact InfC.h) (hs:Nat.beq ti.size 1=true:=by exact rfl) (hx:ev L x=some (.pointer (some ⟨b,off,none⟩)):=by exact rfl) (hy:ev L y=some v:=by exact rfl) (hu:StC b off v T l Hs Gs:=by exact inferInstance) (h1:Aaz v=true:=by exact rfl) (ho:off<l.length:=by first | (simp;done) | (simp;omega))
    (k:wo r P n ops os L Gs Q):wo r P n ops (⟨none,.store t x y,ty,pos,after,none⟩::os) L Hs Q:=AfV hi hs hx hy (hu:=hu) h1 ho k
theorem Zp {ti:TypeInfo} {b off:Nat} {T:TypeId} {l vs:List Value} {Gs:List HP} (hi:P.info? t=some ti:=by exact InfC.h) (hx:ev L x=some (.pointer (some ⟨b,off,none⟩)):=by exact rfl) (hy:ev L y=some (.agg vs.toArray):=by exact rfl) (hs:Nat.beq ti.size vs.length=true:=by exact rfl) (hu:AlB b off vs T l Hs Gs:=by exact inferInstance) (h1:vs.all Aaz=true:=by exact rfl) (ho:off+vs.length≤l.length:=by first | (simp;done) | (simp;omega))
    (k:wo r P n ops os L Gs Q):wo r P n ops (⟨none,.store t x y,ty,pos,after,none⟩::os) L Hs Q:=AkW hi hs hx hy (hu:=hu) h1 ho k
theorem Zc (zs:List Value) {ti:TypeInfo} {z:Value} (hi:P.info? t=some ti:=by exact InfC.h) (hz:ti.zero=some z:=by exact rfl) (hzs:z.cells.toList=zs:=by exact rfl) (hd:Nat.blt d n=true:=by exact rfl)
    (k:∀b,wo r P n ops os ((d,.pointer (some ⟨b,0,none⟩))::L) (Ce b t zs::Hs) Q):wo r P n ops (⟨some d,.alloc t,ty,pos,after,none⟩::os) L Hs Q:=ArT hi hz hzs hd k
theorem Zx (vs:List Value) (hx:ev L x=some v:=by exact rfl) (hv:v.cells.toList=vs:=by exact rfl) (hd:Nat.blt d n=true:=by exact rfl)
    (k:∀b,wo r P n ops os ((d,.pointer (some ⟨b,0,none⟩))::L) (Ce b t vs::Hs) Q):wo r P n ops (⟨some d,.box t x,ty,pos,after,none⟩::os) L Hs Q:=AuC hx hv hd k
theorem Zv {ti:TypeInfo} {z:Value} {len:Nat} {ps:List (Nat×Operand)} (vs:List Value) {cs:List Value} (ht:P.underlying t=some (.slice e):=by exact UndC.h) (hi:P.info? e=some ti:=by exact InfC.h) (hz:ti.zero=some z:=by exact rfl) (hzs:Nat.beq z.cells.size ti.size=true:=by exact rfl)
    (hps:evps L ps=some (Aej 0 vs):=by exact rfl) (hlen:vs.length=len:=by exact rfl) (hv:vs.all (fun v=>Nat.beq v.cells.size ti.size)=true:=by exact rfl) (hsm:Nat.ble (vs.length * ti.size) 16777216=true:=by exact rfl) (hcs:vs.flatMap (·.cells.toList)=cs:=by exact rfl) (hd:Nat.blt d n=true:=by exact rfl)
    (k:∀b,wo r P n ops os ((d,.slice (some ⟨b,0,none⟩) len len)::L) (Ce b e cs::Hs) Q):wo r P n ops (⟨some d,.buildSlice t len ps.toArray,ty,pos,after,none⟩::os) L Hs Q:=AlN vs ht hi hz hzs hps hlen hv hsm hcs hd k
theorem Ye (sz:Nat) {a:Option Addr} {kd:IntKind} {i:Int} {m len cap kk:Nat} {ti:TypeInfo} {xs:List Value} (ht:P.underlying t=some (.slice e):=by exact UndC.h) (hi:P.info? e=some ti:=by exact InfC.h) (hsz:ti.size=sz:=by exact rfl)
    (hx:ev L x=some (.slice a len cap):=by exact rfl) (hy:ev L y=some (.int kd i):=by exact rfl) (hm:i=(m:Int):=by exact rfl) (h:m<len:=by omega) (hr:Abm a xs Hs:=by exact inferInstance) (hne:0<xs.length:=by first | (rw[List.length_map];omega) | exact Alk (by omega) (fun _=>rfl) | (simp;omega)) (hk:m * sz=kk:=by first | exact Nat.mul_one _ | exact rfl) (hd:Nat.blt d n=true:=by exact rfl)
    (k:wo r P n ops os ((d,.pointer (Abh a kk))::L) Hs Q):wo r P n ops (⟨some d,.indexAddr t x y,ty,pos,after,none⟩::os) L Hs Q:=AbB ht hi hsz hx hy hm h (hr:=hr) hne hk hd k
theorem Yf (o:Nat) (ft:TypeId) {i:Nat} {a:Option Addr} {q:Nat} {fs:Array Field} {fd:Field} {xs:List Value} {ti:TypeInfo} {kk:Nat} (ht:P.underlying t=some (.struct fs):=by exact UndC.h) (hf:fs[i]?=some fd:=by exact rfl) (hft:fd.type=ft:=by exact rfl) (hi:P.info? ft=some ti:=by exact InfC.h) (hz:Nat.beq ti.size 0=false:=by exact rfl)
    (hx:ev L x=some (.pointer (Abh a q)):=by exact rfl) (ho:fd.offset=o:=by exact rfl) (hk:q+o=kk:=by exact rfl) (hr:Abm a xs Hs:=by exact inferInstance) (hne:0<xs.length:=by first | (rw[List.length_map];omega) | exact Alk (by omega) (fun _=>rfl) | (simp;omega)) (hd:Nat.blt d n=true:=by exact rfl)
    (k:wo r P n ops os ((d,.pointer (Abh a kk))::L) Hs Q):wo r P n ops (⟨some d,.fieldAddr t x i,ty,pos,after,none⟩::os) L Hs Q:=Ass ht hf (by rw[hft];exact hi) hz hx ho hk (hr:=hr) hne hd k
theorem Ym {a:Option Addr} {q:Nat} {xs:List Value} {td:TypeDesc} (ht:P.underlying t=some td:=by exact UndC.h) (hfl:AdK td=true:=by exact rfl) (hx:ev L x=some (.pointer (Abh a q)):=by exact rfl) (hr:Abm a xs Hs:=by exact inferInstance) (hv:xs[q]?=some v:=by first | exact Ag4 (by omega) | exact rfl | (rw[AeA (fun _=>rfl) (by decide) (by omega)];rfl)) (hd:Nat.blt d n=true:=by exact rfl)
    (k:wo r P n ops os ((d,v)::L) Hs Q):wo r P n ops (⟨some d,.load t x,ty,pos,after,none⟩::os) L Hs Q:=Aep ht hfl hx (hr:=hr) hv hd k
/-! Regions that draw. -/
theorem Di {o:Oper} {q:Nat} {ls:Array Bool} {A:List HP} (i:Nat) (hnd:AcP ops=true:=by exact rfl) (ho:ops[i]?=some o:=by exact rfl) (hd:AcF n o.dst=true:=by exact rfl) (hr:(Region.ready .any ops ls).contains i=true:=by kernel_rfl) (hf:Am1 ops ls i o=true:=by kernel_rfl)
    (t:Tells P n ops o A L v) (k:An r P n ops A Q q (ls.setIfInBounds i true) (putL o.dst v L) Hs):An r P n ops A Q (q+1) ls L Hs:=Aa1 i hnd ho hd hr hf t k
theorem Dw {id:Nat} {l:List Oper} {Rs:List HP} (A:List HP) (hc:c=.region id l.toArray true:=by exact rfl) (hm:P.follows .mixedOrders=true:=by exact rfl) (hnd:AcP l.toArray=true:=by exact rfl) (hp:AaT A Hs Rs:=by exact inferInstance)
    (k:An r P n l.toArray A Q l.length (Array.replicate l.length false) L Rs):wc r P n c L Hs Q:=Atb hc hm hnd A (hp:=hp) k
theorem Dn {o:Oper} {q:Nat} {ls:Array Bool} {A:List HP} (j:Nat) (hr:Region.ready .any ops ls=[j]:=by kernel_rfl) (ho:ops[j]?=some o:=by exact rfl) (k:AnOp r P n ops A o (fun L' Hs'=>An r P n ops A Q q (ls.setIfInBounds j true) L' Hs') L Hs) :
    An r P n ops A Q (q+1) ls L Hs:=Avj j hr ho k
theorem Dd {ls:Array Bool} {A:List HP} (hr:Region.ready .any ops ls=[]:=by kernel_rfl) (k:tw n Q .normal L (A++Hs)):An r P n ops A Q 0 ls L Hs:=Avk hr k
section
variable {A:List HP} {dst:Option Tmp} {op:Op} {j:Nat}
theorem Uv (h:PV P n L op ty v:=by exact Pv):Tells P n ops ⟨dst,op,ty,pos,after,none⟩ A L v:=Aaq h
theorem UP1 {z x y:Operand} (hz:ev L z=some (.bool true):=by exact rfl) (hx:ev L x=some v:=by exact rfl):Tells P n ops ⟨dst,.pick z x y,ty,pos,after,none⟩ A L v:=Aaq (Ajh hz hx)
theorem UP0 {z x y:Operand} (hz:ev L z=some (.bool false):=by exact rfl) (hy:ev L y=some v:=by exact rfl):Tells P n ops ⟨dst,.pick z x y,ty,pos,after,none⟩ A L v:=Aaq (Aji hz hy)
theorem Ux (h:PV P n L op ty v):Tells P n ops ⟨dst,op,ty,pos,after,none⟩ A L v:=Aaq h
theorem U1 (hj:gd ops L j=some (.bool true):=by exact rfl) (h:Tells P n ops ⟨dst,op,ty,pos,after,none⟩ A L v):Tells P n ops ⟨dst,op,ty,pos,after,some (j,true)⟩ A L v:=AaA hj h
theorem U0 (hj:gd ops L j=some (.bool false):=by exact rfl) (h:Tells P n ops ⟨dst,op,ty,pos,after,none⟩ A L v):Tells P n ops ⟨dst,op,ty,pos,after,some (j,false)⟩ A L v:=AaA hj h
theorem Uu {want:Bool} (hj:gd ops L j=some undef:=by exact rfl):Tells P n ops ⟨dst,op,ty,pos,after,some (j,want)⟩ A L undef:=AtB hj rfl
theorem Uf {i b off:Nat} {fs:Array Field} {fd:Field} {ti:TypeInfo} {m:Nat} (k0:Nat) (ft:TypeId) (ht:P.underlying t=some (.struct fs):=by exact UndC.h) (hf:fs[i]?=some fd:=by exact rfl) (hft:fd.type=ft:=by exact rfl) (hi:P.info? ft=some ti:=by exact InfC.h) (hz:Nat.beq ti.size 0=false:=by exact rfl)
    (hx:ev L x=some (.pointer (some ⟨b,off,none⟩)):=by exact rfl) (hk:fd.offset=k0:=by exact rfl) (hm:off+k0=m:=by first | exact Nat.zero_add _ | exact Nat.add_zero _ | exact rfl):Tells P n ops ⟨dst,.fieldAddr t x i,ty,pos,after,none⟩ A L (.pointer (some ⟨b,m,none⟩)) :=
 Aaq (Afe ht hf (by rw[hft];exact hi) hz hx hk hm)
theorem Ul {td:TypeDesc} {b off:Nat} {l:List Value} (ht:P.underlying t=some td:=by exact UndC.h) (hfl:AdK td=true:=by exact rfl) (hx:ev L x=some (.pointer (some ⟨b,off,none⟩)):=by exact rfl) (hr:Aga b l A:=by exact inferInstance) (hv:l[off]?=some v:=by exact rfl) :
    Tells P n ops ⟨dst,.load t x,ty,pos,after,none⟩ A L v:=AcZ ht hfl hx (hr:=hr) hv
end
theorem Ps {ps:List (Nat×Operand)} {pv:List (Nat×Value)} {fields:Array Field} {ti:TypeInfo} {z:Value} {zs:List Value} {pl:List (Nat×Nat)} (vs:List Value) (ht:P.underlying t=some (.struct fields):=by exact UndC.h) (hi:P.info? t=some ti:=by exact InfC.h) (hz:ti.zero=some z:=by exact rfl) (hzs:z.cells.toList=zs:=by exact rfl)
    (hpl:fields.toList.mapM (fun f=>(P.info? f.type).map fun i=>(f.offset,i.size))=some pl:=by exact rfl) (hps:evps L ps=some pv:=by exact rfl) (hf:AmQ (fun i=>pl[i]?) zs pv=some vs:=by exact rfl):PV P n L (.build t ps.toArray) ty (.agg vs.toArray):=Ar9 ht hi hz hzs hpl hps hf
section
variable {A:List HP} {K:Loc→List HP→Prop}
theorem Nc (zs:List Value) {ti:TypeInfo} {z:Value} (hi:P.info? t=some ti:=by exact InfC.h) (hz:ti.zero=some z:=by exact rfl) (hzs:z.cells.toList=zs:=by exact rfl) (hd:Nat.blt d n=true:=by exact rfl)
    (k:∀b,K ((d,.pointer (some ⟨b,0,none⟩))::L) (Ce b t zs::Hs)):AnOp r P n ops A ⟨some d,.alloc t,ty,pos,after,none⟩ K L Hs:=Atl hi hz hzs hd k
theorem Nl {ti:TypeInfo} {z:Value} {len:Nat} {ps:List (Nat×Operand)} (vs:List Value) {cs:List Value} (ht:P.underlying t=some (.slice e):=by exact UndC.h) (hi:P.info? e=some ti:=by exact InfC.h) (hz:ti.zero=some z:=by exact rfl) (hzs:Nat.beq z.cells.size ti.size=true:=by exact rfl)
    (hps:evps L ps=some (Aej 0 vs):=by exact rfl) (hlen:vs.length=len:=by exact rfl) (hv:vs.all (fun v=>Nat.beq v.cells.size ti.size)=true:=by exact rfl) (hsm:Nat.ble (vs.length * ti.size) 16777216=true:=by exact rfl) (hcs:vs.flatMap (·.cells.toList)=cs:=by exact rfl) (hd:Nat.blt d n=true:=by exact rfl)
    (k:∀b,K ((d,.slice (some ⟨b,0,none⟩) len len)::L) (Ce b e cs::Hs)):AnOp r P n ops A ⟨some d,.buildSlice t len ps.toArray,ty,pos,after,none⟩ K L Hs:=Aly vs ht hi hz hzs hps hlen hv hsm hcs hd k
theorem No {ti:TypeInfo} {b off:Nat} {T:TypeId} {l:List Value} {Gs:List HP} (hi:P.info? t=some ti:=by exact InfC.h) (hs:Nat.beq ti.size 1=true:=by exact rfl) (hx:ev L x=some (.pointer (some ⟨b,off,none⟩)):=by exact rfl) (hy:ev L y=some v:=by exact rfl) (hu:StC b off v T l Hs Gs:=by exact inferInstance) (h1:Aaz v=true:=by exact rfl) (ho:off<l.length:=by first | (simp;done) | (simp;omega))
    (k:K L Gs):AnOp r P n ops A ⟨none,.store t x y,ty,pos,after,none⟩ K L Hs:=Ati hi hs hx hy (hu:=hu) h1 ho k
theorem Na {ti:TypeInfo} {b off:Nat} {T:TypeId} {l vs:List Value} {Gs:List HP} (hi:P.info? t=some ti:=by exact InfC.h) (hx:ev L x=some (.pointer (some ⟨b,off,none⟩)):=by exact rfl) (hy:ev L y=some (.agg vs.toArray):=by exact rfl) (hs:Nat.beq ti.size vs.length=true:=by exact rfl) (hu:AlB b off vs T l Hs Gs:=by exact inferInstance) (h1:vs.all Aaz=true:=by exact rfl) (ho:off+vs.length≤l.length:=by first | (simp;done) | (simp;omega))
    (k:K L Gs):AnOp r P n ops A ⟨none,.store t x y,ty,pos,after,none⟩ K L Hs:=AmY hi hs hx hy (hu:=hu) h1 ho k
end
/-! Several at once. -/
theorem Qc {id:Nat} {l:List Oper} (h:c=.seq (sA c) (sB c):=by exact rfl) (h2:sA c=.region id l.toArray false:=by exact rfl) (k:wo r P n l.toArray l L Hs (Ang r P (sB c) Q)):wc r P n c L Hs Q:=Aut h (AoK h2 k)
section
variable {ty1 ty2:TypeId} {d1 d2:Nat} {pos1 pos2:String} {after1 after2:Array Edge} {o1 o2:Op} {v1 v2:Value}
theorem Qv (h1:PV P n L o1 ty1 v1:=by exact Pv) (hd1:Nat.blt d1 n=true:=by exact rfl) (h2:PV P n ((d1,v1)::L) o2 ty2 v2:=by exact Pv) (hd2:Nat.blt d2 n=true:=by exact rfl) (k:wo r P n ops os ((d2,v2)::(d1,v1)::L) Hs Q) :
    wo r P n ops (⟨some d1,o1,ty1,pos1,after1,none⟩::⟨some d2,o2,ty2,pos2,after2,none⟩::os) L Hs Q:=Aa5 h1 hd1 (Aa5 h2 hd2 k)
theorem Qx {b off:Nat} {l:List Value} {td:TypeDesc} {i:Nat} {fs:Array Field} {fd:Field} {ti:TypeInfo} {m:Nat} {t2:TypeId} (k0:Nat) (ft:TypeId) (ht:P.underlying t=some (.struct fs):=by exact UndC.h) (hf:fs[i]?=some fd:=by exact rfl) (hft:fd.type=ft:=by exact rfl) (hi:P.info? ft=some ti:=by exact InfC.h) (hz:Nat.beq ti.size 0=false:=by exact rfl)
    (hx:ev L x=some (.pointer (some ⟨b,off,none⟩)):=by exact rfl) (hk:fd.offset=k0:=by exact rfl) (hm:off+k0=m:=by first | exact Nat.zero_add _ | exact Nat.add_zero _ | exact rfl) (hd1:Nat.blt d1 n=true:=by exact rfl)
    (ht2:P.underlying t2=some td:=by exact UndC.h) (hfl:AdK td=true:=by exact rfl) (hy:ev ((d1,.pointer (some ⟨b,m,none⟩))::L) y=some (.pointer (some ⟨b,m,none⟩)):=by exact rfl) (hr:Aga b l Hs:=by exact inferInstance) (hv:l[m]?=some v2:=by exact rfl) (hd2:Nat.blt d2 n=true:=by exact rfl)
    (k:wo r P n ops os ((d2,v2)::(d1,.pointer (some ⟨b,m,none⟩))::L) Hs Q):wo r P n ops (⟨some d1,.fieldAddr t x i,ty1,pos1,after1,none⟩::⟨some d2,.load t2 y,ty2,pos2,after2,none⟩::os) L Hs Q :=
 Aa5 (Afe ht hf (by rw[hft];exact hi) hz hx hk hm) hd1 (Asr ht2 hfl hy (hr:=hr) hv hd2 k)
end
theorem J1 {j:Nat} {op:Op} (hj:gd ops L j=some (.bool true):=by exact rfl) (h:PV P n L op ty v:=by exact Pv) (hd:Nat.blt d n=true:=by exact rfl) (k:wo r P n ops os ((d,v)::L) Hs Q):wo r P n ops (⟨some d,op,ty,pos,after,some (j,true)⟩::os) L Hs Q:=Aqq hj (Aa5 h hd k)
theorem J0 {j:Nat} {op:Op} (hj:gd ops L j=some (.bool false):=by exact rfl) (h:PV P n L op ty v:=by exact Pv) (hd:Nat.blt d n=true:=by exact rfl) (k:wo r P n ops os ((d,v)::L) Hs Q):wo r P n ops (⟨some d,op,ty,pos,after,some (j,false)⟩::os) L Hs Q:=Aqq hj (Aa5 h hd k)
theorem Dv {q:Nat} {ls:Array Bool} {A:List HP} {dst:Option Tmp} {op:Op} (i:Nat) (hnd:AcP ops=true:=by exact rfl) (ho:ops[i]?=some ⟨dst,op,ty,pos,after,none⟩:=by exact rfl) (hd:AcF n dst=true:=by exact rfl) (hr:(Region.ready .any ops ls).contains i=true:=by kernel_rfl) (hf:Am1 ops ls i ⟨dst,op,ty,pos,after,none⟩=true:=by kernel_rfl)
    (h:PV P n L op ty v:=by exact Pv) (k:An r P n ops A Q q (ls.setIfInBounds i true) (putL dst v L) Hs):An r P n ops A Q (q+1) ls L Hs:=Aa1 i hnd ho hd hr hf (Aaq h) k
theorem D0 {q j:Nat} {ls:Array Bool} {A:List HP} {dst:Option Tmp} {op:Op} (i:Nat) (hnd:AcP ops=true:=by exact rfl) (ho:ops[i]?=some ⟨dst,op,ty,pos,after,some (j,true)⟩:=by exact rfl) (hd:AcF n dst=true:=by exact rfl) (hr:(Region.ready .any ops ls).contains i=true:=by kernel_rfl) (hf:Am1 ops ls i ⟨dst,op,ty,pos,after,some (j,true)⟩=true:=by kernel_rfl)
    (hj:gd ops L j=some (.bool false):=by exact rfl) (k:An r P n ops A Q q (ls.setIfInBounds i true) (putL dst undef L) Hs):An r P n ops A Q (q+1) ls L Hs:=Aa1 i hnd ho hd hr hf (As4 hj rfl) k
theorem D1 {q j:Nat} {ls:Array Bool} {A:List HP} {dst:Option Tmp} {op:Op} (i:Nat) (hnd:AcP ops=true:=by exact rfl) (ho:ops[i]?=some ⟨dst,op,ty,pos,after,some (j,false)⟩:=by exact rfl) (hd:AcF n dst=true:=by exact rfl) (hr:(Region.ready .any ops ls).contains i=true:=by kernel_rfl) (hf:Am1 ops ls i ⟨dst,op,ty,pos,after,some (j,false)⟩=true:=by kernel_rfl)
    (hj:gd ops L j=some (.bool true):=by exact rfl) (k:An r P n ops A Q q (ls.setIfInBounds i true) (putL dst undef L) Hs):An r P n ops A Q (q+1) ls L Hs:=Aa1 i hnd ho hd hr hf (As4 hj rfl) k
theorem DP0 {q:Nat} {ls:Array Bool} {A:List HP} {dst:Option Tmp} {z x y:Operand} (i:Nat) (hnd:AcP ops=true:=by exact rfl) (ho:ops[i]?=some ⟨dst,.pick z x y,ty,pos,after,none⟩:=by exact rfl) (hd:AcF n dst=true:=by exact rfl) (hr:(Region.ready .any ops ls).contains i=true:=by kernel_rfl) (hf:Am1 ops ls i ⟨dst,.pick z x y,ty,pos,after,none⟩=true:=by kernel_rfl)
    (hz:ev L z=some (.bool false):=by exact rfl) (hy:ev L y=some v:=by exact rfl) (k:An r P n ops A Q q (ls.setIfInBounds i true) (putL dst v L) Hs):An r P n ops A Q (q+1) ls L Hs:=Aa1 i hnd ho hd hr hf (Aaq (Aji hz hy)) k
theorem DP1 {q:Nat} {ls:Array Bool} {A:List HP} {dst:Option Tmp} {z x y:Operand} (i:Nat) (hnd:AcP ops=true:=by exact rfl) (ho:ops[i]?=some ⟨dst,.pick z x y,ty,pos,after,none⟩:=by exact rfl) (hd:AcF n dst=true:=by exact rfl) (hr:(Region.ready .any ops ls).contains i=true:=by kernel_rfl) (hf:Am1 ops ls i ⟨dst,.pick z x y,ty,pos,after,none⟩=true:=by kernel_rfl)
    (hz:ev L z=some (.bool true):=by exact rfl) (hx:ev L x=some v:=by exact rfl) (k:An r P n ops A Q q (ls.setIfInBounds i true) (putL dst v L) Hs):An r P n ops A Q (q+1) ls L Hs:=Aa1 i hnd ho hd hr hf (Aaq (Ajh hz hx)) k
theorem Ne {a:Option Addr} {kd:IntKind} {i:Int} {len cap kk:Nat} {ti:TypeInfo} {xs:List Value} {A:List HP} {K:Loc→List HP→Prop} (sz m:Nat) (ht:P.underlying t=some (.slice e):=by exact UndC.h) (hi:P.info? e=some ti:=by exact InfC.h) (hsz:ti.size=sz:=by exact rfl)
    (hx:ev L x=some (.slice a len cap):=by exact rfl) (hy:ev L y=some (.int kd i):=by exact rfl) (hm:i=(m:Int):=by exact rfl) (h:m<len:=by omega) (hr:Abm a xs Hs:=by exact inferInstance) (hne:0<xs.length:=by first | (rw[List.length_map];omega) | exact Alk (by omega) (fun _=>rfl) | (simp;omega) | simp) (hk:m * sz=kk:=by first | exact Nat.mul_one _ | exact rfl) (hd:Nat.blt d n=true:=by exact rfl)
    (k:K ((d,.pointer (Abh a kk))::L) Hs):AnOp r P n ops A ⟨some d,.indexAddr t x y,ty,pos,after,none⟩ K L Hs:=AjU ht hi hsz hx hy hm h (hr:=hr) hne hk hd k
theorem Nm {a:Option Addr} {q:Nat} {xs:List Value} {td:TypeDesc} {A:List HP} {K:Loc→List HP→Prop} (ht:P.underlying t=some td:=by exact UndC.h) (hfl:AdK td=true:=by exact rfl) (hx:ev L x=some (.pointer (Abh a q)):=by exact rfl) (hr:Abm a xs Hs:=by exact inferInstance) (hv:xs[q]?=some v) (hd:Nat.blt d n=true:=by exact rfl)
    (k:K ((d,v)::L) Hs):AnOp r P n ops A ⟨some d,.load t x,ty,pos,after,none⟩ K L Hs:=Atk ht hfl hx (hr:=hr) hv hd k
theorem Yl {a:Option Addr} {q:Nat} {xs:List Value} {td:TypeDesc} (ht:P.underlying t=some td:=by exact UndC.h) (hfl:AdK td=true:=by exact rfl) (hx:ev L x=some (.pointer (Abh a q)):=by exact rfl) (hr:Abm a xs Hs:=by exact inferInstance) (hv:xs[q]?=some v) (hd:Nat.blt d n=true:=by exact rfl)
    (k:wo r P n ops os ((d,v)::L) Hs Q):wo r P n ops (⟨some d,.load t x,ty,pos,after,none⟩::os) L Hs Q:=Aep ht hfl hx (hr:=hr) hv hd k
end
end
/-- The last digit of a number, as a byte. -/
def dgt (n:Nat):UInt8:=UInt8.ofNat (48+n % 10)
def AaP (n:Nat):List UInt8:=if n<10 then [dgt n] else AaP (n / 10)++[dgt n]
termination_by n
/-- What stands ahead of the last digits. -/
def AlU (n:Nat):List UInt8:=if n=0 then [] else AaP n
theorem AdL (n:Nat):(dgt n).toNat=48+n % 10:=by
 have:48+n % 10<256:=by omega
 simp[dgt,UInt8.toNat_ofNat,Nat.mod_eq_of_lt this]
theorem Ai0 (n:Nat):AaP n=AlU (n / 10)++[dgt n]:=by
 rw[AaP,AlU]
 by_cases h:n<10
 · have:n / 10=0:=by omega
   simp[h,this]
 · have:¬(n / 10=0):=by omega
   simp[h,this]
theorem AsC {n:Nat} (h:0<n):AlU n=AlU (n / 10)++[dgt n]:=by
 rw[AlU,if_neg (by omega)];exact Ai0 n
theorem Alp (n:Nat):(AaP n).length≤n+1:=by
 induction n using Nat.strongRecOn with
 | _ n ih =>
   rw[AaP]
   split
   · simp
   · have:=ih (n / 10) (by omega)
     simp only[List.length_append,List.length_singleton]
     omega
abbrev Bs:=List UInt8
/-- Decimals, read on. -/
def dn:Bs→Nat→Option Nat
 | [],n=>some n
 | c::r,n=>if c.toNat<48∨57<c.toNat∨1073741824<n then none else dn r (10 * n+(c.toNat-48))
def AnJ (n:Nat):Bs:=if n≤1073741824 then AaP n else []
def Abx (s:Bs):Option Nat:=match dn s 0 with
 | none=>none
 | some n=>if s=[]∨¬AnJ n=s then none else some n
theorem AqM {s:Bs} {i:Nat} (h:i<s.length) (n:Nat):dn (s.drop i) n=if (s.getD i 0).toNat<48∨57<(s.getD i 0).toNat∨1073741824<n then none else dn (s.drop (i+1)) (10 * n+((s.getD i 0).toNat-48)):=by
 have e:s.drop i=s.getD i 0::s.drop (i+1):=by
  rw[List.drop_eq_getElem_cons h];simp[h]
 rw[e,dn]
def Acy (n:Nat):Bs:=List.replicate n 0
structure W5 where
 a:UInt32
 b:UInt32
 c:UInt32
 d:UInt32
 e:UInt32
def W5.list (h:W5):List UInt32:=[h.a,h.b,h.c,h.d,h.e]
def Atf (c:UInt8) (k:Nat):UInt32:=c.toUInt32 <<< UInt32.ofNat k
def Aul (b:Bs) (i:Nat):UInt32:=Atf (b.getD (4 * i) 0) 24 ||| Atf (b.getD (4 * i+1) 0) 16 ||| Atf (b.getD (4 * i+2) 0) 8 ||| (b.getD (4 * i+3) 0).toUInt32
def AqF (l:List UInt32) (i:Nat):UInt32:=Ask (l.getD (i-3) 0 ^^^ l.getD (i-8) 0 ^^^ l.getD (i-14) 0 ^^^ l.getD (i-16) 0) 1
def AaZ (b:Bs):Nat→List UInt32
 | 0=>[]
 | n+1=>AaZ b n++[if n<16 then Aul b n else AqF (AaZ b n) n]
theorem AbG (b:Bs) (n:Nat):(AaZ b n).length=n:=by
 induction n with
 | zero=>rfl
 | succ n ih=>simp[AaZ,ih]
def AoR (i:Nat) (b c d:UInt32):UInt32×UInt32 :=
 if i / 20=0 then ((b &&& c) ||| (~~~b &&& d),0x5a827999)
 else if i / 20=1 then (b ^^^ c ^^^ d,0x6ed9eba1)
 else if i / 20=2 then ((b &&& c) ||| (b &&& d) ||| (c &&& d),0x8f1bbcdc)
 else (b ^^^ c ^^^ d,0xca62c1d6)
def ApD (w:List UInt32) (i:Nat) (s:W5):W5:=⟨Ask s.a 5+(AoR i s.b s.c s.d).1+s.e+(AoR i s.b s.c s.d).2+w.getD i 0,s.a,Ask s.b 30,s.c,s.d⟩
def Ac8 (w:List UInt32) (h:W5):Nat→W5
 | 0=>h
 | n+1=>ApD w n (Ac8 w h n)
def Ahr (h:W5) (b:Bs):W5:=let s:=Ac8 (AaZ b 80) h 80;⟨h.a+s.a,h.b+s.b,h.c+s.c,h.d+s.d,h.e+s.e⟩
def Aav (s:Bs):Nat:=(s.length+8) / 64+1
def Ajo (s:Bs) (i:Nat):UInt8:=UInt8.ofNat (8 * s.length / 2 ^ (8 * (7-i)))
def AlV (s:Bs):Bs:=s++[0x80]++Acy (64 * Aav s-9-s.length)++(List.range 8).map (Ajo s)
theorem AoJ (s:Bs):(AlV s).length=64 * Aav s:=by
 simp only[AlV,Aav,Acy,List.length_append,List.length_replicate,List.length_map,List.length_range,List.length_singleton]
 omega
def h0W:W5:=⟨0x67452301,0xefcdab89,0x98badcfe,0x10325476,0xc3d2e1f0⟩
def AcV (p:Bs) (h:W5):Nat→W5
 | 0=>h
 | n+1=>Ahr (AcV p h n) ((p.drop (64 * n)).take 64)
def hexD:Bs:=[48,49,50,51,52,53,54,55,56,57,97,98,99,100,101,102]
def AhY (x:UInt32):Bs:=(List.range 8).map fun j=>hexD.getD ((x >>> UInt32.ofNat (28-4 * j)) &&& 15).toNat 0
/-- A content's name. -/
def AcL (s:Bs):Bs:=(AcV (AlV s) h0W (Aav s)).list.flatMap AhY
theorem AoW (x:UInt32):(AhY x).length=8:=by simp[AhY]
theorem Ae4 (s:Bs):(AcL s).length=40:=by simp[AcL,W5.list,AoW]
theorem AsZ (x:UInt32):∀c∈AhY x,c∈hexD:=by
 intro c hc
 simp only[AhY,List.mem_map,List.mem_range] at hc
 obtain⟨j,_,rfl⟩:=hc
 have hl:hexD.length=16:=rfl
 have h:((x >>> UInt32.ofNat (28-4 * j)) &&& 15).toNat<16:=by
  rw[UInt32.toNat_and]
  exact Nat.lt_of_le_of_lt Nat.and_le_right (by decide)
 rw[List.getD_eq_getElem?_getD,List.getElem?_eq_getElem (by rw[hl];exact h),Option.getD_some]
 exact List.getElem_mem _
theorem Ain (s:Bs):∀c∈AcL s,c∈hexD:=by
 intro c hc
 obtain⟨x,_,hx⟩:=List.mem_flatMap.1 hc
 exact AsZ x c hx
def dn2:Bs→Nat→Option Nat
 | [],n=>some n
 | c::r,n=>if c.toNat<48∨57<c.toNat then none else if 1073741824<10 * n+(c.toNat-48) then none else dn2 r (10 * n+(c.toNat-48))
theorem At7 {s:Bs} {i:Nat} (h:i<s.length) (n:Nat):dn2 (s.drop i) n=if (s.getD i 0).toNat<48∨57<(s.getD i 0).toNat then none else if 1073741824<10 * n+((s.getD i 0).toNat-48) then none else dn2 (s.drop (i+1)) (10 * n+((s.getD i 0).toNat-48)):=by
 have e:s.drop i=s.getD i 0::s.drop (i+1):=by
  rw[List.drop_eq_getElem_cons h];simp[h]
 rw[e,dn2]
theorem AvP:∀(s:Bs) (n m:Nat),dn s n=some m→n≤m:=by
 intro s
 induction s with
 | nil=>intro n m h;simp[dn] at h;omega
 | cons c r ih =>
   intro n m h
   simp only[dn] at h
   split at h
   · cases h
   · have:=ih _ _ h;omega
theorem Aq7:∀(s:Bs) (n m:Nat),n≤1073741824→(dn2 s n=some m↔dn s n=some m∧m≤1073741824):=by
 intro s
 induction s with
 | nil=>intro n m h;simp[dn,dn2];omega
 | cons c r ih =>
   intro n m h
   simp only[dn,dn2]
   by_cases h1:c.toNat<48∨57<c.toNat
   · rw[if_pos h1,if_pos (by omega)];simp
   · rw [if_neg h1,if_neg (show ¬(c.toNat<48∨57<c.toNat∨1073741824<n) by omega)]
     by_cases h2:1073741824<10 * n+(c.toNat-48)
     · rw [if_pos h2]
       constructor
       · intro e;cases e
       · rintro⟨e,e2⟩
         have:=AvP _ _ _ e
         omega
     · rw[if_neg h2]
       exact ih _ _ (by omega)
theorem At9 {c:UInt8} {n:Nat} (h:¬(c.toNat<48∨57<c.toNat)):dgt (10 * n+(c.toNat-48))=c:=by
 apply UInt8.toNat_inj.1
 rw[AdL];omega
theorem At8:∀(s:Bs) (n m:Nat),0<n→dn2 s n=some m→AaP m=AaP n++s:=by
 intro s
 induction s with
 | nil=>intro n m _ h;simp[dn2] at h;simp[h]
 | cons c r ih =>
   intro n m hn h
   simp only[dn2] at h
   split at h
   · cases h
   · rename_i h1
     split at h
     · cases h
     · rw[ih _ _ (by omega) h,Ai0 (10 * n+(c.toNat-48)),At9 h1]
       have e:(10 * n+(c.toNat-48)) / 10=n:=by omega
       rw[e,AlU,if_neg (by omega)]
       simp
theorem Ary:∀n:Nat,0<n→(AaP n).head?≠some 48:=by
 intro n
 induction n using Nat.strongRecOn with
 | _ n ih =>
   intro h
   rw[AaP]
   split
   · intro e
     simp only[List.head?_cons,Option.some.injEq] at e
     have:=congrArg UInt8.toNat e
     rw[AdL] at this
     simp at this;omega
   · have h2:=ih (n / 10) (by omega) (by omega)
     cases e:AaP (n / 10) with
     | nil=>rw[AaP] at e;split at e<;>simp at e
     | cons c r=>rw[e] at h2;exact h2
theorem AmU:AaP 0=[48]:=by rw[AaP];rfl
/-- What the document's reading is. -/
def AeJ (s:Bs):Option Nat:=match dn2 s 0 with
 | none=>none
 | some n=>if s.length=0∨(1<s.length∧s.getD 0 0=48) then none else some n
theorem Aor (s : Bs):Abx s=AeJ s:=by
 unfold Abx AeJ
 cases s with
 | nil=>simp[dn,dn2]
 | cons c r =>
   cases h2:dn2 (c::r) 0 with
   | none =>
     cases h1:dn (c::r) 0 with
     | none=>rfl
     | some m =>
       dsimp only
       have hm:1073741824<m:=by
        apply Classical.byContradiction
        intro hc
        rw[(Aq7 (c::r) 0 m (by omega)).2 ⟨h1,by omega⟩] at h2
        cases h2
       rw[if_pos]
       right
       rw[AnJ,if_neg (by omega)]
       intro e;cases e
   | some m =>
     obtain⟨h1,hm⟩:=(Aq7 (c::r) 0 m (by omega)).1 h2
     rw[h1]
     dsimp only
     have key : AnJ m=c::r↔¬(1<(c::r).length∧c=48):=by
      rw[AnJ,if_pos hm]
      simp only[dn2] at h2
      split at h2
      · cases h2
      · rename_i hc
        split at h2
        · cases h2
        · by_cases h0:c=48
          · subst h0
            cases r with
            | nil =>
              simp only[dn2,Option.some.injEq] at h2
              subst h2
              simp only[List.length_cons,List.length_nil]
              constructor
              · intro _;omega
              · intro _;exact AmU
            | cons d r =>
              constructor
              · intro e
                rcases Nat.eq_zero_or_pos m with hz | hp
                · subst hz;rw[AmU] at e;cases e
                · have:=Ary m hp
                  rw[e] at this
                  simp at this
              · intro e;exact absurd ⟨by simp,rfl⟩ e
          · have hpos:0<c.toNat-48:=by
              have:c.toNat≠48:=fun e=>h0 (UInt8.toNat_inj.1 (by simpa using e))
              omega
            have:=At8 r _ m (by omega) h2
            rw[this]
            have e2:AaP (10 * 0+(c.toNat-48))=[c]:=by
             rw[AaP,if_pos (by omega),At9 hc]
            rw[e2]
            constructor
            · intro _ ⟨_,e⟩;exact h0 e
            · intro _;rfl
     by_cases hk:1<(c::r).length∧c=48
     · rw[if_pos (.inr (fun e=>key.1 e hk)),if_pos (.inr (by simpa using hk))]
     · rw [if_neg,if_neg]
       · rintro(e | e)
         · simp at e
         · exact hk (by simpa using e)
       · rintro(e | e)
         · cases e
         · exact e (key.2 hk)
theorem Auf:∀(s t:Bs) (n:Nat),dn2 (s++t) n=(dn2 s n).bind (dn2 t):=by
 intro s
 induction s with
 | nil=>intro t n;simp[dn2]
 | cons c r ih =>
   intro t n
   simp only[List.cons_append,dn2]
   split
   · rfl
   · split
     · rfl
     · exact ih _ _
theorem Ap2:∀n:Nat,n≤1073741824→dn2 (AaP n) 0=some n:=by
 intro n
 induction n using Nat.strongRecOn with
 | _ n ih =>
   intro h
   rw[AaP]
   have h48:=AdL n
   split
   · rw[dn2,if_neg (by omega),if_neg (by omega),dn2]
     congr 1;omega
   · rw[Auf,ih (n / 10) (by omega) (by omega)]
     simp only[Option.bind_some]
     rw[dn2,if_neg (by omega),if_neg (by omega),dn2]
     congr 1;omega
theorem Aug (n:Nat):AaP n≠[]:=by rw[AaP];split<;>simp
theorem AhQ {n:Nat} (h:n≤1073741824):Abx (AaP n)=some n:=by
 have h2:=Ap2 n h
 obtain⟨h1,_⟩:=(Aq7 (AaP n) 0 n (by omega)).1 h2
 unfold Abx
 rw[h1]
 dsimp only
 rw[if_neg]
 rintro(e | e)
 · exact Aug n e
 · exact e (by rw[AnJ,if_pos h])
section
structure Cd where
 l:UInt8
 args:List Bs
 deriving DecidableEq,Repr
def AaH (l:List Bs):Bs:=l.flatMap (fun a=>32::a)
def Aby (c:Cd):Bs:=c.l::AaH c.args
def Ac5 (c:Cd):Bs:=Aby c++[10]
def Aau (l:List Cd):Bs:=l.flatMap Ac5
def Afp (s:Bs):Bs:=s++[90,32]++AcL s++[10]
def AcD (l:List Cd):Bs:=Afp (Aau l)
def AbI (a:Bs):Prop:=a≠[]∧32∉a∧10∉a
instance (a:Bs):Decidable (AbI a):=inferInstanceAs (Decidable (_∧_∧_))
def cd0:Cd:=⟨0,[]⟩
structure OkC (l:List Cd) (i:Nat):Prop where
 lo:65≤(l.getD i cd0).l.toNat
 hi:(l.getD i cd0).l.toNat≤89
 rise:0<i→(l.getD (i-1) cd0).l.toNat≤(l.getD i cd0).l.toNat
 args:∀a∈(l.getD i cd0).args,AbI a
structure RightC (l:List Cd):Prop where
 ne:l≠[]
 ok:∀i,i<l.length→OkC l i
instance (l:List Cd) (i:Nat):Decidable (OkC l i):=decidable_of_iff (65≤(l.getD i cd0).l.toNat∧(l.getD i cd0).l.toNat≤89∧(0<i→(l.getD (i-1) cd0).l.toNat≤(l.getD i cd0).l.toNat)∧∀a∈(l.getD i cd0).args,AbI a) ⟨fun ⟨a,b,c,d⟩=>⟨a,b,c,d⟩,fun ⟨a,b,c,d⟩=>⟨a,b,c,d⟩⟩
instance (l:List Cd):Decidable (RightC l):=decidable_of_iff (l≠[]∧∀i,i<l.length→OkC l i) ⟨fun ⟨a,b⟩=>⟨a,b⟩,fun ⟨a,b⟩=>⟨a,b⟩⟩
theorem AmA {l:List Cd} {i:Nat} (h:i<l.length) (hn:¬OkC l i):¬RightC l:=fun r=>hn (r.ok i h)
theorem AbT (s:Bs):(Afp s).length=s.length+43:=by simp[Afp,Ae4]
theorem Ar3 {s t:Bs} (h:Afp s=Afp t):s=t:=by
 have hl:s.length=t.length:=by have:=congrArg List.length h;rw[AbT,AbT] at this;omega
 simp only[Afp,List.append_assoc] at h
 exact(List.append_inj h hl).1
theorem Abs {α:Type} {l:List α} {d x:α} (h:x∈l):∃i,i<l.length∧l.getD i d=x:=by
 obtain⟨i,hi,rfl⟩:=List.getElem_of_mem h
 exact⟨i,hi,by simp[hi]⟩
theorem RightC.lets {l:List Cd} (r:RightC l):∀c∈l,65≤c.l.toNat∧c.l.toNat≤89:=by
 intro c hc
 obtain⟨i,hi,rfl⟩:=Abs (d:=cd0) hc
 exact⟨(r.ok i hi).lo,(r.ok i hi).hi⟩
theorem RightC.args {l:List Cd} (r:RightC l):∀c∈l,∀a∈c.args,AbI a:=by
 intro c hc
 obtain⟨i,hi,rfl⟩:=Abs (d:=cd0) hc
 exact(r.ok i hi).args
theorem RightC.mk' {l:List Cd} (ne:l≠[]) (lets:∀c∈l,65≤c.l.toNat∧c.l.toNat≤89) (args:∀c∈l,∀a∈c.args,AbI a) (rise:l.Pairwise (fun a b=>a.l.toNat≤b.l.toNat)):RightC l:=by
 refine⟨ne,fun i hi=>?_⟩
 have e:∀j,j<l.length→l.getD j cd0∈l:=fun j hj=>by simp[hj]
 refine⟨(lets _ (e i hi)).1,(lets _ (e i hi)).2,fun h0=>?_,args _ (e i hi)⟩
 have:=List.pairwise_iff_getElem.1 rise (i-1) i (by omega) hi (by omega)
 simpa [hi,show i-1<l.length by omega] using this
theorem RightC.rise {l:List Cd} (r:RightC l):l.Pairwise (fun a b=>a.l.toNat≤b.l.toNat):=by
 rw[List.pairwise_iff_getElem]
 have key:∀d i (h:i+d<l.length),(l[i]'(by omega)).l.toNat≤(l[i+d]).l.toNat:=by
  intro d
  induction d with
  | zero=>intros;simp
  | succ d ih =>
    intro i h
    have h1:=ih i (by omega)
    have h2:=(r.ok (i+d+1) (by omega)).rise (by omega)
    simp[show i+d<l.length by omega,show i+d+1<l.length by omega] at h2
    exact Nat.le_trans h1 h2
 intro i j hi hj hij
 have:=key (j-i) i (by omega)
 simpa [show i+(j-i)=j by omega] using this
/-! Parts of a text between marks. -/
theorem AgP {d:UInt8}:∀{x y r r':Bs},d∉x→d∉y→x++d::r=y++d::r'→x=y∧r=r':=by
 intro x
 induction x with
 | nil =>
   intro y r r' _ hy h
   cases y with
   | nil=>simp at h;exact⟨rfl,h⟩
   | cons c y=>simp at h hy;exact absurd h.1 hy.1
 | cons c x ih =>
   intro y r r' hx hy h
   cases y with
   | nil=>simp at h hx;exact absurd h.1.symm hx.1
   | cons c' y =>
     simp only[List.cons_append,List.cons.injEq] at h
     simp only[List.mem_cons,not_or] at hx hy
     obtain⟨e1,e2⟩:=ih hx.2 hy.2 h.2
     exact⟨by rw[h.1,e1],e2⟩
theorem AdP:AaH []=[]:=rfl
theorem AbC (a:Bs) (l:List Bs):AaH (a::l)=32::(a++AaH l):=by simp[AaH]
theorem AfG (l m:List Bs):AaH (l++m)=AaH l++AaH m:=by simp[AaH]
/-- Parts between blanks. -/
def Aat (d:UInt8):Bs→List Bs
 | []=>[[]]
 | c::r=>if c=d then []::Aat d r else match Aat d r with
   | []=>[[c]]
   | w::ws=>(c::w)::ws
theorem Aj7 (d:UInt8) (s:Bs):Aat d s≠[]:=by
 cases s with
 | nil=>simp[Aat]
 | cons c r =>
   simp only[Aat]
   split
   · simp
   · split<;>simp
theorem AfQ {d:UInt8}:∀{x:Bs},d∉x→Aat d x=[x]:=by
 intro x
 induction x with
 | nil=>intro _;rfl
 | cons c x ih =>
   intro h
   simp only[List.mem_cons,not_or] at h
   simp only[Aat,if_neg (Ne.symm h.1),ih h.2]
theorem AhK {d:UInt8}:∀{x r:Bs},d∉x→Aat d (x++d::r)=x::Aat d r:=by
 intro x
 induction x with
 | nil=>intro r _;simp[Aat]
 | cons c x ih =>
   intro r h
   simp only[List.mem_cons,not_or] at h
   simp only[List.cons_append,Aat,if_neg (Ne.symm h.1),ih h.2]
theorem AjG {x:Bs} {l:List Bs} (hx:32∉x) (hl:∀a∈l,32∉a):Aat 32 (x++AaH l)=x::l:=by
 induction l generalizing x with
 | nil=>rw[AdP,List.append_nil,AfQ hx]
 | cons a l ih =>
   rw[AbC,AhK hx,ih (hl a (by simp)) (fun b hb=>hl b (by simp[hb]))]
theorem Agt (s:Bs):AaH (Aat 32 s)=32::s:=by
 induction s with
 | nil=>rfl
 | cons c s ih =>
   simp only[Aat]
   split
   · rename_i h
     rw[AbC,ih,h];rfl
   · split
     · rename_i e;exact absurd e (Aj7 _ _)
     · rename_i w ws e
       rw[e,AbC] at ih
       rw[AbC]
       simp only[List.cons.injEq,true_and] at ih
       simp[ih]
theorem Apx {d:UInt8}:∀{s:Bs},∀w∈Aat d s,d∉w:=by
 intro s
 induction s with
 | nil=>simp[Aat]
 | cons c s ih =>
   intro w hw
   simp only[Aat] at hw
   split at hw
   · rcases List.mem_cons.1 hw with rfl | hw
     · simp
     · exact ih w hw
   · rename_i hc
     split at hw
     · rename_i e;exact absurd e (Aj7 _ _)
     · rename_i v vs e
       rw[e] at ih
       rcases List.mem_cons.1 hw with rfl | hw
       · simp only[List.mem_cons,not_or]
         exact⟨fun x=>hc x.symm,ih v (by simp)⟩
       · exact ih w (by simp[hw])
theorem Aw0 {c:UInt8} (h:65≤c.toNat):(32:UInt8)∉([c]:Bs):=by
 simp only[List.mem_singleton];rintro rfl;revert h;decide
theorem Aw1 {c:UInt8} (h:65≤c.toNat):c≠10:=by rintro rfl;revert h;decide
theorem Aqg:∀{l:List Bs},(∀a∈l,AbI a)→(10:UInt8)∉AaH l:=by
 intro l
 induction l with
 | nil=>simp[AaH]
 | cons a l ih =>
   intro h
   rw[AbC]
   simp only[List.mem_cons,List.mem_append,not_or]
   exact⟨by decide,(h a (by simp)).2.2,ih fun b hb=>h b (by simp[hb])⟩
theorem Ag1 {c:Cd} (h:65≤c.l.toNat) (ha:∀a∈c.args,AbI a):(10:UInt8)∉Aby c:=by
 simp only[Aby,List.mem_cons,not_or]
 exact⟨fun e=>Aw1 h e.symm,Aqg ha⟩
theorem AgF {c:Cd} (h:65≤c.l.toNat) (ha:∀a∈c.args,AbI a):Aat 32 (Aby c)=[c.l]::c.args :=
 AjG (x:=[c.l]) (Aw0 h) fun a hx=>(ha a hx).2.1
theorem AmJ {c c':Cd} (h:65≤c.l.toNat) (ha:∀a∈c.args,AbI a) (h':65≤c'.l.toNat) (ha':∀a∈c'.args,AbI a) (e:Aby c=Aby c'):c=c':=by
 have e1:=AgF h ha
 rw[e,AgF h' ha'] at e1
 cases c;cases c'
 simp at e1
 simp[e1.1,e1.2]
theorem AbQ (c:Cd) (l:List Cd):Aau (c::l)=Aby c++10::Aau l:=by simp[Aau,Ac5]
theorem AeD (l m:List Cd):Aau (l++m)=Aau l++Aau m:=by simp[Aau]
theorem ArE:∀{l m:List Cd},(∀c∈l,65≤c.l.toNat∧∀a∈c.args,AbI a)→(∀c∈m,65≤c.l.toNat∧∀a∈c.args,AbI a)→Aau l=Aau m→l=m:=by
 intro l
 induction l with
 | nil =>
   intro m _ _ e
   cases m with
   | nil=>rfl
   | cons c m=>rw[AbQ] at e;simp[Aau] at e
 | cons c l ih =>
   intro m hl hm e
   cases m with
   | nil=>rw[AbQ] at e;simp[Aau] at e
   | cons c' m =>
     rw[AbQ,AbQ] at e
     have h1:=hl c (by simp)
     have h2:=hm c' (by simp)
     obtain⟨e1,e2⟩:=AgP (Ag1 h1.1 h1.2) (Ag1 h2.1 h2.2) e
     rw[AmJ h1.1 h1.2 h2.1 h2.2 e1,ih (fun x hx=>hl x (by simp[hx])) (fun x hx=>hm x (by simp[hx])) e2]
/-- A text that some cards print. -/
def ReadsC (s:Bs) (l:List Cd):Prop:=RightC l∧AcD l=s
theorem RightC.both {l:List Cd} (r:RightC l):∀c∈l,65≤c.l.toNat∧∀a∈c.args,AbI a:=fun c hc=>⟨(r.lets c hc).1,r.args c hc⟩
theorem ReadsC.uniq {s:Bs} {l m:List Cd} (h:ReadsC s l) (k:ReadsC s m):l=m :=
 ArE h.1.both k.1.both (Ar3 (h.2.trans k.2.symm))
open Classical in
noncomputable def AbS (s:Bs):Option (List Cd):=if h:∃l,ReadsC s l then some h.choose else none
theorem readC_iff {s:Bs} {l:List Cd}:AbS s=some l↔ReadsC s l:=by
 unfold AbS
 split
 · rename_i h
   simp only[Option.some.injEq]
   exact⟨fun e=>e▸h.choose_spec,fun k=>h.choose_spec.uniq k⟩
 · rename_i h
   simp only[reduceCtorEq,false_iff]
   exact fun k=>h ⟨l,k⟩
theorem readC_none {s:Bs}:AbS s=none↔∀l,¬ReadsC s l:=by
 cases e:AbS s with
 | none=>simp only[true_iff];intro l h;rw[readC_iff.2 h] at e;cases e
 | some l=>simp only[reduceCtorEq,false_iff];intro h;exact h l (readC_iff.1 e)
/-- The Aej of a line, as a card, as they come. -/
def Adf (st:UInt8×List Bs) (w:Bs):Option (UInt8×List Bs):=if 0<st.1.toNat then some (st.1,st.2++[w]) else if w.length=1 then some (w.getD 0 0,st.2) else none
def Ae7 (l:List Bs):Option (UInt8×List Bs):=l.foldlM Adf (0,[])
theorem AhZ (l:List Bs) (w:Bs):Ae7 (l++[w])=(Ae7 l).bind fun st=>Adf st w:=by
 simp[Ae7,List.foldlM_append]
theorem AoZ (c:UInt8) (hc:0<c.toNat):∀(l xs:List Bs),l.foldlM Adf (c,xs)=some (c,xs++l):=by
 intro l
 induction l with
 | nil=>intro xs;simp
 | cons w l ih =>
   intro xs
   have e:Adf (c,xs) w=some (c,xs++[w]):=by simp only[Adf];rw[if_pos hc]
   simp only[List.foldlM_cons,e]
   show List.foldlM Adf (c,xs++[w]) l=_
   rw[ih];simp
theorem Aq2 {c:Cd} (h:65≤c.l.toNat) (ha:∀a∈c.args,AbI a):Ae7 (Aat 32 (Aby c))=some (c.l,c.args):=by
 rw[AgF h ha,Ae7]
 have e:Adf (0,[]) [c.l]=some (c.l,[]):=by simp[Adf]
 simp only[List.foldlM_cons,e]
 show List.foldlM Adf (c.l,[]) c.args=_
 rw[AoZ _ (by omega)];simp
theorem AmP:∀(l:List Bs) (st st':UInt8×List Bs),l.foldlM Adf st=some st'→(AaH st'.2).length≤(AaH st.2).length+(AaH l).length∧(0<st.1.toNat∨l=[]∨(AaH st'.2).length+2≤(AaH st.2).length+(AaH l).length):=by
 intro l
 induction l with
 | nil =>
   intro st st' h
   have:st=st':=by simpa using h
   subst this
   exact⟨by simp[AaH],.inr (.inl rfl)⟩
 | cons w l ih =>
   intro st st' h
   simp only[List.foldlM_cons] at h
   cases e:Adf st w with
   | none=>rw[e] at h;cases h
   | some s2 =>
     rw[e] at h
     have h':List.foldlM Adf s2 l=some st':=h
     obtain⟨i1,i2⟩:=ih s2 st' h'
     rw[AbC,List.length_cons,List.length_append]
     simp only[Adf] at e
     split at e
     · rename_i hp
       cases e
       rw[AfG,AbC,AdP] at i1
       simp at i1
       exact⟨by omega,.inl hp⟩
     · split at e
       · rename_i hw
         cases e
         dsimp only at i1
         exact⟨by omega,.inr (.inr (by omega))⟩
       · cases e
theorem Aq3 {line:Bs} {c:UInt8} {xs:List Bs} (h:Ae7 (Aat 32 line)=some (c,xs)):(Ac5 ⟨c,xs⟩).length≤line.length+1:=by
 obtain⟨_,h2⟩:=AmP _ _ _ h
 have hj:=congrArg List.length (Agt line)
 rw[List.length_cons] at hj
 rcases h2 with h2 | h2 | h2
 · exact absurd h2 (by decide)
 · exact absurd h2 (Aj7 _ _)
 · rw[hj] at h2
   simp only[AdP,List.length_nil] at h2
   simp only[Ac5,Aby,List.length_append,List.length_cons,List.length_nil]
   omega
end
end Go.Proofs.YtdnoacgopfcpbaaGreat
