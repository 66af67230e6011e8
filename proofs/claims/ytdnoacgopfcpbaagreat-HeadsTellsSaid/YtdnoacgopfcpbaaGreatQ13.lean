/- Texts of this proof, put together: SCk3, SCk4. -/
import Derived.Test.YtdnoacgopfcpbaaGreatQ12
set_option linter.unusedVariables false
set_option linter.unusedSimpArgs false
namespace Go.Proofs.YtdnoacgopfcpbaaGreat
section
set_option maxRecDepth 100000
structure CkA where
 fa:Option Addr
 fc:Nat
 pa:Option Addr
 pc:Nat
 ta:Option Addr
 tc:Nat
def AaZ (x:CkA) (c:Ck):List Value:=[vS c.base,vS c.comment,vI c.date,.slice x.fa c.files.length x.fc,.slice x.pa c.parents.length x.pc,.slice x.ta c.tags.length x.tc,vS c.user]
structure TgZ (l:List Tg):Prop where
 n:l.length≤1073741824
 z:∀t∈l,t.name.length≤1099511627∧t.target.length≤1099511627∧t.value.length≤1099511627
structure CkZ (c:Ck):Prop where
 base:c.base.length≤1099511627
 comment:c.comment.length≤1099511627
 user:c.user.length≤1099511627
 fn:c.files.length≤1073741824
 fz:∀f∈c.files,f.1.length≤1099511627∧f.2.length≤1099511627
 pn:c.parents.length≤1073741824
 pz:∀p∈c.parents,p.length≤1099511627
 tags:TgZ c.tags
theorem Ac0 {G:Prop} (h:G:=by
    refine Aa2 () (vs:=[_]) (Cs:=[]) rfl (.tmp rfl .nil) ?_ trivial Aa0;show vB _=vB _;congr 1
    try simp only[Acy] at *
    first
    | exact(decide_eq_false (fun h=>h40 h.tags)).symm
    | exact(decide_eq_false (fun h=>h35 h.parents)).symm
    | exact(decide_eq_false (fun h=>h30 h.files)).symm
    | exact(decide_eq_false (fun h=>h22 h.date)).symm
    | exact(decide_eq_false (fun h=>by have:=h.comment;omega)).symm
    | exact(decide_eq_false (fun h=>h11 (h.base.resolve_left h6))).symm
    | exact decide_eq_decide.2 ⟨fun h=>⟨.inl h6,by omega,h22,h30,h35,h40,h⟩,fun h=>h.user⟩
    | exact decide_eq_decide.2 ⟨fun h=>⟨.inr h11,by omega,h22,h30,h35,h40,h⟩,fun h=>h.user⟩):G:=h
set_option maxHeartbeats 2000000 in
theorem Akh {Bf Bt:HP} (x:CkA) (c:Ck) (z:CkZ c) (shf:SlA Bf x.fa (c.files.flatMap AaN)) (sht:SlA Bt x.ta (c.tags.flatMap Aab)) (hpc:c.parents.length≤x.pc) :
    Sp1 Tryz.prog 161 [.agg (AaZ x c).toArray] [Bf,SlI x.pa (c.parents.map vS),Bt] (vB (decide (AbD c))) [Bf,Bt]:=by
 obtain⟨z1,z2,z3,z4,z5,z6,z7,z8,z9⟩:=z;have hF:=Akg (decide (c.base=[])) c.files.length x.fc c.files shf rfl z4 (fun t ht=>by have:=z5 t ht;omega);have hP:=Akf 3 c.parents.length x.pc c.parents (B:=SlI x.pa (c.parents.map vS)) Abo rfl hpc z6 (fun t ht=>by have:=z7 t ht;omega);have hT:=Aew true c.tags.length x.tc c.tags sht rfl z8 (fun t ht=>by have:=z9 t ht;omega);refine Sp.body (n:=45) Tryz.call161 Tryz.func161 rfl rfl rfl ?_;refine Qc (k:=Zx [_,_,_,_,_,_,_] (k:=fun b1=>Vv (k:=Wq (Qc (k:=Qx 0 9 (k:=Qv (k:=Gi 3 (t:=fun h6=>?_) (f:=fun h6=>?_))))))))
 ·
  refine O1 (k:=O1 (k:=O1 (k:=P1 (k:=Vv (k:=I1 (k:=Vf 1 9 (k:=I1 (k:=Zd (k:=J1 (k:=I1 (k:=?_)))))))))));refine Vv (k:=P1 (k:=Vv (k:=Gi 14 (t:=fun h17=>?_) (f:=fun h17=>?_))))
  ·
   refine I1 (k:=Vf 2 3 (k:=I1 (k:=Zd (k:=I1 (k:=?_)))));refine Aag (Agd c.date) rfl rfl rfl ?_;refine P1 (k:=Vv (k:=Gi 19 (t:=fun h22=>?_) (f:=fun h22=>?_)))
   ·
    refine I1 (k:=Vf 3 26 (k:=I1 (k:=Zd (k:=I1 (k:=Vf 0 9 (k:=I1 (k:=Zd (k:=J1 (k:=I1 (k:=?_))))))))));refine Aaa hF rfl rfl rfl ?_;refine P1 (k:=Vv (k:=Gi 27 (t:=fun h30=>?_) (f:=fun h30=>?_)))
    ·
     refine I1 (k:=Vf 4 27 (k:=I1 (k:=Zd (k:=I1 (k:=?_)))));refine Aaa hP rfl rfl rfl ?_;refine P1 (k:=Vv (k:=Gi 32 (t:=fun h35=>?_) (f:=fun h35=>?_)))
     ·
      refine I1 (k:=Vf 5 28 (k:=I1 (k:=Zd (k:=I1 (k:=?_)))));refine Aaa hT rfl rfl rfl ?_;refine P1 (k:=Vv (k:=Gi 37 (t:=fun h40=>?_) (f:=fun h40=>?_)))
      ·
       refine I1 (k:=Vf 6 9 (k:=I1 (k:=Zd (k:=I1 (k:=?_)))));refine Aag (Ad1 c.user (by omega)) rfl rfl rfl ?_;refine P1 (k:=Vv (k:=Wq (Zt (k:=?_))));exact Ac0
      ·
       refine O0 (k:=O0 (k:=O0 (k:=P0 (k:=Vv (k:=Wq (Zt (k:=?_)))))));exact Ac0
     ·
      refine O0 (k:=O0 (k:=O0 (k:=P0 (k:=Vv (k:=O0 (k:=O0 (k:=O0 (k:=P0 (k:=Vv (k:=Wq (Zt (k:=?_))))))))))));exact Ac0
    ·
     refine O0 (k:=O0 (k:=O0 (k:=P0 (k:=Vv (k:=O0 (k:=O0 (k:=O0 (k:=P0 (k:=Vv (k:=O0 (k:=O0 (k:=?_))))))))))));refine O0 (k:=P0 (k:=Vv (k:=Wq (Zt (k:=?_)))));exact Ac0
   ·
    refine O0 (k:=O0 (k:=O0 (k:=O0 (k:=O0 (k:=O0 (k:=P0 (k:=Vv (k:=O0 (k:=O0 (k:=O0 (k:=P0 (k:=?_))))))))))));refine Vv (k:=O0 (k:=O0 (k:=O0 (k:=P0 (k:=Vv (k:=O0 (k:=O0 (k:=O0 (k:=P0 (k:=Vv (k:=Wq ?_)))))))))));refine Zt (k:=?_);exact Ac0
  ·
   refine O0 (k:=O0 (k:=O0 (k:=P0 (k:=Vv (k:=O0 (k:=O0 (k:=O0 (k:=O0 (k:=O0 (k:=O0 (k:=P0 (k:=?_))))))))))));refine Vv (k:=O0 (k:=O0 (k:=O0 (k:=P0 (k:=Vv (k:=O0 (k:=O0 (k:=O0 (k:=P0 (k:=Vv (k:=O0 (k:=?_))))))))))));refine O0 (k:=O0 (k:=P0 (k:=Vv (k:=Wq (Zt (k:=?_))))));exact Ac0
 ·
  refine I0 (k:=Vf 0 9 (k:=I0 (k:=Zd (k:=I0 (k:=?_)))));refine Aag (Ae8 c.base (by omega)) rfl rfl rfl ?_;refine P0 (k:=Vv (k:=Gi 8 (t:=fun h11=>?_) (f:=fun h11=>?_)))
  ·
   refine I1 (k:=Vf 1 9 (k:=I1 (k:=Zd (k:=J1 (k:=J1 (k:=P1 (k:=Vv (k:=Gi 14 (t:=fun h17=>?_) (f:=fun h17=>?_)))))))))
   ·
    refine I1 (k:=Vf 2 3 (k:=I1 (k:=Zd (k:=I1 (k:=?_)))));refine Aag (Agd c.date) rfl rfl rfl ?_;refine P1 (k:=Vv (k:=Gi 19 (t:=fun h22=>?_) (f:=fun h22=>?_)))
    ·
     refine I1 (k:=Vf 3 26 (k:=I1 (k:=Zd (k:=I1 (k:=Vf 0 9 (k:=I1 (k:=Zd (k:=J1 (k:=I1 (k:=?_))))))))));refine Aaa hF rfl rfl rfl ?_;refine P1 (k:=Vv (k:=Gi 27 (t:=fun h30=>?_) (f:=fun h30=>?_)))
     ·
      refine I1 (k:=Vf 4 27 (k:=I1 (k:=Zd (k:=I1 (k:=?_)))));refine Aaa hP rfl rfl rfl ?_;refine P1 (k:=Vv (k:=Gi 32 (t:=fun h35=>?_) (f:=fun h35=>?_)))
      ·
       refine I1 (k:=Vf 5 28 (k:=I1 (k:=Zd (k:=I1 (k:=?_)))));refine Aaa hT rfl rfl rfl ?_;refine P1 (k:=Vv (k:=Gi 37 (t:=fun h40=>?_) (f:=fun h40=>?_)))
       ·
        refine I1 (k:=Vf 6 9 (k:=I1 (k:=Zd (k:=I1 (k:=?_)))));refine Aag (Ad1 c.user (by omega)) rfl rfl rfl ?_;refine P1 (k:=Vv (k:=Wq (Zt (k:=?_))));exact Ac0
       ·
        refine O0 (k:=O0 (k:=O0 (k:=P0 (k:=Vv (k:=Wq (Zt (k:=?_)))))));exact Ac0
      ·
       refine O0 (k:=O0 (k:=O0 (k:=P0 (k:=Vv (k:=O0 (k:=O0 (k:=O0 (k:=P0 (k:=Vv (k:=Wq (Zt (k:=?_))))))))))));exact Ac0
     ·
      refine O0 (k:=O0 (k:=O0 (k:=P0 (k:=Vv (k:=O0 (k:=O0 (k:=O0 (k:=P0 (k:=Vv (k:=O0 (k:=O0 (k:=?_))))))))))));refine O0 (k:=P0 (k:=Vv (k:=Wq (Zt (k:=?_)))));exact Ac0
    ·
     refine O0 (k:=O0 (k:=O0 (k:=O0 (k:=O0 (k:=O0 (k:=P0 (k:=Vv (k:=O0 (k:=O0 (k:=O0 (k:=P0 (k:=?_))))))))))));refine Vv (k:=O0 (k:=O0 (k:=O0 (k:=P0 (k:=Vv (k:=O0 (k:=O0 (k:=O0 (k:=P0 (k:=Vv (k:=Wq ?_)))))))))));refine Zt (k:=?_);exact Ac0
   ·
    refine O0 (k:=O0 (k:=O0 (k:=P0 (k:=Vv (k:=O0 (k:=O0 (k:=O0 (k:=O0 (k:=O0 (k:=O0 (k:=P0 (k:=?_))))))))))));refine Vv (k:=O0 (k:=O0 (k:=O0 (k:=P0 (k:=Vv (k:=O0 (k:=O0 (k:=O0 (k:=P0 (k:=Vv (k:=O0 (k:=?_))))))))))));refine O0 (k:=O0 (k:=P0 (k:=Vv (k:=Wq (Zt (k:=?_))))));exact Ac0
  ·
   refine O0 (k:=O0 (k:=O0 (k:=O0 (k:=P0 (k:=Vv (k:=O0 (k:=O0 (k:=O0 (k:=P0 (k:=Vv (k:=O0 (k:=?_))))))))))));refine O0 (k:=O0 (k:=O0 (k:=O0 (k:=O0 (k:=P0 (k:=Vv (k:=O0 (k:=O0 (k:=O0 (k:=P0 (k:=Vv (k:=?_))))))))))));refine O0 (k:=O0 (k:=O0 (k:=P0 (k:=Vv (k:=O0 (k:=O0 (k:=O0 (k:=P0 (k:=Vv (k:=Wq (Zt (k:=?_))))))))))));exact Ac0
theorem Abs (l:UInt8) (a:Option Addr) (n c:Nat):SpF Tryz.prog 162 [vU l.toNat,.slice a n c] (.agg #[vU l.toNat,.slice a n c]):=by
 refine Sp.body (n:=8) Tryz.call162 Tryz.func162 rfl rfl rfl ?_;refine Qc (k:=Zc [.int .u8 0,.slice none 0 0] (k:=fun b4=>Wq (Qc (k:=Qv (k:=Vx (Ps [_,_]) (k:=Zp (k:=Wq (Zt (k:=?_)))))))));refine Aa2 () (vs:=[_]) (Cs:=[Ce b4 220 [vU l.toNat,.slice a n c]]) rfl (.cell (l:=[vU l.toNat,.slice a n c]) (us:=[vU l.toNat,.slice a n c]) rfl (Aax (T:=220)) Tryz.underlying220 rfl Adi (by exact Nat.le_of_ble_eq_true rfl) rfl .nil) rfl trivial ?_;exact Aa0
section
variable {r:Option Nat} {P:Program} {n:Nat} {ops:Array Oper} {os:List Oper} {L:Loc} {Hs:List HP} {Q:Out} {c:Code}
theorem Ac9 (b:Nat) {T:TypeId} {l:List Value} {Rs:List HP} [h:AhJ b T l Hs Rs] (K:wo r P n ops os L (SlI (some ⟨b,0,none⟩) l::Rs) Q):wo r P n ops os L Hs Q:=by
 intro ac M m s w hf dj t;obtain⟨g1,g2,dg,e,y,s2⟩:=s.2;subst e;obtain⟨h1,h2,d12,e,hb,sr⟩:=h.get.sat s2;subst e;have hb':h1=Res.one b _:=hb;subst hb';obtain⟨d1,d2⟩:=Res.dj_add_right.1 dg;obtain⟨f1,f2⟩:=Res.dj_add_left.1 dj;obtain⟨f3,f4⟩:=Res.dj_add_left.1 f2;have eq:(g1.add ((Res.one b (.cells l.toArray T (0,0))).add h2)).add hf=(Res.one b (.cells l.toArray T (0,0))).add ((g1.add h2).add hf):=by
  rw[←Res.add_assoc g1,Res.add_comm d1];simp only[Res.add_assoc]
 have t':Sat w M ((Res.one b (.cells l.toArray T (0,0))).add ((g1.add h2).add hf)):=eq▸t;obtain⟨M',le,hi,t2⟩:=Afi (Res.dj_add_right.2 ⟨Res.dj_add_right.2 ⟨Res.dj_comm d1,d12⟩,f3⟩) t';exact Apf K (a:=ac) (M:=M') (h:=g1.add h2) ⟨s.1,g1,h2,d2,rfl,(Al _).mono le y,Res.emp,h2,Res.emp_dj _,rfl,.inr ⟨b,0,l,T,(0,0),rfl,hi,by simp⟩,SL.mono le sr⟩ le (Res.dj_add_left.2 ⟨f1,f4⟩) t2
theorem Ad4 (b:Nat) {T:TypeId} {l:List Value} {Rs:List HP} [h:AhJ b T l Hs Rs] (K:wc r P n c L (SlI (some ⟨b,0,none⟩) l::Rs) Q):wc r P n c L Hs Q:=by
 intro ac M m s w hf dj t;obtain⟨g1,g2,dg,e,y,s2⟩:=s.2;subst e;obtain⟨h1,h2,d12,e,hb,sr⟩:=h.get.sat s2;subst e;have hb':h1=Res.one b _:=hb;subst hb';obtain⟨d1,d2⟩:=Res.dj_add_right.1 dg;obtain⟨f1,f2⟩:=Res.dj_add_left.1 dj;obtain⟨f3,f4⟩:=Res.dj_add_left.1 f2;have eq:(g1.add ((Res.one b (.cells l.toArray T (0,0))).add h2)).add hf=(Res.one b (.cells l.toArray T (0,0))).add ((g1.add h2).add hf):=by
  rw[←Res.add_assoc g1,Res.add_comm d1];simp only[Res.add_assoc]
 have t':Sat w M ((Res.one b (.cells l.toArray T (0,0))).add ((g1.add h2).add hf)):=eq▸t;obtain⟨M',le,hi,t2⟩:=Afi (Res.dj_add_right.2 ⟨Res.dj_add_right.2 ⟨Res.dj_comm d1,d12⟩,f3⟩) t';exact Al8 (K ac M' (g1.add h2) ⟨s.1,g1,h2,d2,rfl,(Al _).mono le y,Res.emp,h2,Res.emp_dj _,rfl,.inr ⟨b,0,l,T,(0,0),rfl,hi,by simp⟩,SL.mono le sr⟩) le (Res.dj_add_left.2 ⟨f1,f4⟩) t2
theorem Aej (a:Option Addr) {e sz n' c' k:Nat} {xs:List Value} {Rs:List HP} [h:AhG a e sz n' c' k xs Hs Rs] (K:wo r P n ops os L (SlI a xs::Rs) Q):wo r P n ops os L Hs Q:=Aj4 h.get K
end
theorem AaI (l m:List CdV):Aa3 (l++m)=Aa3 l++Aa3 m:=by simp[Aa3]
theorem AbU {α:Type} (f:α→List Value) (l:List α) (a:α):(l++[a]).flatMap f=l.flatMap f++f a:=by simp
theorem Alr {G:Prop} (h:G:=by
    first
    | exact Aa5 ⟨((a31,c31),[t.kind::t.name,t.target,Abf t.value]),by simp[AaF,h25],hk31.1⟩ trivial ⟨rfl,rfl,rfl,rfl,rfl,trivial⟩ Aa0
    | exact Aa5 ⟨((some ⟨b22,0,none⟩,2),[t.kind::t.name,t.target]),by simp[AaF,Classical.not_not.1 h25],Nat.le_refl _⟩ trivial ⟨rfl,rfl,rfl,rfl,rfl,trivial⟩ Aa0):G:=h
set_option maxHeartbeats 1000000 in
theorem AeG {B:HP} {a:Option Addr} (n cap:Nat) (l:List Tg) (sh:SlA B a (l.flatMap Aab)) (hn:l.length=n) (z:TgZ l) :
    Sp Tryz.prog 164 [.slice a n cap] [B] (X:=(Option Addr×Nat)×List CdV) Ae0 (fun x=>Aa3 x.2=l.map AaF) (fun x=>AgU x++[B]):=by
 obtain⟨hb,hz⟩:=z;subst hn;haveI:Abu a (l.flatMap Aab) [B]:=⟨⟨B,sh,.here⟩⟩
 refine Sp.body (n:=39) Tryz.call164 Tryz.func164 rfl rfl rfl ?_;refine Qc (k:=Vv (k:=Wq (Qc (k:=Vv (k:=Wq (Za (k:=Qc (k:=Vv (k:=?_)))))))));refine Qv (k:=Wq (Zb (k:=?_)));refine Aak (fun (i:{ x:(Option Addr×Nat)×List CdV // x.2.length≤l.length∧Aa3 x.2=(l.take x.2.length).map AaF })=>[(3,.slice i.1.1.1 i.1.2.length i.1.1.2),(7,.slice a l.length cap),(8,vI l.length),(9,vI i.1.2.length)]) (fun (i:{ x:(Option Addr×Nat)×List CdV // x.2.length≤l.length∧Aa3 x.2=(l.take x.2.length).map AaF })=>[Row 220 2 (.slice i.1.1.1 i.1.2.length i.1.1.2) i.1.2.length (i.1.2.flatMap CdV.cells),CdM i.1.2,B]) (fun (i:{ x:(Option Addr×Nat)×List CdV // x.2.length≤l.length∧Aa3 x.2=(l.take x.2.length).map AaF })=>l.length-i.1.2.length) rfl (⟨((none,0),[]),Nat.zero_le _,rfl⟩) ?_ ?_ (fun i=>?_)
 · exact⟨rfl,rfl,rfl,rfl,trivial⟩
 ·
  exact(AaS (e:=220) (sz:=2)).trans (ent_cdm_nil.trans (show Ent _ [Row 220 2 (.slice none 0 0) 0 [],CdM [],B] from Aa0))
 obtain⟨⟨⟨oa,oc⟩,qs⟩,hj,hcd⟩:=i;dsimp only at hj hcd ⊢;try dsimp only
 refine Qc (k:=Vv (k:=Wq (Za (k:=Zi (t:=fun h10=>?_) (f:=fun h10=>?_)))))
 ·
  refine Zk (k:=Ya (Za (k:=Zb (k:=Za (k:=?_)))));have hjl:qs.length<l.length:=by omega
  obtain⟨t,ht⟩:∃t,t=l[qs.length]:=⟨_,rfl⟩
  have hzj:=hz t (by rw[ht];exact List.getElem_mem hjl);have htk:(l.take (qs.length+1)).map AaF=Aa3 qs++[AaF t]:=by rw[List.take_succ_eq_append_getElem hjl,List.map_append,←hcd,ht];rfl
  refine Zr (k:=Ye 4 (k:=?_));refine Abb (vs:=[_,_,_,_]) (sz:=4) Tryz.underlying60 rfl Adx rfl rfl (by rw[Aaj (sz:=4) (fun _=>rfl)];omega) rfl (by refine Ab1 (fun x=>?_) ?_<;>first | rfl | omega) rfl ?_;rw[←ht];refine Zc [.int .u8 0,vS [],vS [],vS []] (k:=fun b5=>Zp (k:=Wq (Qc (k:=Qx 0 5 (k:=Zv [_] (cs:=[_]) (k:=fun b15=>?_))))));refine Aji (l:=[t.kind]) Tryz.underlying56 Tryz.underlying9 Tryz.underlying5 rfl (by simp[vUs]) (by simp) rfl ?_;refine Qx 1 9 (k:=Vv (k:=Qx 2 9 (k:=Zv [_,_] (cs:=[_,_]) (k:=fun b22=>Vv (k:=Wq ?_)))));refine Abg (fun (i:{ x:(Option Addr×Nat)×List Bs // x.2=(AaF t).args∧x.2.length≤x.1.2 })=>[(3,.slice oa qs.length oc),(6,.slice i.1.1.1 i.1.2.length i.1.1.2),(7,.slice a l.length cap),(8,vI l.length),(9,vI qs.length)]) (fun (i:{ x:(Option Addr×Nat)×List Bs // x.2=(AaF t).args∧x.2.length≤x.1.2 })=>[SlI i.1.1.1 (i.1.2.map vS),Row 220 2 (.slice oa qs.length oc) qs.length (qs.flatMap CdV.cells),CdM qs,B]) rfl (fun i=>?_) ?_
  ·
   obtain⟨⟨⟨ga,gc⟩,xs⟩,hxs,hxc⟩:=i;dsimp only at hxs hxc ⊢;try dsimp only
   refine Zr (k:=Qv (k:=Vx (Ps [_,_]) (k:=Zv [_] (cs:=[_,_]) (k:=fun b35=>?_))));refine Aao (sz:=2) (bytes:=32) Tryz.underlying170 Adi rfl rfl rfl rfl rfl rfl rfl (by rfl) (by rfl) (by omega) (by simp only[maxLen];omega) rfl (fun a36 c36=>?_);refine Vv (k:=Wn (Yb (Ya (Zr (k:=Qv (k:=Wn ?_))))));obtain⟨q,hqq⟩:∃q:CdV,q=⟨84,ga,gc,xs⟩:=⟨_,rfl⟩
   have hqc:q.cd=AaF t:=by rw[hqq];show (⟨84,xs⟩:Cd)=_;rw[hxs];rfl
   have hql:(qs++[q]).length=qs.length+1:=by simp
   refine Aa5 ⟨((a36,c36),qs++[q]),?_,?_⟩ ?_ ⟨Adk hql.symm,rfl,rfl,AeF (by dsimp only;omega),trivial⟩ ?_
   · dsimp only;omega
   · dsimp only;rw[hql,htk,Ad3,hqc]
   · dsimp only;omega
   · dsimp only
     rw[hql];refine(AbG (qs:=qs) (q:=q) HasC.get (by rw[hqq];exact HasC.get) (by rw[hqq];exact hxc)).trans ?_;exact Aac (AaW (by rfl) (by rw[hqq];simp[CdV.cells])) Aa0
  ·
   refine Qc (k:=Qx 3 9 (k:=Vv (k:=Wq (Zi (t:=fun h25=>?_) (f:=fun h25=>?_)))))
   ·
    refine Zr (k:=Vv (k:=Qx 3 9 (k:=?_)));refine Aag (Aij t.value (by omega)) rfl rfl rfl ?_;refine Zv [_] (cs:=[_]) (k:=fun b30=>?_);refine wo_ent' (AbF (k:=2) (cap:=2) (sz:=1) (e:=9) (g:=b22) (xs:=[vS ([t.kind]++t.name),vS t.target]) (cur:=[vS ([t.kind]++t.name),vS t.target]) (Nat.le_refl _) (by simp[maxLen]) rfl rfl rfl) ?_;refine Aao (sz:=1) (bytes:=16) Tryz.underlying27 ti9 rfl rfl rfl rfl rfl rfl rfl (by rfl) (by rfl) (by omega) (by simp only[maxLen];omega) rfl (fun a31 c31=>?_);refine AeK (A:=Row 9 1 (.slice a31 (2+1) c31) (2+1) ([vS ([t.kind]++t.name),vS t.target]++[vS (Abf t.value)])) HasC.get AbH (fun hk31=>?_);refine Aej a31 ?_;rw[show ([vS ([t.kind]++t.name),vS t.target]++[vS (Abf t.value)])=([t.kind::t.name,t.target,Abf t.value]:List Bs).map vS from rfl];refine Vv (k:=Wn ?_);exact Alr
   ·
    refine Ad4 b22 ?_;rw[show [vS ([t.kind]++t.name),vS t.target]=([t.kind::t.name,t.target]:List Bs).map vS from rfl];refine Zk (k:=?_);exact Alr
 ·
  refine Ze (k:=Xa (Xi (Xb (Ya (Qc (k:=Qv (k:=Wq (Zt (k:=?_)))))))));have hjl:qs.length=l.length:=by omega
  rw[hjl,List.take_length] at hcd;refine Aa2 ((oa,oc),qs) (vs:=[_]) (Cs:=[]) rfl (.tmp rfl .nil) rfl hcd ?_;exact Aa0
theorem Au3 {l:List (List Bs)} (h:l.length≠1):AbT l=none:=by
 match l,h with
 | [],_=>rfl
 | [_],h=>exact absurd rfl h
 | a::b::r,_=>simp[AbT]
theorem Au2 (xs:List Bs):AbT [xs]=if xs.length=1 then some (xs.getD 0 []) else none:=by
 match xs with
 | []=>rfl
 | [a]=>rfl
 | a::b::r=>simp[AbT]
theorem Afc (x:UInt8) (qs:List CdV):(ofL x qs 0).map (fun p=>p.2.args)=Aa8 x (Aa3 qs):=Au6 qs 0
theorem Anu {G:Prop} (h:G:=by
    first
    | (rw[Au3 (by rw[List.length_map];omega)]
       exact Aa2 () (vs:=[_,_]) (Cs:=[]) rfl (.tmp rfl (.tmp rfl .nil)) rfl trivial Aa0)
    | (rw[List.map_singleton,ho,if_neg (by omega)]
       exact Aa2 () (vs:=[_,_]) (Cs:=[]) rfl (.tmp rfl (.tmp rfl .nil)) rfl trivial Aa0)):G:=h
theorem Ajy {B:HP} {a:Option Addr} (n cap:Nat) (qs:List CdV) (c:UInt8) (sh:SlA B a (qs.flatMap CdV.cells)) (hn:qs.length=n) (hb:n≤1073741824) :
    Sp1 Tryz.prog 106 [.slice a n cap,vU c.toNat] [B,CdM qs] (.tuple #[vS ((AbT (Aa8 c (Aa3 qs))).getD []),vB (AbT (Aa8 c (Aa3 qs))).isSome]) [B]:=by
 have hO:=AkH n cap qs c sh hn (by omega);have hof:=Afc c qs;obtain⟨l,hl⟩:∃l,l=ofL c qs 0:=⟨_,rfl⟩
 have hm:∀p∈l,p.2∈qs:=fun p hp=>(Ala (by rw[←hl];exact hp)).1;rw[←hl] at hO hof;have hlq:l.length≤qs.length:=by
  have h1:=congrArg List.length hof;rw[List.length_map] at h1;rw[h1];simp only[Aa8,List.length_map];refine Nat.le_trans (List.length_filter_le _ _) ?_;simp[Aa3]
 rw[←hof];refine Sp.body (n:=24) Tryz.call106 Tryz.func106 rfl rfl rfl ?_;refine Qc (k:=Qv (k:=Wq (Qc (k:=Qv (k:=?_)))));refine Aaa hO rfl rfl rfl ?_;refine Vv (k:=?_);refine Aa6 (Aa7 (v:=Aq0 l) rfl rfl) rfl ?_;refine Aa6 (Aa7 (v:=vI l.length) rfl rfl) rfl ?_;refine Qv (k:=Wq (Za (k:=Qc (k:=Qv (k:=Vv (k:=Gi 2 (t:=fun h16=>?_) (f:=fun h16=>?_)))))))
 ·
  refine O1 (k:=O1 (k:=O1 (k:=P1 (k:=Wq (Z1 (k:=Qc (k:=Qv (k:=Wq (Zt (k:=?_))))))))));refine Va ?_;exact Anu
 ·
  obtain⟨p,hp⟩:∃p,l=[p]:=List.length_eq_one_iff.1 (by omega);subst hp;have hpm:=hm p (by simp);have ho:=Au2 p.2.args;refine J0 (k:=J0 (k:=J0 (k:=P0 (k:=Wq (Zi (t:=fun h20=>?_) (f:=fun h20=>?_))))))
  ·
   refine Qc (k:=Qv (k:=Wq (Zt (k:=Va ?_))));exact Anu
  ·
   refine Zk (k:=Ya (Qc (k:=Vv (k:=?_))));refine wo_ent' (Aea hpm HasC.get) ?_;have hl1:p.2.args.length=1:=by omega
   refine Ye 1 (m:=0) (k:=Yl (hv:=by exact Aa4 [] (m:=0) (by omega)) (k:=Qv (k:=Wq (Zt (k:=?_)))));rw[List.map_singleton,ho,if_pos hl1];exact Aa2 () (vs:=[_,_]) (Cs:=[]) rfl (.tmp rfl (.tmp rfl .nil)) rfl trivial Aa0
end
section
set_option maxRecDepth 100000
theorem AnH (l m:List (List Bs)):AaK (l++m)=(AaK l).bind fun ts=>(AaK m).map (ts++·):=by
 induction l with
 | nil =>
   simp only[List.nil_append,AaK,Option.bind_some]
   cases AaK m<;>simp
 | cons x l ih =>
   simp only[List.cons_append,AaK]
   cases Aj8 x with
   | none=>rfl
   | some t =>
     dsimp only;rw[ih]
     cases AaK l with
     | none=>rfl
     | some ts=>cases AaK m<;>simp
theorem AnG {l r:List (List Bs)} {x:List Bs} (h:Aj8 x=none):AaK (l++x::r)=none:=by
 rw[AnH]
 cases AaK l with
 | none=>rfl
 | some ts=>simp[AaK,h]
theorem AiG {l:List (List Bs)} {x:List Bs} {ts:List Tg} {t:Tg} (h:AaK l=some ts) (hx:Aj8 x=some t):AaK (l++[x])=some (ts++[t]):=by
 rw[AnH,h];simp[AaK,hx]
def TgB (b:Nat) (pre:List (List Bs)):HP:=Ex fun z:List Tg×Option Addr×Nat=>Al [Pu (AaK pre=some z.1),Ce b 28 [.slice z.2.1 z.1.length z.2.2],Row 60 4 (.slice z.2.1 z.1.length z.2.2) z.1.length (z.1.flatMap Aab)]
theorem Amb {b T:Nat} {pre:List (List Bs)} {v:Value} {Hs R1 Rs:List HP} (ts:List Tg) (a:Option Addr) (k m:Nat) (hf:AaK pre=some ts) (hm:m=ts.length) [q:AhJ b T [v] Hs R1] (hT:T=28) (h1:v=.slice a m k) {n:Nat} {ys:List Value} {e sz:Nat} [q2:Aia (.slice a m k) e sz n ys R1 Rs] (he:e=60) (hsz:sz=4) (hn:n=m) (hy:ys=ts.flatMap Aab):Ent Hs (TgB b pre::Rs):=by
 subst hT;subst h1;subst he;subst hsz;subst hn;subst hy;subst hm;refine AbV (ts,a,k) ?_;refine Acl (Adl hf ?_);exact Picks.ent (.cons q.get (.cons q2.get .nil))
abbrev Aom (x:(Option Addr×Nat)×List Tg):Value:=.slice x.1.1 x.2.length x.1.2
abbrev Aon (x:(Option Addr×Nat)×List Tg):HP:=Row 60 4 (.slice x.1.1 x.2.length x.1.2) x.2.length (x.2.flatMap Aab)
theorem Aei {G:Prop} (h:G:=by
    refine Aoi ?_;have hb:Aj8 xs=none:=by
     rw[htg]
     first
     | rw[if_pos (by omega)]
     | (have hn:AaB (xs.getD 2 [])=none:=by cases e:AaB (xs.getD 2 []) with
          | none=>rfl
          | some v=>rw[e] at h52;simp at h52
        rw[hn];rfl)
    refine Adl (by rw[hall];exact AnG hb) ?_;exact Aac (AaH (by rfl) (by rfl)) (Aac (AaH (by rfl) (by rfl)) Aad)):G:=h
theorem Apb {G:Prop} (h:G:=by
    first
    | (rw[hbad]
       refine Aa2 ((none,0),[]) (vs:=[_,_]) (Cs:=[Ce b2 28 [.slice none 0 0],Ce b3 4 [.bool false]]) rfl (.cell1 (l:=[.slice none 0 0]) rfl (Aax (T:=28)) Tryz.underlying28 rfl rfl (.cell1 (l:=[.bool false]) rfl (Aax (T:=4)) Tryz.underlying4 rfl rfl .nil)) rfl rfl ?_;exact(AaS (e:=60) (sz:=4)).trans (show Ent _ [Row 60 4 (.slice none 0 0) 0 [],B,Ce b2 28 [.slice none 0 0],Ce b3 4 [.bool false]] from Aa0))
    | (rw[hq]
       refine Aa2 ((ta,tc),ts) (vs:=[_,_]) (Cs:=[Ce b2 28 [.slice ta ts.length tc],Ce b3 4 [.bool true]]) rfl (.cell1 (l:=[.slice ta ts.length tc]) rfl (Aax (T:=28)) Tryz.underlying28 rfl rfl (.cell1 (l:=[.bool true]) rfl (Aax (T:=4)) Tryz.underlying4 rfl rfl .nil)) rfl rfl ?_;exact Aa0)):G:=h
set_option maxHeartbeats 2000000 in
theorem AeH {B:HP} {a:Option Addr} (n cap:Nat) (qs:List CdV) (sh:SlA B a (qs.flatMap CdV.cells)) (hn:qs.length=n) (hz:(Aav (Aa3 qs)).length≤1073741824) :
    Sp Tryz.prog 110 [.slice a n cap] [B,CdM qs] (X:=(Option Addr×Nat)×List Tg) (fun x=>.tuple #[Aom x,vB (AaK (Aa8 84 (Aa3 qs))).isSome]) (fun x=>x.2=(AaK (Aa8 84 (Aa3 qs))).getD []) (fun x=>[Aon x,B]):=by
 have hof:=Afc 84 qs;obtain⟨hqn,hqz⟩:=AcO hz;refine Sp.body (n:=60) Tryz.call110 Tryz.func110 rfl rfl rfl ?_;refine Qc (k:=Zc [.slice none 0 0] (k:=fun b2=>Zc [.bool false] (k:=fun b3=>Wq (Qc (k:=Zc [.slice none 0 0] (k:=fun b4=>Wq (Za (k:=Qc (k:=?_)))))))));refine Vv (k:=?_);refine Aaq (AiR a n cap 84) rfl rfl rfl (fun x11 _=>?_);refine Wq (Zb (k:=?_));refine AfC (fun pre=>[Ce b2 28 [.slice none 0 0],Ce b3 4 [.bool false],TgB b4 (pre.map (fun p=>p.2.args)),CdM qs]) (fun j pre=>match j with | none=>[Pu (AaK (Aa8 84 (Aa3 qs))=none),Ce b2 28 [.slice none 0 0],Ce b3 4 [.bool false]] | _=>[Pu False]) rfl (AiS n cap x11.1 x11.2 qs 84 sh hn (by omega)) rfl (fun _=>by rfl) rfl ?_ (fun l pre q hok=>?_) ?_ (fun j pre hs=>?_)
 · (refine AdR ?_;simp only[List.map_nil];refine Ent.trans (AaS (e:=60) (sz:=4)) ?_;exact(Amb (b:=b4) (pre:=[]) [] none 0 0 (by rfl) (by rfl) (by rfl) (by rfl) (by rfl) (by rfl) (by rfl) (by rfl)).trans Aa0)
 ·
  obtain⟨rr,hrr⟩:=hok;obtain⟨hqm,_⟩:=Ala (p:=q) (by rw[hrr];simp);have hqzz:=hqz q.2 hqm;have hqc:=Aea hqm (Hs:=[Ce b2 28 [.slice none 0 0],Ce b3 4 [.bool false],TgB b4 (pre.map (fun p=>p.2.args)),CdM qs]) HasC.get;have hall:Aa8 84 (Aa3 qs)=pre.map (fun p=>p.2.args)++q.2.args::rr.map (fun p=>p.2.args):=by rw[←hof,hrr];simp
  refine wc_ent' hqc ?_;refine AdM (TgB b4 (pre.map (fun p=>p.2.args))) (AcE fun z=>AdW (AfR fun hq=>?_));obtain⟨ts,ta,tc⟩:=z;obtain⟨qi,ql,qa,qc,xs⟩:=q;dsimp only at hq hqzz hall hqm;dsimp only[AwS];have htl:ts.length≤pre.length:=by
   have key:∀(l:List (List Bs)) (ts:List Tg),AaK l=some ts→ts.length=l.length:=by
    intro l
    induction l with
    | nil=>intro ts h;cases h;rfl
    | cons x l ih =>
      intro ts h;simp only[AaK] at h;split at h
      · cases h
      · cases e:AaK l with
        | none=>rw[e] at h;cases h
        | some us=>rw[e] at h;cases h;simp[ih us e]
   have:=key _ _ hq;simp at this;omega
  have hpl:pre.length≤qs.length:=by
   have h1:=congrArg List.length hrr;have h2:(ofL 84 qs 0).length≤qs.length:=by
    have h3:=congrArg List.length hof;rw[List.length_map] at h3;rw[h3];simp only[Aa8,List.length_map];refine Nat.le_trans (List.length_filter_le _ _) ?_;simp[Aa3]
   simp at h1;omega
  have htg:Aj8 xs=if xs.length<2∨3<xs.length∨(xs.getD 0 []).length<2 then none else if xs.length=3 then (AaB (xs.getD 2 [])).map (fun v=>⟨(xs.getD 0 []).getD 0 0,(xs.getD 0 []).drop 1,xs.getD 1 [],v⟩) else some ⟨(xs.getD 0 []).getD 0 0,(xs.getD 0 []).drop 1,xs.getD 1 [],[]⟩:=rfl
  have hx0:∀i,i<xs.length→(xs.getD i []).length≤1073741824:=by
   intro i hi;have h1:=AdL xs;have h2:=AeX (l:=xs) hi;have h3:=Agr (l:=xs) (j:=i+1);omega
  refine Zr (k:=Vv (k:=Wg (Zb (k:=Za (k:=Qc (k:=Qv (k:=Qv (k:=Gi 3 (t:=fun h17=>?_) (f:=fun h17=>?_)))))))))
  ·
   refine O1 (k:=O1 (k:=O1 (k:=P1 (k:=Vv (k:=O1 (k:=O1 (k:=O1 (k:=O1 (k:=O1 (k:=P1 (k:=Wq ?_)))))))))));refine Z1 (k:=Qc (k:=Zo (k:=Zo (k:=Wq (Zt (k:=Va (Vb ?_)))))));exact Aei
  ·
   refine J0 (k:=J0 (k:=J0 (k:=P0 (k:=Vv (k:=Gi 8 (t:=fun h22=>?_) (f:=fun h22=>?_))))))
   ·
    refine O1 (k:=O1 (k:=O1 (k:=O1 (k:=O1 (k:=P1 (k:=Wq (Z1 (k:=Qc (k:=Zo (k:=Zo (k:=?_)))))))))));refine Wq (Zt (k:=Va (Vb ?_)));exact Aei
   ·
    refine J0 (k:=I0 (k:=Ye 1 (m:=0) (k:=I0 (k:=Yl (hv:=by exact Aa4 [] (m:=0) (by omega)) (k:=J0 (k:=J0 (k:=P0 (k:=Wq ?_))))))));refine Zi (t:=fun h28=>?_) (f:=fun h28=>?_)
    ·
     refine Qc (k:=Zo (k:=Zo (k:=Wq (Zt (k:=Va (Vb ?_))))));exact Aei
    ·
     refine Zk (k:=Ya (Za (k:=?_)));have hx00:=hx0 0 (by omega);rw[if_neg (by omega)] at htg;refine Dw [SlI qa (xs.map vS)] (k:=?_);refine Dv 0 (k:=?_);refine Aa1 1 rfl rfl rfl (by kernel_rfl) (by kernel_rfl) (Aae (m:=0) (sz:=1) Tryz.underlying27 ti9 rfl rfl rfl rfl (by omega) (by first | (rw[List.length_map];omega) | (rw[Aaj (sz:=1) (fun _=>rfl)];omega) | (simp;omega)) (Nat.mul_one _)) ?_;refine Aa1 2 rfl rfl rfl (by kernel_rfl) (by kernel_rfl) (Aas Tryz.underlying9 rfl rfl (Aa4 [] (m:=0) (by omega))) ?_;refine Aa1 3 rfl rfl rfl (by kernel_rfl) (by kernel_rfl) (Aat (Abt (m:=0) Tryz.underlying9 rfl rfl rfl (by omega))) ?_;refine Dv 4 (k:=?_);refine Aa1 5 rfl rfl rfl (by kernel_rfl) (by kernel_rfl) (Aae (m:=0) (sz:=1) Tryz.underlying27 ti9 rfl rfl rfl rfl (by omega) (by first | (rw[List.length_map];omega) | (rw[Aaj (sz:=1) (fun _=>rfl)];omega) | (simp;omega)) (Nat.mul_one _)) ?_;refine Aa1 6 rfl rfl rfl (by kernel_rfl) (by kernel_rfl) (Aas Tryz.underlying9 rfl rfl (Aa4 [] (m:=0) (by omega))) ?_;refine Aa1 7 rfl rfl rfl (by kernel_rfl) (by kernel_rfl) (Aat (Ac5 (m:=1) Tryz.underlying9 rfl rfl rfl (by omega))) ?_;refine Dv 8 (k:=?_);refine Aa1 9 rfl rfl rfl (by kernel_rfl) (by kernel_rfl) (Aae (m:=1) (sz:=1) Tryz.underlying27 ti9 rfl rfl rfl rfl (by omega) (by first | (rw[List.length_map];omega) | (rw[Aaj (sz:=1) (fun _=>rfl)];omega) | (simp;omega)) (Nat.mul_one _)) ?_
     refine Aa1 10 rfl rfl rfl (by kernel_rfl) (by kernel_rfl) (Aas Tryz.underlying9 rfl rfl (Aa4 [] (m:=1) (by omega))) ?_;refine Di 11 (t:=Ux (Ps [_,_,_,vS []])) (k:=Dn 12 (k:=Nc [.int .u8 0,vS [],vS [],vS []] (k:=fun b7=>Dn 13 (k:=Na (k:=Dd (k:=Ya (Za (k:=Qc (k:=Qv (k:=?_))))))))));refine Vv (k:=Wq (Zi (t:=fun h43=>?_) (f:=fun h43=>?_)))
     ·
      refine Za (k:=?_);have hx02:=hx0 2 (by omega);rw[if_pos (by omega)] at htg;refine Zr (k:=Vv (k:=Ye 1 (m:=2) (k:=Yl (hv:=by exact Aa4 [] (m:=2) (by omega)) (k:=?_))));refine Aag (Ahq (xs.getD 2 []) (by omega)) rfl rfl rfl ?_;refine Qv (k:=Qv (k:=Vv (k:=Wq (Za (k:=Qc (k:=Qv (k:=Wq ?_)))))));refine Zi (t:=fun h52=>?_) (f:=fun h52=>?_)
      ·
       refine Qc (k:=Zo (k:=Zo (k:=Wq (Zt (k:=Va (Va (Vb ?_)))))));exact Aei
      ·
       refine Zk (k:=Ya ?_);obtain⟨v,hv⟩:∃v,AaB (xs.getD 2 [])=some v:=by cases e:AaB (xs.getD 2 []) with
        | none=>rw[e] at h52;simp at h52
        | some v=>exact⟨v,rfl⟩
       rw[hv,Option.map_some] at htg;rw[hv];refine Zr (k:=Vv (k:=Vf 3 9 (k:=Zo (k:=Wq (Zr (k:=Zd (k:=Zm [_,_,_,_] (k:=Zv [_] (cs:=[_,_,_,_]) (k:=fun b57=>?_)))))))));refine Aao (sz:=4) (bytes:=56) Tryz.underlying28 Adx rfl rfl rfl rfl rfl rfl rfl (by rfl) (by rfl) (by omega) (by simp only[maxLen];omega) rfl (fun a58 c58=>?_);refine Zo (k:=Wn (Yb ?_));refine AaV ?_;have hg:=AiG hq htg;rw[List.map_append,List.map_singleton];exact(Amb (b:=b4) _ a58 c58 (ts.length+1) hg (by simp) (by rfl) (by rfl) (by rfl) (by rfl) (by rfl) (by simp[Aab])).trans Aa0
     ·
      rw[if_neg (by omega)] at htg;refine Zk (k:=Ya (Zr (k:=Zd (k:=Zm [_,_,_,_] (k:=Zv [_] (cs:=[_,_,_,_]) (k:=fun b57=>?_))))));refine Aao (sz:=4) (bytes:=56) Tryz.underlying28 Adx rfl rfl rfl rfl rfl rfl rfl (by rfl) (by rfl) (by omega) (by simp only[maxLen];omega) rfl (fun a58 c58=>?_);refine Zo (k:=Wn (Yb ?_));refine AaV ?_;have hg:=AiG hq htg;rw[List.map_append,List.map_singleton];exact(Amb (b:=b4) _ a58 c58 (ts.length+1) hg (by simp) (by rfl) (by rfl) (by rfl) (by rfl) (by rfl) (by simp[Aab])).trans Aa0
 ·
  skip
  refine Yb (Ya (Za (k:=?_)));refine AdM (TgB b4 ((ofL 84 qs 0).map (fun p=>p.2.args))) (AcE fun z=>AdW (AfR fun hq=>?_));rw[hof] at hq;obtain⟨ts,ta,tc⟩:=z;dsimp only at hq;dsimp only;refine Zr (k:=Zd (k:=Zo (k:=Zo (k:=Wq (Zt (k:=?_))))));exact Apb
 ·
  rcases j with _ | j
  · refine ArG (Gs:=[Pu (AaK (Aa8 84 (Aa3 qs))=none),Ce b2 28 [.slice none 0 0],Ce b3 4 [.bool false],B]) (show Ent ([Pu (AaK (Aa8 84 (Aa3 qs))=none),Ce b2 28 [.slice none 0 0],Ce b3 4 [.bool false]]++_) _ from Aa0) (AfR fun hbad=>?_)
    refine Zt (k:=Vb (Va ?_));exact Apb
  · exact AfS (fun s=>by obtain⟨_,_,_,_,a,_⟩:=s;exact a)
end
end Go.Proofs.YtdnoacgopfcpbaaGreat
