/- Texts of this proof, put together: SCk5, PCk3, SCk6. -/
import Derived.Test.YtdnoacgopfcpbaaGreatQ13
set_option linter.unusedVariables false
set_option linter.unusedSimpArgs false
namespace Go.Proofs.YtdnoacgopfcpbaaGreat
section
set_option maxRecDepth 100000
section
variable {P:Program}
theorem Sp.frzC {f:FuncId} {args:List Value} {As:List HP} {X:Type} {val:X→Value} {φ:X→Prop} {Bs:X→List HP} {b T:Nat} {l:List Value}
    (sp:Sp P f args (SlI (some ⟨b,0,none⟩) l::As) val φ Bs):Sp P f args (Ce b T l::As) val φ Bs:=by
 refine⟨sp.enters,fun w M h hf d t s=>?_⟩;obtain⟨h1,h2,d12,e,hb,s2⟩:=s;have hb':h1=Res.one b _:=hb;subst hb';subst e;obtain⟨d1,d2⟩:=Res.dj_add_left.1 d;have eq:((Res.one b (.cells l.toArray T (0,0))).add h2).add hf=(Res.one b (.cells l.toArray T (0,0))).add (h2.add hf):=by simp only[Res.add_assoc]
 obtain⟨M',le,hi,t2⟩:=Afi (Res.dj_add_right.2 ⟨d12,d1⟩) (eq▸t);refine(sp.calls w M' h2 hf d2 t2 ⟨Res.emp,h2,Res.emp_dj _,rfl,.inr ⟨b,0,l,T,(0,0),rfl,hi,by simp⟩,SL.mono le s2⟩).mono ?_;rintro e w' ⟨x,M2,h',e1,p,l2,r⟩;exact⟨x,M2,h',e1,p,Kn.le_trans le l2,r⟩
end
section
variable {r:Option Nat} {P:Program} {n:Nat} {ops:Array Oper} {A:List HP} {L:Loc} {Hs:List HP} {ty:TypeId} {d:Nat} {pos:String} {after:Array Edge}
theorem Aeg {K:Loc→List HP→Prop} {t e:TypeId} {x y:Operand} {i:TypeInfo} {z:Value} (ht:P.underlying t=some (.slice e)) (hi:P.info? e=some i) (hz:i.zero=some z) (hzs:Nat.beq z.cells.size i.size=true) {sz:Nat} (hsz:i.size=sz) (hs0:Nat.blt 0 sz=true) {bytes:Nat} (hby:i.bytes=bytes)
    {v:Value} {k:Nat} {xs news:List Value} {a:Option Addr} {m c:Nat} {B:HP} {R1 R2:List HP} (hx:ev L x=some v) (hy:ev L y=some (.slice a m c)) [h1:Aia v e sz k xs Hs R1] [h2:AhH a news B R1 R2]
    (hl:news.length=m * sz) (ho:news.all Aay=true) (hbytes:(k+m) * bytes≤140737488355328) (h63:k+m≤maxLen) (hd:Nat.blt d n=true)
    (k':∀a' c',K ((d,.slice a' (k+m) c')::L) (Row e sz (.slice a' (k+m) c') (k+m) (xs++news)::B::R2)):AnOp r P n ops A ⟨some d,.call ⟨.builtin .append,#[x,y],#[t,t]⟩,ty,pos,after,none⟩ K L Hs:=by
 haveI:Ab4 [Row e sz v k xs,B] Hs R2:=⟨.cons h1.get (.cons h2.get .nil)⟩
 refine AbR (AaU ht hi hz hzs hsz hs0 hby hx hy h2.sla hl ho hbytes h63 (xs:=xs)) (by simpa [Ad2] using hd) (fun v' ⟨a',c',h'⟩=>?_);subst h';exact k' a' c'
end
theorem Ac2 (l:List CdV):(l.flatMap CdV.cells).length=l.length * 2:=Aaj (f:=CdV.cells) (sz:=2) (fun _=>rfl) l
theorem AcN (l:List CdV):(l.flatMap CdV.cells).all Aay=true:=by
 rw[List.all_flatMap];exact List.all_eq_true.2 fun x _=>rfl
theorem AdJ {a:Option Addr} {c:Nat} (l:UInt8) (xs:List Bs) (vs:List Value) {Hs:List HP} (hq:Has (SlI a vs) Hs) (hv:vs=xs.map vS) (hc:xs.length≤c):Ent Hs (CdM [⟨l,a,c,xs⟩]::Hs):=⟨fun {M g} s=>by
 obtain⟨h2,_,b⟩:=hq.sat s;subst hv;exact⟨Res.emp,g,Res.emp_dj _,rfl,(fun x hx=>by rw[List.mem_singleton.1 hx];exact⟨b,hc⟩),s⟩⟩
theorem Ab2 {qs:List CdV} {a:Option Addr} {c:Nat} (l:UInt8) (xs:List Bs) (vs:List Value) {Hs:List HP} (hp:Has (CdM qs) Hs) (hq:Has (SlI a vs) Hs) (hv:vs=xs.map vS) (hc:xs.length≤c):Ent Hs (CdM (qs++[⟨l,a,c,xs⟩])::Hs):=by
 subst hv;exact AbG (q:=⟨l,a,c,xs⟩) hp hq hc
def prK (c:Ck):Bs:=if AbD c then ckB c else []
def AbK (c:Ck):List Cd:=Abe c.base++[⟨67,[46::Abf c.comment]⟩,⟨68,[AaX c.date.toNat]⟩]++c.files.map AaL++AbC c.parents
theorem AcA {qs:List CdV} {l:List Cd} (h:Aa3 qs=l):qs.length=l.length:=by rw[←h];simp[Aa3]
theorem Alw {G:Prop} (h:G:=by
    have hql2:(fs++[q]).length=fs.length+1:=by simp
    first
    | (refine Aa5 ⟨(((a49,c49),fs++[q]),j+1),?_,?_⟩ ?_ ⟨rfl,Adk hql2.symm,rfl,rfl,rfl,trivial⟩ ?_
       · dsimp only;omega
       · dsimp only;rw[htk,Ad3,hqc,hfs,List.append_assoc]
       · dsimp only;omega
       · dsimp only
         rw[hql2];refine(AbG (qs:=fs) (q:=q) HasC.get (by rw[hqs];exact HasC.get) hqx).trans ?_;exact Aac (AaW (by rfl) (by rw[AbU,hqv])) Aa0)
    | (refine Aa5 ⟨(((a58,c58),fs++[q]),j+1),?_,?_⟩ ?_ ⟨rfl,Adk hql2.symm,rfl,rfl,rfl,trivial⟩ ?_
       · dsimp only;omega
       · dsimp only;rw[htk,Ad3,hqc,hfs,List.append_assoc]
       · dsimp only;omega
       · dsimp only
         rw[hql2];refine(AbG (qs:=fs) (q:=q) HasC.get (by rw[hqs];exact HasC.get) hqx).trans ?_;exact Aac (AaW (by rfl) (by rw[AbU,hqv])) Aa0)):G:=h
theorem Alv {G:Prop} (h:G:=by
    refine Aa2 () (vs:=[_]) (Cs:=[]) rfl (.tmp rfl .nil) rfl trivial ?_;exact Aa0):G:=h
theorem Akn {G:Prop} (h:G:=by
    first
    | (have hp:c.parents≠[]:=fun e=>by rw[e] at h63;simp at h63
       have hql2:(fs++[(⟨80,x.pa,x.pc,c.parents⟩:CdV)]).length=fs.length+1:=by simp
       refine Aa5 ⟨((a69,c69),fs++[⟨80,x.pa,x.pc,c.parents⟩]),?_⟩ trivial ⟨rfl,Adk hql2.symm,trivial⟩ ?_
       · dsimp only;rw[Ad3,hfs,AbK,AbC,if_neg hp];simp[CdV.cd]
       · dsimp only
         rw[hql2];refine(AbG (qs:=fs) (q:=⟨80,x.pa,x.pc,c.parents⟩) HasC.get HasC.get hpc).trans ?_;exact Aac (AaW (by rfl) (by rw[AbU];rfl)) Aa0)
    | (have hp:c.parents=[]:=List.eq_nil_of_length_eq_zero (by omega)
       refine Aa5 ⟨((fa,fc),fs),?_⟩ trivial ⟨rfl,rfl,trivial⟩ Aa0;dsimp only;rw[hfs,AbK,AbC,if_pos hp];simp)):G:=h
theorem Alx {G:Prop} (h:G:=by
    first
    | (have hb:c.base≠[]:=h11
       refine Aa5 ⟨((a18,c18),[⟨66,some ⟨b15,0,none⟩,1,[c.base]⟩]),by simp[Aa3,CdV.cd,Abe,hb]⟩ trivial ⟨rfl,rfl,trivial⟩ ?_;refine Ent.trans (AdJ (a:=some ⟨b15,0,none⟩) (c:=1) 66 [c.base] [vS c.base] HasC.get rfl (Nat.le_refl _)) ?_;dsimp only[List.length_cons,List.length_nil];exact Aac (AaW (by rfl) (by rfl)) Aa0)
    | (have hb:c.base=[]:=Classical.not_not.1 h11
       refine Aa5 ⟨((none,0),[]),by simp[Aa3,Abe,hb]⟩ trivial ⟨rfl,rfl,trivial⟩ ?_;refine Ent.trans ent_cdm_nil ?_;dsimp only[List.length_nil];rw[show ([]:List CdV).flatMap CdV.cells=[] from rfl];exact Aa0)):G:=h
set_option maxHeartbeats 4000000 in
theorem Aki {Bf Bt:HP} (x:CkA) (c:Ck) (z:CkZ c) (shf:SlA Bf x.fa (c.files.flatMap AaN)) (sht:SlA Bt x.ta (c.tags.flatMap Aab)) (hpc:c.parents.length≤x.pc) :
    Sp1 Tryz.prog 113 [.agg (AaZ x c).toArray] [Bf,SlI x.pa (c.parents.map vS),Bt] (vS (prK c)) [Bf,Bt]:=by
 have hRt:=Akh x c z shf sht hpc;have hTC:=AeG c.tags.length x.tc c.tags sht rfl z.tags;haveI:Abu x.fa (c.files.flatMap AaN) [Bf,SlI x.pa (c.parents.map vS),Bt]:=⟨⟨Bf,shf,.here⟩⟩
 obtain⟨z1,z2,z3,z4,z5,z6,z7,z8,z9⟩:=z;refine Sp.body (n:=82) Tryz.call113 Tryz.func113 rfl rfl rfl ?_;refine Qc (k:=Zx [_,_,_,_,_,_,_] (k:=fun b1=>Vv (k:=Wq (Za (k:=Qc (k:=Zm [_,_,_,_,_,_,_] (k:=?_)))))));refine Aaa hRt rfl rfl rfl ?_;refine Vv (k:=Wq (Zi (t:=fun h8=>?_) (f:=fun h8=>?_)))
 ·
  refine Qc (k:=Vv (k:=Wq (Zt (k:=Va ?_))));have hn:¬AbD c:=by simpa using h8
  refine Aa2 () (vs:=[_]) (Cs:=[]) rfl (.tmp rfl .nil) ?_ trivial Aa0;rw[prK,if_neg hn];rfl
 ·
  have hR:AbD c:=by simpa using h8
  have hsz:=Aev hR;have hDec:SpF Tryz.prog 159 [vI c.date] (vS (AaX c.date.toNat)):=by
   have h1:=hR.date;have:=AgH c.date.toNat (by omega);rwa [Int.toNat_of_nonneg h1.1] at this
  refine Zk (k:=Ya (Qc (k:=Vv (k:=Wq ?_))));refine Abg (fun (i:{ x:(Option Addr×Nat)×List CdV // Aa3 x.2=Abe c.base })=>[(1,.pointer (some ⟨b1,0,none⟩)),(3,.slice i.1.1.1 i.1.2.length i.1.1.2)]) (fun (i:{ x:(Option Addr×Nat)×List CdV // Aa3 x.2=Abe c.base })=>[Row 220 2 (.slice i.1.1.1 i.1.2.length i.1.1.2) i.1.2.length (i.1.2.flatMap CdV.cells),CdM i.1.2,Ce b1 30 [vS c.base,vS c.comment,vI c.date,.slice x.fa c.files.length x.fc,.slice x.pa c.parents.length x.pc,.slice x.ta c.tags.length x.tc,vS c.user],Bf,SlI x.pa (c.parents.map vS),Bt]) rfl (fun i=>?_) ?_
  ·
   obtain⟨⟨⟨oa,oc⟩,qs⟩,hcd⟩:=i;dsimp only at hcd ⊢;have hql:=AcA hcd;have hbl:(Abe c.base).length≤1:=by unfold Abe;split<;>simp
   try dsimp only
   refine Za (k:=Dw [Ce b1 30 [vS c.base,vS c.comment,vI c.date,.slice x.fa c.files.length x.fc,.slice x.pa c.parents.length x.pc,.slice x.ta c.tags.length x.tc,vS c.user]] (k:=?_));refine Dv 0 (k:=Di 1 (t:=Uf 1 9) (k:=Di 2 (t:=Ul) (k:=Di 7 (t:=Uf 2 3) (k:=Di 8 (t:=Ul) (k:=Dn 3 (k:=?_))))));refine Aal (Aij c.comment (by omega)) rfl rfl rfl ?_;have hel:=(Aeu c.comment).2;refine Dv 4 (k:=Dn 5 (k:=Nl [_] (cs:=[_]) (k:=fun b24=>Dn 6 (k:=?_))));refine Aal (Abs 67 (some ⟨b24,0,none⟩) 1 1) rfl rfl rfl ?_;refine Dn 9 (k:=?_);refine Aal hDec rfl rfl rfl ?_;refine Dn 10 (k:=Nl [_] (cs:=[_]) (k:=fun b29=>Dn 11 (k:=?_)));refine Aal (Abs 68 (some ⟨b29,0,none⟩) 1 1) rfl rfl rfl ?_;refine Dn 12 (k:=Nl [_,_] (cs:=[_,_,_,_]) (k:=fun b31=>Dn 13 (k:=?_)));refine AaT (sz:=2) (bytes:=32) Tryz.underlying170 Adi rfl rfl rfl rfl rfl rfl rfl (by rfl) (by rfl) (by omega) (by simp only[maxLen];omega) rfl (fun a32 c32=>?_);refine Dv 14 (k:=Dd (k:=Ya (Za (k:=Za (k:=?_)))));refine Ad4 b24 ?_;refine Ad4 b29 ?_;obtain⟨ps,hps⟩:∃ps:List CdV,ps=qs++[⟨67,some ⟨b24,0,none⟩,1,[46::Abf c.comment]⟩]++[⟨68,some ⟨b29,0,none⟩,1,[AaX c.date.toNat]⟩]:=⟨_,rfl⟩
   have hpcd:Aa3 ps=Abe c.base++[⟨67,[46::Abf c.comment]⟩,⟨68,[AaX c.date.toNat]⟩]:=by rw[hps,AaI,AaI,hcd,List.append_assoc];rfl
   have hpl:ps.length=qs.length+2:=by rw[hps];simp
   have hpf:ps.flatMap CdV.cells=qs.flatMap CdV.cells++[vU ((67:UInt8).toNat:Int),.slice (some ⟨b24,0,none⟩) 1 1,vU ((68:UInt8).toNat:Int),.slice (some ⟨b29,0,none⟩) 1 1]:=by rw[hps];simp[CdV.cells]
   refine Zr (k:=Qx 3 26 (k:=Qv (k:=Wq (Zb (k:=?_)))));refine Aak (fun (i:{ y:((Option Addr×Nat)×List CdV)×Nat // y.2≤c.files.length∧Aa3 y.1.2=Aa3 ps++(c.files.take y.2).map AaL })=>[(1,.pointer (some ⟨b1,0,none⟩)),(3,.slice i.1.1.1.1 i.1.1.2.length i.1.1.1.2),(34,.slice x.fa c.files.length x.fc),(35,vI c.files.length),(36,vI i.1.2)]) (fun (i:{ y:((Option Addr×Nat)×List CdV)×Nat // y.2≤c.files.length∧Aa3 y.1.2=Aa3 ps++(c.files.take y.2).map AaL })=>[Row 220 2 (.slice i.1.1.1.1 i.1.1.2.length i.1.1.1.2) i.1.1.2.length (i.1.1.2.flatMap CdV.cells),CdM i.1.1.2,Ce b1 30 [vS c.base,vS c.comment,vI c.date,.slice x.fa c.files.length x.fc,.slice x.pa c.parents.length x.pc,.slice x.ta c.tags.length x.tc,vS c.user],Bf,SlI x.pa (c.parents.map vS),Bt]) (fun (i:{ y:((Option Addr×Nat)×List CdV)×Nat // y.2≤c.files.length∧Aa3 y.1.2=Aa3 ps++(c.files.take y.2).map AaL })=>c.files.length-i.1.2) rfl (⟨(((a32,c32),ps),0),Nat.zero_le _,by simp⟩) ?_ ?_ (fun i=>?_)
   · exact⟨rfl,Adk hpl.symm,rfl,rfl,rfl,trivial⟩
   ·
    dsimp only;rw[hpl,hpf];refine Ent.trans (Ab2 (qs:=qs) (a:=some ⟨b24,0,none⟩) (c:=1) 67 [46::Abf c.comment] [vS ([46]++Abf c.comment)] HasC.get HasC.get rfl (Nat.le_refl _)) ?_;refine Ent.trans (Ab2 (qs:=qs++[⟨67,some ⟨b24,0,none⟩,1,[46::Abf c.comment]⟩]) (a:=some ⟨b29,0,none⟩) (c:=1) 68 [AaX c.date.toNat] [vS (AaX c.date.toNat)] HasC.get HasC.get rfl (Nat.le_refl _)) ?_;rw[hps];exact Aac (AaW (by rfl) (by rfl)) Aa0
   obtain⟨⟨⟨⟨fa,fc⟩,fs⟩,j⟩,hj,hfs⟩:=i;dsimp only at hj hfs ⊢;have hfl:=AcA hfs;have hpl0:(Aa3 ps).length=ps.length:=by simp[Aa3]
   rw[List.length_append,List.length_map,List.length_take,hpl0] at hfl;try dsimp only
   refine Qc (k:=Vv (k:=Wq (Za (k:=Zi (t:=fun h37=>?_) (f:=fun h37=>?_)))))
   ·
    refine Zk (k:=Ya (Za (k:=Zb (k:=Za (k:=?_)))));have hjl:j<c.files.length:=by omega
    obtain⟨f,hf⟩:∃f,f=c.files[j]:=⟨_,rfl⟩
    have hfz:=z5 f (by rw[hf];exact List.getElem_mem _);have htk:(c.files.take (j+1)).map AaL=(c.files.take j).map AaL++[AaL f]:=by rw[List.take_succ_eq_append_getElem hjl,List.map_append,hf];rfl
    refine Zr (k:=Ye 2 (k:=?_));refine Abb (vs:=[_,_]) (sz:=2) Tryz.underlying25 rfl AfU rfl rfl (by rw[Aaj (sz:=2) (fun _=>rfl)];omega) rfl (by refine Ab1 (fun x=>?_) ?_<;>first | rfl | omega) rfl ?_;rw[←hf];refine Zc [vS [],vS []] (k:=fun b5=>Zp (k:=Wq (Qc (k:=Qx 1 9 (k:=Vv (k:=Wq (Zi (t:=fun h42=>?_) (f:=fun h42=>?_))))))))
    ·
     refine Zr (k:=Vv (k:=Qx 0 9 (k:=Zv [_] (cs:=[_]) (k:=fun b46=>?_))));refine Aag (Abs 70 (some ⟨b46,0,none⟩) 1 1) rfl rfl rfl ?_;refine Zv [_] (cs:=[_,_]) (k:=fun b48=>?_);refine Aao (sz:=2) (bytes:=32) Tryz.underlying170 Adi rfl rfl rfl rfl rfl rfl rfl (by rfl) (by rfl) (by omega) (by simp only[maxLen];omega) rfl (fun a49 c49=>?_);refine Ac9 b46 ?_;obtain⟨q,hqq⟩:∃q:CdV,q=⟨70,some ⟨b46,0,none⟩,1,[f.1]⟩:=⟨_,rfl⟩
     have hqc:q.cd=AaL f:=by rw[hqq,AaL,if_pos h42];rfl
     have hqx:q.args.length≤q.c:=by rw[hqq];exact Nat.le_refl _
     have hqs:SlI q.a (q.args.map vS)=SlI (some ⟨b46,0,none⟩) [vS f.1]:=by rw[hqq];rfl
     have hqv:q.cells=[vU ((70:UInt8).toNat:Int),.slice (some ⟨b46,0,none⟩) 1 1]:=by rw[hqq];rfl
     refine Vv (k:=Wn (Yb (Ya (Zr (k:=Qv (k:=Wn ?_))))));exact Alw
    ·
     refine Zr (k:=Vv (k:=Qx 0 9 (k:=Qx 1 9 (k:=Zv [_,_] (cs:=[_,_]) (k:=fun b55=>?_)))));refine Aag (Abs 70 (some ⟨b55,0,none⟩) 2 2) rfl rfl rfl ?_;refine Zv [_] (cs:=[_,_]) (k:=fun b57=>?_);refine Aao (sz:=2) (bytes:=32) Tryz.underlying170 Adi rfl rfl rfl rfl rfl rfl rfl (by rfl) (by rfl) (by omega) (by simp only[maxLen];omega) rfl (fun a58 c58=>?_);refine Ac9 b55 ?_;obtain⟨q,hqq⟩:∃q:CdV,q=⟨70,some ⟨b55,0,none⟩,2,[f.1,f.2]⟩:=⟨_,rfl⟩
     have hqc:q.cd=AaL f:=by rw[hqq,AaL,if_neg h42];rfl
     have hqx:q.args.length≤q.c:=by rw[hqq];exact Nat.le_refl _
     have hqs:SlI q.a (q.args.map vS)=SlI (some ⟨b55,0,none⟩) [vS f.1,vS f.2]:=by rw[hqq];rfl
     have hqv:q.cells=[vU ((70:UInt8).toNat:Int),.slice (some ⟨b55,0,none⟩) 2 2]:=by rw[hqq];rfl
     refine Vv (k:=Wn (Yb (Ya (Zr (k:=Qv (k:=Wn ?_))))));exact Alw
   ·
    refine Ze (k:=Xa (Xi (Xb (Ya ?_))));refine Abg (fun (i:{ y:(Option Addr×Nat)×List CdV // Aa3 y.2=AbK c })=>[(1,.pointer (some ⟨b1,0,none⟩)),(3,.slice i.1.1.1 i.1.2.length i.1.1.2)]) (fun (i:{ y:(Option Addr×Nat)×List CdV // Aa3 y.2=AbK c })=>[Row 220 2 (.slice i.1.1.1 i.1.2.length i.1.1.2) i.1.2.length (i.1.2.flatMap CdV.cells),CdM i.1.2,Ce b1 30 [vS c.base,vS c.comment,vI c.date,.slice x.fa c.files.length x.fc,.slice x.pa c.parents.length x.pc,.slice x.ta c.tags.length x.tc,vS c.user],Bf,SlI x.pa (c.parents.map vS),Bt]) rfl (fun i=>?_) ?_
    ·
     obtain⟨⟨⟨ga,gc⟩,gs⟩,hgs⟩:=i;dsimp only at hgs ⊢;have hgl:=AcA hgs;have hhl:(AbK c).length≤20:=by
      have h1:=hR.files.len;have h4:(AbC c.parents).length≤1:=by unfold AbC;split<;>simp
      simp only[AbK,List.length_append,List.length_map,List.length_cons,List.length_nil];omega
     have htl:=hR.tags.len;try dsimp only
     refine Za (k:=Dw [Ce b1 30 [vS c.base,vS c.comment,vI c.date,.slice x.fa c.files.length x.fc,.slice x.pa c.parents.length x.pc,.slice x.ta c.tags.length x.tc,vS c.user]] (k:=?_));refine Dv 0 (k:=Di 1 (t:=Uf 5 28) (k:=Di 2 (t:=Ul) (k:=Di 5 (t:=Uf 6 9) (k:=Di 6 (t:=Ul) (k:=?_)))));refine Aah 3 7 (by kernel_rfl) rfl rfl ?_ ?_
     ·
      refine Aam hTC rfl rfl rfl (fun x73 hx73=>?_);refine Aah 4 7 (by kernel_rfl) rfl rfl ?_ ?_
      ·
       obtain⟨⟨ta,tc⟩,tqs⟩:=x73;dsimp only[Ae0,AgU] at hx73 ⊢;have htq:=AcA hx73;rw[List.length_map] at htq;refine Aeg (sz:=2) (bytes:=32) Tryz.underlying170 Adi rfl rfl rfl rfl rfl rfl rfl (Ac2 tqs) (AcN tqs) (by omega) (by simp only[maxLen];omega) rfl (fun a74 c74=>?_);refine Dn 7 (k:=Nl [_] (cs:=[_]) (k:=fun b77=>Dn 8 (k:=?_)));refine Aal (Abs 85 (some ⟨b77,0,none⟩) 1 1) rfl rfl rfl ?_;refine Dn 9 (k:=Nl [_] (cs:=[_,_]) (k:=fun b79=>Dn 10 (k:=?_)));refine AaT (sz:=2) (bytes:=32) Tryz.underlying170 Adi rfl rfl rfl rfl rfl rfl rfl (by rfl) (by rfl) (by omega) (by simp only[maxLen];omega) rfl (fun a80 c80=>?_);refine Dn 11 (k:=?_);obtain⟨al,hal⟩:∃al:List CdV,al=gs++tqs++[⟨85,some ⟨b77,0,none⟩,1,[c.user]⟩]:=⟨_,rfl⟩
       have halc:Aa3 al=AaG c:=by rw[hal,AaI,AaI,hgs,hx73,AbK,AaG];simp[Aa3,CdV.cd]
       have hall:al.length=gs.length+tqs.length+1:=by rw[hal];simp;omega
       have hxx:gs.flatMap CdV.cells++tqs.flatMap CdV.cells++[vU ((85:UInt8).toNat:Int),.slice (some ⟨b77,0,none⟩) 1 1]=al.flatMap CdV.cells:=by rw[hal];simp[CdV.cells]
       have hPr:=Adr (B:=Row 220 2 (.slice a80 (gs.length+tqs.length+1) c80) (gs.length+tqs.length+1) (gs.flatMap CdV.cells++tqs.flatMap CdV.cells++[vU ((85:UInt8).toNat:Int),.slice (some ⟨b77,0,none⟩) 1 1])) (a:=a80) (gs.length+tqs.length+1) c80 al (by rw[←hxx];exact AaC) hall (by rw[halc];omega);have hPr2:Sp1 Tryz.prog 155 [.slice a80 (gs.length+tqs.length+1) c80] [Ce b77 9 [vS c.user],Row 220 2 (.slice a80 (gs.length+tqs.length+1) c80) (gs.length+tqs.length+1) (gs.flatMap CdV.cells++tqs.flatMap CdV.cells++[vU ((85:UInt8).toNat:Int),.slice (some ⟨b77,0,none⟩) 1 1]),CdM gs,CdM tqs] (vS (prK c)) []:=by
        refine Sp.frzC (Sp.mono hPr ?_ (fun u _=>⟨(),?_,trivial,Aad⟩))
        · refine Ent.trans (AbY (qs:=gs) (rs:=tqs) HasC.get HasC.get) ?_
          refine Ent.trans (Ab2 (qs:=gs++tqs) (a:=some ⟨b77,0,none⟩) (c:=1) 85 [c.user] [vS c.user] HasC.get HasC.get rfl (Nat.le_refl _)) ?_;rw[hal];exact Aa0
        · rw[prK,if_pos hR,prB,halc,if_pos (AeM hR)];rfl
       refine AcL hPr2 rfl rfl rfl ?_;refine Dv 12 (k:=Dd (k:=Ya (Zt (k:=?_))));exact Alv
      ·
       refine Nl [_] (cs:=[_]) (k:=fun b77=>Dn 4 (k:=?_));obtain⟨⟨ta,tc⟩,tqs⟩:=x73;dsimp only[Ae0,AgU] at hx73 ⊢;have htq:=AcA hx73;rw[List.length_map] at htq;refine Aeg (sz:=2) (bytes:=32) Tryz.underlying170 Adi rfl rfl rfl rfl rfl rfl rfl (Ac2 tqs) (AcN tqs) (by omega) (by simp only[maxLen];omega) rfl (fun a74 c74=>?_);refine Dn 8 (k:=?_);refine Aal (Abs 85 (some ⟨b77,0,none⟩) 1 1) rfl rfl rfl ?_;refine Dn 9 (k:=Nl [_] (cs:=[_,_]) (k:=fun b79=>Dn 10 (k:=?_)));refine AaT (sz:=2) (bytes:=32) Tryz.underlying170 Adi rfl rfl rfl rfl rfl rfl rfl (by rfl) (by rfl) (by omega) (by simp only[maxLen];omega) rfl (fun a80 c80=>?_);refine Dn 11 (k:=?_);obtain⟨al,hal⟩:∃al:List CdV,al=gs++tqs++[⟨85,some ⟨b77,0,none⟩,1,[c.user]⟩]:=⟨_,rfl⟩
       have halc:Aa3 al=AaG c:=by rw[hal,AaI,AaI,hgs,hx73,AbK,AaG];simp[Aa3,CdV.cd]
       have hall:al.length=gs.length+tqs.length+1:=by rw[hal];simp;omega
       have hxx:gs.flatMap CdV.cells++tqs.flatMap CdV.cells++[vU ((85:UInt8).toNat:Int),.slice (some ⟨b77,0,none⟩) 1 1]=al.flatMap CdV.cells:=by rw[hal];simp[CdV.cells]
       have hPr:=Adr (B:=Row 220 2 (.slice a80 (gs.length+tqs.length+1) c80) (gs.length+tqs.length+1) (gs.flatMap CdV.cells++tqs.flatMap CdV.cells++[vU ((85:UInt8).toNat:Int),.slice (some ⟨b77,0,none⟩) 1 1])) (a:=a80) (gs.length+tqs.length+1) c80 al (by rw[←hxx];exact AaC) hall (by rw[halc];omega);have hPr2:Sp1 Tryz.prog 155 [.slice a80 (gs.length+tqs.length+1) c80] [Ce b77 9 [vS c.user],Row 220 2 (.slice a80 (gs.length+tqs.length+1) c80) (gs.length+tqs.length+1) (gs.flatMap CdV.cells++tqs.flatMap CdV.cells++[vU ((85:UInt8).toNat:Int),.slice (some ⟨b77,0,none⟩) 1 1]),CdM gs,CdM tqs] (vS (prK c)) []:=by
        refine Sp.frzC (Sp.mono hPr ?_ (fun u _=>⟨(),?_,trivial,Aad⟩))
        · refine Ent.trans (AbY (qs:=gs) (rs:=tqs) HasC.get HasC.get) ?_
          refine Ent.trans (Ab2 (qs:=gs++tqs) (a:=some ⟨b77,0,none⟩) (c:=1) 85 [c.user] [vS c.user] HasC.get HasC.get rfl (Nat.le_refl _)) ?_;rw[hal];exact Aa0
        · rw[prK,if_pos hR,prB,halc,if_pos (AeM hR)];rfl
       refine AcL hPr2 rfl rfl rfl ?_;refine Dv 12 (k:=Dd (k:=Ya (Zt (k:=?_))));exact Alv
     ·
      refine Nl [_] (cs:=[_]) (k:=fun b77=>Dn 3 (k:=?_));refine Aam hTC rfl rfl rfl (fun x73 hx73=>?_);refine Dn 4 (k:=?_);obtain⟨⟨ta,tc⟩,tqs⟩:=x73;dsimp only[Ae0,AgU] at hx73 ⊢;have htq:=AcA hx73;rw[List.length_map] at htq;refine Aeg (sz:=2) (bytes:=32) Tryz.underlying170 Adi rfl rfl rfl rfl rfl rfl rfl (Ac2 tqs) (AcN tqs) (by omega) (by simp only[maxLen];omega) rfl (fun a74 c74=>?_);refine Dn 8 (k:=?_);refine Aal (Abs 85 (some ⟨b77,0,none⟩) 1 1) rfl rfl rfl ?_;refine Dn 9 (k:=Nl [_] (cs:=[_,_]) (k:=fun b79=>Dn 10 (k:=?_)));refine AaT (sz:=2) (bytes:=32) Tryz.underlying170 Adi rfl rfl rfl rfl rfl rfl rfl (by rfl) (by rfl) (by omega) (by simp only[maxLen];omega) rfl (fun a80 c80=>?_);refine Dn 11 (k:=?_);obtain⟨al,hal⟩:∃al:List CdV,al=gs++tqs++[⟨85,some ⟨b77,0,none⟩,1,[c.user]⟩]:=⟨_,rfl⟩
      have halc:Aa3 al=AaG c:=by rw[hal,AaI,AaI,hgs,hx73,AbK,AaG];simp[Aa3,CdV.cd]
      have hall:al.length=gs.length+tqs.length+1:=by rw[hal];simp;omega
      have hxx:gs.flatMap CdV.cells++tqs.flatMap CdV.cells++[vU ((85:UInt8).toNat:Int),.slice (some ⟨b77,0,none⟩) 1 1]=al.flatMap CdV.cells:=by rw[hal];simp[CdV.cells]
      have hPr:=Adr (B:=Row 220 2 (.slice a80 (gs.length+tqs.length+1) c80) (gs.length+tqs.length+1) (gs.flatMap CdV.cells++tqs.flatMap CdV.cells++[vU ((85:UInt8).toNat:Int),.slice (some ⟨b77,0,none⟩) 1 1])) (a:=a80) (gs.length+tqs.length+1) c80 al (by rw[←hxx];exact AaC) hall (by rw[halc];omega);have hPr2:Sp1 Tryz.prog 155 [.slice a80 (gs.length+tqs.length+1) c80] [Ce b77 9 [vS c.user],Row 220 2 (.slice a80 (gs.length+tqs.length+1) c80) (gs.length+tqs.length+1) (gs.flatMap CdV.cells++tqs.flatMap CdV.cells++[vU ((85:UInt8).toNat:Int),.slice (some ⟨b77,0,none⟩) 1 1]),CdM gs,CdM tqs] (vS (prK c)) []:=by
       refine Sp.frzC (Sp.mono hPr ?_ (fun u _=>⟨(),?_,trivial,Aad⟩))
       · refine Ent.trans (AbY (qs:=gs) (rs:=tqs) HasC.get HasC.get) ?_
         refine Ent.trans (Ab2 (qs:=gs++tqs) (a:=some ⟨b77,0,none⟩) (c:=1) 85 [c.user] [vS c.user] HasC.get HasC.get rfl (Nat.le_refl _)) ?_;rw[hal];exact Aa0
       · rw[prK,if_pos hR,prB,halc,if_pos (AeM hR)];rfl
      refine AcL hPr2 rfl rfl rfl ?_;refine Dv 12 (k:=Dd (k:=Ya (Zt (k:=?_))));exact Alv
    ·
     refine Za (k:=?_);have hjl:j=c.files.length:=by omega
     subst hjl;rw[List.take_length,hpcd] at hfs;refine Zr (k:=Qx 4 27 (k:=Qv (k:=Wq (Zi (t:=fun h63=>?_) (f:=fun h63=>?_)))))
     ·
      refine Zr (k:=Vv (k:=Qx 4 27 (k:=?_)));refine Aag (Abs 80 x.pa c.parents.length x.pc) rfl rfl rfl ?_;refine Zv [_] (cs:=[_,_]) (k:=fun b68=>?_);refine Aao (sz:=2) (bytes:=32) Tryz.underlying170 Adi rfl rfl rfl rfl rfl rfl rfl (by rfl) (by rfl) (by omega) (by simp only[maxLen];omega) rfl (fun a69 c69=>?_);refine Vv (k:=Wn ?_);exact Akn
     ·
      refine Zk (k:=?_);exact Akn
  ·
   refine Za (k:=?_);refine wc_ent' (AaS (e:=220) (sz:=2)) ?_;refine Zr (k:=Qx 0 9 (k:=Vv (k:=Wq (Zi (t:=fun h11=>?_) (f:=fun h11=>?_)))))
   ·
    refine Zr (k:=Vv (k:=Qx 0 9 (k:=Zv [_] (cs:=[_]) (k:=fun b15=>?_))));refine Aag (Abs 66 (some ⟨b15,0,none⟩) 1 1) rfl rfl rfl ?_;refine Zv [_] (cs:=[_,_]) (k:=fun b17=>?_);refine Aao (sz:=2) (bytes:=32) Tryz.underlying170 Adi rfl rfl rfl rfl rfl rfl rfl (by rfl) (by rfl) (by omega) (by simp only[maxLen];omega) rfl (fun a18 c18=>?_);refine Ac9 b15 ?_;refine Vv (k:=Wn ?_);exact Alx
   ·
    refine Zk (k:=?_);exact Alx
end
def AcR (l:List Cd):Option Bs:=AaB (Lib.trimPrefix ((AbT (Aa8 67 l)).getD []) [46])
def Aey (l:List Cd):Option Nat:=AbM ((AbT (Aa8 68 l)).getD [])
def Aft (l:List Cd):Ck:=⟨(AbT (Aa8 66 l)).getD [],(AcR l).getD [],(((Aey l).getD 0:Nat):Int),(Aa8 70 l).map Ajt,(Aa8 80 l).headD [],(AaK (Aa8 84 l)).getD [],(AbT (Aa8 85 l)).getD []⟩
theorem AiJ {l:List Cd} {c:Ck} (h:ApQ l=some c):(AbT (Aa8 67 l)).isSome=true∧(AbT (Aa8 68 l)).isSome=true∧(AbT (Aa8 85 l)).isSome=true∧(AcR l).isSome=true∧(Aey l).isSome=true∧(AaK (Aa8 84 l)).isSome=true∧c=Aft l:=by
 unfold ApQ at h;split at h
 · rename_i a b d e1 e2 e3
   split at h
   · rename_i x y z f1 f2 f3
     cases h;have g1:AcR l=some x:=by rw[AcR,e1];exact f1
     have g2:Aey l=some y:=by rw[Aey,e2];exact f2
     rw[e1,e2,e3,g1,g2,f3];refine⟨rfl,rfl,rfl,rfl,rfl,rfl,?_⟩;rw[Aft,g1,g2,f3,e3];rfl
   · cases h
 · cases h
theorem AnF {s:Bs} {l:List Cd} (hl:ReadsC s l) {c:Ck} (h:ReadsK s c):ApQ l=some c:=by
 rw[hl.uniq h.reads];exact AfA h.1
theorem Ahg {xs:List Bs} {a:Bs} (h:a∈xs):a.length≤(AaM xs).length:=by
 obtain⟨i,hi,rfl⟩:=Aby (d:=[]) h;have h1:=AdL xs;have h2:=AeX (l:=xs) hi;have h3:=Agr (l:=xs) (j:=i+1);omega
theorem Amn:∀(l:List Cd),l.length≤(Aav l).length∧∀c∈l,(AaM c.args).length≤(Aav l).length:=by
 intro l
 induction l with
 | nil=>exact⟨Nat.zero_le _,fun c hc=>by cases hc⟩
 | cons c l ih =>
   rw[Ac8,List.length_append,List.length_cons,List.length_cons];have e:(AbN c).length=(AaM c.args).length+1:=by simp[AbN]
   refine⟨by omega,fun x hx=>?_⟩;rcases List.mem_cons.1 hx with rfl | hx
   · omega
   · have:=ih.2 x hx;omega
theorem AdT {l:List Cd} {N:Nat} (h:(Aav l).length≤N) (x:UInt8):(Aa8 x l).length≤N∧∀xs∈Aa8 x l,xs.length≤N∧∀a∈xs,a.length≤N:=by
 obtain⟨h1,h2⟩:=Amn l;constructor
 · simp only[Aa8,List.length_map]
   exact Nat.le_trans (List.length_filter_le _ _) (by omega)
 · intro xs hxs
   simp only[Aa8,List.mem_map,List.mem_filter] at hxs;obtain⟨c,⟨hc,_⟩,rfl⟩:=hxs;have h3:=h2 c hc;have h4:=AdL c.args;exact⟨by omega,fun a ha=>by have:=Ahg ha;omega⟩
theorem ArT {l:List (List Bs)} {N:Nat} (h:∀xs∈l,∀a∈xs,a.length≤N):((AbT l).getD []).length≤N:=by
 match l,h with
 | [],_=>simp[AbT]
 | [[]],_=>simp[AbT]
 | [[a]],h=>simpa [AbT] using h [a] (by simp) a (by simp)
 | [a::b::r],_=>simp[AbT]
 | a::b::r,_=>simp[AbT]
theorem ArJ (s p:Bs):(Lib.trimPrefix s p).length≤s.length:=by
 unfold Lib.trimPrefix;split<;>simp
theorem Ag1 {N : Nat}:∀{l:List (List Bs)} {ts:List Tg},(∀xs∈l,∀a∈xs,a.length≤N)→AaK l=some ts→ts.length=l.length∧∀t∈ts,t.name.length≤N∧t.target.length≤N∧t.value.length≤N:=by
 intro l
 induction l with
 | nil=>intro ts _ h;cases h;exact⟨rfl,fun t ht=>by cases ht⟩
 | cons x l ih =>
   intro ts hz h;simp only[AaK] at h
   cases e:Aj8 x with
   | none=>rw[e] at h;cases h
   | some t =>
     rw[e] at h;dsimp only at h
     cases e2:AaK l with
     | none=>rw[e2] at h;cases h
     | some us =>
       rw[e2] at h
       cases h;obtain⟨i1,i2⟩:=ih (fun xs hxs=>hz xs (by simp[hxs])) e2;refine⟨by simp[i1],fun u hu=>?_⟩;rcases List.mem_cons.1 hu with rfl | hu
       · have hx:∀i,(x.getD i []).length≤N:=fun i=>by
           by_cases hi:i<x.length
           · exact hz x (by simp) _ (by simp[hi])
           · simp[hi]
         unfold Aj8 at e;split at e
         · cases e
         · split at e
           · cases e3:AaB (x.getD 2 []) with
             | none=>rw[e3] at e;cases e
             | some v =>
               rw[e3] at e
               cases e;dsimp only;have:=Aiz e3;have:=hx 2;have:=hx 0;have:=hx 1;simp only[List.length_drop];omega
           · cases e
             dsimp only;have:=hx 0;have:=hx 1;simp only[List.length_drop,List.length_nil];omega
       · exact i2 u hu
section
set_option maxRecDepth 100000
theorem As8 {l:List Cd} {N:Nat} (h:(Aav l).length≤N) (hN:N≤1073741824):CkZ (Aft l):=by
 have hz:=fun x=>AdT h x;have h1:∀x,((AbT (Aa8 x l)).getD []).length≤N:=fun x=>ArT fun xs hx a ha=>((hz x).2 xs hx).2 a ha;have hd:∀(xs:List Bs) i,xs∈Aa8 70 l→(xs.getD i []).length≤N:=fun xs i hx=>by
  by_cases hi:i<xs.length
  · exact((hz 70).2 xs hx).2 _ (by simp[hi])
  · simp[hi]
 refine⟨?_,?_,?_,?_,?_,?_,?_,?_,?_⟩
 · exact Nat.le_trans (h1 66) (by omega)
 · show ((AcR l).getD []).length≤_
   cases e:AcR l with
   | none=>simp
   | some t =>
     have h2:=Aiz e;have h3:=ArJ ((AbT (Aa8 67 l)).getD []) [46];have:=h1 67;simp only[Option.getD_some];omega
 · exact Nat.le_trans (h1 85) (by omega)
 · show ((Aa8 70 l).map Ajt).length≤_
   rw[List.length_map];have:=(hz 70).1;omega
 · intro f hf
   obtain⟨xs,hx,rfl⟩:=List.mem_map.1 (show f∈(Aa8 70 l).map Ajt from hf);have:=hd xs 0 hx;have:=hd xs 1 hx;unfold Ajt;split
   · dsimp only;omega
   · split
     · dsimp only[List.length_nil];omega
     · simp
 · show ((Aa8 80 l).headD []).length≤_
   have:=(hz 80).2
   cases e:Aa8 80 l with
   | nil=>simp
   | cons a r=>rw[e] at this;have:=(this a (by simp)).1;simp only[List.headD_cons];omega
 · intro p hp
   have h3:p∈(Aa8 80 l).headD []:=hp;have:=(hz 80).2
   cases e:Aa8 80 l with
   | nil=>rw[e] at h3;simp at h3
   | cons a r=>rw[e] at this h3;have:=(this a (by simp)).2 p h3;omega
 · show ((AaK (Aa8 84 l)).getD []).length≤_
   cases e:AaK (Aa8 84 l) with
   | none=>simp
   | some ts =>
     have:=(Ag1 (N:=N) (fun xs hx a ha=>((hz 84).2 xs hx).2 a ha) e).1;have:=(hz 84).1;simp only[Option.getD_some];omega
 · intro t ht
   have h3:t∈(AaK (Aa8 84 l)).getD []:=ht
   cases e:AaK (Aa8 84 l) with
   | none=>rw[e] at h3;simp at h3
   | some ts =>
     rw[e] at h3;have:=(Ag1 (N:=N) (fun xs hx a ha=>((hz 84).2 xs hx).2 a ha) e).2 t h3;omega
abbrev ckH (x:CkA×Ck):List HP:=[Row 25 2 (.slice x.1.fa x.2.files.length x.1.fc) x.2.files.length (x.2.files.flatMap AaN),SlI x.1.pa (x.2.parents.map vS),Row 60 4 (.slice x.1.ta x.2.tags.length x.1.tc) x.2.tags.length (x.2.tags.flatMap Aab)]
theorem sli_nil {Hs:List HP}:Ent Hs (SlI none []::Hs):=⟨fun {M g} s=>⟨Res.emp,g,Res.emp_dj _,rfl,.inl rfl,s⟩⟩
def ka0:CkA:=⟨none,0,none,0,none,0⟩
theorem ent_noCk {Hs:List HP}:Ent Hs (Row 25 2 (.slice none 0 0) 0 []::SlI none []::Row 60 4 (.slice none 0 0) 0 []::Hs):=(AaS (e:=60) (sz:=4)).trans (sli_nil.trans AaS)
def FlB (b:Nat) (base text:Bs) (day:Int) (tv:Value) (user:Bs) (fl:List (Bs×Bs)):HP:=Ex fun z:Option Addr×Nat=>Al [Ce b 30 [vS base,vS text,vI day,.slice z.1 fl.length z.2,.slice none 0 0,tv,vS user],Row 25 2 (.slice z.1 fl.length z.2) fl.length (fl.flatMap AaN)]
theorem Adp {b T:Nat} {base text:Bs} {day:Int} {tv:Value} {user:Bs} {fl:List (Bs×Bs)} {vs:List Value} {Hs R1 Rs:List HP} (a:Option Addr) (k m:Nat) (hm:m=fl.length) [q:AhJ b T vs Hs R1] (hT:T=30) (h1:vs=[vS base,vS text,vI day,.slice a m k,.slice none 0 0,tv,vS user]) {n:Nat} {ys:List Value} {e sz:Nat} [q2:Aia (.slice a m k) e sz n ys R1 Rs] (he:e=25) (hsz:sz=2) (hn:n=m) (hy:ys=fl.flatMap AaN):Ent Hs (FlB b base text day tv user fl::Rs):=by
 subst hT;subst h1;subst he;subst hsz;subst hn;subst hy;subst hm;refine AbV (a,k) ?_;refine Acl ?_;exact Picks.ent (.cons q.get (.cons q2.get .nil))
def AuM (qs:List CdV) (pa:Option Addr) (pc:Nat) (xs:List Bs):Prop:=(pa=none∧xs=[]∧pc=0)∨∃q∈qs,q.a=pa∧q.args=xs∧q.c=pc
theorem Avn (x:UInt8) (qs:List CdV):∃pa pc,Aq0 (ofL x qs 0)=.slice pa ((Aa8 x (Aa3 qs)).headD []).length pc∧AuM qs pa pc ((Aa8 x (Aa3 qs)).headD []):=by
 have h:=Afc x qs;have hm:∀p∈ofL x qs 0,p.2∈qs:=fun p hp=>(Ala hp).1
 cases e:ofL x qs 0 with
 | nil =>
   rw[e] at h;rw[←h];exact⟨none,0,rfl,.inl ⟨rfl,rfl,rfl⟩⟩
 | cons p r =>
   rw[e] at h hm;rw[←h];exact⟨p.2.a,p.2.c,rfl,.inr ⟨p.2,hm p (by simp),rfl,rfl,rfl⟩⟩
theorem AvF {qs:List CdV} {pa:Option Addr} {pc:Nat} {xs:List Bs} {Hs:List HP} (h:AuM qs pa pc xs) (hp:Has (CdM qs) Hs):Ent Hs (SlI pa (xs.map vS)::Hs):=by
 rcases h with ⟨rfl,rfl,_⟩ | ⟨q,hq,rfl,rfl,_⟩
 · exact sli_nil
 · exact Aea hq hp
theorem Avm {qs:List CdV} {pa:Option Addr} {pc:Nat} {xs:List Bs} (h:AuM qs pa pc xs) (hc:∀q∈qs,q.args.length≤q.c):xs.length≤pc:=by
 rcases h with ⟨_,rfl,_⟩ | ⟨q,hq,_,rfl,rfl⟩
 · exact Nat.zero_le _
 · exact hc q hq
theorem AeT {G:Prop} (h:G:=by
    have hn:AaD s=none:=hnone fun c h=>by
     obtain⟨o1,o2,o3,o4,o5,o6,_⟩:=AiJ (AnF hrd h)
     first
     | (rw[o6] at h82;exact absurd h82 (by decide))
     | (rw[o5] at h79;exact absurd h79 (by decide))
     | (rw[o4] at h75;exact absurd h75 (by decide))
     | (rw[o3] at h71;exact absurd h71 (by decide))
     | (rw[o2] at h67;exact absurd h67 (by decide))
     | (rw[o1] at h63;exact absurd h63 (by decide))
    rw[hn];refine Aa2 (ka0,ck0) (vs:=[_,_]) (Cs:=[Ce b2 30 (AaZ ka0 ck0)]) rfl (.cell (l:=AaZ ka0 ck0) (us:=AaZ ka0 ck0) rfl (Aax (T:=30)) Tryz.underlying30 rfl AjQ (by exact Nat.le_of_ble_eq_true rfl) rfl (.tmp rfl .nil)) rfl ⟨rfl,Nat.le_refl _⟩ ?_;exact ent_noCk.trans (show Ent _ [Row 25 2 (.slice none 0 0) 0 [],SlI none [],Row 60 4 (.slice none 0 0) 0 [],Ce b2 30 [vS [],vS [],vI 0,.slice none 0 0,.slice none 0 0,.slice none 0 0,vS []]] from Aa0)):G:=h
set_option maxHeartbeats 4000000 in
theorem AgT (s : Bs) (hs:s.length≤1073741824):Sp Tryz.prog 61 [vS s] [] (X:=CkA×Ck) (fun x=>.tuple #[.agg (AaZ x.1 x.2).toArray,vB (AaD s).isSome]) (fun x=>x.2=(AaD s).getD ck0∧x.2.parents.length≤x.1.pc) ckH:=by
 refine Sp.body (n:=135) Tryz.call61 Tryz.func61 rfl rfl rfl ?_;refine Qc (k:=Zc [vS [],vS [],.int .i64 0,.slice none 0 0,.slice none 0 0,.slice none 0 0,vS []] (k:=fun b2=>Vv (k:=Wq (Qc (k:=Vv (k:=?_))))));refine Aaq (AjA s hs) rfl rfl rfl (fun x24 hx24=>?_);obtain⟨⟨ca,cc⟩,qs⟩:=x24;dsimp only[Ae0,AgU] at hx24 ⊢;refine Vv (k:=?_);refine Aa6 (Aa7 (v:=.slice ca qs.length cc) rfl rfl) rfl ?_;refine Aa6 (Aa7 (v:=vB (Abv s).isSome) rfl rfl) rfl ?_;refine Qv (k:=Wq (Za (k:=Qc (k:=Qv (k:=Wq (Zi (t:=fun h28=>?_) (f:=fun h28=>?_)))))))
 ·
  refine Qc (k:=Vx (Ps [vS [],vS [],.int .i64 0,.slice none 0 0,.slice none 0 0,.slice none 0 0,vS []]) (k:=Zp (k:=Vv (k:=Wq (Zt (k:=Va ?_))))));have hn:AaD s=none:=Acb fun c h=>by
   rw[readC_iff.2 h.reads] at h28;simp at h28
  rw[hn];refine Aa2 (ka0,ck0) (vs:=[_,_]) (Cs:=[Ce b2 30 (AaZ ka0 ck0)]) rfl (.cell (l:=AaZ ka0 ck0) (us:=AaZ ka0 ck0) rfl (Aax (T:=30)) Tryz.underlying30 rfl AjQ (by exact Nat.le_of_ble_eq_true rfl) rfl (.tmp rfl .nil)) rfl ⟨rfl,Nat.le_refl _⟩ ?_;exact ent_noCk.trans (show Ent _ [Row 25 2 (.slice none 0 0) 0 [],SlI none [],Row 60 4 (.slice none 0 0) 0 [],Ce b2 30 [vS [],vS [],vI 0,.slice none 0 0,.slice none 0 0,.slice none 0 0,vS []]] from Aa0)
 ·
  have hl:Abv s=some (Aa3 qs):=by cases e:Abv s with
   | none=>rw[e] at h28;simp at h28
   | some l=>rw[e] at hx24;rw[hx24];rfl
  have hrd:=readC_iff.1 hl;have hbz:(Aav (Aa3 qs)).length≤1073741824:=by
   have h1:=congrArg List.length hrd.2;rw[AcI,Ac1] at h1;omega
  obtain⟨hqn,hqz⟩:=AcO hbz;have hz:=fun x=>AdT hbz x;have h1z:∀x,((AbT (Aa8 x (Aa3 qs))).getD []).length≤1073741824:=fun x=>ArT fun xs hx a ha=>((hz x).2 xs hx).2 a ha;have hS:=fun c=>Ajy (B:=Row 220 2 (.slice ca qs.length cc) qs.length (qs.flatMap CdV.cells)) (a:=ca) qs.length cc qs c AaC rfl hqn;have htz:=ArJ ((AbT (Aa8 67 (Aa3 qs))).getD []) [46];have hz67:=h1z 67;have hz68:=h1z 68;have hnone:∀(h:∀c,ReadsK s c→False),AaD s=none:=fun h=>Acb h;refine Zk (k:=Ya (Qc (k:=Zc [vS [],vS [],.int .i64 0,.slice none 0 0,.slice none 0 0,.slice none 0 0,vS []] (k:=fun b6=>Wq (Qc (k:=Vv (k:=?_)))))));refine Aaa (hS 67) rfl rfl rfl ?_;refine Vv (k:=?_);refine Aa6 (Aa7 (v:=vS ((AbT (Aa8 67 (Aa3 qs))).getD [])) rfl rfl) rfl ?_;refine Aa6 (Aa7 (v:=vB (AbT (Aa8 67 (Aa3 qs))).isSome) rfl rfl) rfl ?_;refine Qv (k:=Wq (Qc (k:=Vv (k:=?_))));refine Aaa (hS 68) rfl rfl rfl ?_;refine Vv (k:=?_);refine Aa6 (Aa7 (v:=vS ((AbT (Aa8 68 (Aa3 qs))).getD [])) rfl rfl) rfl ?_;refine Aa6 (Aa7 (v:=vB (AbT (Aa8 68 (Aa3 qs))).isSome) rfl rfl) rfl ?_;refine Qv (k:=Wq (Qc (k:=Vv (k:=?_))));refine Aaa (hS 85) rfl rfl rfl ?_;refine Vv (k:=?_);refine Aa6 (Aa7 (v:=vS ((AbT (Aa8 85 (Aa3 qs))).getD [])) rfl rfl) rfl ?_;refine Aa6 (Aa7 (v:=vB (AbT (Aa8 85 (Aa3 qs))).isSome) rfl rfl) rfl ?_;refine Qv (k:=Wq (Qc (k:=Vv (k:=?_))));refine Aag (An2 ((AbT (Aa8 67 (Aa3 qs))).getD []) [46]) rfl rfl rfl ?_;refine Aag (Ahq _ (by omega)) rfl rfl rfl ?_;refine Vv (k:=?_)
  refine Aa6 (Aa7 (v:=vS ((AcR (Aa3 qs)).getD [])) rfl rfl) rfl ?_;refine Aa6 (Aa7 (v:=vB (AcR (Aa3 qs)).isSome) rfl rfl) rfl ?_;refine Qv (k:=Wq (Qc (k:=Vv (k:=?_))));refine Aag (Agb _ (by omega)) rfl rfl rfl ?_;refine Vv (k:=?_);refine Aa6 (Aa7 (v:=vI (((Aey (Aa3 qs)).getD 0:Nat):Int)) rfl rfl) rfl ?_;refine Aa6 (Aa7 (v:=vB (Aey (Aa3 qs)).isSome) rfl rfl) rfl ?_;refine Qv (k:=Wq (Qc (k:=Vv (k:=?_))));refine Aaq (AeH (B:=Row 220 2 (.slice ca qs.length cc) qs.length (qs.flatMap CdV.cells)) (a:=ca) qs.length cc qs AaC rfl hbz) rfl rfl rfl (fun x58 hx58=>?_);obtain⟨⟨ta,tc⟩,ts⟩:=x58;dsimp only[Aom,Aon] at hx58 ⊢;refine Vv (k:=?_);refine Aa6 (Aa7 (v:=.slice ta ts.length tc) rfl rfl) rfl ?_;refine Aa6 (Aa7 (v:=vB (AaK (Aa8 84 (Aa3 qs))).isSome) rfl rfl) rfl ?_;refine Qv (k:=Wq (Za (k:=Qc (k:=Qv (k:=Vv (k:=Gi 2 (t:=fun h63=>?_) (f:=fun h63=>?_)))))))
  ·
   refine O1 (k:=O1 (k:=P1 (k:=Vv (k:=O1 (k:=O1 (k:=P1 (k:=Vv (k:=O1 (k:=O1 (k:=P1 (k:=Vv (k:=?_))))))))))));refine O1 (k:=O1 (k:=P1 (k:=Vv (k:=O1 (k:=O1 (k:=P1 (k:=Wq (Z1 (k:=Qc (k:=Vx (Ps [vS [],vS [],.int .i64 0,.slice none 0 0,.slice none 0 0,.slice none 0 0,vS []]) (k:=?_)))))))))));refine Zp (k:=Vv (k:=Wq (Zt (k:=Va ?_))));exact AeT
  ·
   refine J0 (k:=J0 (k:=P0 (k:=Vv (k:=Gi 6 (t:=fun h67=>?_) (f:=fun h67=>?_)))))
   ·
    refine O1 (k:=O1 (k:=P1 (k:=Vv (k:=O1 (k:=O1 (k:=P1 (k:=Vv (k:=O1 (k:=O1 (k:=P1 (k:=Vv (k:=?_))))))))))));refine O1 (k:=O1 (k:=P1 (k:=Wq (Z1 (k:=Qc (k:=Vx (Ps [vS [],vS [],.int .i64 0,.slice none 0 0,.slice none 0 0,.slice none 0 0,vS []]) (k:=Zp (k:=Vv (k:=Wq (Zt (k:=?_)))))))))));refine Va ?_;exact AeT
   ·
    refine J0 (k:=J0 (k:=P0 (k:=Vv (k:=Gi 10 (t:=fun h71=>?_) (f:=fun h71=>?_)))))
    ·
     refine O1 (k:=O1 (k:=P1 (k:=Vv (k:=O1 (k:=O1 (k:=P1 (k:=Vv (k:=O1 (k:=O1 (k:=P1 (k:=Wq ?_)))))))))));refine Z1 (k:=Qc (k:=Vx (Ps [vS [],vS [],.int .i64 0,.slice none 0 0,.slice none 0 0,.slice none 0 0,vS []]) (k:=Zp (k:=Vv (k:=Wq (Zt (k:=Va ?_)))))));exact AeT
    ·
     refine J0 (k:=J0 (k:=P0 (k:=Vv (k:=Gi 14 (t:=fun h75=>?_) (f:=fun h75=>?_)))))
     ·
      refine O1 (k:=O1 (k:=P1 (k:=Vv (k:=O1 (k:=O1 (k:=P1 (k:=Wq (Z1 (k:=Qc (k:=Vx (Ps [vS [],vS [],.int .i64 0,.slice none 0 0,.slice none 0 0,.slice none 0 0,vS []]) (k:=?_)))))))))));refine Zp (k:=Vv (k:=Wq (Zt (k:=Va ?_))));exact AeT
     ·
      refine J0 (k:=J0 (k:=P0 (k:=Vv (k:=Gi 18 (t:=fun h79=>?_) (f:=fun h79=>?_)))))
      ·
       refine O1 (k:=O1 (k:=P1 (k:=Wq (Z1 (k:=Qc (k:=Vx (Ps [vS [],vS [],.int .i64 0,.slice none 0 0,.slice none 0 0,.slice none 0 0,vS []]) (k:=Zp (k:=Vv (k:=Wq (Zt (k:=?_)))))))))));refine Va ?_;exact AeT
      ·
       refine J0 (k:=J0 (k:=P0 (k:=Wq (Zi (t:=fun h82=>?_) (f:=fun h82=>?_)))))
       ·
        refine Qc (k:=Vx (Ps [vS [],vS [],.int .i64 0,.slice none 0 0,.slice none 0 0,.slice none 0 0,vS []]) (k:=Zp (k:=Vv (k:=Wq (Zt (k:=Va ?_))))));exact AeT
       ·
        refine Zk (k:=Ya (Qc (k:=Vv (k:=?_))));refine Aaa (hS 66) rfl rfl rfl ?_;refine Vv (k:=?_);refine Aa6 (Aa7 (v:=vS ((AbT (Aa8 66 (Aa3 qs))).getD [])) rfl rfl) rfl ?_;refine Aa6 (Aa7 (v:=vB (AbT (Aa8 66 (Aa3 qs))).isSome) rfl rfl) rfl ?_;refine Vf 0 9 (k:=Zo (k:=Wq (Qc (k:=Qv (k:=Qv (k:=Vf 1 9 (k:=Zo (k:=Vf 2 3 (k:=?_)))))))));refine Zo (k:=Vf 6 9 (k:=Zo (k:=Vf 5 28 (k:=Zo (k:=Wq (Za (k:=Qc (k:=Vv (k:=?_)))))))));refine Aaq (AiR ca qs.length cc 70) rfl rfl rfl (fun x99 _=>?_);refine Wq (Zb (k:=?_));refine AfC (fun pre=>[FlB b6 ((AbT (Aa8 66 (Aa3 qs))).getD []) ((AcR (Aa3 qs)).getD []) (((Aey (Aa3 qs)).getD 0:Nat):Int) (.slice ta ts.length tc) ((AbT (Aa8 85 (Aa3 qs))).getD []) (pre.map (fun p=>Ajt p.2.args)),CdM qs,Row 60 4 (.slice ta ts.length tc) ts.length (ts.flatMap Aab),Ce b2 30 [vS [],vS [],vI 0,.slice none 0 0,.slice none 0 0,.slice none 0 0,vS []]]) (fun j pre=>[Pu False]) rfl (AiS qs.length cc x99.1 x99.2 qs 70 (B:=Row 220 2 (.slice ca qs.length cc) qs.length (qs.flatMap CdV.cells)) AaC rfl (by omega)) rfl (fun _=>by rfl) rfl ?_ (fun l pre q hok=>?_) ?_ (fun j pre hs=>?_)
        · (refine AdR ?_;simp only[List.map_nil];refine Ent.trans (AaS (e:=25) (sz:=2)) ?_;exact(Adp (b:=b6) (fl:=[]) none 0 0 (by rfl) (by rfl) (by rfl) (by rfl) (by rfl) (by rfl) (by rfl)).trans Aa0)
        ·
         obtain⟨rr,hrr⟩:=hok;obtain⟨hqm,_⟩:=Ala (p:=q) (by rw[hrr];simp);have hqzz:=hqz q.2 hqm;have hpl:pre.length≤1073741824:=by
          have h1:=congrArg List.length (Afc 70 qs);have h2:=(hz 70).1;have h3:=congrArg List.length hrr;rw[List.length_map] at h1;simp at h3;omega
         refine wc_ent' (Aea hqm HasC.get) ?_;refine AdM (FlB b6 ((AbT (Aa8 66 (Aa3 qs))).getD []) ((AcR (Aa3 qs)).getD []) (((Aey (Aa3 qs)).getD 0:Nat):Int) (.slice ta ts.length tc) ((AbT (Aa8 85 (Aa3 qs))).getD []) (pre.map (fun p=>Ajt p.2.args))) (AcE fun z=>AdW ?_);obtain⟨za,zc⟩:=z;obtain⟨qi,ql,qa,qc,xs⟩:=q;dsimp only at hqzz hqm;dsimp only[AwS];obtain⟨fl,hfl⟩:∃fl,fl=pre.map (fun p=>Ajt p.2.args):=⟨_,rfl⟩
         have hfll:fl.length≤1073741824:=by rw[hfl,List.length_map];exact hpl
         rw[←hfl];have hfo:Ajt xs=if xs.length=2 then (xs.getD 0 [],xs.getD 1 []) else if xs.length=1 then (xs.getD 0 [],[]) else ([],[]):=rfl
         refine Zr (k:=Vv (k:=Wg (Zb (k:=Qc (k:=Vx (Ps [vS [],vS []]) (k:=Zc [vS [],vS []] (k:=fun b21=>Zp (k:=Wq (Za (k:=Za (k:=?_)))))))))));refine Zr (k:=Qv (k:=Wq (Zb (k:=Za (k:=Zb (k:=Za (k:=Zb (k:=Za (k:=Za (k:=Za (k:=?_)))))))))));refine Zr (k:=Qv (k:=Wq (Zi (t:=fun h105=>?_) (f:=fun h105=>?_))))
         ·
          refine Ze (k:=Xa (Xa (Xb (Ya (Zr (k:=Vv (k:=Ye 1 (m:=1) (k:=Yl (hv:=by exact Aa4 [] (m:=1) (by omega)) (k:=Vf 1 9 (k:=Zo (k:=Wn ?_)))))))))));refine Yb (Ya (Qc (k:=Vv (k:=Ye 1 (m:=0) (k:=Yl (hv:=by exact Aa4 [] (m:=0) (by omega)) (k:=Vf 0 9 (k:=Zo (k:=Wq (Ze (k:=Xb ?_))))))))));refine Ya (Zr (k:=Qx 3 26 (k:=Zm [_,_] (k:=Zv [_] (cs:=[_,_]) (k:=fun b120=>?_)))));refine Aao (sz:=2) (bytes:=32) Tryz.underlying26 AfU rfl rfl rfl rfl rfl rfl rfl (by rfl) (by rfl) (by omega) (by simp only[maxLen];omega) rfl (fun a121 c121=>?_);refine Vf 3 26 (k:=Zo (k:=Wn (Yb ?_)));refine AaV ?_;rw[List.map_append,List.map_singleton,←hfl]
          first
          | (rw[if_pos (by omega)] at hfo
             exact Aac (Adp a121 c121 (fl.length+1) (by simp) (by rfl) (by rfl) (by rfl) (by rfl) (by rfl) (by rw[AbU,hfo];rfl)) Aa0)
          | (rw[if_neg (by omega),if_pos (by omega)] at hfo
             exact Aac (Adp a121 c121 (fl.length+1) (by simp) (by rfl) (by rfl) (by rfl) (by rfl) (by rfl) (by rw[AbU,hfo];rfl)) Aa0)
          | (rw[if_neg (by omega),if_neg (by omega)] at hfo
             exact Aac (Adp a121 c121 (fl.length+1) (by simp) (by rfl) (by rfl) (by rfl) (by rfl) (by rfl) (by rw[AbU,hfo];rfl)) Aa0)
         ·
          refine Zk (k:=Ya (Qc (k:=Qv (k:=Wq (Zi (t:=fun h107=>?_) (f:=fun h107=>?_))))))
          ·
           refine Ze (k:=Xa (Xo (k:=Xa (Xb (Ya (Qc (k:=Vv (k:=Ye 1 (m:=0) (k:=Yl (hv:=by exact Aa4 [] (m:=0) (by omega)) (k:=Vf 0 9 (k:=?_)))))))))));refine Zo (k:=Wq (Ze (k:=Xb (Ya (Zr (k:=Qx 3 26 (k:=Zm [_,_] (k:=Zv [_] (cs:=[_,_]) (k:=fun b120=>?_)))))))));refine Aao (sz:=2) (bytes:=32) Tryz.underlying26 AfU rfl rfl rfl rfl rfl rfl rfl (by rfl) (by rfl) (by omega) (by simp only[maxLen];omega) rfl (fun a121 c121=>?_);refine Vf 3 26 (k:=Zo (k:=Wn (Yb ?_)));refine AaV ?_;rw[List.map_append,List.map_singleton,←hfl]
           first
           | (rw[if_pos (by omega)] at hfo
              exact Aac (Adp a121 c121 (fl.length+1) (by simp) (by rfl) (by rfl) (by rfl) (by rfl) (by rfl) (by rw[AbU,hfo];rfl)) Aa0)
           | (rw[if_neg (by omega),if_pos (by omega)] at hfo
              exact Aac (Adp a121 c121 (fl.length+1) (by simp) (by rfl) (by rfl) (by rfl) (by rfl) (by rfl) (by rw[AbU,hfo];rfl)) Aa0)
           | (rw[if_neg (by omega),if_neg (by omega)] at hfo
              exact Aac (Adp a121 c121 (fl.length+1) (by simp) (by rfl) (by rfl) (by rfl) (by rfl) (by rfl) (by rw[AbU,hfo];rfl)) Aa0)
          ·
           refine Zk (k:=Ya (Ze (k:=Xo (k:=Xa (Xo (k:=Xa (Xb (Ya (Zr (k:=Qx 3 26 (k:=?_)))))))))));refine Zm [_,_] (k:=Zv [_] (cs:=[_,_]) (k:=fun b120=>?_));refine Aao (sz:=2) (bytes:=32) Tryz.underlying26 AfU rfl rfl rfl rfl rfl rfl rfl (by rfl) (by rfl) (by omega) (by simp only[maxLen];omega) rfl (fun a121 c121=>?_);refine Vf 3 26 (k:=Zo (k:=Wn (Yb ?_)));refine AaV ?_;rw[List.map_append,List.map_singleton,←hfl]
           first
           | (rw[if_pos (by omega)] at hfo
              exact Aac (Adp a121 c121 (fl.length+1) (by simp) (by rfl) (by rfl) (by rfl) (by rfl) (by rfl) (by rw[AbU,hfo];rfl)) Aa0)
           | (rw[if_neg (by omega),if_pos (by omega)] at hfo
              exact Aac (Adp a121 c121 (fl.length+1) (by simp) (by rfl) (by rfl) (by rfl) (by rfl) (by rfl) (by rw[AbU,hfo];rfl)) Aa0)
           | (rw[if_neg (by omega),if_neg (by omega)] at hfo
              exact Aac (Adp a121 c121 (fl.length+1) (by simp) (by rfl) (by rfl) (by rfl) (by rfl) (by rfl) (by rw[AbU,hfo];rfl)) Aa0)
        ·
         skip
         refine Yb (Ya (Za (k:=?_)));have hfiles:(ofL 70 qs 0).map (fun p=>Ajt p.2.args)=(Aft (Aa3 qs)).files:=by
          show _=(Aa8 70 (Aa3 qs)).map Ajt;rw[←Afc 70 qs,List.map_map];rfl
         rw[hfiles];refine AdM (FlB b6 ((AbT (Aa8 66 (Aa3 qs))).getD []) ((AcR (Aa3 qs)).getD []) (((Aey (Aa3 qs)).getD 0:Nat):Int) (.slice ta ts.length tc) ((AbT (Aa8 85 (Aa3 qs))).getD []) ((Aft (Aa3 qs)).files)) (AcE fun z=>AdW ?_);obtain⟨za,zc⟩:=z;dsimp only;refine Aca (A:=CdM qs) HasC.get Asa (fun hcap=>?_);obtain⟨pa,pc,hone,hat⟩:=Avn 80 qs;have hpcap:=Avm hat hcap;refine wc_ent' (AvF hat HasC.get) ?_;refine Zr (k:=Vv (k:=?_));refine Aaa (AkH (B:=Row 220 2 (.slice ca qs.length cc) qs.length (qs.flatMap CdV.cells)) (a:=ca) qs.length cc qs 80 AaC rfl (by omega)) rfl rfl rfl ?_;rw[hone];refine Vv (k:=?_);refine Aa6 (Aa7 (v:=.slice pa ((Aa8 80 (Aa3 qs)).headD []).length pc) rfl rfl) rfl ?_;refine Vv (k:=Vf 4 27 (k:=Zo (k:=Wq (Za (k:=Qc (k:=?_))))));have hPr:=Aki (Bf:=Row 25 2 (.slice za ((Aft (Aa3 qs)).files).length zc) ((Aft (Aa3 qs)).files).length (((Aft (Aa3 qs)).files).flatMap AaN)) (Bt:=Row 60 4 (.slice ta ts.length tc) ts.length (ts.flatMap Aab)) ⟨za,zc,pa,pc,ta,tc⟩ (Aft (Aa3 qs)) (As8 hbz (by omega)) AaC (by rw[show (Aft (Aa3 qs)).tags=ts from hx58.symm];exact AaC) hpcap;rw[show (Aft (Aa3 qs)).parents=(Aa8 80 (Aa3 qs)).headD [] from rfl] at hPr
         have hcv:(Value.agg #[vS ((AbT (Aa8 66 (Aa3 qs))).getD []),vS ((AcR (Aa3 qs)).getD []),vI (((Aey (Aa3 qs)).getD 0:Nat):Int),.slice za ((Aft (Aa3 qs)).files).length zc,.slice pa ((Aa8 80 (Aa3 qs)).headD []).length pc,.slice ta ts.length tc,vS ((AbT (Aa8 85 (Aa3 qs))).getD [])])=.agg (AaZ ⟨za,zc,pa,pc,ta,tc⟩ (Aft (Aa3 qs))).toArray:=by rw[hx58];rfl
         rw[←hcv] at hPr;refine Zm [_,_,_,_,_,_,_] (k:=?_);refine Aaa hPr rfl rfl rfl ?_;refine Qv (k:=Wq (Zi (t:=fun h132=>?_) (f:=fun h132=>?_)))
         ·
          refine Qc (k:=Vx (Ps [vS [],vS [],.int .i64 0,.slice none 0 0,.slice none 0 0,.slice none 0 0,vS []]) (k:=Zp (k:=Vv (k:=Wq (Zt (k:=Va ?_))))));have hn:AaD s=none:=hnone fun c h=>by
           obtain⟨_,_,_,_,_,_,o7⟩:=AiJ (AnF hrd h);have e:prK (Aft (Aa3 qs))=s:=by rw[←o7,prK,if_pos h.1];exact h.2
           exact h132 e
          rw[hn];refine Aa2 (ka0,ck0) (vs:=[_,_]) (Cs:=[Ce b2 30 (AaZ ka0 ck0)]) rfl (.cell (l:=AaZ ka0 ck0) (us:=AaZ ka0 ck0) rfl (Aax (T:=30)) Tryz.underlying30 rfl AjQ (by exact Nat.le_of_ble_eq_true rfl) rfl (.tmp rfl .nil)) rfl ⟨rfl,Nat.le_refl _⟩ ?_;exact ent_noCk.trans (show Ent _ [Row 25 2 (.slice none 0 0) 0 [],SlI none [],Row 60 4 (.slice none 0 0) 0 [],Ce b2 30 [vS [],vS [],vI 0,.slice none 0 0,.slice none 0 0,.slice none 0 0,vS []]] from Aa0)
         ·
          refine Zk (k:=Ya (Qc (k:=Zm [_,_,_,_,_,_,_] (k:=Zp (k:=Vv (k:=Wq (Zt (k:=?_))))))));have he:prK (Aft (Aa3 qs))=s:=Classical.not_not.1 h132;have hk:AaD s=some (Aft (Aa3 qs)):=readK_iff.2 (by
           rw[prK] at he;split at he
           · rename_i hR;exact⟨hR,he⟩
           · have:=(AjV hrd).1
             rw[←he] at this;simp at this)
          rw[hk];refine Aa2 (⟨za,zc,pa,pc,ta,tc⟩,Aft (Aa3 qs)) (vs:=[_,_]) (Cs:=[Ce b2 30 [vS ((AbT (Aa8 66 (Aa3 qs))).getD []),vS ((AcR (Aa3 qs)).getD []),vI (((Aey (Aa3 qs)).getD 0:Nat):Int),.slice za ((Aft (Aa3 qs)).files).length zc,.slice pa ((Aa8 80 (Aa3 qs)).headD []).length pc,.slice ta ts.length tc,vS ((AbT (Aa8 85 (Aa3 qs))).getD [])]]) rfl (.cell (l:=[vS ((AbT (Aa8 66 (Aa3 qs))).getD []),vS ((AcR (Aa3 qs)).getD []),vI (((Aey (Aa3 qs)).getD 0:Nat):Int),.slice za ((Aft (Aa3 qs)).files).length zc,.slice pa ((Aa8 80 (Aa3 qs)).headD []).length pc,.slice ta ts.length tc,vS ((AbT (Aa8 85 (Aa3 qs))).getD [])]) rfl (Aax (T:=30)) Tryz.underlying30 rfl AjQ (by exact Nat.le_of_ble_eq_true rfl) rfl (.tmp rfl .nil)) ?_ ⟨rfl,hpcap⟩ ?_
          · show Value.tuple #[_,_]=Value.tuple #[_,_]
            rw[←hcv];rfl
          · show Ent _ [Row 25 2 (.slice za ((Aft (Aa3 qs)).files).length zc) ((Aft (Aa3 qs)).files).length (((Aft (Aa3 qs)).files).flatMap AaN),SlI pa (((Aa8 80 (Aa3 qs)).headD []).map vS),Row 60 4 (.slice ta ((AaK (Aa8 84 (Aa3 qs))).getD []).length tc) ((AaK (Aa8 84 (Aa3 qs))).getD []).length (((AaK (Aa8 84 (Aa3 qs))).getD []).flatMap Aab),_]
            rw[←hx58];exact Aa0
        ·
         exact AfS (fun s=>by obtain⟨_,_,_,_,a,_⟩:=s;exact a)
end
end Go.Proofs.YtdnoacgopfcpbaaGreat
