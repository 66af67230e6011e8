/- Texts of this proof, put together: SR10, SR10b, PCards, SR10c. -/
import Derived.Test.YtdnoacgopfcpbaaGreatQ15
import Derived.Test.YtdnoacgopfcpbaaGreatQ16
set_option linter.unusedVariables false
set_option linter.unusedSimpArgs false
namespace Go.Proofs.YtdnoacgopfcpbaaGreat
section
set_option maxRecDepth 100000
theorem AlH (d:UInt8) (s:Bs):(Aaw d s).length≤s.length+1:=by
 induction s with
 | nil=>simp[Aaw]
 | cons c s ih =>
   simp only[Aaw];split
   · simp only[List.length_cons];omega
   · split
     · simp
     · rename_i w ws e;rw[e] at ih;simp only[List.length_cons] at ih ⊢;omega
theorem AfD {s:Bs} {b i:Nat} {d:UInt8} (hb:b≤i) (hi:i<s.length) (h:d∉(s.drop b).take (i-b)) (hd:s.getD i 0≠d):d∉(s.drop b).take (i+1-b):=by
 have e:i+1-b=(i-b)+1:=by omega
 have hl:i-b<(s.drop b).length:=by rw[List.length_drop];omega
 rw[e,List.take_succ_eq_append_getElem hl];simp only[List.mem_append,List.mem_singleton,not_or];refine⟨h,fun e=>hd ?_⟩;rw[e];have h2:b+(i-b)=i:=by omega
 simp[hi,h2]
theorem Ald {s:Bs} {b i:Nat} (hb:b≤i) (hi:i<s.length):s.drop b=(s.drop b).take (i-b)++s.getD i 0::s.drop (i+1):=by
 conv=>lhs;rw[←List.take_append_drop (i-b) (s.drop b)]
 congr 1;rw[List.drop_drop,show b+(i-b)=i from by omega];exact drop_cons' hi
theorem Aiw {G:Prop} (h:G:=by
    first
    | (have hjs:j=s.length:=by omega
       refine Aa5 ⟨((a28,c28),os++[(s.drop b).take (j-b)],j+1,j+1),?_,?_,?_,?_⟩ ?_ ⟨rfl,Adk (by simp),rfl,rfl,trivial⟩ ?_
       · dsimp only;omega
       · dsimp only;rw[List.length_append,List.length_singleton];omega
       · intro h;dsimp only at h;omega
       · intro _
         dsimp only;rw[hi1];congr 1;subst hjs;rw[List.take_of_length_le (by rw[List.length_drop];exact Nat.le_refl _)] at hi3 ⊢;exact Ags hi3
       · dsimp only;omega
       · dsimp only
         rw[show (os++[(s.drop b).take (j-b)]).length=os.length+1 from by simp];exact Aac (AaW (by rfl) (by simp)) Aad)
    | (have hjs:j<s.length:=by omega
       have hsp:s.getD j 0=32:=u8eq.2 (show _=32 by omega);have hat:=Ald hi2 hjs;rw[hsp] at hat;refine Aa5 ⟨((a28,c28),os++[(s.drop b).take (j-b)],j+1,j+1),?_,?_,?_,?_⟩ ?_ ⟨rfl,Adk (by simp),rfl,rfl,trivial⟩ ?_
       · dsimp only;omega
       · dsimp only;rw[List.length_append,List.length_singleton];omega
       · intro h
         dsimp only at h ⊢;refine⟨?_,Nat.le_refl _,by simp⟩;rw[hi1]
         conv=>lhs;rw[hat,AiB hi3]
         simp
       · intro h;dsimp only at h;omega
       · dsimp only;omega
       · dsimp only
         rw[show (os++[(s.drop b).take (j-b)]).length=os.length+1 from by simp];exact Aac (AaW (by rfl) (by simp)) Aad)
    | (have hjs:j<s.length:=by omega
       have hsp:s.getD j 0≠32:=fun e=>by rw[e] at h21;simp at h21
       refine Aa5 ⟨((oa,oc),os,b,j+1),?_,?_,?_,?_⟩ ?_ ⟨rfl,rfl,rfl,rfl,trivial⟩ Aa0
       · dsimp only;omega
       · dsimp only;omega
       · intro h
         dsimp only;exact⟨hi1,by omega,AfD hi2 hjs hi3 hsp⟩
       · intro h;dsimp only at h;omega
       · dsimp only;omega)):G:=h
set_option maxHeartbeats 1000000 in
theorem Aha (s:Bs) (hs:s.length≤1073741824):Sp Tryz.prog 122 [vS s] [] (X:=Option Addr×Nat) (fun x=>.slice x.1 (Aaw 32 s).length x.2) (fun _=>True) (fun x=>[Row 9 1 (.slice x.1 (Aaw 32 s).length x.2) (Aaw 32 s).length ((Aaw 32 s).map vS)]):=by
 refine Sp.body (n:=32) Tryz.call122 Tryz.func122 rfl rfl rfl ?_;refine Qc (k:=Vv (k:=Wq (Qc (k:=Vv (k:=Wq (Qc (k:=Vv (k:=Wq ?_))))))));refine Za (k:=Qc (k:=Vv (k:=Wq (Zb (k:=?_)))));refine Aak (fun (i:{ x:(Option Addr×Nat)×List Bs×Nat×Nat // x.2.2.2≤s.length+1∧x.2.1.length≤x.2.2.2∧(x.2.2.2≤s.length→Aaw 32 s=x.2.1++Aaw 32 (s.drop x.2.2.1)∧x.2.2.1≤x.2.2.2∧(32:UInt8)∉(s.drop x.2.2.1).take (x.2.2.2-x.2.2.1))∧(x.2.2.2=s.length+1→Aaw 32 s=x.2.1) })=>[(0,vS s),(3,.slice i.1.1.1 i.1.2.1.length i.1.1.2),(4,vI i.1.2.2.1),(5,vI i.1.2.2.2)]) (fun (i:{ x:(Option Addr×Nat)×List Bs×Nat×Nat // x.2.2.2≤s.length+1∧x.2.1.length≤x.2.2.2∧(x.2.2.2≤s.length→Aaw 32 s=x.2.1++Aaw 32 (s.drop x.2.2.1)∧x.2.2.1≤x.2.2.2∧(32:UInt8)∉(s.drop x.2.2.1).take (x.2.2.2-x.2.2.1))∧(x.2.2.2=s.length+1→Aaw 32 s=x.2.1) })=>[Row 9 1 (.slice i.1.1.1 i.1.2.1.length i.1.1.2) i.1.2.1.length (i.1.2.1.map vS)]) (fun (i:{ x:(Option Addr×Nat)×List Bs×Nat×Nat // x.2.2.2≤s.length+1∧x.2.1.length≤x.2.2.2∧(x.2.2.2≤s.length→Aaw 32 s=x.2.1++Aaw 32 (s.drop x.2.2.1)∧x.2.2.1≤x.2.2.2∧(32:UInt8)∉(s.drop x.2.2.1).take (x.2.2.2-x.2.2.1))∧(x.2.2.2=s.length+1→Aaw 32 s=x.2.1) })=>s.length+1-i.1.2.2.2) rfl (⟨((none,0),[],0,0),Nat.zero_le _,Nat.le_refl _,fun _=>⟨rfl,Nat.le_refl _,by simp⟩,fun h=>by simp at h⟩) ?_ ?_ (fun i=>?_)
 · exact⟨rfl,rfl,rfl,rfl,trivial⟩
 ·
  exact(AaS (e:=9) (sz:=1)).trans (show Ent _ [Row 9 1 (.slice none 0 0) 0 []] from Aa0)
 obtain⟨⟨⟨oa,oc⟩,os,b,j⟩,hj,hol,hin,hfin⟩:=i;dsimp only at hj hol hin hfin ⊢;try dsimp only
 refine Za (k:=Qc (k:=Qv (k:=Qv (k:=Wq (Zi (t:=fun h9=>?_) (f:=fun h9=>?_))))))
 ·
  refine Zk (k:=Ya (Za (k:=Zb (k:=Za (k:=?_)))));have hjl:j≤s.length:=by omega
  obtain⟨hi1,hi2,hi3⟩:=hin hjl;have hwl:((s.drop b).take (j-b)).length≤s.length:=by rw[List.length_take,List.length_drop];omega
  refine Zr (k:=Qv (k:=Qv (k:=Vv (k:=Gi 4 (t:=fun h16=>?_) (f:=fun h16=>?_)))))
  ·
   refine O1 (k:=O1 (k:=O1 (k:=O1 (k:=P1 (k:=Wq (Z1 (k:=Qc (k:=Qv (k:=Vv (k:=?_))))))))));refine Vv (k:=?_);refine Aa6 (Ad9 (m:=b) (o:=j) Tryz.underlying9 rfl rfl rfl rfl rfl hi2 (by omega)) rfl ?_;refine Zv [_] (cs:=[_]) (k:=fun b27=>?_);refine Aao (sz:=1) (bytes:=16) Tryz.underlying27 ti9 rfl rfl rfl rfl rfl rfl rfl (by rfl) (by rfl) (by omega) (by simp only[maxLen];omega) rfl (fun a28 c28=>?_);refine Vv (k:=Wq (Zr (k:=Qv (k:=Vv (k:=Wn (Yb (Ya (Zr (k:=Qv (k:=?_))))))))));refine Vv (k:=Wn ?_);exact Aiw
  ·
   refine J0 (k:=J0 (k:=J0 (k:=J0 (k:=P0 (k:=Wq (Zi (t:=fun h21=>?_) (f:=fun h21=>?_)))))))
   ·
    refine Qc (k:=Qv (k:=Qv (k:=?_)));refine Aa6 (Ad9 (m:=b) (o:=j) Tryz.underlying9 rfl rfl rfl rfl rfl hi2 (by omega)) rfl ?_;refine Zv [_] (cs:=[_]) (k:=fun b27=>?_);refine Aao (sz:=1) (bytes:=16) Tryz.underlying27 ti9 rfl rfl rfl rfl rfl rfl rfl (by rfl) (by rfl) (by omega) (by simp only[maxLen];omega) rfl (fun a28 c28=>?_);refine Vv (k:=Wq (Zr (k:=Qv (k:=Vv (k:=Wn (Yb (Ya (Zr (k:=Qv (k:=?_))))))))));refine Vv (k:=Wn ?_);exact Aiw
   ·
    refine Zk (k:=Yb (Ya (Zr (k:=Qv (k:=Vv (k:=Wn ?_))))));exact Aiw
 ·
  refine Ze (k:=Xa (Xi (Xb (Ya (Qc (k:=Qv (k:=Wq (Zt (k:=?_)))))))));have hjs:j=s.length+1:=by omega
  have hf:=hfin hjs;rw[hf];exact Aa2 (oa,oc) (vs:=[_]) (Cs:=[]) rfl (.tmp rfl .nil) rfl trivial Aa0
set_option maxHeartbeats 1000000 in
theorem Ac3 {B:HP} {a:Option Addr} (n cap:Nat) (qs:List CdV) (sh:SlA B a (qs.flatMap CdV.cells)) (hn:qs.length=n) (hz:(Aav (Aa3 qs)).length≤1073741824) :
    Sp1 Tryz.prog 53 [.slice a n cap] [B,CdM qs] (vS (AcI (Aa3 qs))) [B]:=by
 subst hn;obtain⟨hb,hqa⟩:=AcO hz;haveI:Abu a (qs.flatMap CdV.cells) [B,CdM qs]:=⟨⟨B,sh,.here⟩⟩
 obtain⟨l,hl⟩:∃l,l=Aa3 qs:=⟨_,rfl⟩
 have hll:l.length=qs.length:=by rw[hl];simp[Aa3]
 have h40:=Aeq (Aav l);rw[←hl] at hz ⊢;refine Sp.body (n:=41) Tryz.call53 Tryz.func53 rfl rfl rfl ?_;refine Qc (k:=Vv (k:=Wq (Qc (k:=Vv (k:=Wq (Za (k:=Qc (k:=Vv (k:=?_)))))))));refine Qv (k:=Wq (Zb (k:=?_)));refine Aak (fun (i:{ j:Nat // j≤qs.length })=>[(3,vS (Aav (l.take i.1))),(8,.slice a qs.length cap),(9,vI qs.length),(10,vI i.1)]) (fun (i:{ j:Nat // j≤qs.length })=>[B,CdM qs]) (fun (i:{ j:Nat // j≤qs.length })=>qs.length-i.1) rfl (⟨0,Nat.zero_le _⟩) ?_ ?_ (fun i=>?_)
 · exact⟨rfl,rfl,rfl,rfl,trivial⟩
 ·
  exact Aa0
 obtain⟨j,hj⟩:=i;dsimp only;have hle:=AeS l j;try dsimp only
 refine Qc (k:=Vv (k:=Wq (Za (k:=Zi (t:=fun h11=>?_) (f:=fun h11=>?_)))))
 ·
  refine Zk (k:=Ya (Za (k:=Zb (k:=Za (k:=?_)))));have hjl:j<qs.length:=by omega
  have hlj:l.getD j cd0=qs[j].cd:=by rw[hl];exact Adq hjl
  have hbt:=Ao6 (l:=l) (j:=j) (by omega);have hle2:=AeS l (j+1);obtain⟨q,hq⟩:∃q,q=qs[j]:=⟨_,rfl⟩
  have hqm:q∈qs:=by rw[hq];exact List.getElem_mem _
  have hqal:=hqa q hqm;rw[hlj,←hq] at hbt;have hbl:=congrArg List.length hbt;have hcb:Aco q.cd=q.l::AaM q.args++[10]:=rfl;rw[hcb] at hbt hbl;simp only[List.length_append,List.length_cons,List.length_nil] at hbl;obtain⟨bs,hbs⟩:∃bs,bs=Aav (l.take j):=⟨_,rfl⟩
  rw[←hbs] at hbt hbl hle ⊢;refine wc_ent' (Aea hqm HasC.get) ?_;refine Zr (k:=Ye 2 (k:=?_));refine Abb (vs:=[_,_]) (sz:=2) Tryz.underlying101 rfl Abm rfl rfl (by rw[Aaj (sz:=2) (fun _=>rfl)];omega) rfl (by refine Ab1 (fun x=>?_) ?_<;>first | rfl | omega) rfl ?_;refine Zc [.int .u8 0,.slice none 0 0] (k:=fun b5=>Zp (k:=?_));rw[←hq];refine Wq (Qc (k:=Vv (k:=Qx 0 5 (k:=Zv [_] (cs:=[_]) (k:=fun b17=>?_)))));refine Aji (l:=[q.l]) Tryz.underlying56 Tryz.underlying9 Tryz.underlying5 rfl (by simp[vUs]) (by simp) rfl ?_;refine Qv (k:=Wq (Za (k:=Qc (k:=Qx 1 27 (k:=Qv (k:=Wq (Zb (k:=?_))))))));refine Aak (fun (i:{ m:Nat // m≤q.args.length })=>[(3,vS (bs++[q.l]++AaM (q.args.take i.1))),(8,.slice a qs.length cap),(9,vI qs.length),(10,vI j),(21,.slice q.a q.args.length q.c),(22,vI q.args.length),(23,vI i.1)]) (fun (i:{ m:Nat // m≤q.args.length })=>[SlI q.a (q.args.map vS),B,CdM qs]) (fun (i:{ m:Nat // m≤q.args.length })=>q.args.length-i.1) rfl (⟨0,Nat.zero_le _⟩) ?_ ?_ (fun i=>?_)
  · exact⟨by rw[show (⟨0,Nat.zero_le _⟩:{ m:Nat // m≤q.args.length }).1=0 from rfl,List.take_zero,Aef,List.append_nil];rfl,rfl,rfl,rfl,rfl,rfl,rfl,trivial⟩
  ·
   exact Aa0
  obtain⟨m,hm⟩:=i;dsimp only;try dsimp only
  refine Qc (k:=Vv (k:=Wq (Za (k:=Zi (t:=fun h24=>?_) (f:=fun h24=>?_)))))
  ·
   refine Zk (k:=Ya (Za (k:=Zb (k:=Za (k:=?_)))));have hml:m<q.args.length:=by omega
   have hat:=Amp hml;have hlt:(AaM (q.args.take (m+1))).length≤(AaM q.args).length:=by
    conv=>rhs;rw[←List.take_append_drop (m+1) q.args,Agf,List.length_append]
    omega
   have hlt2:=congrArg List.length hat;rw[List.length_append,List.length_cons] at hlt2;refine Zr (k:=Ye 1 (k:=Yl (hv:=by exact Aa4 [] hml) (k:=Vv (k:=Wq (Zr (k:=Vv (k:=?_)))))));refine Aa6 (AiI (m:=[32]) rfl rfl (by simp only[List.length_append,List.length_cons,List.length_nil];omega)) rfl ?_;refine Vv (k:=?_);refine Aa6 (AiI rfl rfl (by simp only[List.length_append,List.length_cons,List.length_nil];omega)) rfl ?_;refine Vv (k:=Wn (Yb (Ya (Zr (k:=Qv (k:=Wn ?_))))));refine Aa5 ⟨m+1,by omega⟩ (by dsimp only;omega) ⟨by rw[hat,show bs++[q.l]++(AaM (q.args.take m)++32::q.args.getD m [])=bs++[q.l]++AaM (q.args.take m)++[32]++q.args.getD m [] from by simp];rfl,rfl,rfl,rfl,rfl,rfl,rfl,trivial⟩ Aa0
  ·
   refine Ze (k:=Xa (Xi (Xb (Ya ?_))));have hml:m=q.args.length:=by omega
   subst hml;rw[List.take_length];refine Zr (k:=Qv (k:=Vv (k:=Wn (Yb (Ya (Zr (k:=Qv (k:=Wn ?_))))))));refine Aa5 ⟨j+1,by omega⟩ (by dsimp only;omega) ⟨by rw[hbt,show bs++(q.l::AaM q.args++[10])=bs++[q.l]++AaM q.args++[10] from by simp];rfl,rfl,rfl,rfl,trivial⟩ Aa0
 ·
  refine Ze (k:=Xa (Xi (Xb (Ya (Za (k:=?_))))));have hjl:j=qs.length:=by omega
  subst hjl;rw[List.take_of_length_le (by omega)];refine Zr (k:=Qv (k:=Vv (k:=?_)));refine Aag (AdH (Aav l) (by omega)) rfl rfl rfl ?_;refine Qv (k:=Vv (k:=Wq (Zt (k:=?_))));exact Aa2 () (vs:=[_]) (Cs:=[]) rfl (.tmp rfl .nil) rfl trivial Aa0
end
section
set_option maxRecDepth 100000
theorem Anh {G:Prop} (h:G:=by
    first
    | exact Aa5 ⟨((a31,c31),[t.kind::t.name,t.target,Abf t.value]),by simp[AaF,h25],hk31.1⟩ trivial ⟨rfl,rfl,rfl,rfl,rfl,trivial⟩ Aa0
    | exact Aa5 ⟨((some ⟨b22,0,none⟩,2),[t.kind::t.name,t.target]),by simp[AaF,Classical.not_not.1 h25],Nat.le_refl _⟩ trivial ⟨rfl,rfl,rfl,rfl,rfl,trivial⟩ Aa0):G:=h
set_option maxHeartbeats 1000000 in
theorem Ajg {B:HP} {a:Option Addr} (n cap:Nat) (l:List Tg) (sh:SlA B a (l.flatMap Aab)) (hn:l.length=n) (z:TgZ l) :
    Sp Tryz.prog 52 [.slice a n cap] [B] (X:=(Option Addr×Nat)×List CdV) Ae0 (fun x=>Aa3 x.2=l.map AaF) (fun x=>[Row 101 2 (.slice x.1.1 x.2.length x.1.2) x.2.length (x.2.flatMap CdV.cells),CdM x.2,B]):=by
 obtain⟨hb,hz⟩:=z;subst hn;haveI:Abu a (l.flatMap Aab) [B]:=⟨⟨B,sh,.here⟩⟩
 refine Sp.body (n:=39) Tryz.call52 Tryz.func52 rfl rfl rfl ?_;refine Qc (k:=Vv (k:=Wq (Qc (k:=Vv (k:=Wq (Za (k:=Qc (k:=Vv (k:=?_)))))))));refine Qv (k:=Wq (Zb (k:=?_)));refine Aak (fun (i:{ x:(Option Addr×Nat)×List CdV // x.2.length≤l.length∧Aa3 x.2=(l.take x.2.length).map AaF })=>[(3,.slice i.1.1.1 i.1.2.length i.1.1.2),(7,.slice a l.length cap),(8,vI l.length),(9,vI i.1.2.length)]) (fun (i:{ x:(Option Addr×Nat)×List CdV // x.2.length≤l.length∧Aa3 x.2=(l.take x.2.length).map AaF })=>[Row 101 2 (.slice i.1.1.1 i.1.2.length i.1.1.2) i.1.2.length (i.1.2.flatMap CdV.cells),CdM i.1.2,B]) (fun (i:{ x:(Option Addr×Nat)×List CdV // x.2.length≤l.length∧Aa3 x.2=(l.take x.2.length).map AaF })=>l.length-i.1.2.length) rfl (⟨((none,0),[]),Nat.zero_le _,rfl⟩) ?_ ?_ (fun i=>?_)
 · exact⟨rfl,rfl,rfl,rfl,trivial⟩
 ·
  exact(AaS (e:=101) (sz:=2)).trans (ent_cdm_nil.trans (show Ent _ [Row 101 2 (.slice none 0 0) 0 [],CdM [],B] from Aa0))
 obtain⟨⟨⟨oa,oc⟩,qs⟩,hj,hcd⟩:=i;dsimp only at hj hcd ⊢;try dsimp only
 refine Qc (k:=Vv (k:=Wq (Za (k:=Zi (t:=fun h10=>?_) (f:=fun h10=>?_)))))
 ·
  refine Zk (k:=Ya (Za (k:=Zb (k:=Za (k:=?_)))));have hjl:qs.length<l.length:=by omega
  obtain⟨t,ht⟩:∃t,t=l[qs.length]:=⟨_,rfl⟩
  have hzj:=hz t (by rw[ht];exact List.getElem_mem hjl);have htk:(l.take (qs.length+1)).map AaF=Aa3 qs++[AaF t]:=by rw[List.take_succ_eq_append_getElem hjl,List.map_append,←hcd,ht];rfl
  refine Zr (k:=Ye 4 (k:=?_));refine Abb (vs:=[_,_,_,_]) (sz:=4) Tryz.underlying60 rfl Adx rfl rfl (by rw[Aaj (sz:=4) (fun _=>rfl)];omega) rfl (by refine Ab1 (fun x=>?_) ?_<;>first | rfl | omega) rfl ?_;rw[←ht];refine Zc [.int .u8 0,vS [],vS [],vS []] (k:=fun b5=>Zp (k:=Wq (Qc (k:=Qx 0 5 (k:=Zv [_] (cs:=[_]) (k:=fun b15=>?_))))));refine Aji (l:=[t.kind]) Tryz.underlying56 Tryz.underlying9 Tryz.underlying5 rfl (by simp[vUs]) (by simp) rfl ?_;refine Qx 1 9 (k:=Vv (k:=Qx 2 9 (k:=Zv [_,_] (cs:=[_,_]) (k:=fun b22=>Vv (k:=Wq ?_)))));refine Abg (fun (i:{ x:(Option Addr×Nat)×List Bs // x.2=(AaF t).args∧x.2.length≤x.1.2 })=>[(3,.slice oa qs.length oc),(6,.slice i.1.1.1 i.1.2.length i.1.1.2),(7,.slice a l.length cap),(8,vI l.length),(9,vI qs.length)]) (fun (i:{ x:(Option Addr×Nat)×List Bs // x.2=(AaF t).args∧x.2.length≤x.1.2 })=>[SlI i.1.1.1 (i.1.2.map vS),Row 101 2 (.slice oa qs.length oc) qs.length (qs.flatMap CdV.cells),CdM qs,B]) rfl (fun i=>?_) ?_
  ·
   obtain⟨⟨⟨ga,gc⟩,xs⟩,hxs,hxc⟩:=i;dsimp only at hxs hxc ⊢;try dsimp only
   refine Zr (k:=Qv (k:=Vx (Ps [_,_]) (k:=Zv [_] (cs:=[_,_]) (k:=fun b35=>?_))));refine Aao (sz:=2) (bytes:=32) Tryz.underlying99 Abm rfl rfl rfl rfl rfl rfl rfl (by rfl) (by rfl) (by omega) (by simp only[maxLen];omega) rfl (fun a36 c36=>?_);refine Vv (k:=Wn (Yb (Ya (Zr (k:=Qv (k:=Wn ?_))))));obtain⟨q,hqq⟩:∃q:CdV,q=⟨84,ga,gc,xs⟩:=⟨_,rfl⟩
   have hqc:q.cd=AaF t:=by rw[hqq];show (⟨84,xs⟩:Cd)=_;rw[hxs];rfl
   have hql:(qs++[q]).length=qs.length+1:=by simp
   refine Aa5 ⟨((a36,c36),qs++[q]),?_,?_⟩ ?_ ⟨Adk hql.symm,rfl,rfl,AeF (by dsimp only;omega),trivial⟩ ?_
   · dsimp only;omega
   · dsimp only;rw[hql,htk,Ad3,hqc]
   · dsimp only;omega
   · dsimp only
     rw[hql];refine(AbG (qs:=qs) (q:=q) HasC.get (by rw[hqq];exact HasC.get) (by rw[hqq];exact hxc)).trans ?_;exact Aac (AaW (by rfl) (by rw[hqq];simp[CdV.cells])) Aa0
  ·
   refine Qc (k:=Qx 3 9 (k:=Vv (k:=Wq (Zi (t:=fun h25=>?_) (f:=fun h25=>?_)))))
   ·
    refine Zr (k:=Vv (k:=Qx 3 9 (k:=?_)));refine Aag (AgO t.value (by omega)) rfl rfl rfl ?_;refine Zv [_] (cs:=[_]) (k:=fun b30=>?_);refine wo_ent' (AbF (k:=2) (cap:=2) (sz:=1) (e:=9) (g:=b22) (xs:=[vS ([t.kind]++t.name),vS t.target]) (cur:=[vS ([t.kind]++t.name),vS t.target]) (Nat.le_refl _) (by simp[maxLen]) rfl rfl rfl) ?_;refine Aao (sz:=1) (bytes:=16) Tryz.underlying27 ti9 rfl rfl rfl rfl rfl rfl rfl (by rfl) (by rfl) (by omega) (by simp only[maxLen];omega) rfl (fun a31 c31=>?_);refine AeK (A:=Row 9 1 (.slice a31 (2+1) c31) (2+1) ([vS ([t.kind]++t.name),vS t.target]++[vS (Abf t.value)])) HasC.get AbH (fun hk31=>?_);refine Aej a31 ?_;rw[show ([vS ([t.kind]++t.name),vS t.target]++[vS (Abf t.value)])=([t.kind::t.name,t.target,Abf t.value]:List Bs).map vS from rfl];refine Vv (k:=Wn ?_);exact Anh
   ·
    refine Ad4 b22 ?_;rw[show [vS ([t.kind]++t.name),vS t.target]=([t.kind::t.name,t.target]:List Bs).map vS from rfl];refine Zk (k:=?_);exact Anh
 ·
  refine Ze (k:=Xa (Xi (Xb (Ya (Qc (k:=Qv (k:=Wq (Zt (k:=?_)))))))));have hjl:qs.length=l.length:=by omega
  rw[hjl,List.take_length] at hcd;refine Aa2 ((oa,oc),qs) (vs:=[_]) (Cs:=[]) rfl (.tmp rfl .nil) rfl hcd ?_;exact Aa0
end
def AaJ (line:Bs):List Bs:=if 1<line.length then Aaw 32 (line.drop 2) else []
structure AfN (s:Bs) (m:List Cd) (b:Nat):Prop where
 body:Aav m=s.take b
 ok:∀i,i<m.length→OkC m i
 up:∀l,ReadsC s l→∃l2,l=m++l2∧Aav l2++([90,32]++AcX (s.take b++Aav l2)++[10])=s.drop b
theorem AuB (s:Bs):AfN s [] 0:=⟨rfl,fun i h=>by simp at h,fun l k=>⟨l,rfl,by
 have:=k.2;rw[AcI,Afw] at this;simpa using this⟩⟩
theorem AtA (s:Bs):(10:UInt8)∉[90,32]++AcX s:=by
 intro h;simp only[List.mem_append,List.mem_cons,List.not_mem_nil,or_false] at h;rcases h with (h | h) | h
 · exact absurd h (by decide)
 · exact absurd h (by decide)
 · exact absurd (Ajb s _ h) (by decide)
theorem Atz (s:Bs):(32:UInt8)∉AcX s:=fun h=>absurd (Ajb s _ h) (by decide)
theorem Aml {s:Bs} {m:List Cd} {b:Nat} (I:AfN s m b) {line rest:Bs} (hn:(10:UInt8)∉line) (hl:s.drop b=line++10::rest) {l:List Cd} (k:ReadsC s l) :
    (∃c l3,l=m++c::l3∧line=AbN c)∨(l=m∧line=[90,32]++AcX (s.take b)∧rest=[]):=by
 obtain⟨l2,e1,e2⟩:=I.up l k;rw[hl] at e2
 cases l2 with
 | nil =>
   right
   rw[show Aav []=[] from rfl,List.nil_append,List.append_nil] at e2;have e3:([90,32]++AcX (s.take b))++10::[]=line++10::rest:=by simpa using e2
   obtain⟨q1,q2⟩:=Ahw (AtA _) hn e3;exact⟨by rw[e1,List.append_nil],q1.symm,q2.symm⟩
 | cons c l3 =>
   left
   have hb:=k.1.both c (by rw[e1];simp);rw[Ac8,List.append_assoc,List.cons_append] at e2;obtain⟨q1,q2⟩:=Ahw (AgD hb.1 hb.2) hn e2;exact⟨c,l3,e1,q1.symm⟩
theorem AmS {c:Cd} (h:∀a∈c.args,AbZ a):AaJ (AbN c)=c.args:=by
 unfold AaJ AbN
 cases e:c.args with
 | nil=>simp[AaM]
 | cons a r =>
   rw[AbQ,if_pos (by simp)];show Aaw 32 (a++AaM r)=_;rw[e] at h;exact Akq (h a (by simp)).2.1 fun x hx=>(h x (by simp[hx])).2.1
theorem AnN {line:Bs} (h0:1≤line.length) (h1:1<line.length→line.getD 1 0=32):AbN ⟨line.getD 0 0,AaJ line⟩=line:=by
 match line,h0,h1 with
 | [c],_,_=>simp[AbN,AaJ,AaM]
 | c::d::r,_,h1 =>
   have hd:d=32:=by simpa using h1 (by simp)
   subst hd;have e:AaJ (c::32::r)=Aaw 32 r:=by simp[AaJ]
   rw[AbN,e,Ah6];rfl
theorem AoP (s:Bs):AaJ ([90,32]++AcX s)=[AcX s]:=by
 unfold AaJ;rw[if_pos (by simp)];exact Ags (Atz s)
theorem Arr {s:Bs} {m:List Cd} {b:Nat} (I:AfN s m b) {line rest:Bs} (hn:(10:UInt8)∉line) (hl:s.drop b=line++10::rest) {l:List Cd} (k:ReadsC s l) :
    (1≤line.length∧65≤(line.getD 0 0).toNat∧(line.getD 0 0).toNat≤90∧(1<line.length→line.getD 1 0=32))∧(∀a∈AaJ line,a≠[]) ∧
    ((line.getD 0 0).toNat=90→rest=[]∧AaJ line=[AcX (s.take b)]∧m.length≠0)∧((line.getD 0 0).toNat≠90→0<m.length→(m.getD (m.length-1) cd0).l.toNat≤(line.getD 0 0).toNat):=by
 rcases Aml I hn hl k with ⟨c,l3,e1,e2⟩ | ⟨e1,e2,e3⟩
 · have hc:c∈l:=by rw[e1];simp
   have hlet:=k.1.lets c hc;have harg:=k.1.args c hc;subst e2;have h0:(AbN c).getD 0 0=c.l:=rfl;rw[h0,AmS harg];refine⟨⟨by simp[AbN],hlet.1,by omega,fun h=>?_⟩,fun a ha=>(harg a ha).1,fun h=>by omega,fun _ hm=>?_⟩
   · unfold AbN
     cases e:c.args with
     | nil=>simp[AbN,e,AaM] at h
     | cons a r=>rw[AbQ];rfl
   · have hp:=k.1.rise
     rw[e1,List.pairwise_append] at hp;have hlast:m.getD (m.length-1) cd0∈m:=by simp[show m.length-1<m.length by omega]
     exact hp.2.2 _ hlast c (by simp)
 · subst e2
   rw[AoP];have h0:([90,32]++AcX (s.take b)).getD 0 0=90:=rfl;rw[h0];refine⟨⟨by simp,by decide,by decide,fun _=>rfl⟩,fun a ha=>?_,fun _=>⟨e3,rfl,fun e=>k.1.ne (by rw[e1];exact List.eq_nil_of_length_eq_zero e)⟩,fun h=>absurd rfl h⟩;rw[List.mem_singleton.1 ha];intro e;have:=congrArg List.length e;rw[Aeq] at this;simp at this
theorem Arp {s:Bs} {m:List Cd} {b a:Nat} (I:AfN s m b) (hba:b≤a) (ha:a<s.length) (hn:(10:UInt8)∉(s.drop b).take (a-b)) (h10:s.getD a 0=10) {line:Bs} (hline:line=(s.drop b).take (a-b))
    (h1:1≤line.length) (h2:65≤(line.getD 0 0).toNat) (h3:(line.getD 0 0).toNat≤89) (h4:1<line.length→line.getD 1 0=32) (h5:∀x∈AaJ line,x≠[]) (h6:0<m.length→(m.getD (m.length-1) cd0).l.toNat≤(line.getD 0 0).toNat) :
    AfN s (m++[⟨line.getD 0 0,AaJ line⟩]) (a+1):=by
 have hd:=Ald hba ha;rw[h10,←hline] at hd;rw[←hline] at hn;have hl:=AnN h1 h4;have hargs:∀x∈AaJ line,AbZ x:=by
  intro x hx;refine⟨h5 x hx,?_,?_⟩
  · unfold AaJ at hx
    split at hx
    · exact AqK x hx
    · cases hx
  · intro hm
    apply hn;rw[←hl];unfold AbN;refine List.mem_cons_of_mem _ ?_;show _∈AaM (AaJ line);exact List.mem_flatMap.2 ⟨x,hx,List.mem_cons_of_mem _ hm⟩
 refine⟨?_,fun i hi=>?_,fun l k=>?_⟩
 · have e1:Aav [⟨line.getD 0 0,AaJ line⟩]=line++[10]:=by rw[Ac8,hl];rfl
   rw[Af4,I.body,e1];have h7:s.take (a+1)=s.take b++(s.drop b).take (a+1-b):=by
    rw[←List.take_append_drop b (s.take (a+1)),List.take_take,Nat.min_eq_left (by omega),List.drop_take]
   rw[h7];congr 1;rw[hd];have hll:line.length=a-b:=by rw[hline,List.length_take,List.length_drop];omega
   rw[show a+1-b=line.length+1 from by omega,List.take_length_add_append];rfl
 · rw [List.length_append,List.length_singleton] at hi
   by_cases he:i=m.length
   · subst he
     have e0:(m++[(⟨line.getD 0 0,AaJ line⟩:Cd)]).getD m.length cd0=⟨line.getD 0 0,AaJ line⟩:=by simp
     refine⟨by rw[e0];exact h2,by rw[e0];exact h3,fun h0=>?_,fun x hx=>?_⟩
     · have e3:(m++[(⟨line.getD 0 0,AaJ line⟩:Cd)]).getD (m.length-1) cd0=m.getD (m.length-1) cd0:=by
         rw[List.getD_eq_getElem?_getD,List.getElem?_append_left (by omega),←List.getD_eq_getElem?_getD]
       rw[e0,e3];exact h6 h0
     · rw[e0] at hx;exact hargs x hx
   · have hlt:i<m.length:=by omega
     have o:=I.ok i hlt;have e3:∀j,j<m.length→(m++[(⟨line.getD 0 0,AaJ line⟩:Cd)]).getD j cd0=m.getD j cd0:=fun j hj=>by
      rw[List.getD_eq_getElem?_getD,List.getElem?_append_left hj,←List.getD_eq_getElem?_getD]
     exact⟨by rw[e3 i hlt];exact o.lo,by rw[e3 i hlt];exact o.hi,fun h0=>by rw[e3 i hlt,e3 (i-1) (by omega)];exact o.rise h0,by rw[e3 i hlt];exact o.args⟩
 · rcases Aml I hn hd k with ⟨c,l3,e1,e2⟩ | ⟨e1,e2,e3⟩
   · have hc:c∈l:=by rw[e1];simp
     have hb:=k.1.both c hc;have hcc:(⟨line.getD 0 0,AaJ line⟩:Cd)=c:=AnO h2 hargs hb.1 hb.2 (by rw[hl,e2]);refine⟨l3,by rw[hcc,e1];simp,?_⟩;obtain⟨l2,f1,f2⟩:=I.up l k;have e4:l2=c::l3:=by rw[e1] at f1;exact(List.append_cancel_left f1).symm
     subst e4;rw[Ac8,hd,←e2,List.append_assoc,List.cons_append] at f2;have f3:=(List.append_cancel_left f2)
     have f4:Aav l3++([90,32]++AcX (s.take b++(line++10::Aav l3))++[10])=s.drop (a+1):=by simpa using f3
     rw[←f4];have h7:s.take (a+1)=s.take b++(line++[10]):=by
      have h8:s.take (a+1)=s.take b++(s.drop b).take (a+1-b):=by
       rw[←List.take_append_drop b (s.take (a+1)),List.take_take,Nat.min_eq_left (by omega),List.drop_take]
      rw[h8];congr 1;rw[hd];have hll:line.length=a-b:=by rw[hline,List.length_take,List.length_drop];omega
      rw[show a+1-b=line.length+1 from by omega,List.take_length_add_append];rfl
     rw[h7];simp
   · have h0:([90,32]++AcX (s.take b)).getD 0 0=90:=rfl
     rw[e2,h0] at h3;exact absurd h3 (by decide)
theorem Ars {s:Bs} {m:List Cd} {b a:Nat} (I:AfN s m b) (hba:b≤a) (ha:a<s.length) (hn:(10:UInt8)∉(s.drop b).take (a-b)) (h10:s.getD a 0=10) {line:Bs} (hline:line=(s.drop b).take (a-b))
    (h1:1≤line.length) (h2:(line.getD 0 0).toNat=90) (h4:1<line.length→line.getD 1 0=32) (h5:a+1=s.length) (h6:AaJ line=[AcX (s.take b)]) (h7:m.length≠0):ReadsC s m:=by
 have hd:=Ald hba ha;rw[h10,←hline,h5,List.drop_length] at hd;have hl:=AnN h1 h4;refine⟨⟨fun e=>h7 (by rw[e];rfl),I.ok⟩,?_⟩;have h0:line.getD 0 0=90:=u8eq.2 h2;rw[AcI,I.body,Afw]
 conv=>rhs;rw[←List.take_append_drop b s,hd,←hl,h6,h0]
 simp[AbN,AaM]
theorem Arq {s:Bs} {m:List Cd} {b:Nat} (I:AfN s m b) (hn:(10:UInt8)∉s.drop b):∀l,¬ReadsC s l:=fun l k=>by
 obtain⟨l2,e1,e2⟩:=I.up l k;exact hn (by rw[←e2];simp)
section
set_option maxRecDepth 100000
abbrev Aow (x:(Option Addr×Nat)×List CdV):List HP:=[Row 101 2 (.slice x.1.1 x.2.length x.1.2) x.2.length (x.2.flatMap CdV.cells),CdM x.2]
theorem Adh {Hs:List HP}:Ent Hs (Aow ((none,0),[])):=(AaS (e:=101) (sz:=2)).trans (ent_cdm_nil.trans (show Ent _ [Row 101 2 (.slice none 0 0) 0 [],CdM []] from Aa0))
theorem Afl {s:Bs} (h:∀l,ReadsC s l→False):Abv s=none:=readC_none.2 h
theorem AfO {G:Prop} (h:G:=by
    first
    | (have hn10':s.getD a 0≠10:=fun e=>by rw[e] at h18;simp at h18
       refine Aa5 ⟨((oa,oc),qs,b,a+1),?_,?_,?_,hI⟩ ?_ ⟨rfl,rfl,rfl,rfl,trivial⟩ Aa0
       · dsimp only;omega
       · dsimp only;omega
       · dsimp only;exact AfD hba hal (by rw[←hline];exact hn10) hn10'
       · dsimp only;omega)
    | (obtain ⟨q,hqq⟩:∃q:CdV,q=⟨line.getD 0 0,ga,gc,xs⟩:=⟨_,rfl⟩
       have hqc:q.cd=⟨line.getD 0 0,AaJ line⟩:=by rw[hqq,←hxs];rfl
       have hql:(qs++[q]).length=qs.length+1:=by simp
       have hst:=Arp hI hba hal (by rw[←hline];exact hn10) h10 hline hc1 hc2 (by omega) hc4 hxa (fun h=>by
        rw[hll] at h
        first
        | omega
        | (rw[hlast];omega))
       refine Aa5 ⟨((a117,c117),qs++[q],a+1,a+1),Nat.le_refl _,?_,?_,?_⟩ ?_ ⟨rfl,Adk hql.symm,rfl,rfl,trivial⟩ ?_
       · dsimp only;omega
       · simp
       · dsimp only;rw[Ad3,hqc];exact hst
       · dsimp only;omega
       · dsimp only
         rw[hql];refine(AbG (qs:=qs) (q:=q) HasC.get (by rw[hqq];exact HasC.get) (by rw[hqq];exact hxc)).trans ?_;exact Aac (AaW (by rfl) (by rw[AbU,hqq];rfl)) Aa0)):G:=h
theorem AiX {G:Prop} (h:G:=by
    have hn:Abv s=none:=Afl fun l k=>by
     obtain⟨⟨m1,m2,m3,m4⟩,_⟩:=hmust l k
     first
     | omega
     | (have m5:=m4 (by omega);rw[m5] at h47;exact absurd h47 (by simp))
    rw[hn];exact Aa2 ((none,0),[]) (vs:=[_,_]) (Cs:=[]) rfl (.tmp rfl (.tmp rfl .nil)) rfl rfl Adh):G:=h
theorem Ane {G:Prop} (h:G:=by
    have hn:Abv s=none:=Afl fun l k=>by
     have hm2:=(hmust l k).2.1 (xs.getD m []) (by rw[←hxs];simp[show m<xs.length by omega]);exact hm2 h66
    rw[hn];exact Aa2 ((none,0),[]) (vs:=[_,_]) (Cs:=[]) rfl (.tmp rfl (.tmp rfl .nil)) rfl rfl Adh):G:=h
theorem Anf {G:Prop} (h:G:=by
    refine Aa5 ⟨m+1,by omega,fun i hi=>?_⟩ (by dsimp only;omega) ⟨rfl,rfl,rfl,rfl,rfl,rfl,rfl,rfl,trivial⟩ Aa0;by_cases he:i=m
    · rw[he];exact h66
    · exact hma i (by omega)):G:=h
theorem AdC {G:Prop} (h:G:=by
    have hn:Abv s=none:=Afl fun l k=>by
     obtain⟨o1,o2,o3⟩:=(hmust l k).2.2.1 (by omega);rw[←hxs] at o2;have o4:a+1=s.length:=by
      have:=congrArg List.length hdp;rw[o1,List.length_append,List.length_drop] at this;simp at this;omega
     have o5:xs.length=1:=by rw[o2];rfl
     have o6:xs.getD 0 []=AcX (s.take b):=by rw[o2];rfl
     rw[hll] at o3
     first
     | omega
     | exact absurd o6 h93
     | exact absurd o6 (by simpa using h93)
    rw[hn];exact Aa2 ((none,0),[]) (vs:=[_,_]) (Cs:=[]) rfl (.tmp rfl (.tmp rfl .nil)) rfl rfl Adh):G:=h
theorem Anc {G:Prop} (h:G:=by
    have o2:AaJ line=[AcX (s.take b)]:=by
     rw[←hxs];have h1:xs.length=1:=by omega
     obtain⟨x,hx⟩:∃x,xs=[x]:=List.length_eq_one_iff.1 h1;have h2:xs.getD 0 []=AcX (s.take b):=Classical.not_not.1 h93;rw[hx] at h2 ⊢;rw[←h2];rfl
    have hr:Abv s=some (Aa3 qs):=readC_iff.2 (Ars hI hba hal (by rw[←hline];exact hn10) h10 hline hc1 (by omega) hc4 (by omega) o2 (by rw[hll];omega));rw[hr];exact Aa2 ((oa,oc),qs) (vs:=[_,_]) (Cs:=[]) rfl (.tmp rfl (.tmp rfl .nil)) rfl rfl Aa0):G:=h
theorem Anb {G:Prop} (h:G:=by
    have hn:Abv s=none:=Afl fun l k=>by
     have o4:=(hmust l k).2.2.2 (by omega) (by rw[hll];omega);rw[hlast] at o4;omega
    rw[hn];exact Aa2 ((none,0),[]) (vs:=[_,_]) (Cs:=[]) rfl (.tmp rfl (.tmp rfl .nil)) rfl rfl Adh):G:=h
theorem Agg {G:Prop} (h:G:=by
    first
    | (have hla:AaJ line=Aaw 32 (line.drop 2):=by rw[AaJ,if_pos (by omega)]
       exact Aa5 ⟨((wa,wc),Aaw 32 (line.drop 2)),hla.symm,hk56.1⟩ trivial ⟨rfl,rfl,rfl,rfl,rfl,trivial⟩ Aa0)
    | (have hla:AaJ line=[]:=by rw[AaJ,if_neg (by omega)]
       exact Aa5 ⟨((none,0),[]),hla.symm,Nat.le_refl _⟩ trivial ⟨rfl,rfl,rfl,rfl,rfl,trivial⟩ (sli_nil.trans (show Ent _ [SlI none [],Ce b8 101 [vU ((line.getD 0 0).toNat:Int),.slice none 0 0],Row 101 2 (.slice oa qs.length oc) qs.length (qs.flatMap CdV.cells),CdM qs] from Aa0)))):G:=h
set_option maxHeartbeats 4000000 in
theorem Ahd (s : Bs) (hs:s.length≤1073741824):Sp Tryz.prog 67 [vS s] [] (X:=(Option Addr×Nat)×List CdV) (fun x=>.tuple #[Ae0 x,vB (Abv s).isSome]) (fun x=>Aa3 x.2=(Abv s).getD []) Aow:=by
 refine Sp.body (n:=121) Tryz.call67 Tryz.func67 rfl rfl rfl ?_;refine Qc (k:=Qv (k:=Wq (Qc (k:=Vv (k:=Wq (Qc (k:=Vv (k:=?_))))))));refine Vv (k:=Wq (Za (k:=Zb (k:=?_))));refine Aak (fun (i:{ x:(Option Addr×Nat)×List CdV×Nat×Nat // x.2.2.1≤x.2.2.2∧x.2.2.2≤s.length∧(10:UInt8)∉(s.drop x.2.2.1).take (x.2.2.2-x.2.2.1)∧AfN s (Aa3 x.2.1) x.2.2.1 })=>[(0,vS s),(4,.slice i.1.1.1 i.1.2.1.length i.1.1.2),(5,vI i.1.2.2.2),(6,vI i.1.2.2.1)]) (fun (i:{ x:(Option Addr×Nat)×List CdV×Nat×Nat // x.2.2.1≤x.2.2.2∧x.2.2.2≤s.length∧(10:UInt8)∉(s.drop x.2.2.1).take (x.2.2.2-x.2.2.1)∧AfN s (Aa3 x.2.1) x.2.2.1 })=>[Row 101 2 (.slice i.1.1.1 i.1.2.1.length i.1.1.2) i.1.2.1.length (i.1.2.1.flatMap CdV.cells),CdM i.1.2.1]) (fun (i:{ x:(Option Addr×Nat)×List CdV×Nat×Nat // x.2.2.1≤x.2.2.2∧x.2.2.2≤s.length∧(10:UInt8)∉(s.drop x.2.2.1).take (x.2.2.2-x.2.2.1)∧AfN s (Aa3 x.2.1) x.2.2.1 })=>s.length-i.1.2.2.2) rfl (⟨((none,0),[],0,0),Nat.le_refl _,Nat.zero_le _,by simp,AuB s⟩) ?_ ?_ (fun i=>?_)
 · exact⟨rfl,rfl,rfl,rfl,trivial⟩
 ·
  exact Adh
 obtain⟨⟨⟨oa,oc⟩,qs,b,a⟩,hba,has,hn10,hI⟩:=i;dsimp only at hba has hn10 hI ⊢;have hll:(Aa3 qs).length=qs.length:=by simp[Aa3]
 have hqb:qs.length≤s.length:=by
  have h1:=(AhC (Aa3 qs)).1;rw[hI.body,List.length_take] at h1;omega
 try dsimp only
 refine Za (k:=Qc (k:=Qv (k:=Qv (k:=Wq (Zi (t:=fun h14=>?_) (f:=fun h14=>?_))))))
 ·
  refine Zk (k:=Ya (Zb (k:=Za (k:=Za (k:=?_)))));have hal:a<s.length:=by omega
  obtain⟨line,hline⟩:∃line,line=(s.drop b).take (a-b):=⟨_,rfl⟩
  have hlen:line.length=a-b:=by rw[hline,List.length_take,List.length_drop];omega
  have hdp:=Ald hba hal;rw[←hline] at hdp hn10;refine Zr (k:=Qv (k:=Qv (k:=Wq (Zi (t:=fun h18=>?_) (f:=fun h18=>?_)))))
  ·
   refine Qc (k:=Qv (k:=Vv (k:=Wq (Ze (k:=Xa (Xb ?_))))));exact AfO
  ·
   refine Zk (k:=Ya (Za (k:=?_)));have h10:s.getD a 0=10:=u8eq.2 (show _=10 by omega);rw[h10] at hdp;have hmust:=fun l (k:ReadsC s l)=>Arr hI hn10 hdp k;refine Zr (k:=Qv (k:=Vv (k:=?_)));refine Aa6 (Ad9 (m:=b) (o:=a) Tryz.underlying9 rfl rfl rfl rfl rfl hba (by omega)) rfl ?_;rw[←hline];refine Vv (k:=Wq (Za (k:=Qc (k:=Qv (k:=Qv (k:=Gi 3 (t:=fun h28=>?_) (f:=fun h28=>?_)))))))
   ·
    refine O1 (k:=O1 (k:=O1 (k:=P1 (k:=Vv (k:=O1 (k:=O1 (k:=O1 (k:=P1 (k:=Vv (k:=O1 (k:=O1 (k:=?_))))))))))));refine O1 (k:=O1 (k:=Ou (k:=Ou (k:=Ou (k:=O1 (k:=P1 (k:=Wq (Z1 (k:=Qc (k:=Vv (k:=?_)))))))))));refine Vv (k:=Wq (Zt (k:=Va (Vb (Vi (Vb (Va ?_)))))));exact AiX
   ·
    refine J0 (k:=I0 (k:=?_));refine Aa6 (Abt (m:=0) Tryz.underlying9 rfl rfl rfl (by omega)) rfl ?_;refine J0 (k:=P0 (k:=Vv (k:=Gi 8 (t:=fun h33=>?_) (f:=fun h33=>?_))))
    ·
     refine O1 (k:=O1 (k:=O1 (k:=P1 (k:=Vv (k:=O1 (k:=O1 (k:=O1 (k:=O1 (k:=Ou (k:=Ou (k:=Ou (k:=?_))))))))))));refine O1 (k:=P1 (k:=Wq (Z1 (k:=Qc (k:=Qv (k:=Wq (Zt (k:=Va (Vb ?_)))))))));refine Vi (Vb (Va ?_));exact AiX
    ·
     refine J0 (k:=I0 (k:=?_));refine Aa6 (Abt (m:=0) Tryz.underlying9 rfl rfl rfl (by omega)) rfl ?_;refine J0 (k:=P0 (k:=Vv (k:=Gi 13 (t:=fun h38=>?_) (f:=fun h38=>?_))))
     ·
      refine O1 (k:=O1 (k:=O1 (k:=O1 (k:=Ou (k:=Ou (k:=Ou (k:=O1 (k:=P1 (k:=Wq (Z1 (k:=Za (k:=?_))))))))))));refine Zr (k:=Qv (k:=Wq (Zt (k:=Va (Vb (Vi (Vb (Va ?_))))))));exact AiX
     ·
      refine J0 (k:=J0 (k:=J0 (k:=J0 (k:=Gi 17 (t:=fun h42=>?_) (f:=fun h42=>?_)))))
      ·
       refine J1 (k:=I1 (k:=?_));refine Aa6 (Abt (m:=1) Tryz.underlying9 rfl rfl rfl (by omega)) rfl ?_;refine J1 (k:=I0 (k:=P1 (k:=P0 (k:=Wq (Zi (t:=fun h47=>?_) (f:=fun h47=>?_))))))
       ·
        refine Qc (k:=Qv (k:=Wq (Zt (k:=Va (Vb (Vi (Vb (Va ?_))))))));exact AiX
       ·
        refine Zk (k:=Ya (Za (k:=?_)));have hc1:1≤line.length:=by omega
        have hc2:65≤(line.getD 0 0).toNat:=by omega
        have hc3:(line.getD 0 0).toNat≤90:=by omega
        have hc4:1<line.length→line.getD 1 0=32:=fun h=>by
         first
         | (exfalso;omega)
         | exact u8eq.2 (show _=32 by omega)
        refine Zr (k:=Vv (k:=?_));refine Aa6 (Abt (m:=0) Tryz.underlying9 rfl rfl rfl (by omega)) rfl ?_;refine Vx (Ps [_,.slice none 0 0]) (k:=Zc [.int .u8 0,.slice none 0 0] (k:=fun b8=>Zp (k:=Wq ?_)));refine Abg (fun (i:{ x:(Option Addr×Nat)×List Bs // x.2=AaJ line∧x.2.length≤x.1.2 })=>[(0,vS s),(4,.slice oa qs.length oc),(5,vI a),(6,vI b),(8,.pointer (some ⟨b8,0,none⟩))]) (fun (i:{ x:(Option Addr×Nat)×List Bs // x.2=AaJ line∧x.2.length≤x.1.2 })=>[SlI i.1.1.1 (i.1.2.map vS),Ce b8 101 [vU ((line.getD 0 0).toNat:Int),.slice i.1.1.1 i.1.2.length i.1.1.2],Row 101 2 (.slice oa qs.length oc) qs.length (qs.flatMap CdV.cells),CdM qs]) rfl (fun i=>?_) ?_
        ·
         obtain⟨⟨⟨ga,gc⟩,xs⟩,hxs,hxc⟩:=i;dsimp only at hxs hxc ⊢;have hxl:xs.length≤1073741824:=by
          have h1:=AlH 32 (line.drop 2);rw[hxs,AaJ];split
          · rw[List.length_drop] at h1;omega
          · simp
         try dsimp only
         refine Za (k:=Qc (k:=Qx 1 27 (k:=Qv (k:=Wq (Zb (k:=?_))))));refine Aak (fun (i:{ m:Nat // m≤xs.length∧∀i,i<m→xs.getD i []≠[] })=>[(0,vS s),(4,.slice oa qs.length oc),(5,vI a),(6,vI b),(8,.pointer (some ⟨b8,0,none⟩)),(59,.slice ga xs.length gc),(60,vI xs.length),(61,vI i.1)]) (fun (i:{ m:Nat // m≤xs.length∧∀i,i<m→xs.getD i []≠[] })=>[SlI ga (xs.map vS),Ce b8 101 [vU ((line.getD 0 0).toNat:Int),.slice ga xs.length gc],Row 101 2 (.slice oa qs.length oc) qs.length (qs.flatMap CdV.cells),CdM qs]) (fun (i:{ m:Nat // m≤xs.length∧∀i,i<m→xs.getD i []≠[] })=>xs.length-i.1) rfl (⟨0,Nat.zero_le _,fun i h=>by omega⟩) ?_ ?_ (fun i=>?_)
         · exact⟨rfl,rfl,rfl,rfl,rfl,rfl,rfl,rfl,trivial⟩
         ·
          exact Aa0
         obtain⟨m,hm,hma⟩:=i;dsimp only;try dsimp only
         refine Qc (k:=Vv (k:=Wq (Za (k:=Zi (t:=fun h62=>?_) (f:=fun h62=>?_)))))
         ·
          refine Zk (k:=Ya (Za (k:=Zb (k:=Qc (k:=Ye 1 (k:=Yl (hv:=by exact Aa4 [] (m:=m) (by omega)) (k:=Vv (k:=Wq (Qc (k:=?_))))))))));refine Qv (k:=Wq (Zi (t:=fun h66=>?_) (f:=fun h66=>?_)))
          ·
           refine Qc (k:=Qv (k:=Wq (Zt (k:=Vb (Va (Vi (Vb (Va (Vb ?_)))))))));refine Vi (Vb (Va ?_));exact Ane
          ·
           refine Zk (k:=Yb (Ya (Zr (k:=Qv (k:=Wn ?_)))));exact Anf
         ·
          refine Ze (k:=Xa (Xi (Xb (Ya (Za (k:=Za (k:=?_)))))));have hxa:∀x∈AaJ line,x≠[]:=by
           rw[←hxs];intro x hx;obtain⟨i,hi,rfl⟩:=Aby (d:=[]) hx;exact hma i (by omega)
          refine Zr (k:=Qx 0 5 (k:=Vv (k:=Wq (Zi (t:=fun h70=>?_) (f:=fun h70=>?_)))))
          ·
           refine Za (k:=Za (k:=Dw [Ce b8 101 [vU ((line.getD 0 0).toNat:Int),.slice ga xs.length gc],SlI ga (xs.map vS)] (k:=?_)));refine Dv 0 (k:=Dv 1 (k:=Dv 2 (k:=Dv 3 (k:=Dv 4 (k:=Dv 5 (k:=Gd 5 (t:=fun h76=>?_) (f:=fun h76=>?_)))))))
           ·
            refine D1 6 (k:=D1 7 (k:=D1 8 (k:=D1 9 (k:=DP1 10 (k:=Dv 11 (k:=D1 12 (k:=D1 13 (k:=D1 14 (k:=D1 15 (k:=D1 16 (k:=D1 17 (k:=?_))))))))))));refine D1 18 (k:=D1 19 (k:=D1 20 (k:=DP1 21 (k:=Dv 22 (k:=D1 23 (k:=D1 24 (k:=D1 25 (k:=DP1 26 (k:=Dd (k:=Ya (Z1 (k:=?_))))))))))));refine Qc (k:=Qv (k:=Wq (Zt (k:=Va (Va (Vb (Vi (Vb (Va ?_)))))))));exact AdC
           ·
            refine Di 6 (t:=U0 (h:=Uf 1 27)) (k:=Di 7 (t:=U0 (h:=Ul)) (k:=Di 8 (t:=U0 (h:=Uv)) (k:=Di 9 (t:=U0 (h:=Uv)) (k:=DP0 10 (k:=Dv 11 (k:=Gd 11 (t:=fun h82=>?_) (f:=fun h82=>?_)))))))
            ·
             refine D1 12 (k:=D1 13 (k:=D1 14 (k:=D1 15 (k:=D1 16 (k:=D1 17 (k:=D1 18 (k:=D1 19 (k:=D1 20 (k:=DP1 21 (k:=Dv 22 (k:=D1 23 (k:=?_))))))))))));refine D1 24 (k:=D1 25 (k:=DP1 26 (k:=Dd (k:=Ya (Z1 (k:=Qc (k:=Qv (k:=Wq (Zt (k:=?_))))))))));refine Va (Va (Vb (Vi (Vb (Va ?_)))));exact AdC
            ·
             refine Di 12 (t:=U0 (h:=Uf 1 27)) (k:=Di 13 (t:=U0 (h:=Ul)) (k:=?_));refine Aa1 14 rfl rfl rfl (by kernel_rfl) (by kernel_rfl) (Aau (b:=false) rfl (Aae (m:=0) (sz:=1) Tryz.underlying27 ti9 rfl rfl rfl rfl (by omega) (by first | (rw[List.length_map];omega) | (rw[Aaj (sz:=1) (fun _=>rfl)];omega) | (simp;omega)) (Nat.mul_one _))) ?_;refine Aa1 15 rfl rfl rfl (by kernel_rfl) (by kernel_rfl) (Aau (b:=false) rfl (Aas Tryz.underlying9 rfl rfl (Aa4 [] (m:=0) (by omega)))) ?_;refine Di 16 (t:=U0 (h:=Uv)) (k:=Di 17 (t:=U0 (h:=Uv)) (k:=?_));refine Aa1 18 rfl rfl rfl (by kernel_rfl) (by kernel_rfl) (Aau (b:=false) rfl (Aat (Acd (m:=b) Tryz.underlying9 rfl rfl rfl (by omega)))) ?_;refine Dn 19 (k:=?_);refine AjC (b:=false) rfl ?_;refine Aal (AdH (s.take b) (by rw[List.length_take];omega)) rfl rfl rfl ?_;refine Di 20 (t:=U0 (h:=Uv)) (k:=DP0 21 (k:=Dv 22 (k:=Gd 22 (t:=fun h93=>?_) (f:=fun h93=>?_))))
             ·
              refine D1 23 (k:=D1 24 (k:=D1 25 (k:=DP1 26 (k:=Dd (k:=Ya (Z1 (k:=Qc (k:=Qv (k:=Wq ?_)))))))));refine Zt (k:=Va (Va (Vb (Vi (Vb (Va ?_))))));exact AdC
             ·
              refine Di 23 (t:=U0 (h:=Uv)) (k:=Di 24 (t:=U0 (h:=Uv)) (k:=Di 25 (t:=U0 (h:=Uv)) (k:=DP0 26 (k:=Dd (k:=Ya (Zi (t:=fun h97=>?_) (f:=fun h97=>?_)))))))
              ·
               refine Qc (k:=Qv (k:=Wq (Zt (k:=Va (Va (Vb (Vi (Vb (Va ?_)))))))));exact AdC
              ·
               refine Zk (k:=Ya (Qc (k:=Qv (k:=Vv (k:=Wq (Zt (k:=Va (Vb (Vi ?_)))))))));refine Vb (Va ?_);exact Anc
          ·
           refine Zk (k:=Ya (Za (k:=Za (k:=?_))));have hfl:(qs.flatMap CdV.cells).length=qs.length * 2:=Ac2 qs;refine Dw [Ce b8 101 [vU ((line.getD 0 0).toNat:Int),.slice ga xs.length gc],Row 101 2 (.slice oa qs.length oc) qs.length (qs.flatMap CdV.cells)] (k:=?_);refine Dv 0 (k:=Dv 1 (k:=Dv 2 (k:=Dv 3 (k:=Gd 3 (t:=fun h102=>?_) (f:=fun h102=>?_)))))
           ·
            have hlast:((Aa3 qs).getD ((Aa3 qs).length-1) cd0).l.toNat=(qs[qs.length-1]'(by omega)).l.toNat:=by rw[hll,Adq (by omega)];rfl
            refine Di 4 (t:=U1 (h:=Uv)) (k:=Di 5 (t:=U1 (h:=Uv)) (k:=Di 6 (t:=U1 (h:=Uv)) (k:=Di 7 (t:=U1 (h:=Uv)) (k:=?_))));refine Aa1 8 rfl rfl rfl (by kernel_rfl) (by kernel_rfl) (Aau (b:=true) rfl (Aae (sz:=2) (m:=qs.length-1) (kk:=2 * (qs.length-1)) Tryz.underlying99 Abm rfl rfl rfl (by omega) (by omega) (by omega) (Nat.mul_comm _ _))) ?_;refine Aa1 9 rfl rfl rfl (by kernel_rfl) (by kernel_rfl) (Aau (b:=true) rfl (AaO (kk:=2 * (qs.length-1)) Tryz.underlying101 rfl ti5 rfl rfl rfl rfl (by omega))) ?_;refine Aa1 10 rfl rfl rfl (by kernel_rfl) (by kernel_rfl) (Aau (b:=true) rfl (Aas Tryz.underlying5 rfl rfl (Ajz (j:=qs.length-1) (by omega)).1)) ?_;refine Di 11 (t:=U1 (h:=Uf 0 5)) (k:=Di 12 (t:=U1 (h:=Ul)) (k:=Di 13 (t:=U1 (h:=Uv)) (k:=DP1 14 (k:=Dd (k:=Ya (Zi (t:=fun h113=>?_) (f:=fun h113=>?_)))))))
            ·
             refine Qc (k:=Qv (k:=Wq (Zt (k:=Va (Vb (Vi (Vb (Va ?_))))))));exact Anb
            ·
             refine Zk (k:=Ya (Qc (k:=Vv (k:=Zm [_,_] (k:=Zv [_] (cs:=[_,_]) (k:=fun b116=>?_))))));refine Aao (sz:=2) (bytes:=32) Tryz.underlying99 Abm rfl rfl rfl rfl rfl rfl rfl (by rfl) (by rfl) (by omega) (by simp only[maxLen];omega) rfl (fun a117 c117=>?_);refine Vv (k:=Wq (Qc (k:=Qv (k:=Vv (k:=Wq (Zr (k:=Qv (k:=Wn ?_))))))));refine Yb ?_;exact AfO
           ·
            refine D0 4 (k:=D0 5 (k:=D0 6 (k:=D0 7 (k:=D0 8 (k:=D0 9 (k:=D0 10 (k:=D0 11 (k:=D0 12 (k:=D0 13 (k:=DP0 14 (k:=Dd (k:=?_))))))))))));refine Ya (Z0 (k:=Zk (k:=Ya (Qc (k:=Vv (k:=Zm [_,_] (k:=Zv [_] (cs:=[_,_]) (k:=fun b116=>?_))))))));refine Aao (sz:=2) (bytes:=32) Tryz.underlying99 Abm rfl rfl rfl rfl rfl rfl rfl (by rfl) (by rfl) (by omega) (by simp only[maxLen];omega) rfl (fun a117 c117=>?_);refine Vv (k:=Wq (Qc (k:=Qv (k:=Vv (k:=Wq (Zr (k:=Qv (k:=Wn ?_))))))));refine Yb ?_;exact AfO
        ·
         refine Qc (k:=Qv (k:=Vv (k:=Wq (Zi (t:=fun h53=>?_) (f:=fun h53=>?_)))))
         ·
          refine Zr (k:=Vv (k:=?_));refine Aa6 (Ac5 (m:=2) Tryz.underlying9 rfl rfl rfl (by omega)) rfl ?_;refine Aaq (Aha (line.drop 2) (by rw[List.length_drop];omega)) rfl rfl rfl (fun x56 _=>?_);obtain⟨wa,wc⟩:=x56;dsimp only;refine AeK (A:=Row 9 1 (.slice wa (Aaw 32 (line.drop 2)).length wc) (Aaw 32 (line.drop 2)).length ((Aaw 32 (line.drop 2)).map vS)) HasC.get AbH (fun hk56=>?_);refine Aej wa ?_;refine Vf 1 27 (k:=Zo (k:=Wn ?_));exact Agg
         ·
          refine Zk (k:=?_);exact Agg
      ·
       refine O0 (k:=O0 (k:=O0 (k:=I0 (k:=P0 (k:=P0 (k:=Wq (Z0 (k:=Zk (k:=Ya (Za (k:=?_)))))))))));have hc1:1≤line.length:=by omega
       have hc2:65≤(line.getD 0 0).toNat:=by omega
       have hc3:(line.getD 0 0).toNat≤90:=by omega
       have hc4:1<line.length→line.getD 1 0=32:=fun h=>by
        first
        | (exfalso;omega)
        | exact u8eq.2 (show _=32 by omega)
       refine Zr (k:=Vv (k:=?_));refine Aa6 (Abt (m:=0) Tryz.underlying9 rfl rfl rfl (by omega)) rfl ?_;refine Vx (Ps [_,.slice none 0 0]) (k:=Zc [.int .u8 0,.slice none 0 0] (k:=fun b8=>Zp (k:=Wq ?_)));refine Abg (fun (i:{ x:(Option Addr×Nat)×List Bs // x.2=AaJ line∧x.2.length≤x.1.2 })=>[(0,vS s),(4,.slice oa qs.length oc),(5,vI a),(6,vI b),(8,.pointer (some ⟨b8,0,none⟩))]) (fun (i:{ x:(Option Addr×Nat)×List Bs // x.2=AaJ line∧x.2.length≤x.1.2 })=>[SlI i.1.1.1 (i.1.2.map vS),Ce b8 101 [vU ((line.getD 0 0).toNat:Int),.slice i.1.1.1 i.1.2.length i.1.1.2],Row 101 2 (.slice oa qs.length oc) qs.length (qs.flatMap CdV.cells),CdM qs]) rfl (fun i=>?_) ?_
       ·
        obtain⟨⟨⟨ga,gc⟩,xs⟩,hxs,hxc⟩:=i;dsimp only at hxs hxc ⊢;have hxl:xs.length≤1073741824:=by
         have h1:=AlH 32 (line.drop 2);rw[hxs,AaJ];split
         · rw[List.length_drop] at h1;omega
         · simp
        try dsimp only
        refine Za (k:=Qc (k:=Qx 1 27 (k:=Qv (k:=Wq (Zb (k:=?_))))));refine Aak (fun (i:{ m:Nat // m≤xs.length∧∀i,i<m→xs.getD i []≠[] })=>[(0,vS s),(4,.slice oa qs.length oc),(5,vI a),(6,vI b),(8,.pointer (some ⟨b8,0,none⟩)),(59,.slice ga xs.length gc),(60,vI xs.length),(61,vI i.1)]) (fun (i:{ m:Nat // m≤xs.length∧∀i,i<m→xs.getD i []≠[] })=>[SlI ga (xs.map vS),Ce b8 101 [vU ((line.getD 0 0).toNat:Int),.slice ga xs.length gc],Row 101 2 (.slice oa qs.length oc) qs.length (qs.flatMap CdV.cells),CdM qs]) (fun (i:{ m:Nat // m≤xs.length∧∀i,i<m→xs.getD i []≠[] })=>xs.length-i.1) rfl (⟨0,Nat.zero_le _,fun i h=>by omega⟩) ?_ ?_ (fun i=>?_)
        · exact⟨rfl,rfl,rfl,rfl,rfl,rfl,rfl,rfl,trivial⟩
        ·
         exact Aa0
        obtain⟨m,hm,hma⟩:=i;dsimp only;try dsimp only
        refine Qc (k:=Vv (k:=Wq (Za (k:=Zi (t:=fun h62=>?_) (f:=fun h62=>?_)))))
        ·
         refine Zk (k:=Ya (Za (k:=Zb (k:=Qc (k:=Ye 1 (k:=Yl (hv:=by exact Aa4 [] (m:=m) (by omega)) (k:=Vv (k:=Wq (Qc (k:=?_))))))))));refine Qv (k:=Wq (Zi (t:=fun h66=>?_) (f:=fun h66=>?_)))
         ·
          refine Qc (k:=Qv (k:=Wq (Zt (k:=Vb (Va (Vi (Vb (Va (Vb ?_)))))))));refine Vi (Vb (Va ?_));exact Ane
         ·
          refine Zk (k:=Yb (Ya (Zr (k:=Qv (k:=Wn ?_)))));exact Anf
        ·
         refine Ze (k:=Xa (Xi (Xb (Ya (Za (k:=Za (k:=?_)))))));have hxa:∀x∈AaJ line,x≠[]:=by
          rw[←hxs];intro x hx;obtain⟨i,hi,rfl⟩:=Aby (d:=[]) hx;exact hma i (by omega)
         refine Zr (k:=Qx 0 5 (k:=Vv (k:=Wq (Zi (t:=fun h70=>?_) (f:=fun h70=>?_)))))
         ·
          refine Za (k:=Za (k:=Dw [Ce b8 101 [vU ((line.getD 0 0).toNat:Int),.slice ga xs.length gc],SlI ga (xs.map vS)] (k:=?_)));refine Dv 0 (k:=Dv 1 (k:=Dv 2 (k:=Dv 3 (k:=Dv 4 (k:=Dv 5 (k:=Gd 5 (t:=fun h76=>?_) (f:=fun h76=>?_)))))))
          ·
           refine D1 6 (k:=D1 7 (k:=D1 8 (k:=D1 9 (k:=DP1 10 (k:=Dv 11 (k:=D1 12 (k:=D1 13 (k:=D1 14 (k:=D1 15 (k:=D1 16 (k:=D1 17 (k:=?_))))))))))));refine D1 18 (k:=D1 19 (k:=D1 20 (k:=DP1 21 (k:=Dv 22 (k:=D1 23 (k:=D1 24 (k:=D1 25 (k:=DP1 26 (k:=Dd (k:=Ya (Z1 (k:=?_))))))))))));refine Qc (k:=Qv (k:=Wq (Zt (k:=Va (Va (Vb (Vi (Vb (Va ?_)))))))));exact AdC
          ·
           refine Di 6 (t:=U0 (h:=Uf 1 27)) (k:=Di 7 (t:=U0 (h:=Ul)) (k:=Di 8 (t:=U0 (h:=Uv)) (k:=Di 9 (t:=U0 (h:=Uv)) (k:=DP0 10 (k:=Dv 11 (k:=Gd 11 (t:=fun h82=>?_) (f:=fun h82=>?_)))))))
           ·
            refine D1 12 (k:=D1 13 (k:=D1 14 (k:=D1 15 (k:=D1 16 (k:=D1 17 (k:=D1 18 (k:=D1 19 (k:=D1 20 (k:=DP1 21 (k:=Dv 22 (k:=D1 23 (k:=?_))))))))))));refine D1 24 (k:=D1 25 (k:=DP1 26 (k:=Dd (k:=Ya (Z1 (k:=Qc (k:=Qv (k:=Wq (Zt (k:=?_))))))))));refine Va (Va (Vb (Vi (Vb (Va ?_)))));exact AdC
           ·
            refine Di 12 (t:=U0 (h:=Uf 1 27)) (k:=Di 13 (t:=U0 (h:=Ul)) (k:=?_));refine Aa1 14 rfl rfl rfl (by kernel_rfl) (by kernel_rfl) (Aau (b:=false) rfl (Aae (m:=0) (sz:=1) Tryz.underlying27 ti9 rfl rfl rfl rfl (by omega) (by first | (rw[List.length_map];omega) | (rw[Aaj (sz:=1) (fun _=>rfl)];omega) | (simp;omega)) (Nat.mul_one _))) ?_;refine Aa1 15 rfl rfl rfl (by kernel_rfl) (by kernel_rfl) (Aau (b:=false) rfl (Aas Tryz.underlying9 rfl rfl (Aa4 [] (m:=0) (by omega)))) ?_;refine Di 16 (t:=U0 (h:=Uv)) (k:=Di 17 (t:=U0 (h:=Uv)) (k:=?_));refine Aa1 18 rfl rfl rfl (by kernel_rfl) (by kernel_rfl) (Aau (b:=false) rfl (Aat (Acd (m:=b) Tryz.underlying9 rfl rfl rfl (by omega)))) ?_;refine Dn 19 (k:=?_);refine AjC (b:=false) rfl ?_;refine Aal (AdH (s.take b) (by rw[List.length_take];omega)) rfl rfl rfl ?_;refine Di 20 (t:=U0 (h:=Uv)) (k:=DP0 21 (k:=Dv 22 (k:=Gd 22 (t:=fun h93=>?_) (f:=fun h93=>?_))))
            ·
             refine D1 23 (k:=D1 24 (k:=D1 25 (k:=DP1 26 (k:=Dd (k:=Ya (Z1 (k:=Qc (k:=Qv (k:=Wq ?_)))))))));refine Zt (k:=Va (Va (Vb (Vi (Vb (Va ?_))))));exact AdC
            ·
             refine Di 23 (t:=U0 (h:=Uv)) (k:=Di 24 (t:=U0 (h:=Uv)) (k:=Di 25 (t:=U0 (h:=Uv)) (k:=DP0 26 (k:=Dd (k:=Ya (Zi (t:=fun h97=>?_) (f:=fun h97=>?_)))))))
             ·
              refine Qc (k:=Qv (k:=Wq (Zt (k:=Va (Va (Vb (Vi (Vb (Va ?_)))))))));exact AdC
             ·
              refine Zk (k:=Ya (Qc (k:=Qv (k:=Vv (k:=Wq (Zt (k:=Va (Vb (Vi ?_)))))))));refine Vb (Va ?_);exact Anc
         ·
          refine Zk (k:=Ya (Za (k:=Za (k:=?_))));have hfl:(qs.flatMap CdV.cells).length=qs.length * 2:=Ac2 qs;refine Dw [Ce b8 101 [vU ((line.getD 0 0).toNat:Int),.slice ga xs.length gc],Row 101 2 (.slice oa qs.length oc) qs.length (qs.flatMap CdV.cells)] (k:=?_);refine Dv 0 (k:=Dv 1 (k:=Dv 2 (k:=Dv 3 (k:=Gd 3 (t:=fun h102=>?_) (f:=fun h102=>?_)))))
          ·
           have hlast:((Aa3 qs).getD ((Aa3 qs).length-1) cd0).l.toNat=(qs[qs.length-1]'(by omega)).l.toNat:=by rw[hll,Adq (by omega)];rfl
           refine Di 4 (t:=U1 (h:=Uv)) (k:=Di 5 (t:=U1 (h:=Uv)) (k:=Di 6 (t:=U1 (h:=Uv)) (k:=Di 7 (t:=U1 (h:=Uv)) (k:=?_))));refine Aa1 8 rfl rfl rfl (by kernel_rfl) (by kernel_rfl) (Aau (b:=true) rfl (Aae (sz:=2) (m:=qs.length-1) (kk:=2 * (qs.length-1)) Tryz.underlying99 Abm rfl rfl rfl (by omega) (by omega) (by omega) (Nat.mul_comm _ _))) ?_;refine Aa1 9 rfl rfl rfl (by kernel_rfl) (by kernel_rfl) (Aau (b:=true) rfl (AaO (kk:=2 * (qs.length-1)) Tryz.underlying101 rfl ti5 rfl rfl rfl rfl (by omega))) ?_;refine Aa1 10 rfl rfl rfl (by kernel_rfl) (by kernel_rfl) (Aau (b:=true) rfl (Aas Tryz.underlying5 rfl rfl (Ajz (j:=qs.length-1) (by omega)).1)) ?_;refine Di 11 (t:=U1 (h:=Uf 0 5)) (k:=Di 12 (t:=U1 (h:=Ul)) (k:=Di 13 (t:=U1 (h:=Uv)) (k:=DP1 14 (k:=Dd (k:=Ya (Zi (t:=fun h113=>?_) (f:=fun h113=>?_)))))))
           ·
            refine Qc (k:=Qv (k:=Wq (Zt (k:=Va (Vb (Vi (Vb (Va ?_))))))));exact Anb
           ·
            refine Zk (k:=Ya (Qc (k:=Vv (k:=Zm [_,_] (k:=Zv [_] (cs:=[_,_]) (k:=fun b116=>?_))))));refine Aao (sz:=2) (bytes:=32) Tryz.underlying99 Abm rfl rfl rfl rfl rfl rfl rfl (by rfl) (by rfl) (by omega) (by simp only[maxLen];omega) rfl (fun a117 c117=>?_);refine Vv (k:=Wq (Qc (k:=Qv (k:=Vv (k:=Wq (Zr (k:=Qv (k:=Wn ?_))))))));refine Yb ?_;exact AfO
          ·
           refine D0 4 (k:=D0 5 (k:=D0 6 (k:=D0 7 (k:=D0 8 (k:=D0 9 (k:=D0 10 (k:=D0 11 (k:=D0 12 (k:=D0 13 (k:=DP0 14 (k:=Dd (k:=?_))))))))))));refine Ya (Z0 (k:=Zk (k:=Ya (Qc (k:=Vv (k:=Zm [_,_] (k:=Zv [_] (cs:=[_,_]) (k:=fun b116=>?_))))))));refine Aao (sz:=2) (bytes:=32) Tryz.underlying99 Abm rfl rfl rfl rfl rfl rfl rfl (by rfl) (by rfl) (by omega) (by simp only[maxLen];omega) rfl (fun a117 c117=>?_);refine Vv (k:=Wq (Qc (k:=Qv (k:=Vv (k:=Wq (Zr (k:=Qv (k:=Wn ?_))))))));refine Yb ?_;exact AfO
       ·
        refine Qc (k:=Qv (k:=Vv (k:=Wq (Zi (t:=fun h53=>?_) (f:=fun h53=>?_)))))
        ·
         refine Zr (k:=Vv (k:=?_));refine Aa6 (Ac5 (m:=2) Tryz.underlying9 rfl rfl rfl (by omega)) rfl ?_;refine Aaq (Aha (line.drop 2) (by rw[List.length_drop];omega)) rfl rfl rfl (fun x56 _=>?_);obtain⟨wa,wc⟩:=x56;dsimp only;refine AeK (A:=Row 9 1 (.slice wa (Aaw 32 (line.drop 2)).length wc) (Aaw 32 (line.drop 2)).length ((Aaw 32 (line.drop 2)).map vS)) HasC.get AbH (fun hk56=>?_);refine Aej wa ?_;refine Vf 1 27 (k:=Zo (k:=Wn ?_));exact Agg
        ·
         refine Zk (k:=?_);exact Agg
 ·
  refine Ze (k:=Xa (Xi (Xb (Ya (Qc (k:=Qv (k:=Wq (Zt (k:=?_)))))))));have hal:a=s.length:=by omega
  have hn:Abv s=none:=Afl fun l k=>Arq hI (by
   rw[hal,List.take_of_length_le (by rw[List.length_drop];exact Nat.le_refl _)] at hn10;exact hn10) l k
  rw[hn];exact Aa2 ((none,0),[]) (vs:=[_,_]) (Cs:=[]) rfl (.tmp rfl (.tmp rfl .nil)) rfl rfl Adh
end
end Go.Proofs.YtdnoacgopfcpbaaGreat
