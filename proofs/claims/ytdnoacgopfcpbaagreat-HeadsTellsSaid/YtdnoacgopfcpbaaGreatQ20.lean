/- Texts of this proof, put together: SR10f, SR10g, PCk4. -/
import Derived.Test.YtdnoacgopfcpbaaGreatQ19
set_option linter.unusedVariables false
set_option linter.unusedSimpArgs false
namespace Go.Proofs.YtdnoacgopfcpbaaGreat
section
set_option maxRecDepth 100000
theorem AjL {G:Prop} (h:G:=by
    obtain⟨q,hqq⟩:∃q:CdV,q=⟨70,ga,gc,xs⟩:=⟨_,rfl⟩
    have hqc:q.cd=AaL f:=by rw[hqq];show (⟨70,xs⟩:Cd)=_;rw[hxs];rfl
    have hql2:(fs++[q]).length=fs.length+1:=by simp
    refine Aa5 ⟨(((a53,c53),fs++[q]),j+1),?_,?_⟩ ?_ ⟨rfl,Adk hql2.symm,rfl,rfl,rfl,trivial⟩ ?_
    · dsimp only;omega
    · dsimp only;rw[htk,Ad3,hqc,hfs,List.append_assoc]
    · dsimp only;omega
    · dsimp only
      rw[hql2];refine(AbG (qs:=fs) (q:=q) HasC.get (by rw[hqq];exact HasC.get) (by rw[hqq];exact hxc)).trans ?_;exact Aac (AaW (by rfl) (by rw[hqq];simp[CdV.cells])) Aa0):G:=h
theorem Ae3 {G:Prop} (h:G:=by
    first
    | exact Aa5 ⟨((a48,c48),[f.1,f.2]),by simp[AaL,h43],hk48.1⟩ trivial ⟨rfl,rfl,rfl,rfl,rfl,rfl,trivial⟩ Aa0
    | exact Aa5 ⟨((some ⟨b40,0,none⟩,1),[f.1]),by simp[AaL,Classical.not_not.1 h43],Nat.le_refl _⟩ trivial ⟨rfl,rfl,rfl,rfl,rfl,rfl,trivial⟩ Aa0):G:=h
theorem AjK {G:Prop} (h:G:=by exact Aa2 () (vs:=[_]) (Cs:=[]) rfl (.tmp rfl .nil) rfl trivial Aa0):G:=h
theorem Ae2 {G:Prop} (h:G:=by
    first
    | (have hp:c.parents≠[]:=fun e=>by rw[e] at h58;simp at h58
       have hql2:(fs++[(⟨80,x.pa,x.pc,c.parents⟩:CdV)]).length=fs.length+1:=by simp
       refine Aa5 ⟨((a64,c64),fs++[⟨80,x.pa,x.pc,c.parents⟩]),?_⟩ trivial ⟨rfl,Adk hql2.symm,trivial⟩ ?_
       · dsimp only;rw[Ad3,hfs,AbK,AbC,if_neg hp];simp[CdV.cd]
       · dsimp only
         rw[hql2];refine(AbG (qs:=fs) (q:=⟨80,x.pa,x.pc,c.parents⟩) HasC.get HasC.get hpc).trans ?_;exact Aac (AaW (by rfl) (by rw[AbU];rfl)) Aa0)
    | (have hp:c.parents=[]:=List.eq_nil_of_length_eq_zero (by omega)
       refine Aa5 ⟨((fa,fc),fs),?_⟩ trivial ⟨rfl,rfl,trivial⟩ Aa0;dsimp only;rw[hfs,AbK,AbC,if_pos hp];simp)):G:=h
theorem Anq {G:Prop} (h:G:=by
    first
    | (have hb:c.base≠[]:=h9
       refine Aa5 ⟨((a16,c16),[⟨66,some ⟨b13,0,none⟩,1,[c.base]⟩]),by simp[Aa3,CdV.cd,Abe,hb]⟩ trivial ⟨rfl,rfl,trivial⟩ ?_;refine Ent.trans (AdJ (a:=some ⟨b13,0,none⟩) (c:=1) 66 [c.base] [vS c.base] HasC.get rfl (Nat.le_refl _)) ?_;dsimp only[List.length_cons,List.length_nil];exact Aac (AaW (by rfl) (by rfl)) Aa0)
    | (have hb:c.base=[]:=Classical.not_not.1 h9
       refine Aa5 ⟨((none,0),[]),by simp[Aa3,Abe,hb]⟩ trivial ⟨rfl,rfl,trivial⟩ ?_;refine Ent.trans ent_cdm_nil ?_;dsimp only[List.length_nil];rw[show ([]:List CdV).flatMap CdV.cells=[] from rfl];exact Aa0)):G:=h
set_option maxHeartbeats 4000000 in
theorem Ad8 {Bf Bt:HP} (x:CkA) (c:Ck) (z:CkZ c) (hd:0≤c.date∧c.date≤1073741824) (hz:(Aav (AaG c)).length≤1073741824) (shf:SlA Bf x.fa (c.files.flatMap AaN)) (sht:SlA Bt x.ta (c.tags.flatMap Aab)) (hpc:c.parents.length≤x.pc) :
    Sp1 Tryz.prog 16 [.agg (AaZ x c).toArray] [Bf,SlI x.pa (c.parents.map vS),Bt] (vS (ckB c)) [Bf,Bt]:=by
 have hTC:=Ajg c.tags.length x.tc c.tags sht rfl z.tags;haveI:Abu x.fa (c.files.flatMap AaN) [Bf,SlI x.pa (c.parents.map vS),Bt]:=⟨⟨Bf,shf,.here⟩⟩
 obtain⟨z1,z2,z3,z4,z5,z6,z7,z8,z9⟩:=z;have hcl:=(AhC (AaG c)).1;have hcn:(AaG c).length=(Abe c.base).length+2+c.files.length+(AbC c.parents).length+(c.tags.length+1):=by simp[AaG];omega
 have hDec:SpF Tryz.prog 51 [vI c.date] (vS (AaX c.date.toNat)):=by
  have:=Akv c.date.toNat (by omega);rwa [Int.toNat_of_nonneg hd.1] at this
 refine Sp.body (n:=78) Tryz.call16 Tryz.func16 rfl rfl rfl ?_;refine Qc (k:=Zx [_,_,_,_,_,_,_] (k:=fun b1=>Vv (k:=Wq (Qc (k:=Vv (k:=Wq ?_))))));refine Abg (fun (i:{ x:(Option Addr×Nat)×List CdV // Aa3 x.2=Abe c.base })=>[(1,.pointer (some ⟨b1,0,none⟩)),(3,.slice i.1.1.1 i.1.2.length i.1.1.2)]) (fun (i:{ x:(Option Addr×Nat)×List CdV // Aa3 x.2=Abe c.base })=>[Row 101 2 (.slice i.1.1.1 i.1.2.length i.1.1.2) i.1.2.length (i.1.2.flatMap CdV.cells),CdM i.1.2,Ce b1 30 [vS c.base,vS c.comment,vI c.date,.slice x.fa c.files.length x.fc,.slice x.pa c.parents.length x.pc,.slice x.ta c.tags.length x.tc,vS c.user],Bf,SlI x.pa (c.parents.map vS),Bt]) rfl (fun i=>?_) ?_
 ·
  obtain⟨⟨⟨oa,oc⟩,qs⟩,hcd⟩:=i;dsimp only at hcd ⊢;have hql:=AcA hcd;try dsimp only
  refine Za (k:=Dw [Ce b1 30 [vS c.base,vS c.comment,vI c.date,.slice x.fa c.files.length x.fc,.slice x.pa c.parents.length x.pc,.slice x.ta c.tags.length x.tc,vS c.user]] (k:=?_));refine Dv 0 (k:=Di 1 (t:=Uf 1 9) (k:=Di 2 (t:=Ul) (k:=Di 7 (t:=Uf 2 3) (k:=Di 8 (t:=Ul) (k:=Dn 3 (k:=?_))))));refine Aal (AgO c.comment (by omega)) rfl rfl rfl ?_;have hel:=(Aeu c.comment).2;refine Dv 4 (k:=?_);refine Aah 5 9 (by kernel_rfl) rfl rfl ?_ ?_
  ·
   refine Nl [_] (cs:=[_]) (k:=fun b22=>Di 6 (t:=Ux (Ps [_,_])) (k:=Dn 9 (k:=?_)));refine Aal hDec rfl rfl rfl ?_;refine Dn 10 (k:=Nl [_] (cs:=[_]) (k:=fun b27=>Di 11 (t:=Ux (Ps [_,_])) (k:=Dn 12 (k:=Nl [_,_] (cs:=[_,_,_,_]) (k:=fun b29=>Dn 13 (k:=?_))))));refine AaT (sz:=2) (bytes:=32) Tryz.underlying99 Abm rfl rfl rfl rfl rfl rfl rfl (by rfl) (by rfl) (by omega) (by simp only[maxLen];omega) rfl (fun a30 c30=>?_);refine Dv 14 (k:=Dd (k:=Ya (Za (k:=Za (k:=?_)))));refine Ad4 b22 ?_;refine Ad4 b27 ?_;obtain⟨ps,hps⟩:∃ps:List CdV,ps=qs++[⟨67,some ⟨b22,0,none⟩,1,[46::Abf c.comment]⟩]++[⟨68,some ⟨b27,0,none⟩,1,[AaX c.date.toNat]⟩]:=⟨_,rfl⟩
   have hpcd:Aa3 ps=Abe c.base++[⟨67,[46::Abf c.comment]⟩,⟨68,[AaX c.date.toNat]⟩]:=by rw[hps,AaI,AaI,hcd,List.append_assoc];rfl
   have hpl:ps.length=qs.length+2:=by rw[hps];simp
   have hpf:ps.flatMap CdV.cells=qs.flatMap CdV.cells++[vU ((67:UInt8).toNat:Int),.slice (some ⟨b22,0,none⟩) 1 1,vU ((68:UInt8).toNat:Int),.slice (some ⟨b27,0,none⟩) 1 1]:=by rw[hps];simp[CdV.cells]
   refine Zr (k:=Qx 3 26 (k:=Qv (k:=Wq (Zb (k:=?_)))));refine Aak (fun (i:{ y:((Option Addr×Nat)×List CdV)×Nat // y.2≤c.files.length∧Aa3 y.1.2=Aa3 ps++(c.files.take y.2).map AaL })=>[(1,.pointer (some ⟨b1,0,none⟩)),(3,.slice i.1.1.1.1 i.1.1.2.length i.1.1.1.2),(32,.slice x.fa c.files.length x.fc),(33,vI c.files.length),(34,vI i.1.2)]) (fun (i:{ y:((Option Addr×Nat)×List CdV)×Nat // y.2≤c.files.length∧Aa3 y.1.2=Aa3 ps++(c.files.take y.2).map AaL })=>[Row 101 2 (.slice i.1.1.1.1 i.1.1.2.length i.1.1.1.2) i.1.1.2.length (i.1.1.2.flatMap CdV.cells),CdM i.1.1.2,Ce b1 30 [vS c.base,vS c.comment,vI c.date,.slice x.fa c.files.length x.fc,.slice x.pa c.parents.length x.pc,.slice x.ta c.tags.length x.tc,vS c.user],Bf,SlI x.pa (c.parents.map vS),Bt]) (fun (i:{ y:((Option Addr×Nat)×List CdV)×Nat // y.2≤c.files.length∧Aa3 y.1.2=Aa3 ps++(c.files.take y.2).map AaL })=>c.files.length-i.1.2) rfl (⟨(((a30,c30),ps),0),Nat.zero_le _,by simp⟩) ?_ ?_ (fun i=>?_)
   · exact⟨rfl,Adk hpl.symm,rfl,rfl,rfl,trivial⟩
   ·
    dsimp only;rw[hpl,hpf];refine Ent.trans (Ab2 (qs:=qs) (a:=some ⟨b22,0,none⟩) (c:=1) 67 [46::Abf c.comment] [vS ([46]++Abf c.comment)] HasC.get HasC.get rfl (Nat.le_refl _)) ?_;refine Ent.trans (Ab2 (qs:=qs++[⟨67,some ⟨b22,0,none⟩,1,[46::Abf c.comment]⟩]) (a:=some ⟨b27,0,none⟩) (c:=1) 68 [AaX c.date.toNat] [vS (AaX c.date.toNat)] HasC.get HasC.get rfl (Nat.le_refl _)) ?_;rw[hps];exact Aac (AaW (by rfl) (by rfl)) Aa0
   obtain⟨⟨⟨⟨fa,fc⟩,fs⟩,j⟩,hj,hfs⟩:=i;dsimp only at hj hfs ⊢;have hfl:=AcA hfs;have hpl0:(Aa3 ps).length=ps.length:=by simp[Aa3]
   rw[List.length_append,List.length_map,List.length_take,hpl0] at hfl;try dsimp only
   refine Qc (k:=Vv (k:=Wq (Za (k:=Zi (t:=fun h35=>?_) (f:=fun h35=>?_)))))
   ·
    refine Zk (k:=Ya (Za (k:=Zb (k:=Za (k:=?_)))));have hjl:j<c.files.length:=by omega
    obtain⟨f,hf⟩:∃f,f=c.files[j]:=⟨_,rfl⟩
    have hfz:=z5 f (by rw[hf];exact List.getElem_mem _);have htk:(c.files.take (j+1)).map AaL=(c.files.take j).map AaL++[AaL f]:=by rw[List.take_succ_eq_append_getElem hjl,List.map_append,hf];rfl
    refine Zr (k:=Ye 2 (k:=?_));refine Abb (vs:=[_,_]) (sz:=2) Tryz.underlying25 rfl AfU rfl rfl (by rw[Aaj (sz:=2) (fun _=>rfl)];omega) rfl (by refine Ab1 (fun x=>?_) ?_<;>first | rfl | omega) rfl ?_;rw[←hf];refine Zc [vS [],vS []] (k:=fun b5=>Zp (k:=Wq (Qc (k:=Qx 0 9 (k:=Zv [_] (cs:=[_]) (k:=fun b40=>Vv (k:=Wq ?_)))))));refine Abg (fun (i:{ y:(Option Addr×Nat)×List Bs // y.2=(AaL f).args∧y.2.length≤y.1.2 })=>[(1,.pointer (some ⟨b1,0,none⟩)),(3,.slice fa fs.length fc),(6,.slice i.1.1.1 i.1.2.length i.1.1.2),(32,.slice x.fa c.files.length x.fc),(33,vI c.files.length),(34,vI j)]) (fun (i:{ y:(Option Addr×Nat)×List Bs // y.2=(AaL f).args∧y.2.length≤y.1.2 })=>[SlI i.1.1.1 (i.1.2.map vS),Row 101 2 (.slice fa fs.length fc) fs.length (fs.flatMap CdV.cells),CdM fs,Ce b1 30 [vS c.base,vS c.comment,vI c.date,.slice x.fa c.files.length x.fc,.slice x.pa c.parents.length x.pc,.slice x.ta c.tags.length x.tc,vS c.user],Bf,SlI x.pa (c.parents.map vS),Bt]) rfl (fun i=>?_) ?_
    ·
     obtain⟨⟨⟨ga,gc⟩,xs⟩,hxs,hxc⟩:=i;dsimp only at hxs hxc ⊢;try dsimp only
     refine Zr (k:=Qv (k:=Vx (Ps [_,_]) (k:=Zv [_] (cs:=[_,_]) (k:=fun b52=>?_))));refine Aao (sz:=2) (bytes:=32) Tryz.underlying99 Abm rfl rfl rfl rfl rfl rfl rfl (by rfl) (by rfl) (by omega) (by simp only[maxLen];omega) rfl (fun a53 c53=>?_);refine Vv (k:=Wn (Yb (Ya (Zr (k:=Qv (k:=Wn ?_))))));exact AjL
    ·
     refine Qc (k:=Qx 1 9 (k:=Vv (k:=Wq (Zi (t:=fun h43=>?_) (f:=fun h43=>?_)))))
     ·
      refine Zr (k:=Vv (k:=Qx 1 9 (k:=Zv [_] (cs:=[_]) (k:=fun b47=>?_))));refine wo_ent' (AbF (k:=1) (cap:=1) (sz:=1) (e:=9) (g:=b40) (xs:=[vS f.1]) (cur:=[vS f.1]) (Nat.le_refl _) (by simp[maxLen]) rfl rfl rfl) ?_;refine Aao (sz:=1) (bytes:=16) Tryz.underlying27 ti9 rfl rfl rfl rfl rfl rfl rfl (by rfl) (by rfl) (by omega) (by simp only[maxLen];omega) rfl (fun a48 c48=>?_);refine AeK (A:=Row 9 1 (.slice a48 (1+1) c48) (1+1) ([vS f.1]++[vS f.2])) HasC.get AbH (fun hk48=>?_);refine Aej a48 ?_;rw[show ([vS f.1]++[vS f.2])=([f.1,f.2]:List Bs).map vS from rfl];refine Vv (k:=Wn ?_);exact Ae3
     ·
      refine Ad4 b40 ?_;rw[show [vS f.1]=([f.1]:List Bs).map vS from rfl];refine Zk (k:=?_);exact Ae3
   ·
    refine Ze (k:=Xa (Xi (Xb (Ya ?_))));refine Abg (fun (i:{ y:(Option Addr×Nat)×List CdV // Aa3 y.2=AbK c })=>[(1,.pointer (some ⟨b1,0,none⟩)),(3,.slice i.1.1.1 i.1.2.length i.1.1.2)]) (fun (i:{ y:(Option Addr×Nat)×List CdV // Aa3 y.2=AbK c })=>[Row 101 2 (.slice i.1.1.1 i.1.2.length i.1.1.2) i.1.2.length (i.1.2.flatMap CdV.cells),CdM i.1.2,Ce b1 30 [vS c.base,vS c.comment,vI c.date,.slice x.fa c.files.length x.fc,.slice x.pa c.parents.length x.pc,.slice x.ta c.tags.length x.tc,vS c.user],Bf,SlI x.pa (c.parents.map vS),Bt]) rfl (fun i=>?_) ?_
    ·
     obtain⟨⟨⟨ga,gc⟩,gs⟩,hgs⟩:=i;dsimp only at hgs ⊢;have hgl:=AcA hgs;have hhl:(AbK c).length=(Abe c.base).length+2+c.files.length+(AbC c.parents).length:=by simp[AbK];omega
     try dsimp only
     refine Qc (k:=Vv (k:=Qx 5 28 (k:=?_)));refine Aaq hTC rfl rfl rfl (fun x68 hx68=>?_);obtain⟨⟨ta,tc⟩,tqs⟩:=x68;dsimp only[Ae0,AgU] at hx68 ⊢;have htq:=AcA hx68;rw[List.length_map] at htq;refine Ag2 (sz:=2) (bytes:=32) Tryz.underlying99 Abm rfl rfl rfl rfl rfl rfl rfl (Ac2 tqs) (AcN tqs) (by omega) (by simp only[maxLen];omega) rfl (fun a69 c69=>?_);refine Vv (k:=Wq (Qc (k:=Vv (k:=Qx 6 9 (k:=Zv [_] (cs:=[_]) (k:=fun b73=>Vx (Ps [_,_]) (k:=Zv [_] (cs:=[_,_]) (k:=fun b75=>?_))))))));refine Aao (sz:=2) (bytes:=32) Tryz.underlying99 Abm rfl rfl rfl rfl rfl rfl rfl (by rfl) (by rfl) (by omega) (by simp only[maxLen];omega) rfl (fun a76 c76=>?_);refine Ac9 b73 ?_;obtain⟨al,hal⟩:∃al:List CdV,al=gs++tqs++[⟨85,some ⟨b73,0,none⟩,1,[c.user]⟩]:=⟨_,rfl⟩
     have halc:Aa3 al=AaG c:=by rw[hal,AaI,AaI,hgs,hx68,AbK,AaG];simp[Aa3,CdV.cd]
     have hall:al.length=gs.length+tqs.length+1:=by rw[hal];simp;omega
     have hxx:gs.flatMap CdV.cells++tqs.flatMap CdV.cells++[vU 85,.slice (some ⟨b73,0,none⟩) 1 1]=al.flatMap CdV.cells:=by rw[hal];simp[CdV.cells]
     have hPr:=Ac3 (B:=Row 101 2 (.slice a76 (gs.length+tqs.length+1) c76) (gs.length+tqs.length+1) (gs.flatMap CdV.cells++tqs.flatMap CdV.cells++[vU 85,.slice (some ⟨b73,0,none⟩) 1 1])) (a:=a76) (gs.length+tqs.length+1) c76 al (by rw[←hxx];exact AaC) hall (by rw[halc];omega);rw[halc] at hPr;refine wo_ent' (AbY (qs:=gs) (rs:=tqs) HasC.get HasC.get) ?_;refine wo_ent' (Ab2 (qs:=gs++tqs) (a:=some ⟨b73,0,none⟩) (c:=1) 85 [c.user] [vS c.user] HasC.get HasC.get rfl (Nat.le_refl _)) ?_;rw[←hal];refine Aaa hPr rfl rfl rfl ?_;refine Vv (k:=Wq (Zt (k:=?_)));exact AjK
    ·
     refine Za (k:=?_);have hjl:j=c.files.length:=by omega
     subst hjl;rw[List.take_length,hpcd] at hfs;refine Zr (k:=Qx 4 27 (k:=Qv (k:=Wq (Zi (t:=fun h58=>?_) (f:=fun h58=>?_)))))
     ·
      refine Zr (k:=Vv (k:=Qx 4 27 (k:=Vx (Ps [_,_]) (k:=Zv [_] (cs:=[_,_]) (k:=fun b63=>?_)))));refine Aao (sz:=2) (bytes:=32) Tryz.underlying99 Abm rfl rfl rfl rfl rfl rfl rfl (by rfl) (by rfl) (by omega) (by simp only[maxLen];omega) rfl (fun a64 c64=>?_);refine Vv (k:=Wn ?_);exact Ae2
     ·
      refine Zk (k:=?_);exact Ae2
  ·
   refine Aal hDec rfl rfl rfl ?_;refine Aah 5 10 (by kernel_rfl) rfl rfl ?_ ?_
   ·
    refine Nl [_] (cs:=[_]) (k:=fun b22=>Di 6 (t:=Ux (Ps [_,_])) (k:=Dn 10 (k:=Nl [_] (cs:=[_]) (k:=fun b27=>Di 11 (t:=Ux (Ps [_,_])) (k:=Dn 12 (k:=Nl [_,_] (cs:=[_,_,_,_]) (k:=fun b29=>Dn 13 (k:=?_))))))));refine AaT (sz:=2) (bytes:=32) Tryz.underlying99 Abm rfl rfl rfl rfl rfl rfl rfl (by rfl) (by rfl) (by omega) (by simp only[maxLen];omega) rfl (fun a30 c30=>?_);refine Dv 14 (k:=Dd (k:=Ya (Za (k:=Za (k:=?_)))));refine Ad4 b22 ?_;refine Ad4 b27 ?_;obtain⟨ps,hps⟩:∃ps:List CdV,ps=qs++[⟨67,some ⟨b22,0,none⟩,1,[46::Abf c.comment]⟩]++[⟨68,some ⟨b27,0,none⟩,1,[AaX c.date.toNat]⟩]:=⟨_,rfl⟩
    have hpcd:Aa3 ps=Abe c.base++[⟨67,[46::Abf c.comment]⟩,⟨68,[AaX c.date.toNat]⟩]:=by rw[hps,AaI,AaI,hcd,List.append_assoc];rfl
    have hpl:ps.length=qs.length+2:=by rw[hps];simp
    have hpf:ps.flatMap CdV.cells=qs.flatMap CdV.cells++[vU ((67:UInt8).toNat:Int),.slice (some ⟨b22,0,none⟩) 1 1,vU ((68:UInt8).toNat:Int),.slice (some ⟨b27,0,none⟩) 1 1]:=by rw[hps];simp[CdV.cells]
    refine Zr (k:=Qx 3 26 (k:=Qv (k:=Wq (Zb (k:=?_)))));refine Aak (fun (i:{ y:((Option Addr×Nat)×List CdV)×Nat // y.2≤c.files.length∧Aa3 y.1.2=Aa3 ps++(c.files.take y.2).map AaL })=>[(1,.pointer (some ⟨b1,0,none⟩)),(3,.slice i.1.1.1.1 i.1.1.2.length i.1.1.1.2),(32,.slice x.fa c.files.length x.fc),(33,vI c.files.length),(34,vI i.1.2)]) (fun (i:{ y:((Option Addr×Nat)×List CdV)×Nat // y.2≤c.files.length∧Aa3 y.1.2=Aa3 ps++(c.files.take y.2).map AaL })=>[Row 101 2 (.slice i.1.1.1.1 i.1.1.2.length i.1.1.1.2) i.1.1.2.length (i.1.1.2.flatMap CdV.cells),CdM i.1.1.2,Ce b1 30 [vS c.base,vS c.comment,vI c.date,.slice x.fa c.files.length x.fc,.slice x.pa c.parents.length x.pc,.slice x.ta c.tags.length x.tc,vS c.user],Bf,SlI x.pa (c.parents.map vS),Bt]) (fun (i:{ y:((Option Addr×Nat)×List CdV)×Nat // y.2≤c.files.length∧Aa3 y.1.2=Aa3 ps++(c.files.take y.2).map AaL })=>c.files.length-i.1.2) rfl (⟨(((a30,c30),ps),0),Nat.zero_le _,by simp⟩) ?_ ?_ (fun i=>?_)
    · exact⟨rfl,Adk hpl.symm,rfl,rfl,rfl,trivial⟩
    ·
     dsimp only;rw[hpl,hpf];refine Ent.trans (Ab2 (qs:=qs) (a:=some ⟨b22,0,none⟩) (c:=1) 67 [46::Abf c.comment] [vS ([46]++Abf c.comment)] HasC.get HasC.get rfl (Nat.le_refl _)) ?_;refine Ent.trans (Ab2 (qs:=qs++[⟨67,some ⟨b22,0,none⟩,1,[46::Abf c.comment]⟩]) (a:=some ⟨b27,0,none⟩) (c:=1) 68 [AaX c.date.toNat] [vS (AaX c.date.toNat)] HasC.get HasC.get rfl (Nat.le_refl _)) ?_;rw[hps];exact Aac (AaW (by rfl) (by rfl)) Aa0
    obtain⟨⟨⟨⟨fa,fc⟩,fs⟩,j⟩,hj,hfs⟩:=i;dsimp only at hj hfs ⊢;have hfl:=AcA hfs;have hpl0:(Aa3 ps).length=ps.length:=by simp[Aa3]
    rw[List.length_append,List.length_map,List.length_take,hpl0] at hfl;try dsimp only
    refine Qc (k:=Vv (k:=Wq (Za (k:=Zi (t:=fun h35=>?_) (f:=fun h35=>?_)))))
    ·
     refine Zk (k:=Ya (Za (k:=Zb (k:=Za (k:=?_)))));have hjl:j<c.files.length:=by omega
     obtain⟨f,hf⟩:∃f,f=c.files[j]:=⟨_,rfl⟩
     have hfz:=z5 f (by rw[hf];exact List.getElem_mem _);have htk:(c.files.take (j+1)).map AaL=(c.files.take j).map AaL++[AaL f]:=by rw[List.take_succ_eq_append_getElem hjl,List.map_append,hf];rfl
     refine Zr (k:=Ye 2 (k:=?_));refine Abb (vs:=[_,_]) (sz:=2) Tryz.underlying25 rfl AfU rfl rfl (by rw[Aaj (sz:=2) (fun _=>rfl)];omega) rfl (by refine Ab1 (fun x=>?_) ?_<;>first | rfl | omega) rfl ?_;rw[←hf];refine Zc [vS [],vS []] (k:=fun b5=>Zp (k:=Wq (Qc (k:=Qx 0 9 (k:=Zv [_] (cs:=[_]) (k:=fun b40=>Vv (k:=Wq ?_)))))));refine Abg (fun (i:{ y:(Option Addr×Nat)×List Bs // y.2=(AaL f).args∧y.2.length≤y.1.2 })=>[(1,.pointer (some ⟨b1,0,none⟩)),(3,.slice fa fs.length fc),(6,.slice i.1.1.1 i.1.2.length i.1.1.2),(32,.slice x.fa c.files.length x.fc),(33,vI c.files.length),(34,vI j)]) (fun (i:{ y:(Option Addr×Nat)×List Bs // y.2=(AaL f).args∧y.2.length≤y.1.2 })=>[SlI i.1.1.1 (i.1.2.map vS),Row 101 2 (.slice fa fs.length fc) fs.length (fs.flatMap CdV.cells),CdM fs,Ce b1 30 [vS c.base,vS c.comment,vI c.date,.slice x.fa c.files.length x.fc,.slice x.pa c.parents.length x.pc,.slice x.ta c.tags.length x.tc,vS c.user],Bf,SlI x.pa (c.parents.map vS),Bt]) rfl (fun i=>?_) ?_
     ·
      obtain⟨⟨⟨ga,gc⟩,xs⟩,hxs,hxc⟩:=i;dsimp only at hxs hxc ⊢;try dsimp only
      refine Zr (k:=Qv (k:=Vx (Ps [_,_]) (k:=Zv [_] (cs:=[_,_]) (k:=fun b52=>?_))));refine Aao (sz:=2) (bytes:=32) Tryz.underlying99 Abm rfl rfl rfl rfl rfl rfl rfl (by rfl) (by rfl) (by omega) (by simp only[maxLen];omega) rfl (fun a53 c53=>?_);refine Vv (k:=Wn (Yb (Ya (Zr (k:=Qv (k:=Wn ?_))))));exact AjL
     ·
      refine Qc (k:=Qx 1 9 (k:=Vv (k:=Wq (Zi (t:=fun h43=>?_) (f:=fun h43=>?_)))))
      ·
       refine Zr (k:=Vv (k:=Qx 1 9 (k:=Zv [_] (cs:=[_]) (k:=fun b47=>?_))));refine wo_ent' (AbF (k:=1) (cap:=1) (sz:=1) (e:=9) (g:=b40) (xs:=[vS f.1]) (cur:=[vS f.1]) (Nat.le_refl _) (by simp[maxLen]) rfl rfl rfl) ?_;refine Aao (sz:=1) (bytes:=16) Tryz.underlying27 ti9 rfl rfl rfl rfl rfl rfl rfl (by rfl) (by rfl) (by omega) (by simp only[maxLen];omega) rfl (fun a48 c48=>?_);refine AeK (A:=Row 9 1 (.slice a48 (1+1) c48) (1+1) ([vS f.1]++[vS f.2])) HasC.get AbH (fun hk48=>?_);refine Aej a48 ?_;rw[show ([vS f.1]++[vS f.2])=([f.1,f.2]:List Bs).map vS from rfl];refine Vv (k:=Wn ?_);exact Ae3
      ·
       refine Ad4 b40 ?_;rw[show [vS f.1]=([f.1]:List Bs).map vS from rfl];refine Zk (k:=?_);exact Ae3
    ·
     refine Ze (k:=Xa (Xi (Xb (Ya ?_))));refine Abg (fun (i:{ y:(Option Addr×Nat)×List CdV // Aa3 y.2=AbK c })=>[(1,.pointer (some ⟨b1,0,none⟩)),(3,.slice i.1.1.1 i.1.2.length i.1.1.2)]) (fun (i:{ y:(Option Addr×Nat)×List CdV // Aa3 y.2=AbK c })=>[Row 101 2 (.slice i.1.1.1 i.1.2.length i.1.1.2) i.1.2.length (i.1.2.flatMap CdV.cells),CdM i.1.2,Ce b1 30 [vS c.base,vS c.comment,vI c.date,.slice x.fa c.files.length x.fc,.slice x.pa c.parents.length x.pc,.slice x.ta c.tags.length x.tc,vS c.user],Bf,SlI x.pa (c.parents.map vS),Bt]) rfl (fun i=>?_) ?_
     ·
      obtain⟨⟨⟨ga,gc⟩,gs⟩,hgs⟩:=i;dsimp only at hgs ⊢;have hgl:=AcA hgs;have hhl:(AbK c).length=(Abe c.base).length+2+c.files.length+(AbC c.parents).length:=by simp[AbK];omega
      try dsimp only
      refine Qc (k:=Vv (k:=Qx 5 28 (k:=?_)));refine Aaq hTC rfl rfl rfl (fun x68 hx68=>?_);obtain⟨⟨ta,tc⟩,tqs⟩:=x68;dsimp only[Ae0,AgU] at hx68 ⊢;have htq:=AcA hx68;rw[List.length_map] at htq;refine Ag2 (sz:=2) (bytes:=32) Tryz.underlying99 Abm rfl rfl rfl rfl rfl rfl rfl (Ac2 tqs) (AcN tqs) (by omega) (by simp only[maxLen];omega) rfl (fun a69 c69=>?_);refine Vv (k:=Wq (Qc (k:=Vv (k:=Qx 6 9 (k:=Zv [_] (cs:=[_]) (k:=fun b73=>Vx (Ps [_,_]) (k:=Zv [_] (cs:=[_,_]) (k:=fun b75=>?_))))))));refine Aao (sz:=2) (bytes:=32) Tryz.underlying99 Abm rfl rfl rfl rfl rfl rfl rfl (by rfl) (by rfl) (by omega) (by simp only[maxLen];omega) rfl (fun a76 c76=>?_);refine Ac9 b73 ?_;obtain⟨al,hal⟩:∃al:List CdV,al=gs++tqs++[⟨85,some ⟨b73,0,none⟩,1,[c.user]⟩]:=⟨_,rfl⟩
      have halc:Aa3 al=AaG c:=by rw[hal,AaI,AaI,hgs,hx68,AbK,AaG];simp[Aa3,CdV.cd]
      have hall:al.length=gs.length+tqs.length+1:=by rw[hal];simp;omega
      have hxx:gs.flatMap CdV.cells++tqs.flatMap CdV.cells++[vU 85,.slice (some ⟨b73,0,none⟩) 1 1]=al.flatMap CdV.cells:=by rw[hal];simp[CdV.cells]
      have hPr:=Ac3 (B:=Row 101 2 (.slice a76 (gs.length+tqs.length+1) c76) (gs.length+tqs.length+1) (gs.flatMap CdV.cells++tqs.flatMap CdV.cells++[vU 85,.slice (some ⟨b73,0,none⟩) 1 1])) (a:=a76) (gs.length+tqs.length+1) c76 al (by rw[←hxx];exact AaC) hall (by rw[halc];omega);rw[halc] at hPr;refine wo_ent' (AbY (qs:=gs) (rs:=tqs) HasC.get HasC.get) ?_;refine wo_ent' (Ab2 (qs:=gs++tqs) (a:=some ⟨b73,0,none⟩) (c:=1) 85 [c.user] [vS c.user] HasC.get HasC.get rfl (Nat.le_refl _)) ?_;rw[←hal];refine Aaa hPr rfl rfl rfl ?_;refine Vv (k:=Wq (Zt (k:=?_)));exact AjK
     ·
      refine Za (k:=?_);have hjl:j=c.files.length:=by omega
      subst hjl;rw[List.take_length,hpcd] at hfs;refine Zr (k:=Qx 4 27 (k:=Qv (k:=Wq (Zi (t:=fun h58=>?_) (f:=fun h58=>?_)))))
      ·
       refine Zr (k:=Vv (k:=Qx 4 27 (k:=Vx (Ps [_,_]) (k:=Zv [_] (cs:=[_,_]) (k:=fun b63=>?_)))));refine Aao (sz:=2) (bytes:=32) Tryz.underlying99 Abm rfl rfl rfl rfl rfl rfl rfl (by rfl) (by rfl) (by omega) (by simp only[maxLen];omega) rfl (fun a64 c64=>?_);refine Vv (k:=Wn ?_);exact Ae2
      ·
       refine Zk (k:=?_);exact Ae2
   ·
    refine Nl [_] (cs:=[_]) (k:=fun b27=>Di 11 (t:=Ux (Ps [_,_])) (k:=Dn 5 (k:=Nl [_] (cs:=[_]) (k:=fun b22=>Di 6 (t:=Ux (Ps [_,_])) (k:=Dn 12 (k:=Nl [_,_] (cs:=[_,_,_,_]) (k:=fun b29=>Dn 13 (k:=?_))))))));refine AaT (sz:=2) (bytes:=32) Tryz.underlying99 Abm rfl rfl rfl rfl rfl rfl rfl (by rfl) (by rfl) (by omega) (by simp only[maxLen];omega) rfl (fun a30 c30=>?_);refine Dv 14 (k:=Dd (k:=Ya (Za (k:=Za (k:=?_)))));refine Ad4 b22 ?_;refine Ad4 b27 ?_;obtain⟨ps,hps⟩:∃ps:List CdV,ps=qs++[⟨67,some ⟨b22,0,none⟩,1,[46::Abf c.comment]⟩]++[⟨68,some ⟨b27,0,none⟩,1,[AaX c.date.toNat]⟩]:=⟨_,rfl⟩
    have hpcd:Aa3 ps=Abe c.base++[⟨67,[46::Abf c.comment]⟩,⟨68,[AaX c.date.toNat]⟩]:=by rw[hps,AaI,AaI,hcd,List.append_assoc];rfl
    have hpl:ps.length=qs.length+2:=by rw[hps];simp
    have hpf:ps.flatMap CdV.cells=qs.flatMap CdV.cells++[vU ((67:UInt8).toNat:Int),.slice (some ⟨b22,0,none⟩) 1 1,vU ((68:UInt8).toNat:Int),.slice (some ⟨b27,0,none⟩) 1 1]:=by rw[hps];simp[CdV.cells]
    refine Zr (k:=Qx 3 26 (k:=Qv (k:=Wq (Zb (k:=?_)))));refine Aak (fun (i:{ y:((Option Addr×Nat)×List CdV)×Nat // y.2≤c.files.length∧Aa3 y.1.2=Aa3 ps++(c.files.take y.2).map AaL })=>[(1,.pointer (some ⟨b1,0,none⟩)),(3,.slice i.1.1.1.1 i.1.1.2.length i.1.1.1.2),(32,.slice x.fa c.files.length x.fc),(33,vI c.files.length),(34,vI i.1.2)]) (fun (i:{ y:((Option Addr×Nat)×List CdV)×Nat // y.2≤c.files.length∧Aa3 y.1.2=Aa3 ps++(c.files.take y.2).map AaL })=>[Row 101 2 (.slice i.1.1.1.1 i.1.1.2.length i.1.1.1.2) i.1.1.2.length (i.1.1.2.flatMap CdV.cells),CdM i.1.1.2,Ce b1 30 [vS c.base,vS c.comment,vI c.date,.slice x.fa c.files.length x.fc,.slice x.pa c.parents.length x.pc,.slice x.ta c.tags.length x.tc,vS c.user],Bf,SlI x.pa (c.parents.map vS),Bt]) (fun (i:{ y:((Option Addr×Nat)×List CdV)×Nat // y.2≤c.files.length∧Aa3 y.1.2=Aa3 ps++(c.files.take y.2).map AaL })=>c.files.length-i.1.2) rfl (⟨(((a30,c30),ps),0),Nat.zero_le _,by simp⟩) ?_ ?_ (fun i=>?_)
    · exact⟨rfl,Adk hpl.symm,rfl,rfl,rfl,trivial⟩
    ·
     dsimp only;rw[hpl,hpf];refine Ent.trans (Ab2 (qs:=qs) (a:=some ⟨b22,0,none⟩) (c:=1) 67 [46::Abf c.comment] [vS ([46]++Abf c.comment)] HasC.get HasC.get rfl (Nat.le_refl _)) ?_;refine Ent.trans (Ab2 (qs:=qs++[⟨67,some ⟨b22,0,none⟩,1,[46::Abf c.comment]⟩]) (a:=some ⟨b27,0,none⟩) (c:=1) 68 [AaX c.date.toNat] [vS (AaX c.date.toNat)] HasC.get HasC.get rfl (Nat.le_refl _)) ?_;rw[hps];exact Aac (AaW (by rfl) (by rfl)) Aa0
    obtain⟨⟨⟨⟨fa,fc⟩,fs⟩,j⟩,hj,hfs⟩:=i;dsimp only at hj hfs ⊢;have hfl:=AcA hfs;have hpl0:(Aa3 ps).length=ps.length:=by simp[Aa3]
    rw[List.length_append,List.length_map,List.length_take,hpl0] at hfl;try dsimp only
    refine Qc (k:=Vv (k:=Wq (Za (k:=Zi (t:=fun h35=>?_) (f:=fun h35=>?_)))))
    ·
     refine Zk (k:=Ya (Za (k:=Zb (k:=Za (k:=?_)))));have hjl:j<c.files.length:=by omega
     obtain⟨f,hf⟩:∃f,f=c.files[j]:=⟨_,rfl⟩
     have hfz:=z5 f (by rw[hf];exact List.getElem_mem _);have htk:(c.files.take (j+1)).map AaL=(c.files.take j).map AaL++[AaL f]:=by rw[List.take_succ_eq_append_getElem hjl,List.map_append,hf];rfl
     refine Zr (k:=Ye 2 (k:=?_));refine Abb (vs:=[_,_]) (sz:=2) Tryz.underlying25 rfl AfU rfl rfl (by rw[Aaj (sz:=2) (fun _=>rfl)];omega) rfl (by refine Ab1 (fun x=>?_) ?_<;>first | rfl | omega) rfl ?_;rw[←hf];refine Zc [vS [],vS []] (k:=fun b5=>Zp (k:=Wq (Qc (k:=Qx 0 9 (k:=Zv [_] (cs:=[_]) (k:=fun b40=>Vv (k:=Wq ?_)))))));refine Abg (fun (i:{ y:(Option Addr×Nat)×List Bs // y.2=(AaL f).args∧y.2.length≤y.1.2 })=>[(1,.pointer (some ⟨b1,0,none⟩)),(3,.slice fa fs.length fc),(6,.slice i.1.1.1 i.1.2.length i.1.1.2),(32,.slice x.fa c.files.length x.fc),(33,vI c.files.length),(34,vI j)]) (fun (i:{ y:(Option Addr×Nat)×List Bs // y.2=(AaL f).args∧y.2.length≤y.1.2 })=>[SlI i.1.1.1 (i.1.2.map vS),Row 101 2 (.slice fa fs.length fc) fs.length (fs.flatMap CdV.cells),CdM fs,Ce b1 30 [vS c.base,vS c.comment,vI c.date,.slice x.fa c.files.length x.fc,.slice x.pa c.parents.length x.pc,.slice x.ta c.tags.length x.tc,vS c.user],Bf,SlI x.pa (c.parents.map vS),Bt]) rfl (fun i=>?_) ?_
     ·
      obtain⟨⟨⟨ga,gc⟩,xs⟩,hxs,hxc⟩:=i;dsimp only at hxs hxc ⊢;try dsimp only
      refine Zr (k:=Qv (k:=Vx (Ps [_,_]) (k:=Zv [_] (cs:=[_,_]) (k:=fun b52=>?_))));refine Aao (sz:=2) (bytes:=32) Tryz.underlying99 Abm rfl rfl rfl rfl rfl rfl rfl (by rfl) (by rfl) (by omega) (by simp only[maxLen];omega) rfl (fun a53 c53=>?_);refine Vv (k:=Wn (Yb (Ya (Zr (k:=Qv (k:=Wn ?_))))));exact AjL
     ·
      refine Qc (k:=Qx 1 9 (k:=Vv (k:=Wq (Zi (t:=fun h43=>?_) (f:=fun h43=>?_)))))
      ·
       refine Zr (k:=Vv (k:=Qx 1 9 (k:=Zv [_] (cs:=[_]) (k:=fun b47=>?_))));refine wo_ent' (AbF (k:=1) (cap:=1) (sz:=1) (e:=9) (g:=b40) (xs:=[vS f.1]) (cur:=[vS f.1]) (Nat.le_refl _) (by simp[maxLen]) rfl rfl rfl) ?_;refine Aao (sz:=1) (bytes:=16) Tryz.underlying27 ti9 rfl rfl rfl rfl rfl rfl rfl (by rfl) (by rfl) (by omega) (by simp only[maxLen];omega) rfl (fun a48 c48=>?_);refine AeK (A:=Row 9 1 (.slice a48 (1+1) c48) (1+1) ([vS f.1]++[vS f.2])) HasC.get AbH (fun hk48=>?_);refine Aej a48 ?_;rw[show ([vS f.1]++[vS f.2])=([f.1,f.2]:List Bs).map vS from rfl];refine Vv (k:=Wn ?_);exact Ae3
      ·
       refine Ad4 b40 ?_;rw[show [vS f.1]=([f.1]:List Bs).map vS from rfl];refine Zk (k:=?_);exact Ae3
    ·
     refine Ze (k:=Xa (Xi (Xb (Ya ?_))));refine Abg (fun (i:{ y:(Option Addr×Nat)×List CdV // Aa3 y.2=AbK c })=>[(1,.pointer (some ⟨b1,0,none⟩)),(3,.slice i.1.1.1 i.1.2.length i.1.1.2)]) (fun (i:{ y:(Option Addr×Nat)×List CdV // Aa3 y.2=AbK c })=>[Row 101 2 (.slice i.1.1.1 i.1.2.length i.1.1.2) i.1.2.length (i.1.2.flatMap CdV.cells),CdM i.1.2,Ce b1 30 [vS c.base,vS c.comment,vI c.date,.slice x.fa c.files.length x.fc,.slice x.pa c.parents.length x.pc,.slice x.ta c.tags.length x.tc,vS c.user],Bf,SlI x.pa (c.parents.map vS),Bt]) rfl (fun i=>?_) ?_
     ·
      obtain⟨⟨⟨ga,gc⟩,gs⟩,hgs⟩:=i;dsimp only at hgs ⊢;have hgl:=AcA hgs;have hhl:(AbK c).length=(Abe c.base).length+2+c.files.length+(AbC c.parents).length:=by simp[AbK];omega
      try dsimp only
      refine Qc (k:=Vv (k:=Qx 5 28 (k:=?_)));refine Aaq hTC rfl rfl rfl (fun x68 hx68=>?_);obtain⟨⟨ta,tc⟩,tqs⟩:=x68;dsimp only[Ae0,AgU] at hx68 ⊢;have htq:=AcA hx68;rw[List.length_map] at htq;refine Ag2 (sz:=2) (bytes:=32) Tryz.underlying99 Abm rfl rfl rfl rfl rfl rfl rfl (Ac2 tqs) (AcN tqs) (by omega) (by simp only[maxLen];omega) rfl (fun a69 c69=>?_);refine Vv (k:=Wq (Qc (k:=Vv (k:=Qx 6 9 (k:=Zv [_] (cs:=[_]) (k:=fun b73=>Vx (Ps [_,_]) (k:=Zv [_] (cs:=[_,_]) (k:=fun b75=>?_))))))));refine Aao (sz:=2) (bytes:=32) Tryz.underlying99 Abm rfl rfl rfl rfl rfl rfl rfl (by rfl) (by rfl) (by omega) (by simp only[maxLen];omega) rfl (fun a76 c76=>?_);refine Ac9 b73 ?_;obtain⟨al,hal⟩:∃al:List CdV,al=gs++tqs++[⟨85,some ⟨b73,0,none⟩,1,[c.user]⟩]:=⟨_,rfl⟩
      have halc:Aa3 al=AaG c:=by rw[hal,AaI,AaI,hgs,hx68,AbK,AaG];simp[Aa3,CdV.cd]
      have hall:al.length=gs.length+tqs.length+1:=by rw[hal];simp;omega
      have hxx:gs.flatMap CdV.cells++tqs.flatMap CdV.cells++[vU 85,.slice (some ⟨b73,0,none⟩) 1 1]=al.flatMap CdV.cells:=by rw[hal];simp[CdV.cells]
      have hPr:=Ac3 (B:=Row 101 2 (.slice a76 (gs.length+tqs.length+1) c76) (gs.length+tqs.length+1) (gs.flatMap CdV.cells++tqs.flatMap CdV.cells++[vU 85,.slice (some ⟨b73,0,none⟩) 1 1])) (a:=a76) (gs.length+tqs.length+1) c76 al (by rw[←hxx];exact AaC) hall (by rw[halc];omega);rw[halc] at hPr;refine wo_ent' (AbY (qs:=gs) (rs:=tqs) HasC.get HasC.get) ?_;refine wo_ent' (Ab2 (qs:=gs++tqs) (a:=some ⟨b73,0,none⟩) (c:=1) 85 [c.user] [vS c.user] HasC.get HasC.get rfl (Nat.le_refl _)) ?_;rw[←hal];refine Aaa hPr rfl rfl rfl ?_;refine Vv (k:=Wq (Zt (k:=?_)));exact AjK
     ·
      refine Za (k:=?_);have hjl:j=c.files.length:=by omega
      subst hjl;rw[List.take_length,hpcd] at hfs;refine Zr (k:=Qx 4 27 (k:=Qv (k:=Wq (Zi (t:=fun h58=>?_) (f:=fun h58=>?_)))))
      ·
       refine Zr (k:=Vv (k:=Qx 4 27 (k:=Vx (Ps [_,_]) (k:=Zv [_] (cs:=[_,_]) (k:=fun b63=>?_)))));refine Aao (sz:=2) (bytes:=32) Tryz.underlying99 Abm rfl rfl rfl rfl rfl rfl rfl (by rfl) (by rfl) (by omega) (by simp only[maxLen];omega) rfl (fun a64 c64=>?_);refine Vv (k:=Wn ?_);exact Ae2
      ·
       refine Zk (k:=?_);exact Ae2
 ·
  refine Za (k:=?_);refine wc_ent' (AaS (e:=101) (sz:=2)) ?_;refine Zr (k:=Qx 0 9 (k:=Vv (k:=Wq (Zi (t:=fun h9=>?_) (f:=fun h9=>?_)))))
  ·
   refine Zr (k:=Vv (k:=Qx 0 9 (k:=Zv [_] (cs:=[_]) (k:=fun b13=>Vx (Ps [_,_]) (k:=Zv [_] (cs:=[_,_]) (k:=fun b15=>?_))))));refine Aao (sz:=2) (bytes:=32) Tryz.underlying99 Abm rfl rfl rfl rfl rfl rfl rfl (by rfl) (by rfl) (by omega) (by simp only[maxLen];omega) rfl (fun a16 c16=>?_);refine Ac9 b13 ?_;refine Vv (k:=Wn ?_);exact Anq
  ·
   refine Zk (k:=?_);exact Anq
end
section
set_option maxRecDepth 100000
theorem AkI (x:UInt8) (qs:List CdV) {j:Nat} (h:j<qs.length):Aa8 x (Aa3 (qs.take (j+1)))=Aa8 x (Aa3 (qs.take j))++if qs[j].l=x then [qs[j].args] else []:=by
 rw[List.take_succ_eq_append_getElem h,AaI];simp only[Aa8,Aa3,List.filter_append,List.map_append,List.map_cons,List.map_nil];congr 1;by_cases e:qs[j].l=x
 · simp[CdV.cd,e]
 · simp[CdV.cd,e]
theorem Ass {l:List (List Bs)} {ts:List Tg} (h:AaK l=some ts):ts.length=l.length:=by
 induction l generalizing ts with
 | nil=>cases h;rfl
 | cons x l ih =>
   simp only[AaK] at h;split at h
   · cases h
   · cases e:AaK l with
     | none=>rw[e] at h;cases h
     | some us=>rw[e] at h;cases h;simp[ih e]
theorem An0 (x:UInt8) (l:List Cd):(Aa8 x l).length≤l.length:=by
 simp only[Aa8,List.length_map];exact List.length_filter_le _ _
theorem Aov {qs:List CdV} {j:Nat} (h:j<qs.length) (hl:qs[j].l=84) (hb:Aj8 qs[j].args=none):AaK (Aa8 84 (Aa3 qs))=none:=by
 have e:qs=qs.take (j+1)++qs.drop (j+1):=(List.take_append_drop _ _).symm;rw[e,AaI];have:Aa8 84 (Aa3 (qs.take (j+1))++Aa3 (qs.drop (j+1)))=Aa8 84 (Aa3 (qs.take j))++qs[j].args::Aa8 84 (Aa3 (qs.drop (j+1))):=by
  rw[show Aa8 84 (Aa3 (qs.take (j+1))++Aa3 (qs.drop (j+1)))=Aa8 84 (Aa3 (qs.take (j+1)))++Aa8 84 (Aa3 (qs.drop (j+1))) from by simp[Aa8],AkI 84 qs h,if_pos hl]
  simp
 rw[this];exact AnG hb
theorem AjG {G:Prop} (h:G:=by
    first
    | (have hn84:ql≠84:=fun e=>h18 (by rw[e];rfl)
       rw[if_neg hn84,List.append_nil] at hat;exact Aa5 ⟨(((ta,tc),ts),j+1),by dsimp only;omega,by dsimp only;rw[hat];exact hts⟩ (by dsimp only;omega) ⟨rfl,rfl,rfl,rfl,trivial⟩ Aa0)
    | (have hg:=AiG hts htg
       rw[←hat] at hg;have hql2:∀t:Tg,(ts++[t]).length=ts.length+1:=fun t=>by simp
       refine Aa5 ⟨(((a71,c71),_),j+1),by dsimp only;omega,hg⟩ (by dsimp only;omega) ⟨Adk (hql2 _).symm,rfl,rfl,rfl,trivial⟩ ?_;dsimp only;rw[hql2];exact Aac (AaW (by rfl) (by simp[Aab])) Aa0)):G:=h
theorem Ali {G:Prop} (h:G:=by
    have hb:AaK (Aa8 84 (Aa3 qs))=none:=hbadat hl84 (by rw[htg,if_pos (by omega)]);rw[hb];refine Aa2 ((none,0),[]) (vs:=[_,_]) (Cs:=[]) rfl (.tmp rfl (.tmp rfl .nil)) rfl rfl ?_;exact(AaS (e:=60) (sz:=4)).trans (show Ent _ [Row 60 4 (.slice none 0 0) 0 [],B] from Aa0)):G:=h
set_option maxHeartbeats 2000000 in
theorem Ag0 {B:HP} {a:Option Addr} (n cap:Nat) (qs:List CdV) (sh:SlA B a (qs.flatMap CdV.cells)) (hn:qs.length=n) (hz:(Aav (Aa3 qs)).length≤1073741824) :
    Sp Tryz.prog 68 [.slice a n cap] [B,CdM qs] (X:=(Option Addr×Nat)×List Tg) (fun x=>.tuple #[Aom x,vB (AaK (Aa8 84 (Aa3 qs))).isSome]) (fun x=>x.2=(AaK (Aa8 84 (Aa3 qs))).getD []) (fun x=>[Aon x,B]):=by
 subst hn;obtain⟨hqn,hqz⟩:=AcO hz;haveI:Abu a (qs.flatMap CdV.cells) [B,CdM qs]:=⟨⟨B,sh,.here⟩⟩
 refine Sp.body (n:=74) Tryz.call68 Tryz.func68 rfl rfl rfl ?_;refine Qc (k:=Qv (k:=Wq (Qc (k:=Vv (k:=Wq (Za (k:=Qc (k:=?_))))))));refine Qv (k:=Vv (k:=Wq (Zb (k:=?_))));refine Aak (fun (i:{ x:((Option Addr×Nat)×List Tg)×Nat // x.2≤qs.length∧AaK (Aa8 84 (Aa3 (qs.take x.2)))=some x.1.2 })=>[(4,.slice i.1.1.1.1 i.1.1.2.length i.1.1.1.2),(10,.slice a qs.length cap),(11,vI qs.length),(12,vI i.1.2)]) (fun (i:{ x:((Option Addr×Nat)×List Tg)×Nat // x.2≤qs.length∧AaK (Aa8 84 (Aa3 (qs.take x.2)))=some x.1.2 })=>[Row 60 4 (.slice i.1.1.1.1 i.1.1.2.length i.1.1.1.2) i.1.1.2.length (i.1.1.2.flatMap Aab),B,CdM qs]) (fun (i:{ x:((Option Addr×Nat)×List Tg)×Nat // x.2≤qs.length∧AaK (Aa8 84 (Aa3 (qs.take x.2)))=some x.1.2 })=>qs.length-i.1.2) rfl (⟨(((none,0),[]),0),Nat.zero_le _,rfl⟩) ?_ ?_ (fun i=>?_)
 · exact⟨rfl,rfl,rfl,rfl,trivial⟩
 ·
  exact(AaS (e:=60) (sz:=4)).trans (show Ent _ [Row 60 4 (.slice none 0 0) 0 [],B,CdM qs] from Aa0)
 obtain⟨⟨⟨⟨ta,tc⟩,ts⟩,j⟩,hj,hts⟩:=i;dsimp only at hj hts ⊢;have htl:=Ass hts;have htl2:=An0 84 (Aa3 (qs.take j));have htl3:(Aa3 (qs.take j)).length≤qs.length:=by simp[Aa3];omega
 try dsimp only
 refine Qc (k:=Vv (k:=Wq (Za (k:=Zi (t:=fun h13=>?_) (f:=fun h13=>?_)))))
 ·
  refine Zk (k:=Ya (Za (k:=Zb (k:=Za (k:=?_)))));have hjl:j<qs.length:=by omega
  have hat:=AkI 84 qs hjl;obtain⟨q,hq⟩:∃q,q=qs[j]:=⟨_,rfl⟩
  have hqm:q∈qs:=by rw[hq];exact List.getElem_mem _
  have hqzz:=hqz q hqm;have hbadat:=fun h1 h2=>Aov (qs:=qs) (j:=j) hjl h1 h2;rw[←hq] at hat hbadat;refine wc_ent' (Aea hqm HasC.get) ?_;refine Zr (k:=Ye 2 (k:=?_));refine Abb (vs:=[_,_]) (sz:=2) Tryz.underlying101 rfl Abm rfl rfl (by rw[Aaj (sz:=2) (fun _=>rfl)];omega) rfl (by refine Ab1 (fun x=>?_) ?_<;>first | rfl | omega) rfl ?_;refine Zc [.int .u8 0,.slice none 0 0] (k:=fun b6=>Zp (k:=?_));rw[←hq];obtain⟨ql,qa,qc,xs⟩:=q;dsimp only at hqzz hqm hat hbadat ⊢;have htg:Aj8 xs=if xs.length<2∨3<xs.length∨(xs.getD 0 []).length<2 then none else if xs.length=3 then (AaB (xs.getD 2 [])).map (fun v=>⟨(xs.getD 0 []).getD 0 0,(xs.getD 0 []).drop 1,xs.getD 1 [],v⟩) else some ⟨(xs.getD 0 []).getD 0 0,(xs.getD 0 []).drop 1,xs.getD 1 [],[]⟩:=rfl
  have hx0:∀i,i<xs.length→(xs.getD i []).length≤1073741824:=by
   intro i hi;have h1:=AdL xs;have h2:=AeX (l:=xs) hi;have h3:=Agr (l:=xs) (j:=i+1);omega
  refine Wq (Za (k:=Qc (k:=Qx 0 5 (k:=Vv (k:=Wq (Zi (t:=fun h18=>?_) (f:=fun h18=>?_)))))))
  ·
   refine Ze (k:=Xa (Xb (Ya (Zr (k:=Qv (k:=Wn ?_))))));exact AjG
  ·
   have hl84:ql=84:=by rw[←UInt8.toNat_inj];have h1:=Classical.not_not.1 h18;have h2:(84:UInt8).toNat=84:=rfl;omega
   rw[if_pos hl84] at hat;refine Zk (k:=Ya (Za (k:=Qc (k:=Qx 1 27 (k:=Qv (k:=Vv (k:=Gi 4 (t:=fun h23=>?_) (f:=fun h23=>?_))))))))
   ·
    refine O1 (k:=O1 (k:=O1 (k:=O1 (k:=P1 (k:=Vv (k:=O1 (k:=O1 (k:=O1 (k:=O1 (k:=O1 (k:=O1 (k:=?_))))))))))));refine P1 (k:=Wq (Z1 (k:=Qc (k:=Qv (k:=Wq (Zt (k:=Va (Vb (Va ?_)))))))));refine Vi (Vb (Va ?_));exact Ali
   ·
    refine I0 (k:=Vf 1 27 (k:=I0 (k:=Zd (k:=J0 (k:=J0 (k:=P0 (k:=Vv (k:=Gi 10 (t:=fun h29=>?_) (f:=fun h29=>?_)))))))))
    ·
     refine O1 (k:=O1 (k:=O1 (k:=O1 (k:=O1 (k:=O1 (k:=P1 (k:=Wq (Z1 (k:=Qc (k:=Vv (k:=?_)))))))))));refine Vv (k:=Wq (Zt (k:=Va (Vb (Va (Vi (Vb (Va ?_))))))));exact Ali
    ·
     refine I0 (k:=Vf 1 27 (k:=I0 (k:=Zd (k:=I0 (k:=Ye 1 (m:=0) (k:=I0 (k:=Yl (hv:=by exact Aa4 [] (m:=0) (by omega)) (k:=J0 (k:=J0 (k:=?_))))))))));refine P0 (k:=Wq (Zi (t:=fun h36=>?_) (f:=fun h36=>?_)))
     ·
      refine Qc (k:=Qv (k:=Wq (Zt (k:=Va (Vb (Va (Vi (Vb (Va ?_)))))))));exact Ali
     ·
      refine Zk (k:=Ya (Za (k:=?_)));have hx00:=hx0 0 (by omega);rw[if_neg (by omega)] at htg;refine Dw [Ce b6 101 [vU (ql.toNat:Int),.slice qa xs.length qc],SlI qa (xs.map vS)] (k:=?_);refine Di 0 (t:=Uf 1 27) (k:=Di 1 (t:=Ul) (k:=?_));refine Aa1 2 rfl rfl rfl (by kernel_rfl) (by kernel_rfl) (Aae (m:=0) (sz:=1) Tryz.underlying27 ti9 rfl rfl rfl rfl (by omega) (by first | (rw[List.length_map];omega) | (rw[Aaj (sz:=1) (fun _=>rfl)];omega) | (simp;omega)) (Nat.mul_one _)) ?_;refine Aa1 3 rfl rfl rfl (by kernel_rfl) (by kernel_rfl) (Aas Tryz.underlying9 rfl rfl (Aa4 [] (m:=0) (by omega))) ?_;refine Aa1 4 rfl rfl rfl (by kernel_rfl) (by kernel_rfl) (Aat (Abt (m:=0) Tryz.underlying9 rfl rfl rfl (by omega))) ?_;refine Di 5 (t:=Uf 1 27) (k:=Di 6 (t:=Ul) (k:=?_));refine Aa1 7 rfl rfl rfl (by kernel_rfl) (by kernel_rfl) (Aae (m:=0) (sz:=1) Tryz.underlying27 ti9 rfl rfl rfl rfl (by omega) (by first | (rw[List.length_map];omega) | (rw[Aaj (sz:=1) (fun _=>rfl)];omega) | (simp;omega)) (Nat.mul_one _)) ?_;refine Aa1 8 rfl rfl rfl (by kernel_rfl) (by kernel_rfl) (Aas Tryz.underlying9 rfl rfl (Aa4 [] (m:=0) (by omega))) ?_;refine Aa1 9 rfl rfl rfl (by kernel_rfl) (by kernel_rfl) (Aat (Ac5 (m:=1) Tryz.underlying9 rfl rfl rfl (by omega))) ?_;refine Di 10 (t:=Uf 1 27) (k:=Di 11 (t:=Ul) (k:=?_))
      refine Aa1 12 rfl rfl rfl (by kernel_rfl) (by kernel_rfl) (Aae (m:=1) (sz:=1) Tryz.underlying27 ti9 rfl rfl rfl rfl (by omega) (by first | (rw[List.length_map];omega) | (rw[Aaj (sz:=1) (fun _=>rfl)];omega) | (simp;omega)) (Nat.mul_one _)) ?_;refine Aa1 13 rfl rfl rfl (by kernel_rfl) (by kernel_rfl) (Aas Tryz.underlying9 rfl rfl (Aa4 [] (m:=1) (by omega))) ?_;refine Di 14 (t:=Ux (Ps [_,_,_,vS []])) (k:=Dn 15 (k:=Nc [.int .u8 0,vS [],vS [],vS []] (k:=fun b7=>Dn 16 (k:=Na (k:=Dd (k:=Ya (Za (k:=Qc (k:=Qx 1 27 (k:=?_))))))))));refine Qv (k:=Wq (Zi (t:=fun h55=>?_) (f:=fun h55=>?_)))
      ·
       refine Za (k:=?_);have hx02:=hx0 2 (by omega);rw[if_pos (by omega)] at htg;refine Zr (k:=Qx 1 27 (k:=Ye 1 (m:=2) (k:=Yl (hv:=by exact Aa4 [] (m:=2) (by omega)) (k:=?_))));refine Aag (Afy (xs.getD 2 []) (by omega)) rfl rfl rfl ?_;refine Vv (k:=?_);refine Aa6 (Aa7 (v:=vS ((AaB (xs.getD 2 [])).getD [])) rfl rfl) rfl ?_;refine Aa6 (Aa7 (v:=vB (AaB (xs.getD 2 [])).isSome) rfl rfl) rfl ?_;refine Qv (k:=Wq (Za (k:=Qc (k:=Qv (k:=Wq (Zi (t:=fun h65=>?_) (f:=fun h65=>?_)))))))
       ·
        refine Qc (k:=Qv (k:=Wq (Zt (k:=Va (Va (Vb (Va (Vi (Vb ?_)))))))));refine Va ?_;have hn:AaB (xs.getD 2 [])=none:=by cases e:AaB (xs.getD 2 []) with
         | none=>rfl
         | some v=>rw[e] at h65;simp at h65
        have hb:AaK (Aa8 84 (Aa3 qs))=none:=hbadat hl84 (by rw[htg,hn];rfl);rw[hb];refine Aa2 ((none,0),[]) (vs:=[_,_]) (Cs:=[]) rfl (.tmp rfl (.tmp rfl .nil)) rfl rfl ?_;exact(AaS (e:=60) (sz:=4)).trans (show Ent _ [Row 60 4 (.slice none 0 0) 0 [],B] from Aa0)
       ·
        refine Zk (k:=Ya ?_);obtain⟨v,hv⟩:∃v,AaB (xs.getD 2 [])=some v:=by cases e:AaB (xs.getD 2 []) with
         | none=>rw[e] at h65;simp at h65
         | some v=>exact⟨v,rfl⟩
        rw[hv,Option.map_some] at htg;rw[hv];refine Zr (k:=Vv (k:=Vf 3 9 (k:=Zo (k:=Wq (Zr (k:=Vv (k:=Zm [_,_,_,_] (k:=Zv [_] (cs:=[_,_,_,_]) (k:=fun b70=>?_)))))))));refine Aao (sz:=4) (bytes:=56) Tryz.underlying28 Adx rfl rfl rfl rfl rfl rfl rfl (by rfl) (by rfl) (by omega) (by simp only[maxLen];omega) rfl (fun a71 c71=>?_);refine Vv (k:=Wn (Yb (Ya (Zr (k:=Qv (k:=Wn ?_))))));exact AjG
      ·
       rw[if_neg (by omega)] at htg;refine Zk (k:=Ya (Zr (k:=Vv (k:=Zm [_,_,_,_] (k:=Zv [_] (cs:=[_,_,_,_]) (k:=fun b70=>?_))))));refine Aao (sz:=4) (bytes:=56) Tryz.underlying28 Adx rfl rfl rfl rfl rfl rfl rfl (by rfl) (by rfl) (by omega) (by simp only[maxLen];omega) rfl (fun a71 c71=>?_);refine Vv (k:=Wn (Yb (Ya (Zr (k:=Qv (k:=Wn ?_))))));exact AjG
 ·
  refine Ze (k:=Xa (Xi (Xb (Ya (Qc (k:=Qv (k:=Vv (k:=Wq (Zt (k:=?_))))))))));have hjl:j=qs.length:=by omega
  subst hjl;rw[List.take_length] at hts;rw[hts];refine Aa2 ((ta,tc),ts) (vs:=[_,_]) (Cs:=[]) rfl (.tmp rfl (.tmp rfl .nil)) rfl rfl ?_;exact Aa0
end
theorem Aje (qs:List CdV) {j:Nat} (h:j<qs.length) (c:Ck):Ab5 (Aa3 (qs.take (j+1))) c=(Ab5 (Aa3 (qs.take j)) c).bind (fun k=>AdG k qs[j].cd):=by
 rw[List.take_succ_eq_append_getElem h,AaI,AcY]
 cases Ab5 (Aa3 (qs.take j)) c with
 | none=>rfl
 | some k =>
   simp only[Option.bind_some,Aa3,List.map_cons,List.map_nil,Ab5]
   cases AdG k qs[j].cd<;>rfl
theorem ApC (qs:List CdV) {j:Nat} (h:j<qs.length) {c k:Ck} (h1:Ab5 (Aa3 (qs.take j)) c=some k) (h2:AdG k qs[j].cd=none):Ab5 (Aa3 qs) c=none:=by
 have e:Aa3 qs=Aa3 (qs.take (j+1))++Aa3 (qs.drop (j+1)):=by rw[←AaI,List.take_append_drop]
 rw[e,AcY,Aje qs h,h1,Option.bind_some,h2];rfl
theorem AqS {s:Bs} {l:List Cd} (h:Abv s=some l) (h2:AlN l=none):AaD s=none:=Acb fun c hc=>by
 have e:=hc.reads.uniq (readC_iff.1 h);rw[←e,Aku hc.1] at h2;cases h2
theorem Av5 {s:Bs} {l:List Cd} {c:Ck} (h:Abv s=some l) (h2:AlN l=some c) (h3:¬(AbD c∧ckB c=s)):AaD s=none:=Acb fun k hc=>by
 have e:=hc.reads.uniq (readC_iff.1 h);rw[←e,Aku hc.1] at h2;cases h2;exact h3 hc
theorem Akx {s:Bs} {qs:List CdV} (h:Abv s=some (Aa3 qs)):∀q∈qs,∀a∈q.args,a≠[]:=by
 intro q hq a ha e;obtain⟨hr,_⟩:=readC_iff.1 h;obtain⟨j,hj,rfl⟩:=List.getElem_of_mem hq;have:=(hr.ok j (by simpa [Aa3] using hj)).args a (by rw[Adq hj];exact ha);exact this.1 e
structure CkY (N:Nat) (c:Ck):Prop where
 base:c.base.length≤1073741824
 comment:c.comment.length≤1073741824
 user:c.user.length≤1073741824
 fn:c.files.length≤N
 fz:∀f∈c.files,f.1.length≤1073741824∧f.2.length≤1073741824
 pn:c.parents.length≤1073741824
 pz:∀p∈c.parents,p.length≤1073741824
 tags:TgZ c.tags
theorem CkY.ckZ {N:Nat} {c:Ck} (h:CkY N c) (hN:N≤1073741824):CkZ c:=by
 obtain⟨a1,a2,a3,a4,a5,a6,a7,a8⟩:=h;exact⟨by omega,by omega,by omega,by omega,fun f hf=>by have:=a5 f hf;omega,a6,fun p hp=>by have:=a7 p hp;omega,a8⟩
theorem CkY.step {N:Nat} {c c':Ck} {x:Cd} (h:CkY N c) (hx:x.args.length≤1073741824) (hz:∀a∈x.args,a.length≤1073741824) (e:AdG c x=some c'):CkY (N+1) c':=by
 obtain⟨a1,a2,a3,a4,a5,a6,a7,a8⟩:=h;have hd:∀i,(x.args.getD i []).length≤1073741824:=fun i=>by
  by_cases hi:i<x.args.length
  · exact hz _ (by simp[hi])
  · simp[hi]
 unfold AdG at e;split at e
 · cases e;exact⟨hd 0,a2,a3,by dsimp only;omega,a5,a6,a7,a8⟩
 split at e
 · cases u:AaB ((x.args.getD 0 []).drop 1) with
   | none=>rw[u] at e;cases e
   | some t =>
     rw[u] at e;cases e;have h1:=Aiz u;have h2:=hd 0;rw[List.length_drop] at h1;exact⟨a1,by dsimp only;omega,a3,by dsimp only;omega,a5,a6,a7,a8⟩
 split at e
 · cases e;exact⟨a1,a2,a3,by dsimp only;omega,a5,a6,a7,a8⟩
 split at e
 · cases e
   refine⟨a1,a2,a3,by dsimp only;rw[List.length_append];simp only[List.length_cons,List.length_nil];omega,?_,a6,a7,a8⟩;intro f hf;rcases List.mem_append.1 hf with hf | hf
   · exact a5 f hf
   · rw[List.mem_singleton.1 hf];exact⟨hd 0,Nat.zero_le _⟩
 split at e
 · cases e
   refine⟨a1,a2,a3,by dsimp only;rw[List.length_append];simp only[List.length_cons,List.length_nil];omega,?_,a6,a7,a8⟩;intro f hf;rcases List.mem_append.1 hf with hf | hf
   · exact a5 f hf
   · rw[List.mem_singleton.1 hf];exact⟨hd 0,hd 1⟩
 split at e
 · cases e;exact⟨a1,a2,a3,by dsimp only;omega,a5,hx,hz,a8⟩
 split at e
 · cases e;exact⟨a1,a2,a3,by omega,a5,a6,a7,a8⟩
 split at e
 · cases e;exact⟨a1,a2,hd 0,by dsimp only;omega,a5,a6,a7,a8⟩
 · cases e
end Go.Proofs.YtdnoacgopfcpbaaGreat
