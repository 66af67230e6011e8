/- Texts of this proof, put together: SKeep4, PKind, PCtl, KaV. -/
import Derived.Test.YtdnoacgopfcpbaaGreatQ28
set_option linter.unusedVariables false
set_option linter.unusedSimpArgs false
namespace Go.Proofs.YtdnoacgopfcpbaaGreat
section
set_option maxRecDepth 100000
theorem Sp.frzOut {P:Program} {f:FuncId} {args:List Value} {As:List HP} {X:Type} {val:X→Value} {φ:X→Prop} {e sz:Nat} {a:X→Option Addr} {xs:X→List Value} {n' c' k:X→Nat} {R:X→List HP}
    (sp:Sp P f args As val φ (fun x=>Row e sz (.slice (a x) (n' x) (c' x)) (k x) (xs x)::R x)):Sp P f args As val φ (fun x=>SlI (a x) (xs x)::R x):=by
 refine⟨sp.enters,fun w M h hf d t s=>(sp.calls w M h hf d t s).mono ?_⟩;rintro ee w' ⟨x,M',h',e1,p,le,dj,t',s'⟩;obtain⟨h1,h2,d12,e2,hb,s2⟩:=s';subst e2;obtain⟨d1,d2⟩:=Res.dj_add_left.1 dj;have eq:(h1.add h2).add hf=h1.add (h2.add hf):=by simp only[Res.add_assoc]
 obtain⟨M2,le2,hi,t2⟩:=AiF hb (Res.dj_add_right.2 ⟨d12,d1⟩) (eq▸t');exact⟨x,M2,h2,e1,p,Kn.le_trans le le2,d2,t2,Res.emp,h2,Res.emp_dj _,rfl,hi,SL.mono le2 s2⟩
theorem Agn {G:Prop} (h:G:=by
    first
    | exact Aa5 ⟨(((oa,oc),fs),j+1),by dsimp only;omega,hK.more⟩ (by dsimp only;omega) ⟨rfl,rfl,rfl,rfl,rfl,rfl,trivial⟩ Aa0
    | (have hsn:=hK.snoc (t:=(w,h)) hj6 (by omega) hh hw
       have hql2:(fs++[((w,h):Bs×Bs)]).length=fs.length+1:=by simp
       refine Aa5 ⟨(((a91,c91),fs++[(w,h)]),j+1),by dsimp only;omega,hsn⟩ (by dsimp only;omega) ⟨rfl,rfl,rfl,rfl,rfl,rfl,trivial⟩ ?_;dsimp only;rw[hql2];exact Aac (AaW (by rfl) (by rw[AbU];rfl)) Aa0)):G:=h
theorem AgZ {G:Prop} (h:G:=by
    first
    | exact Aa5 ⟨Abx (IntKind.i64.wrap ((files.getD j 0).tdiv 2)),.inl ⟨_,rfl⟩⟩ trivial ⟨rfl,rfl,rfl,rfl,rfl,rfl,rfl,trivial⟩ Aa0
    | exact Aa5 ⟨[],.inr ⟨decide_eq_false h77,rfl⟩⟩ trivial ⟨rfl,rfl,rfl,rfl,rfl,rfl,rfl,trivial⟩ Aa0):G:=h
theorem Aix {G:Prop} (h:G:=by
    first
    | exact Aa5 ⟨(((qa,qc),ps),m+1),by dsimp only;omega,by dsimp only;omega,hpc,⟨by have:=hP.len;dsimp only;omega,hP.all,hP.two⟩⟩ (by dsimp only;omega) ⟨rfl,rfl,rfl,rfl,trivial⟩ Aa0
    | (have hsn:=hP.snoc (p:=Abx (pars.getD m 0)) (by omega) ⟨_,rfl⟩ (by first | exact .inl (List.eq_nil_of_length_eq_zero (by omega)) | exact .inr (by assumption))
       have hql2:(ps++[Abx (pars.getD m 0)]).length=ps.length+1:=by simp
       refine Aa5 ⟨(((a127,c127),ps++[Abx (pars.getD m 0)]),m+1),by dsimp only;omega,by dsimp only;omega,by dsimp only;rw[hql2];exact hcap127,hsn⟩ (by dsimp only;omega) ⟨rfl,rfl,rfl,rfl,trivial⟩ ?_;dsimp only;rw[hql2];exact Aac (AaW (by rfl) (by simp)) Aa0)):G:=h
theorem Apa {G:Prop} (h:G:=by exact Aa2 (⟨oa,oc,qa,qc,oa2,oc2⟩,⟨bs,(AdD tb text).take 12,Aar d 0 9,fs,ps,ts,usersL.getD ui []⟩) (vs:=[_]) (Cs:=[Ce b2 30 [vS bs,vS ((AdD tb text).take 12),vI (Aar d 0 9),.slice oa fs.length oc,.slice qa ps.length qc,.slice oa2 ts.length oc2,vS (usersL.getD ui [])]]) rfl (.cell (l:=[vS bs,vS ((AdD tb text).take 12),vI (Aar d 0 9),.slice oa fs.length oc,.slice qa ps.length qc,.slice oa2 ts.length oc2,vS (usersL.getD ui [])]) (us:=[vS bs,vS ((AdD tb text).take 12),vI (Aar d 0 9),.slice oa fs.length oc,.slice qa ps.length qc,.slice oa2 ts.length oc2,vS (usersL.getD ui [])]) rfl (Aax (T:=30)) Tryz.underlying30 rfl AjQ (by exact Nat.le_of_ble_eq_true rfl) rfl .nil) rfl ⟨hKc,hpc,by dsimp only;omega⟩ Aa0):G:=h
theorem Alu {G:Prop} (h:G:=by
    first
    | exact Aa5 ⟨Abx (IntKind.i64.wrap (base.tdiv 4)),.inr ⟨_,rfl⟩⟩ trivial ⟨rfl,rfl,rfl,trivial⟩ Aa0
    | exact Aa5 ⟨[],.inl rfl⟩ trivial ⟨rfl,rfl,rfl,trivial⟩ Aa0):G:=h
theorem Ab8 {G:Prop} (h:G:=by exact Aa5 b3 trivial ⟨rfl,rfl,rfl,trivial⟩ Aa0):G:=h
set_option maxHeartbeats 4000000 in
theorem Ag6 {Bx Bf Bp Bt Bv:HP} {xa fa0 pa0 ta va:Option Addr} (base d u tb:Int) (xc fc0 pc0 tc vc:Nat) (text files pars tags vals:List Int) (hx:text.length≤9223372036854775807) (hf:files.length≤9223372036854775807) (hp:pars.length≤9223372036854775807) (ht:tags.length≤9223372036854775807) (hv:vals.length≤9223372036854775807)
    (shx:SlA Bx xa (text.map vI)) (shf:SlA Bf fa0 (files.map vI)) (shp:SlA Bp pa0 (pars.map vI)) (sht:SlA Bt ta (tags.map vI)) (shv:SlA Bv va (vals.map vI)) :
    Sp Tryz.prog 114 [.agg #[vI base,vI d,vI u,vI tb,.slice xa text.length xc,.slice fa0 files.length fc0,.slice pa0 pars.length pc0,.slice ta tags.length tc,.slice va vals.length vc]] [Bx,Bf,Bp,Bt,Bv] (X:=CkA×Ck) (fun x=>.agg (AaZ x.1 x.2).toArray) (fun x=>KCk x.2∧x.2.parents.length≤x.1.pc∧x.2.parents.length≤pars.length) (fun x=>Row 9 1 (.slice x.1.pa x.2.parents.length x.1.pc) x.2.parents.length (x.2.parents.map vS)::[Row 25 2 (.slice x.1.fa x.2.files.length x.1.fc) x.2.files.length (x.2.files.flatMap AaN),Row 60 4 (.slice x.1.ta x.2.tags.length x.1.tc) x.2.tags.length (x.2.tags.flatMap Aab),Bx,Bf,Bp,Bt,Bv]):=by
 have hTO:=Ahl tc vc tags vals true ht hv sht shv;have hTx:=Ajo xc tb text hx shx;have htl:=AnA tb text;haveI:∀r,Abu fa0 (files.map vI) (Bf::r):=fun r=>⟨⟨Bf,shf,.here⟩⟩
 haveI:∀r,Abu pa0 (pars.map vI) (Bp::r):=fun r=>⟨⟨Bp,shp,.here⟩⟩
 have hw1:=AbA (n:=d) (show (0:Int)≤9 by omega);have hw2:=AbA (n:=u) (show (0:Int)≤1 by omega);obtain⟨ui,hui⟩:∃k:Nat,Aar u 0 1=(k:Int):=⟨(Aar u 0 1).toNat,by omega⟩
 have hu2:ui<2:=by omega
 have hul:usersL.length=2:=rfl;have huo:=Aph ui hu2;have hcom:((AdD tb text).take 12).length≤12:=by rw[List.length_take];omega
 refine Sp.body (n:=136) Tryz.call114 Tryz.func114 rfl rfl rfl ?_;refine Qc (k:=Zx [_,_,_,_,_,_,_,_,_] (k:=fun b1=>Zc [vS [],vS [],.int .i64 0,.slice none 0 0,.slice none 0 0,.slice none 0 0,vS []] (k:=fun b2=>Wq ?_)));refine Abg (fun (b3:Nat)=>[(1,.pointer (some ⟨b1,0,none⟩)),(2,.pointer (some ⟨b2,0,none⟩)),(3,.pointer (some ⟨b3,0,none⟩))]) (fun (b3:Nat)=>[Ce b3 30 [vS [],vS [],vI (Aar d 0 9),.slice none 0 0,.slice none 0 0,.slice none 0 0,vS (usersL.getD ui [])],Ce b2 30 [vS [],vS [],vI 0,.slice none 0 0,.slice none 0 0,.slice none 0 0,vS []],Ce b1 114 [vI base,vI d,vI u,vI tb,.slice xa text.length xc,.slice fa0 files.length fc0,.slice pa0 pars.length pc0,.slice ta tags.length tc,.slice va vals.length vc],Bx,Bf,Bp,Bt,Bv]) rfl (fun b3=>?_) ?_
 ·
  try dsimp only
  refine Qc (k:=Vf 3 112 (k:=Zm [_,_] (k:=?_)));refine Aaa hTx rfl rfl rfl ?_;refine Vv (k:=Wq (Qc (k:=Qv (k:=Qv (k:=?_)))));refine Aa6 (Acd (m:=min (AdD tb text).length 12) Tryz.underlying9 rfl rfl (by omega) (by omega)) rfl ?_;rw[AnB];refine Vf 1 9 (k:=Zo (k:=Wq ?_));refine Abg (fun (bs:{ bs:Bs // bs=[]∨∃n,bs=Abx n })=>[(1,.pointer (some ⟨b1,0,none⟩)),(2,.pointer (some ⟨b2,0,none⟩)),(3,.pointer (some ⟨b3,0,none⟩))]) (fun (bs:{ bs:Bs // bs=[]∨∃n,bs=Abx n })=>[Ce b3 30 [vS bs.1,vS ((AdD tb text).take 12),vI (Aar d 0 9),.slice none 0 0,.slice none 0 0,.slice none 0 0,vS (usersL.getD ui [])],Ce b2 30 [vS [],vS [],vI 0,.slice none 0 0,.slice none 0 0,.slice none 0 0,vS []],Ce b1 114 [vI base,vI d,vI u,vI tb,.slice xa text.length xc,.slice fa0 files.length fc0,.slice pa0 pars.length pc0,.slice ta tags.length tc,.slice va vals.length vc],Bx,Bf,Bp,Bt,Bv]) rfl (fun bs=>?_) ?_
  ·
   obtain⟨bs,hbs⟩:=bs;dsimp only;try dsimp only
   refine Za (k:=Qc (k:=?_));refine Aaq Aii rfl rfl rfl (fun x38 _=>?_);refine Qv (k:=Wq (Zb (k:=?_)));refine Aak (fun (i:{ x:((Option Addr×Nat)×List (Bs×Bs))×Nat // x.2≤6∧KFiles (decide (bs=[])) x.2 x.1.2 })=>[(1,.pointer (some ⟨b1,0,none⟩)),(2,.pointer (some ⟨b2,0,none⟩)),(3,.pointer (some ⟨b3,0,none⟩)),(38,.slice (some ⟨x38,0,none⟩) 6 6),(39,vI 6),(40,vI i.1.2)]) (fun (i:{ x:((Option Addr×Nat)×List (Bs×Bs))×Nat // x.2≤6∧KFiles (decide (bs=[])) x.2 x.1.2 })=>[Row 25 2 (.slice i.1.1.1.1 (i.1.1.2).length i.1.1.1.2) (i.1.1.2).length ((i.1.1.2).flatMap AaN),Ce b3 30 [vS bs,vS ((AdD tb text).take 12),vI (Aar d 0 9),.slice i.1.1.1.1 (i.1.1.2).length i.1.1.1.2,.slice none 0 0,.slice none 0 0,vS (usersL.getD ui [])],Ce x38 9 (wordsL.map vS),Ce b2 30 [vS [],vS [],vI 0,.slice none 0 0,.slice none 0 0,.slice none 0 0,vS []],Ce b1 114 [vI base,vI d,vI u,vI tb,.slice xa text.length xc,.slice fa0 files.length fc0,.slice pa0 pars.length pc0,.slice ta tags.length tc,.slice va vals.length vc],Bx,Bf,Bp,Bt,Bv]) (fun (i:{ x:((Option Addr×Nat)×List (Bs×Bs))×Nat // x.2≤6∧KFiles (decide (bs=[])) x.2 x.1.2 })=>6-i.1.2) rfl (⟨(((none,0),[]),0),Nat.zero_le _,⟨Nat.zero_le _,(fun _ h=>by cases h),(fun _ h=>by cases h),.nil⟩⟩) ?_ ?_ (fun i=>?_)
   · exact⟨rfl,rfl,rfl,rfl,rfl,rfl,trivial⟩
   ·
    exact(AaS (e:=25) (sz:=2)).trans (show Ent _ [Row 25 2 (.slice none 0 0) 0 [],Ce b3 30 [vS bs,vS ((AdD tb text).take 12),vI (Aar d 0 9),.slice none 0 0,.slice none 0 0,.slice none 0 0,vS (usersL.getD ui [])],Ce x38 9 (wordsL.map vS),Ce b2 30 [vS [],vS [],vI 0,.slice none 0 0,.slice none 0 0,.slice none 0 0,vS []],Ce b1 114 [vI base,vI d,vI u,vI tb,.slice xa text.length xc,.slice fa0 files.length fc0,.slice pa0 pars.length pc0,.slice ta tags.length tc,.slice va vals.length vc],Bx,Bf,Bp,Bt,Bv] from Aa0)
   obtain⟨⟨⟨⟨oa,oc⟩,fs⟩,j⟩,hj,hK⟩:=i;dsimp only at hj hK ⊢;have hfl:=hK.len;try dsimp only
   refine Qc (k:=Vv (k:=Wq (Za (k:=Zi (t:=fun h41=>?_) (f:=fun h41=>?_)))))
   ·
    refine Zk (k:=Ya (Za (k:=Zb (k:=Za (k:=?_)))));have hj6:j<6:=by omega
    have hwl:wordsL.length=6:=rfl;obtain⟨w,hw⟩:∃w,w=wordsL.getD j []:=⟨_,rfl⟩
    refine Zr (k:=Vv (k:=Ye 1 (k:=Yl (hv:=by exact Aa4 [] (m:=j) (by omega)) (k:=?_))));rw[←hw];refine Qv (k:=Wq (Za (k:=Qc (k:=Vv (k:=Qx 5 87 (k:=Qv (k:=Vv (k:=?_))))))));refine Gi 5 (t:=fun h50=>?_) (f:=fun h50=>?_)
    ·
     refine O1 (k:=O1 (k:=O1 (k:=O1 (k:=O1 (k:=O1 (k:=O1 (k:=P1 (k:=Vv (k:=O1 (k:=O1 (k:=O1 (k:=?_))))))))))));refine O1 (k:=P1 (k:=Wq (Z1 (k:=Ze (k:=Xa (Xb (Ya (Zr (k:=Qv (k:=Wn ?_))))))))));exact Agn
    ·
     refine I0 (k:=Vf 5 87 (k:=I0 (k:=Zd (k:=J0 (k:=I0 (k:=Ye 1 (k:=I0 (k:=Yl (hv:=by exact Aa4 0 (m:=j) (by omega)) (k:=I0 (k:=?_))))))))));refine Aa6 (AlS rfl rfl) rfl ?_;refine J0 (k:=P0 (k:=Vv (k:=Gi 14 (t:=fun h59=>?_) (f:=fun h59=>?_))))
     ·
      refine O1 (k:=O1 (k:=O1 (k:=O1 (k:=P1 (k:=Wq (Z1 (k:=Ze (k:=Xa (Xb (Ya (Zr (k:=?_))))))))))));refine Qv (k:=Wn ?_);exact Agn
     ·
      refine I0 (k:=Vf 3 26 (k:=I0 (k:=Zd (k:=J0 (k:=J0 (k:=P0 (k:=Wq (Zi (t:=fun h64=>?_) (f:=fun h64=>?_)))))))))
      ·
       refine Ze (k:=Xa (Xb (Ya (Zr (k:=Qv (k:=Wn ?_))))));exact Agn
      ·
       refine Zk (k:=Ya (Qc (k:=Vv (k:=Qx 5 87 (k:=Vv (k:=Ye 1 (k:=Yl (hv:=by exact Aa4 0 (m:=j) (by omega)) (k:=?_))))))));refine Aa6 (AoB rfl rfl (by omega)) rfl ?_;refine Aag (Adf _) rfl rfl rfl ?_;refine Vx (Ps [_,_]) (k:=Zc [vS [],vS []] (k:=fun b7=>Zp (k:=Wq ?_)));refine Abg (fun (h:{ h:Bs // (∃n,h=Abx n)∨(decide (bs=[])=false∧h=[]) })=>[(1,.pointer (some ⟨b1,0,none⟩)),(2,.pointer (some ⟨b2,0,none⟩)),(3,.pointer (some ⟨b3,0,none⟩)),(7,.pointer (some ⟨b7,0,none⟩)),(38,.slice (some ⟨x38,0,none⟩) 6 6),(39,vI 6),(40,vI j)]) (fun (h:{ h:Bs // (∃n,h=Abx n)∨(decide (bs=[])=false∧h=[]) })=>[Ce b7 25 [vS w,vS h.1],Row 25 2 (.slice oa (fs).length oc) (fs).length ((fs).flatMap AaN),Ce b3 30 [vS bs,vS ((AdD tb text).take 12),vI (Aar d 0 9),.slice oa (fs).length oc,.slice none 0 0,.slice none 0 0,vS (usersL.getD ui [])],Ce x38 9 (wordsL.map vS),Ce b2 30 [vS [],vS [],vI 0,.slice none 0 0,.slice none 0 0,.slice none 0 0,vS []],Ce b1 114 [vI base,vI d,vI u,vI tb,.slice xa text.length xc,.slice fa0 files.length fc0,.slice pa0 pars.length pc0,.slice ta tags.length tc,.slice va vals.length vc],Bx,Bf,Bp,Bt,Bv]) rfl (fun h=>?_) ?_
       ·
        obtain⟨h,hh⟩:=h;dsimp only;try dsimp only
        refine Zr (k:=Qx 3 26 (k:=Zm [_,_] (k:=Zv [_] (cs:=[_,_]) (k:=fun b90=>?_))));refine Aao (sz:=2) (bytes:=32) Tryz.underlying26 AfU rfl rfl rfl rfl rfl rfl rfl (by rfl) (by rfl) (by omega) (by simp only[maxLen];omega) rfl (fun a91 c91=>?_);refine Vf 3 26 (k:=Zo (k:=Wn (Yb (Ya (Zr (k:=Qv (k:=Wn ?_)))))));exact Agn
       ·
        refine Qc (k:=Qx 0 9 (k:=Qv (k:=Gi 3 (t:=fun h77=>?_) (f:=fun h77=>?_))))
        ·
         refine I1 (k:=Vf 5 87 (k:=I1 (k:=Zd (k:=J1 (k:=I1 (k:=Ye 1 (k:=I1 (k:=Yl (hv:=by exact Aa4 0 (m:=j) (by omega)) (k:=I1 (k:=?_))))))))));refine Aa6 (AoA rfl rfl (by omega)) rfl ?_;refine J1 (k:=P1 (k:=Wq (Zi (t:=fun h85=>?_) (f:=fun h85=>?_))))
         ·
          refine Zr (k:=Vf 1 9 (k:=Zo (k:=Wn ?_)));exact AgZ
         ·
          refine Zk (k:=?_);exact AgZ
        ·
         refine O0 (k:=O0 (k:=O0 (k:=O0 (k:=O0 (k:=O0 (k:=O0 (k:=P0 (k:=Wq (Z0 (k:=Zk (k:=?_)))))))))));exact AgZ
   ·
    refine Ze (k:=Xa (Xi (Xb (Ya (Za (k:=Za (k:=?_)))))));have hj6:j=6:=by omega
    subst hj6;refine Zr (k:=Vv (k:=Wq (Zb (k:=?_))));refine Aak (fun (i:{ x:((Option Addr×Nat)×List Bs)×Nat // x.2≤2∧x.2≤pars.length∧x.1.2.length≤x.1.1.2∧KPars x.2 x.1.2 })=>[(1,.pointer (some ⟨b1,0,none⟩)),(2,.pointer (some ⟨b2,0,none⟩)),(3,.pointer (some ⟨b3,0,none⟩)),(8,vI i.1.2)]) (fun (i:{ x:((Option Addr×Nat)×List Bs)×Nat // x.2≤2∧x.2≤pars.length∧x.1.2.length≤x.1.1.2∧KPars x.2 x.1.2 })=>[Row 9 1 (.slice i.1.1.1.1 (i.1.1.2).length i.1.1.1.2) (i.1.1.2).length ((i.1.1.2).map vS),Row 25 2 (.slice oa (fs).length oc) (fs).length ((fs).flatMap AaN),Ce b3 30 [vS bs,vS ((AdD tb text).take 12),vI (Aar d 0 9),.slice oa (fs).length oc,.slice i.1.1.1.1 (i.1.1.2).length i.1.1.1.2,.slice none 0 0,vS (usersL.getD ui [])],Ce b2 30 [vS [],vS [],vI 0,.slice none 0 0,.slice none 0 0,.slice none 0 0,vS []],Ce b1 114 [vI base,vI d,vI u,vI tb,.slice xa text.length xc,.slice fa0 files.length fc0,.slice pa0 pars.length pc0,.slice ta tags.length tc,.slice va vals.length vc],Bx,Bf,Bp,Bt,Bv]) (fun (i:{ x:((Option Addr×Nat)×List Bs)×Nat // x.2≤2∧x.2≤pars.length∧x.1.2.length≤x.1.1.2∧KPars x.2 x.1.2 })=>2-i.1.2) rfl (⟨(((none,0),[]),0),Nat.zero_le _,Nat.zero_le _,Nat.zero_le _,⟨Nat.zero_le _,(fun _ h=>by cases h),.nil⟩⟩) ?_ ?_ (fun i=>?_)
    · exact⟨rfl,rfl,rfl,rfl,trivial⟩
    ·
     exact(AaS (e:=9) (sz:=1)).trans (show Ent _ [Row 9 1 (.slice none 0 0) 0 [],Row 25 2 (.slice oa (fs).length oc) (fs).length ((fs).flatMap AaN),Ce b3 30 [vS bs,vS ((AdD tb text).take 12),vI (Aar d 0 9),.slice oa (fs).length oc,.slice none 0 0,.slice none 0 0,vS (usersL.getD ui [])],Ce b2 30 [vS [],vS [],vI 0,.slice none 0 0,.slice none 0 0,.slice none 0 0,vS []],Ce b1 114 [vI base,vI d,vI u,vI tb,.slice xa text.length xc,.slice fa0 files.length fc0,.slice pa0 pars.length pc0,.slice ta tags.length tc,.slice va vals.length vc],Bx,Bf,Bp,Bt,Bv] from Aa0)
    obtain⟨⟨⟨⟨qa,qc⟩,ps⟩,m⟩,hm,hmp,hpc,hP⟩:=i;dsimp only at hm hmp hpc hP ⊢;have hpl:=hP.len;try dsimp only
    refine Za (k:=Qc (k:=Vv (k:=Qx 6 87 (k:=Qv (k:=Vv (k:=Gi 5 (t:=fun h99=>?_) (f:=fun h99=>?_)))))))
    ·
     refine J1 (k:=J1 (k:=P1 (k:=Wq (Zi (t:=fun h102=>?_) (f:=fun h102=>?_)))))
     ·
      refine Zk (k:=Ya (Za (k:=Zb (k:=Qc (k:=Qx 6 87 (k:=Vv (k:=Ye 1 (k:=Yl (hv:=by exact Aa4 0 (m:=m) (by omega)) (k:=?_)))))))));refine Aag (Adf _) rfl rfl rfl ?_;refine Vv (k:=Wq (Qc (k:=Qx 4 27 (k:=Qv (k:=Vv (k:=Gi 4 (t:=fun h115=>?_) (f:=fun h115=>?_)))))))
      ·
       refine O1 (k:=O1 (k:=O1 (k:=O1 (k:=O1 (k:=O1 (k:=P1 (k:=Wq (Z1 (k:=Zr (k:=Qx 4 27 (k:=?_)))))))))));refine Vv (k:=Zv [_] (cs:=[_]) (k:=fun b126=>?_));refine Aao (sz:=1) (bytes:=16) Tryz.underlying27 ti9 rfl rfl rfl rfl rfl rfl rfl (by rfl) (by rfl) (by omega) (by simp only[maxLen];omega) rfl (fun a127 c127=>?_);refine AeK (A:=Row 9 1 (.slice a127 (ps.length+1) c127) (ps.length+1) (ps.map vS++[vS (Abx (pars.getD m 0))])) HasC.get AbH (fun hk127=>?_);have hcap127:=hk127.1;refine Vf 4 27 (k:=Zo (k:=Wn (Yb (Ya (Zr (k:=Qv (k:=Vv (k:=Wn ?_))))))));exact Aix
      ·
       refine I0 (k:=Vf 4 27 (k:=I0 (k:=Zd (k:=I0 (k:=Ye 1 (m:=0) (k:=I0 (k:=Yl (hv:=by exact Aa4 [] (m:=0) (by omega)) (k:=J0 (k:=J0 (k:=?_))))))))));refine P0 (k:=Wq (Zi (t:=fun h122=>?_) (f:=fun h122=>?_)))
       ·
        refine Zr (k:=Qx 4 27 (k:=Vv (k:=Zv [_] (cs:=[_]) (k:=fun b126=>?_))));refine Aao (sz:=1) (bytes:=16) Tryz.underlying27 ti9 rfl rfl rfl rfl rfl rfl rfl (by rfl) (by rfl) (by omega) (by simp only[maxLen];omega) rfl (fun a127 c127=>?_);refine AeK (A:=Row 9 1 (.slice a127 (ps.length+1) c127) (ps.length+1) (ps.map vS++[vS (Abx (pars.getD m 0))])) HasC.get AbH (fun hk127=>?_);have hcap127:=hk127.1;refine Vf 4 27 (k:=Zo (k:=Wn (Yb (Ya (Zr (k:=Qv (k:=Vv (k:=Wn ?_))))))));exact Aix
       ·
        refine Zk (k:=Yb (Ya (Zr (k:=Qv (k:=Vv (k:=Wn ?_))))));exact Aix
     ·
      refine Ze (k:=Xa (Xi (Xb (Ya (Za (k:=?_))))));refine Aca (A:=Row 9 1 (.slice qa (ps).length qc) (ps).length ((ps).map vS)) HasC.get AbH (fun hkp=>?_);refine Zr (k:=Qx 7 87 (k:=Qx 8 87 (k:=?_)));refine Aaq hTO rfl rfl rfl (fun x133 hx133=>?_);obtain⟨⟨oa2,oc2⟩,ts⟩:=x133;dsimp only[Aom,Aon] at hx133 ⊢;have hKc:KCk ⟨bs,(AdD tb text).take 12,Aar d 0 9,fs,ps,ts,usersL.getD ui []⟩:=KCk.mk' hbs hcom hw1 huo hK ⟨by omega,hP.all,hP.two⟩ hx133;refine Vf 5 28 (k:=Zo (k:=Wq (Qc (k:=Zm [_,_,_,_,_,_,_] (k:=Zp (k:=Wq (Zt (k:=?_))))))));exact Apa
    ·
     refine O0 (k:=O0 (k:=P0 (k:=Wq (Z0 (k:=Ze (k:=Xa (Xi (Xb (Ya (Za (k:=?_)))))))))));refine Aca (A:=Row 9 1 (.slice qa (ps).length qc) (ps).length ((ps).map vS)) HasC.get AbH (fun hkp=>?_);refine Zr (k:=Qx 7 87 (k:=Qx 8 87 (k:=?_)));refine Aaq hTO rfl rfl rfl (fun x133 hx133=>?_);obtain⟨⟨oa2,oc2⟩,ts⟩:=x133;dsimp only[Aom,Aon] at hx133 ⊢;have hKc:KCk ⟨bs,(AdD tb text).take 12,Aar d 0 9,fs,ps,ts,usersL.getD ui []⟩:=KCk.mk' hbs hcom hw1 huo hK ⟨by omega,hP.all,hP.two⟩ hx133;refine Vf 5 28 (k:=Zo (k:=Wq (Qc (k:=Zm [_,_,_,_,_,_,_] (k:=Zp (k:=Wq (Zt (k:=?_))))))));exact Apa
  ·
   refine Qc (k:=Qx 0 3 (k:=?_));refine Aa6 (AoA rfl rfl (by omega)) rfl ?_;refine Vv (k:=Wq (Zi (t:=fun h32=>?_) (f:=fun h32=>?_)))
   ·
    refine Zr (k:=Qx 0 3 (k:=?_));refine Aa6 (AoB rfl rfl (by omega)) rfl ?_;refine Aag (Adf _) rfl rfl rfl ?_;refine Vf 0 9 (k:=Zo (k:=Wn ?_));exact Alu
   ·
    refine Zk (k:=?_);exact Alu
 ·
  refine Dw [Ce b1 114 [vI base,vI d,vI u,vI tb,.slice xa text.length xc,.slice fa0 files.length fc0,.slice pa0 pars.length pc0,.slice ta tags.length tc,.slice va vals.length vc]] (k:=?_);refine Di 0 (t:=Uf 1 3) (k:=Di 1 (t:=Ul) (k:=Di 4 (t:=Uf 2 3) (k:=Di 5 (t:=Ul) (k:=?_))));refine AdS 2 3 10 (by kernel_rfl) rfl rfl rfl ?_ ?_ ?_
  ·
   refine Aal (Aaf d 0 9 (by omega) (by omega) (by omega)) rfl rfl rfl ?_;refine AdS 3 6 10 (by kernel_rfl) rfl rfl rfl ?_ ?_ ?_
   ·
    refine Nl [_,_] (cs:=[_,_]) (k:=fun b13=>?_);refine Aah 6 10 (by kernel_rfl) rfl rfl ?_ ?_
    ·
     refine Aal (Aaf u 0 1 (by omega) (by omega) (by omega)) rfl rfl rfl ?_;rw[hui];refine Aah 7 10 (by kernel_rfl) rfl rfl ?_ ?_
     ·
      refine Ne 1 ui (k:=?_);refine Aah 8 10 (by kernel_rfl) rfl rfl ?_ ?_
      ·
       refine Nm (hv:=by exact Aa4 (f:=vS) [] (l:=usersL) (m:=ui) hu2) (k:=Di 9 (t:=Ux (Ps [vS [],vS [],_,.slice none 0 0,.slice none 0 0,.slice none 0 0,_])) (k:=Dn 10 (k:=Nc [vS [],vS [],.int .i64 0,.slice none 0 0,.slice none 0 0,.slice none 0 0,vS []] (k:=fun b3=>Dn 11 (k:=Na (k:=Dd (k:=?_)))))));exact Ab8
      ·
       refine Nc [vS [],vS [],.int .i64 0,.slice none 0 0,.slice none 0 0,.slice none 0 0,vS []] (k:=fun b3=>Dn 8 (k:=Nm (hv:=by exact Aa4 (f:=vS) [] (l:=usersL) (m:=ui) hu2) (k:=Di 9 (t:=Ux (Ps [vS [],vS [],_,.slice none 0 0,.slice none 0 0,.slice none 0 0,_])) (k:=Dn 11 (k:=Na (k:=Dd (k:=?_)))))));exact Ab8
     ·
      refine Nc [vS [],vS [],.int .i64 0,.slice none 0 0,.slice none 0 0,.slice none 0 0,vS []] (k:=fun b3=>Dn 7 (k:=Ne 1 ui (k:=Dn 8 (k:=Nm (hv:=by exact Aa4 (f:=vS) [] (l:=usersL) (m:=ui) hu2) (k:=Di 9 (t:=Ux (Ps [vS [],vS [],_,.slice none 0 0,.slice none 0 0,.slice none 0 0,_])) (k:=Dn 11 (k:=Na (k:=Dd (k:=?_)))))))));exact Ab8
    ·
     refine Nc [vS [],vS [],.int .i64 0,.slice none 0 0,.slice none 0 0,.slice none 0 0,vS []] (k:=fun b3=>Dn 6 (k:=?_));refine Aal (Aaf u 0 1 (by omega) (by omega) (by omega)) rfl rfl rfl ?_;rw[hui];refine Dn 7 (k:=Ne 1 ui (k:=Dn 8 (k:=Nm (hv:=by exact Aa4 (f:=vS) [] (l:=usersL) (m:=ui) hu2) (k:=Di 9 (t:=Ux (Ps [vS [],vS [],_,.slice none 0 0,.slice none 0 0,.slice none 0 0,_])) (k:=Dn 11 (k:=Na (k:=Dd (k:=?_))))))));exact Ab8
   ·
    refine Aal (Aaf u 0 1 (by omega) (by omega) (by omega)) rfl rfl rfl ?_;rw[hui];refine Aah 3 10 (by kernel_rfl) rfl rfl ?_ ?_
    ·
     refine Nl [_,_] (cs:=[_,_]) (k:=fun b13=>?_);refine Aah 7 10 (by kernel_rfl) rfl rfl ?_ ?_
     ·
      refine Ne 1 ui (k:=?_);refine Aah 8 10 (by kernel_rfl) rfl rfl ?_ ?_
      ·
       refine Nm (hv:=by exact Aa4 (f:=vS) [] (l:=usersL) (m:=ui) hu2) (k:=Di 9 (t:=Ux (Ps [vS [],vS [],_,.slice none 0 0,.slice none 0 0,.slice none 0 0,_])) (k:=Dn 10 (k:=Nc [vS [],vS [],.int .i64 0,.slice none 0 0,.slice none 0 0,.slice none 0 0,vS []] (k:=fun b3=>Dn 11 (k:=Na (k:=Dd (k:=?_)))))));exact Ab8
      ·
       refine Nc [vS [],vS [],.int .i64 0,.slice none 0 0,.slice none 0 0,.slice none 0 0,vS []] (k:=fun b3=>Dn 8 (k:=Nm (hv:=by exact Aa4 (f:=vS) [] (l:=usersL) (m:=ui) hu2) (k:=Di 9 (t:=Ux (Ps [vS [],vS [],_,.slice none 0 0,.slice none 0 0,.slice none 0 0,_])) (k:=Dn 11 (k:=Na (k:=Dd (k:=?_)))))));exact Ab8
     ·
      refine Nc [vS [],vS [],.int .i64 0,.slice none 0 0,.slice none 0 0,.slice none 0 0,vS []] (k:=fun b3=>Dn 7 (k:=Ne 1 ui (k:=Dn 8 (k:=Nm (hv:=by exact Aa4 (f:=vS) [] (l:=usersL) (m:=ui) hu2) (k:=Di 9 (t:=Ux (Ps [vS [],vS [],_,.slice none 0 0,.slice none 0 0,.slice none 0 0,_])) (k:=Dn 11 (k:=Na (k:=Dd (k:=?_)))))))));exact Ab8
    ·
     refine Nc [vS [],vS [],.int .i64 0,.slice none 0 0,.slice none 0 0,.slice none 0 0,vS []] (k:=fun b3=>Dn 3 (k:=Nl [_,_] (cs:=[_,_]) (k:=fun b13=>Dn 7 (k:=Ne 1 ui (k:=Dn 8 (k:=Nm (hv:=by exact Aa4 (f:=vS) [] (l:=usersL) (m:=ui) hu2) (k:=Di 9 (t:=Ux (Ps [vS [],vS [],_,.slice none 0 0,.slice none 0 0,.slice none 0 0,_])) (k:=Dn 11 (k:=Na (k:=Dd (k:=?_)))))))))));exact Ab8
   ·
    refine Nc [vS [],vS [],.int .i64 0,.slice none 0 0,.slice none 0 0,.slice none 0 0,vS []] (k:=fun b3=>?_);refine Aah 3 6 (by kernel_rfl) rfl rfl ?_ ?_
    ·
     refine Nl [_,_] (cs:=[_,_]) (k:=fun b13=>Dn 6 (k:=?_));refine Aal (Aaf u 0 1 (by omega) (by omega) (by omega)) rfl rfl rfl ?_;rw[hui];refine Dn 7 (k:=Ne 1 ui (k:=Dn 8 (k:=Nm (hv:=by exact Aa4 (f:=vS) [] (l:=usersL) (m:=ui) hu2) (k:=Di 9 (t:=Ux (Ps [vS [],vS [],_,.slice none 0 0,.slice none 0 0,.slice none 0 0,_])) (k:=Dn 11 (k:=Na (k:=Dd (k:=?_))))))));exact Ab8
    ·
     refine Aal (Aaf u 0 1 (by omega) (by omega) (by omega)) rfl rfl rfl ?_;rw[hui];refine Dn 3 (k:=Nl [_,_] (cs:=[_,_]) (k:=fun b13=>Dn 7 (k:=Ne 1 ui (k:=Dn 8 (k:=Nm (hv:=by exact Aa4 (f:=vS) [] (l:=usersL) (m:=ui) hu2) (k:=Di 9 (t:=Ux (Ps [vS [],vS [],_,.slice none 0 0,.slice none 0 0,.slice none 0 0,_])) (k:=Dn 11 (k:=Na (k:=Dd (k:=?_))))))))));exact Ab8
  ·
   refine Nl [_,_] (cs:=[_,_]) (k:=fun b13=>?_);refine Aah 2 10 (by kernel_rfl) rfl rfl ?_ ?_
   ·
    refine Aal (Aaf d 0 9 (by omega) (by omega) (by omega)) rfl rfl rfl ?_;refine Aah 6 10 (by kernel_rfl) rfl rfl ?_ ?_
    ·
     refine Aal (Aaf u 0 1 (by omega) (by omega) (by omega)) rfl rfl rfl ?_;rw[hui];refine Aah 7 10 (by kernel_rfl) rfl rfl ?_ ?_
     ·
      refine Ne 1 ui (k:=?_);refine Aah 8 10 (by kernel_rfl) rfl rfl ?_ ?_
      ·
       refine Nm (hv:=by exact Aa4 (f:=vS) [] (l:=usersL) (m:=ui) hu2) (k:=Di 9 (t:=Ux (Ps [vS [],vS [],_,.slice none 0 0,.slice none 0 0,.slice none 0 0,_])) (k:=Dn 10 (k:=Nc [vS [],vS [],.int .i64 0,.slice none 0 0,.slice none 0 0,.slice none 0 0,vS []] (k:=fun b3=>Dn 11 (k:=Na (k:=Dd (k:=?_)))))));exact Ab8
      ·
       refine Nc [vS [],vS [],.int .i64 0,.slice none 0 0,.slice none 0 0,.slice none 0 0,vS []] (k:=fun b3=>Dn 8 (k:=Nm (hv:=by exact Aa4 (f:=vS) [] (l:=usersL) (m:=ui) hu2) (k:=Di 9 (t:=Ux (Ps [vS [],vS [],_,.slice none 0 0,.slice none 0 0,.slice none 0 0,_])) (k:=Dn 11 (k:=Na (k:=Dd (k:=?_)))))));exact Ab8
     ·
      refine Nc [vS [],vS [],.int .i64 0,.slice none 0 0,.slice none 0 0,.slice none 0 0,vS []] (k:=fun b3=>Dn 7 (k:=Ne 1 ui (k:=Dn 8 (k:=Nm (hv:=by exact Aa4 (f:=vS) [] (l:=usersL) (m:=ui) hu2) (k:=Di 9 (t:=Ux (Ps [vS [],vS [],_,.slice none 0 0,.slice none 0 0,.slice none 0 0,_])) (k:=Dn 11 (k:=Na (k:=Dd (k:=?_)))))))));exact Ab8
    ·
     refine Nc [vS [],vS [],.int .i64 0,.slice none 0 0,.slice none 0 0,.slice none 0 0,vS []] (k:=fun b3=>Dn 6 (k:=?_));refine Aal (Aaf u 0 1 (by omega) (by omega) (by omega)) rfl rfl rfl ?_;rw[hui];refine Dn 7 (k:=Ne 1 ui (k:=Dn 8 (k:=Nm (hv:=by exact Aa4 (f:=vS) [] (l:=usersL) (m:=ui) hu2) (k:=Di 9 (t:=Ux (Ps [vS [],vS [],_,.slice none 0 0,.slice none 0 0,.slice none 0 0,_])) (k:=Dn 11 (k:=Na (k:=Dd (k:=?_))))))));exact Ab8
   ·
    refine Nc [vS [],vS [],.int .i64 0,.slice none 0 0,.slice none 0 0,.slice none 0 0,vS []] (k:=fun b3=>Dn 2 (k:=?_));refine Aal (Aaf d 0 9 (by omega) (by omega) (by omega)) rfl rfl rfl ?_;refine Dn 6 (k:=?_);refine Aal (Aaf u 0 1 (by omega) (by omega) (by omega)) rfl rfl rfl ?_;rw[hui];refine Dn 7 (k:=Ne 1 ui (k:=Dn 8 (k:=Nm (hv:=by exact Aa4 (f:=vS) [] (l:=usersL) (m:=ui) hu2) (k:=Di 9 (t:=Ux (Ps [vS [],vS [],_,.slice none 0 0,.slice none 0 0,.slice none 0 0,_])) (k:=Dn 11 (k:=Na (k:=Dd (k:=?_))))))));exact Ab8
  ·
   refine Nc [vS [],vS [],.int .i64 0,.slice none 0 0,.slice none 0 0,.slice none 0 0,vS []] (k:=fun b3=>?_);refine Aah 2 3 (by kernel_rfl) rfl rfl ?_ ?_
   ·
    refine Aal (Aaf d 0 9 (by omega) (by omega) (by omega)) rfl rfl rfl ?_;refine Aah 3 6 (by kernel_rfl) rfl rfl ?_ ?_
    ·
     refine Nl [_,_] (cs:=[_,_]) (k:=fun b13=>Dn 6 (k:=?_));refine Aal (Aaf u 0 1 (by omega) (by omega) (by omega)) rfl rfl rfl ?_;rw[hui];refine Dn 7 (k:=Ne 1 ui (k:=Dn 8 (k:=Nm (hv:=by exact Aa4 (f:=vS) [] (l:=usersL) (m:=ui) hu2) (k:=Di 9 (t:=Ux (Ps [vS [],vS [],_,.slice none 0 0,.slice none 0 0,.slice none 0 0,_])) (k:=Dn 11 (k:=Na (k:=Dd (k:=?_))))))));exact Ab8
    ·
     refine Aal (Aaf u 0 1 (by omega) (by omega) (by omega)) rfl rfl rfl ?_;rw[hui];refine Dn 3 (k:=Nl [_,_] (cs:=[_,_]) (k:=fun b13=>Dn 7 (k:=Ne 1 ui (k:=Dn 8 (k:=Nm (hv:=by exact Aa4 (f:=vS) [] (l:=usersL) (m:=ui) hu2) (k:=Di 9 (t:=Ux (Ps [vS [],vS [],_,.slice none 0 0,.slice none 0 0,.slice none 0 0,_])) (k:=Dn 11 (k:=Na (k:=Dd (k:=?_))))))))));exact Ab8
   ·
    refine Nl [_,_] (cs:=[_,_]) (k:=fun b13=>Dn 2 (k:=?_));refine Aal (Aaf d 0 9 (by omega) (by omega) (by omega)) rfl rfl rfl ?_;refine Dn 6 (k:=?_);refine Aal (Aaf u 0 1 (by omega) (by omega) (by omega)) rfl rfl rfl ?_;rw[hui];refine Dn 7 (k:=Ne 1 ui (k:=Dn 8 (k:=Nm (hv:=by exact Aa4 (f:=vS) [] (l:=usersL) (m:=ui) hu2) (k:=Di 9 (t:=Ux (Ps [vS [],vS [],_,.slice none 0 0,.slice none 0 0,.slice none 0 0,_])) (k:=Dn 11 (k:=Na (k:=Dd (k:=?_))))))));exact Ab8
theorem AkW {Bx Bf Bp Bt Bv:HP} {xa fa0 pa0 ta va:Option Addr} (base d u tb:Int) (xc fc0 pc0 tc vc:Nat) (text files pars tags vals:List Int) (hx:text.length≤9223372036854775807) (hf:files.length≤9223372036854775807) (hp:pars.length≤9223372036854775807) (ht:tags.length≤9223372036854775807) (hv:vals.length≤9223372036854775807)
    (shx:SlA Bx xa (text.map vI)) (shf:SlA Bf fa0 (files.map vI)) (shp:SlA Bp pa0 (pars.map vI)) (sht:SlA Bt ta (tags.map vI)) (shv:SlA Bv va (vals.map vI)) :
    Sp Tryz.prog 114 [.agg #[vI base,vI d,vI u,vI tb,.slice xa text.length xc,.slice fa0 files.length fc0,.slice pa0 pars.length pc0,.slice ta tags.length tc,.slice va vals.length vc]] [Bx,Bf,Bp,Bt,Bv] (X:=CkA×Ck) (fun x=>.agg (AaZ x.1 x.2).toArray) (fun x=>KCk x.2∧x.2.parents.length≤x.1.pc) (fun x=>ckH x++[Bx,Bf,Bp,Bt,Bv]) :=
 ((Ag6 base d u tb xc fc0 pc0 tc vc text files pars tags vals hx hf hp ht hv shx shf shp sht shv).frzOut).mono (Ent.refl _) (fun x hx=>⟨x,rfl,⟨hx.1,hx.2.1⟩,Aa0⟩)
end
section
set_option maxRecDepth 1000000
theorem AsE {s:Bs} (h:(90:UInt8)∉s):Abv s=none:=readC_none.2 fun l hl=>h (by rw[←hl.2,AcI,Afw];simp)
theorem AtJ {s:Bs} (h:Abv s=none):AaD s=none∧Ab9 s=none∧Awi s=none:=by
 refine⟨Acb fun c hc=>?_,Acb fun c hc=>?_,Acb fun c hc=>?_⟩<;>(rw[readC_iff.2 hc.reads] at h;cases h)
end
def AdZ (ns:List Int) (k:Nat):List Bs:=AkT [] ((ns.take k).map Abx)
theorem Ar6 (ns:List Int) {k:Nat} (h:k<ns.length):AdZ ns (k+1)=AeP (Abx ns[k]) (AdZ ns k):=by
 rw[AdZ,List.take_succ_eq_append_getElem h,List.map_append,List.map_cons,List.map_nil,Asz];rfl
theorem Ajl (ns:List Int) (k:Nat):(AdZ ns k).Pairwise (· < ·):=ApP _ _ .nil
theorem AnL (ns:List Int) (k:Nat):(AdZ ns k).length≤k:=by
 have:=AtS ((ns.take k).map Abx) [];rw[List.length_map,List.length_take] at this;simp only[AdZ,List.length_nil] at this ⊢;omega
theorem AlZ (ns:List Int) (k:Nat):∀x∈AdZ ns k,∃n,x=Abx n:=fun x hx=>by
 rcases (AtR _ _ _).1 hx with h | h
 · cases h
 · obtain⟨n,_,rfl⟩:=List.mem_map.1 h;exact⟨n,rfl⟩
theorem Ar5 (ns:List Int):AdZ ns 0=[]:=rfl
theorem Aj9 {l:List Bs} (hs:l.Pairwise (· < ·)) (hn:∀x∈l,isN x=true) (h1:1≤l.length) (h2:l.length≤12):AjE l:=by
 refine⟨fun i hi=>?_,h1,h2⟩;have e:l.getD i []=l[i]:=by simp[hi]
 refine⟨by rw[e];exact hn _ (List.getElem_mem hi),fun h0=>?_⟩;have e2:l.getD (i-1) []=l[i-1]:=by simp[show i-1<l.length by omega]
 rw[e,e2];exact(Ach _ _).2 (List.pairwise_iff_getElem.1 hs (i-1) i (by omega) hi (by omega))
structure KaV where
 kind:Int
 n:Int
 base:Int
 d:Int
 u:Int
 tb:Int
 x:IntsV
 f:IntsV
 p:IntsV
 t:IntsV
 v:IntsV
 d2:Int
 u2:Int
 t2:IntsV
 v2:IntsV
 nm:IntsV
def KaV.cells (q:KaV):List Value:=[vI q.kind,vI q.n,vI q.base,vI q.d,vI q.u,vI q.tb,.slice q.x.a q.x.l.length q.x.c,.slice q.f.a q.f.l.length q.f.c,.slice q.p.a q.p.l.length q.p.c,.slice q.t.a q.t.l.length q.t.c,.slice q.v.a q.v.l.length q.v.c,vI q.d2,vI q.u2,.slice q.t2.a q.t2.l.length q.t2.c,.slice q.v2.a q.v2.l.length q.v2.c,.slice q.nm.a q.nm.l.length q.nm.c]
structure KaV.Z (q:KaV):Prop where
 x:q.x.l.length≤9223372036854775807
 f:q.f.l.length≤9223372036854775807
 p:q.p.l.length≤9223372036854775807
 t:q.t.l.length≤9223372036854775807
 v:q.v.l.length≤9223372036854775807
 t2:q.t2.l.length≤9223372036854775807
 v2:q.v2.l.length≤9223372036854775807
 nm:q.nm.l.length≤9223372036854775807
abbrev KaV.hs (q:KaV):List HP:=[SlI q.x.a (q.x.l.map vI),SlI q.f.a (q.f.l.map vI),SlI q.p.a (q.p.l.map vI),SlI q.t.a (q.t.l.map vI),SlI q.v.a (q.v.l.map vI),SlI q.t2.a (q.t2.l.map vI),SlI q.v2.a (q.v2.l.map vI),SlI q.nm.a (q.nm.l.map vI)]
inductive ArtK:Bs→Prop
 | text (n:Int):ArtK (AfJ n)
 | ck (c:Ck):KCk c→ArtK (ckB c)
 | ct (c:Ct):KCt c→ArtK (ctB c)
 | cl (l:List Bs):l.Pairwise (· < ·)→(∀x∈l,∃n,x=Abx n)→1≤l.length→l.length≤4→ArtK (clB l)
theorem ArtK.small {s:Bs} (h:ArtK s):s.length≤20000:=by
 cases h with
 | text n=>have:=Akd n;omega
 | ck c k=>have:=Aev k.right;rw[ckB,AcI,Ac1];omega
 | ct c k=>have:=Agc k.right;rw[ctB,AcI,Ac1];omega
 | cl l h1 h2 h3 h4 =>
   have:=Aqk (Aj9 h1 (fun x hx=>by obtain⟨n,rfl⟩:=h2 x hx;exact Afe n) h3 (by omega));rw[clB,AcI,Ac1];omega
theorem Arc {H:Type} {enc:TypeId×Value→H} {w:World} {spare:Nat→Bool} {held:Bool} {fuel:Nat} {cs:List Value} {x:DataW H×List MemPlace}
    (h:DataW.trod enc Tryz.prog w 0 spare held fuel 118 cs=some x):∃q:KaV,cs=q.cells∧q.Z∧At w (SlI q.x.a (q.x.l.map vI))∧At w (SlI q.f.a (q.f.l.map vI))∧At w (SlI q.p.a (q.p.l.map vI))∧At w (SlI q.t.a (q.t.l.map vI))∧At w (SlI q.v.a (q.v.l.map vI))∧At w (SlI q.t2.a (q.t2.l.map vI))∧At w (SlI q.v2.a (q.v2.l.map vI))∧At w (SlI q.nm.a (q.nm.l.map vI)):=by
 have hl:=AoK Tryz.underlying118 h;have e16:Tryz.prog.cellsOf 118=16:=by kernel_rfl
 have e9:Tryz.prog.cellsOf 114=9:=by kernel_rfl
 have e4:Tryz.prog.cellsOf 116=4:=by kernel_rfl
 have ei:Tryz.prog.cellsOf 3=1:=by kernel_rfl
 have es:Tryz.prog.cellsOf 87=1:=by kernel_rfl
 rw[e16] at hl;obtain⟨m0,y0,f0⟩:=Abp Tryz.underlying118 h 0 3 0 1 rfl ei;obtain⟨m1,y1,f1⟩:=Abp Tryz.underlying118 h 1 3 1 1 rfl ei;obtain⟨m2,y2,f2⟩:=Abp Tryz.underlying118 h 2 114 2 9 rfl e9;obtain⟨m3,y3,f3⟩:=Abp Tryz.underlying118 h 3 116 11 4 rfl e4;obtain⟨m4,y4,f4⟩:=Abp Tryz.underlying118 h 4 87 15 1 rfl es
 match cs,hl with
 | [c0,c1,c2,c3,c4,c5,c6,c7,c8,c9,c10,c11,c12,c13,c14,c15],_ =>
   simp only[List.drop_zero,List.drop_succ_cons,List.take_succ_cons,List.take_zero] at f0 f1 f2 f3 f4;obtain⟨n0,g0,_,_⟩:=DataW.trod_int Tryz.underlying3 f0;obtain⟨n1,g1,_,_⟩:=DataW.trod_int Tryz.underlying3 f1;obtain⟨base,d,u,tb,q1,q2,q3,q4,q5,g2,⟨l1,a1⟩,⟨l2,a2⟩,⟨l3,a3⟩,⟨l4,a4⟩,⟨l5,a5⟩⟩:=Am7 f2;obtain⟨d2,u2,q6,q7,g3,⟨l6,a6⟩,⟨l7,a7⟩⟩:=Am6 f3;obtain⟨q8,g4,⟨l8,a8⟩⟩:=AfE f4
   cases g0;cases g1;cases g2;cases g3;cases g4;exact⟨⟨n0,n1,base,d,u,tb,q1,q2,q3,q4,q5,d2,u2,q6,q7,q8⟩,rfl,⟨l1,l2,l3,l4,l5,l6,l7,l8⟩,a1,a2,a3,a4,a5,a6,a7,a8⟩
end Go.Proofs.YtdnoacgopfcpbaaGreat
