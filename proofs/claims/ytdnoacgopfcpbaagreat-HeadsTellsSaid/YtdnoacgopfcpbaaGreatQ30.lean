/- Texts of this proof, put together: SArt, PAmong, SAmong, SHeld, P19L. -/
import Derived.Test.YtdnoacgopfcpbaaGreatQ29
set_option linter.unusedVariables false
set_option linter.unusedSimpArgs false
namespace Go.Proofs.YtdnoacgopfcpbaaGreat
section
set_option maxRecDepth 100000
theorem Af5 {G:Prop} (h:G:=by
    first
    | exact Aa5 ⟨ckB c,.ck c hK⟩ trivial ⟨rfl,rfl,trivial⟩ Aa0
    | exact Aa5 ⟨ctB c,.ct c hK⟩ trivial ⟨rfl,rfl,trivial⟩ Aa0
    | exact Aa5 ⟨clB nl,.cl nl hlso hlnm (by omega) (by omega)⟩ trivial ⟨rfl,rfl,trivial⟩ Aa0
    | exact Aa5 ⟨AfJ n,.text n⟩ trivial ⟨rfl,rfl,trivial⟩ Aa0):G:=h
theorem AhM {G:Prop} (h:G:=by
    first
    | (rw[if_neg h71] at hpb
       have hpl2:(AeP w2 nl).length=j+1+(nl.length-j):=by rw[hpb];simp;omega
       refine Aa5 ⟨((a83,c83),k+1),by dsimp only;omega,by dsimp only;omega⟩ (by dsimp only;omega) ⟨rfl,rfl,(by dsimp only;rw[hns1,hpl2];rfl),rfl,trivial⟩ ?_;dsimp only;rw[hns1,hpl2,hpb];exact Aac (AaW (by rfl) (by simp)) Aa0)
    | (rw[if_pos (Classical.not_not.1 h71)] at hpb
       refine Aa5 ⟨((la,lc),k+1),by dsimp only;omega,by dsimp only;omega⟩ (by dsimp only;omega) ⟨rfl,rfl,(by dsimp only;rw[hns1,hpb];rfl),rfl,trivial⟩ ?_;dsimp only;rw[hns1,hpb];exact Aa0)):G:=h
theorem AiY {G:Prop} (h:G:=by
    exact Aa5 () trivial ⟨rfl,rfl,rfl,rfl,rfl,rfl,(by
     show some (Value.bool _)=some (Value.bool _);congr 2;rcases Nat.lt_or_ge j nl.length with e | e
     · first | (simp[e];done) | (exfalso;omega)
     · first | (simp[Nat.not_lt.2 e];done) | (exfalso;omega)),trivial⟩ Aa0):G:=h
theorem All {G:Prop} (h:G:=by exact Aa5 ⟨j,hj,hok,fun h=>by first | exact h57 | omega⟩ trivial ⟨rfl,rfl,rfl,rfl,rfl,rfl,trivial⟩ Aa0):G:=h
theorem Alk {G:Prop} (h:G:=by
    refine Aa5 ⟨((la,lc),k),by dsimp only;omega⟩ trivial ⟨rfl,rfl,(by dsimp only;rw[hl];rfl),trivial⟩ ?_;dsimp only;rw[hl];exact Aa0):G:=h
theorem Aic {G:Prop} (h:G:=by exact Aa5 () trivial ⟨rfl,rfl,rfl,(by first | (show some (Value.bool _)=some (Value.bool _);simp[h14]) | rfl),trivial⟩ Aa0):G:=h
set_option maxHeartbeats 4000000 in
theorem AkD (q : KaV) (z:q.Z):Sp Tryz.prog 62 [.agg q.cells.toArray] q.hs (X:=Bs) (fun s=>vS s) (fun s=>ArtK s∧s.length≤300) (fun _=>q.hs):=by
 obtain⟨kd,n,base,d,u,tb,⟨xa,xc,xs⟩,⟨fa,fc,fs⟩,⟨pa,pc,ps⟩,⟨ta,tc,ts⟩,⟨va,vc,vs⟩,d2,u2,⟨t2a,t2c,t2s⟩,⟨v2a,v2c,v2s⟩,⟨na,nc,ns⟩⟩:=q;obtain⟨z1,z2,z3,z4,z5,z6,z7,z8⟩:=z;dsimp only[KaV.cells,KaV.hs] at z1 z2 z3 z4 z5 z6 z7 z8 ⊢;have hCk:=AkW base d u tb xc fc pc tc vc xs fs ps ts vs z1 z2 z3 z4 z5 (Bx:=SlI xa (xs.map vI)) (Bf:=SlI fa (fs.map vI)) (Bp:=SlI pa (ps.map vI)) (Bt:=SlI ta (ts.map vI)) (Bv:=SlI va (vs.map vI)) Abo Abo Abo Abo Abo;have hCt:=AgQ d2 u2 t2c v2c t2s v2s z6 z7 (Bt:=SlI t2a (t2s.map vI)) (Bv:=SlI v2a (v2s.map vI)) Abo Abo;have hw:=AbA (n:=kd) (show (0:Int)≤4 by omega);refine Sp.body (n:=96) Tryz.call62 Tryz.func62 rfl rfl rfl ?_;refine Qc (k:=Zx [_,_,_,_,_,_,_,_,_,_,_,_,_,_,_,_] (k:=fun b1=>Vv (k:=Wq (Qc (k:=Qx 1 3 (k:=?_))))));refine Aag (Aez n) rfl rfl rfl ?_;refine Vv (k:=Wq ?_);refine Abg (fun (i:{ s:Bs // ArtK s })=>[(1,.pointer (some ⟨b1,0,none⟩)),(3,vS i.1)]) (fun (i:{ s:Bs // ArtK s })=>[Ce b1 118 [vI kd,vI n,vI base,vI d,vI u,vI tb,.slice xa xs.length xc,.slice fa fs.length fc,.slice pa ps.length pc,.slice ta ts.length tc,.slice va vs.length vc,vI d2,vI u2,.slice t2a t2s.length t2c,.slice v2a v2s.length v2c,.slice na ns.length nc],SlI xa (xs.map vI),SlI fa (fs.map vI),SlI pa (ps.map vI),SlI ta (ts.map vI),SlI va (vs.map vI),SlI t2a (t2s.map vI),SlI v2a (v2s.map vI),SlI na (ns.map vI)]) rfl (fun i=>?_) ?_
 ·
  obtain⟨s,hs⟩:=i;have hsm:=hs.small;dsimp only;try dsimp only
  refine Za (k:=Qc (k:=Qv (k:=Vv (k:=Wq (Zi (t:=fun h91=>?_) (f:=fun h91=>?_))))))
  ·
   refine Qc (k:=Qx 1 3 (k:=?_));refine Aag (Aez n) rfl rfl rfl ?_;refine Vv (k:=Wq (Zt (k:=Va ?_)));exact Aa2 (AfJ n) (vs:=[_]) (Cs:=[]) rfl (.tmp rfl .nil) rfl ⟨.text n,Akd n⟩ Aa0
  ·
   refine Zk (k:=Ya (Qc (k:=Qv (k:=Wq (Zt (k:=?_))))));exact Aa2 s (vs:=[_]) (Cs:=[]) rfl (.tmp rfl .nil) rfl ⟨hs,by omega⟩ Aa0
 ·
  refine Qc (k:=Qx 0 3 (k:=?_));refine Aag (Aaf kd 0 4 (by omega) (by omega) (by omega)) rfl rfl rfl ?_;generalize Aar kd 0 4=w at hw ⊢;refine Wq (Zb (k:=?_));refine Abg (fun (i:Unit)=>[(1,.pointer (some ⟨b1,0,none⟩)),(3,vS (AfJ n)),(13,vI w),(14,.bool (decide (w=0∨w=1)))]) (fun (i:Unit)=>[Ce b1 118 [vI kd,vI n,vI base,vI d,vI u,vI tb,.slice xa xs.length xc,.slice fa fs.length fc,.slice pa ps.length pc,.slice ta ts.length tc,.slice va vs.length vc,vI d2,vI u2,.slice t2a t2s.length t2c,.slice v2a v2s.length v2c,.slice na ns.length nc],SlI xa (xs.map vI),SlI fa (fs.map vI),SlI pa (ps.map vI),SlI ta (ts.map vI),SlI va (vs.map vI),SlI t2a (t2s.map vI),SlI v2a (v2s.map vI),SlI na (ns.map vI)]) rfl (fun i=>?_) ?_
  ·
   try dsimp only
   refine Zi (t:=fun h14=>?_) (f:=fun h14=>?_)
   ·
    refine Zr (k:=Vf 2 114 (k:=Zm [_,_,_,_,_,_,_,_,_] (k:=?_)));refine Aaq hCk rfl rfl rfl (fun x19 hx19=>?_);obtain⟨ka,c⟩:=x19;obtain⟨hK,hpc⟩:=hx19;dsimp only[ckH] at hK hpc ⊢;change wo _ _ _ _ _ ((19,.agg #[vS c.base,vS c.comment,vI c.date,.slice ka.fa c.files.length ka.fc,.slice ka.pa c.parents.length ka.pc,.slice ka.ta c.tags.length ka.tc,vS c.user])::_) _ _;have hsm:=Aev hK.right;have hdt:=hK.right.date;refine Aaa (Ad8 (Bf:=Row 25 2 (.slice ka.fa c.files.length ka.fc) c.files.length (c.files.flatMap AaN)) (Bt:=Row 60 4 (.slice ka.ta c.tags.length ka.tc) c.tags.length (c.tags.flatMap Aab)) ka c hK.z hdt (by omega) AaC AaC hpc) rfl rfl rfl ?_;refine Vv (k:=Wn (Yb ?_));exact Af5
   ·
    refine Qc (k:=Qv (k:=Wq (Zi (t:=fun h21=>?_) (f:=fun h21=>?_))))
    ·
     refine Zr (k:=Vf 11 116 (k:=Zm [_,_,_,_] (k:=?_)));refine Aaq hCt rfl rfl rfl (fun x25 hx25=>?_);obtain⟨⟨ka,kc⟩,c⟩:=x25;have hK:KCt c:=hx25;clear hx25;dsimp only[ctH] at ⊢;change wo _ _ _ _ _ ((25,.agg #[vI c.date,.slice ka c.tags.length kc,vS c.user])::_) _ _;have hsm:=Agc hK.right;have hdt:=hK.right.date;refine Aaa (Ad7 (Bt:=Row 60 4 (.slice ka c.tags.length kc) c.tags.length (c.tags.flatMap Aab)) ka kc c hK.z hdt (by omega) AaC) rfl rfl rfl ?_;refine Vv (k:=Wn (Yb ?_));exact Af5
    ·
     refine Qc (k:=Qv (k:=Wq (Zi (t:=fun h27=>?_) (f:=fun h27=>?_))))
     ·
      refine Qc (k:=Vv (k:=Wq ?_));refine Abg (fun (i:{ x:(Option Addr×Nat)×Nat // x.2≤4 })=>[(1,.pointer (some ⟨b1,0,none⟩)),(3,vS (AfJ n)),(4,.slice i.1.1.1 (AdZ ns i.1.2).length i.1.1.2)]) (fun (i:{ x:(Option Addr×Nat)×Nat // x.2≤4 })=>[Row 9 1 (.slice i.1.1.1 (AdZ ns i.1.2).length i.1.1.2) (AdZ ns i.1.2).length ((AdZ ns i.1.2).map vS),Ce b1 118 [vI kd,vI n,vI base,vI d,vI u,vI tb,.slice xa xs.length xc,.slice fa fs.length fc,.slice pa ps.length pc,.slice ta ts.length tc,.slice va vs.length vc,vI d2,vI u2,.slice t2a t2s.length t2c,.slice v2a v2s.length v2c,.slice na ns.length nc],SlI xa (xs.map vI),SlI fa (fs.map vI),SlI pa (ps.map vI),SlI ta (ts.map vI),SlI va (vs.map vI),SlI t2a (t2s.map vI),SlI v2a (v2s.map vI),SlI na (ns.map vI)]) rfl (fun i=>?_) ?_
      ·
       obtain⟨⟨⟨la,lc⟩,k⟩,hk5⟩:=i;have hll:=AnL ns k;have hlso:=Ajl ns k;have hlnm:=AlZ ns k;dsimp only at hk5 ⊢;generalize hl:AdZ ns k=nl at hll hlso hlnm ⊢;try dsimp only
       refine Qc (k:=Qv (k:=Vv (k:=Wq (Zi (t:=fun h86=>?_) (f:=fun h86=>?_)))))
       ·
        have hR2:AjE nl:=Aj9 hlso (fun x hx=>by obtain⟨n,rfl⟩:=hlnm x hx;exact Afe n) (by omega) (by omega);have hsm2:=Aqk hR2;refine Zr (k:=Vv (k:=?_));refine Aaa (AjU (B:=Row 9 1 (.slice la nl.length lc) nl.length (nl.map vS)) nl.length lc nl AaC rfl (by omega)) rfl rfl rfl ?_;refine Vv (k:=Wn (Yb ?_));exact Af5
       ·
        refine Zk (k:=Yb ?_);exact Af5
      ·
       refine Qc (k:=Vv (k:=Wq (Zb (k:=?_))));refine Aak (fun (i:{ x:(Option Addr×Nat)×Nat // x.2≤ns.length∧x.2≤4 })=>[(1,.pointer (some ⟨b1,0,none⟩)),(3,vS (AfJ n)),(4,.slice i.1.1.1 (AdZ ns i.1.2).length i.1.1.2),(5,vI i.1.2)]) (fun (i:{ x:(Option Addr×Nat)×Nat // x.2≤ns.length∧x.2≤4 })=>[Row 9 1 (.slice i.1.1.1 (AdZ ns i.1.2).length i.1.1.2) (AdZ ns i.1.2).length ((AdZ ns i.1.2).map vS),Ce b1 118 [vI kd,vI n,vI base,vI d,vI u,vI tb,.slice xa xs.length xc,.slice fa fs.length fc,.slice pa ps.length pc,.slice ta ts.length tc,.slice va vs.length vc,vI d2,vI u2,.slice t2a t2s.length t2c,.slice v2a v2s.length v2c,.slice na ns.length nc],SlI xa (xs.map vI),SlI fa (fs.map vI),SlI pa (ps.map vI),SlI ta (ts.map vI),SlI va (vs.map vI),SlI t2a (t2s.map vI),SlI v2a (v2s.map vI),SlI na (ns.map vI)]) (fun (i:{ x:(Option Addr×Nat)×Nat // x.2≤ns.length∧x.2≤4 })=>4-i.1.2) rfl (⟨((none,0),0),Nat.zero_le _,Nat.zero_le _⟩) ?_ ?_ (fun i=>?_)
       · exact⟨rfl,rfl,rfl,rfl,trivial⟩
       ·
        simp only[Ar5,List.length_nil,List.map_nil];exact(AaS (e:=9) (sz:=1)).trans Aa0
       obtain⟨⟨⟨la,lc⟩,k⟩,hk,hk5⟩:=i;have hll:=AnL ns k;have hlso:=Ajl ns k;have hlnm:=AlZ ns k;dsimp only at hk hk5 ⊢;generalize hl:AdZ ns k=nl at hll hlso hlnm ⊢;try dsimp only
       refine Za (k:=Qc (k:=Vv (k:=Qx 15 87 (k:=Qv (k:=Vv (k:=Gi 5 (t:=fun h34=>?_) (f:=fun h34=>?_)))))))
       ·
        refine J1 (k:=J1 (k:=P1 (k:=Wq (Zi (t:=fun h37=>?_) (f:=fun h37=>?_)))))
        ·
         refine Zk (k:=Ya (Za (k:=Zb (k:=Za (k:=?_)))));have hkl2:k<ns.length:=by omega
         have hns1:=Ar6 ns hkl2;rw[hl] at hns1;refine Zr (k:=Qx 15 87 (k:=Vv (k:=?_)));refine AaQ (m:=k) (sz:=1) Tryz.underlying87 ti3 rfl rfl rfl rfl (by omega) (by rw[List.length_map];omega) (Nat.mul_one _) rfl ?_;refine Ym (k:=?_);refine Aag (Adf _) rfl rfl rfl ?_;generalize Abx ns[k]=w2 at hns1 ⊢;refine Vv (k:=Wq (Qc (k:=Vv (k:=Wq ?_))));refine Abg (fun (i:{ j:Nat // j≤nl.length∧(∀i,i<j→blt (nl.getD i []) w2=true)∧(j<nl.length→blt (nl.getD j []) w2=false) })=>[(1,.pointer (some ⟨b1,0,none⟩)),(3,vS (AfJ n)),(4,.slice la nl.length lc),(5,vI k),(6,vS w2),(7,vI i.1)]) (fun (i:{ j:Nat // j≤nl.length∧(∀i,i<j→blt (nl.getD i []) w2=true)∧(j<nl.length→blt (nl.getD j []) w2=false) })=>[Row 9 1 (.slice la nl.length lc) nl.length (nl.map vS),Ce b1 118 [vI kd,vI n,vI base,vI d,vI u,vI tb,.slice xa xs.length xc,.slice fa fs.length fc,.slice pa ps.length pc,.slice ta ts.length tc,.slice va vs.length vc,vI d2,vI u2,.slice t2a t2s.length t2c,.slice v2a v2s.length v2c,.slice na ns.length nc],SlI xa (xs.map vI),SlI fa (fs.map vI),SlI pa (ps.map vI),SlI ta (ts.map vI),SlI va (vs.map vI),SlI t2a (t2s.map vI),SlI v2a (v2s.map vI),SlI na (ns.map vI)]) rfl (fun i=>?_) ?_
         ·
          obtain⟨j,hj,hok,hno⟩:=i;have hpb:=ArR w2 nl j hj hok hno;have htl:(nl.take j).length=j:=by rw[List.length_take];omega
          have hdl:(nl.drop j).length=nl.length-j:=List.length_drop;dsimp only;refine Aca (A:=Row 9 1 (.slice la nl.length lc) nl.length (nl.map vS)) HasC.get AbH (fun hkn=>?_);try dsimp only
          refine Abg (fun (i:Unit)=>[(1,.pointer (some ⟨b1,0,none⟩)),(3,vS (AfJ n)),(4,.slice la nl.length lc),(5,vI k),(6,vS w2),(7,vI j),(71,.bool (decide (¬(j<nl.length∧nl.getD j []=w2))))]) (fun (i:Unit)=>[Row 9 1 (.slice la nl.length lc) nl.length (nl.map vS),Ce b1 118 [vI kd,vI n,vI base,vI d,vI u,vI tb,.slice xa xs.length xc,.slice fa fs.length fc,.slice pa ps.length pc,.slice ta ts.length tc,.slice va vs.length vc,vI d2,vI u2,.slice t2a t2s.length t2c,.slice v2a v2s.length v2c,.slice na ns.length nc],SlI xa (xs.map vI),SlI fa (fs.map vI),SlI pa (ps.map vI),SlI ta (ts.map vI),SlI va (vs.map vI),SlI t2a (t2s.map vI),SlI v2a (v2s.map vI),SlI na (ns.map vI)]) rfl (fun i=>?_) ?_
          ·
           try dsimp only
           refine Zi (t:=fun h71=>?_) (f:=fun h71=>?_)
           ·
            refine Dw [] (k:=?_);refine Dv 1 (k:=Dv 2 (k:=?_));refine Aa1 3 rfl rfl rfl (by kernel_rfl) (by kernel_rfl) (Aat (Ac4 (m:=j) Tryz.underlying27 ti9 rfl rfl rfl (by omega))) ?_;refine Dv 5 (k:=Dv 8 (k:=Dv 9 (k:=?_)));refine Aa1 10 rfl rfl rfl (by kernel_rfl) (by kernel_rfl) (Aat (Acw (m:=j) (kk:=j) Tryz.underlying27 ti9 rfl rfl rfl rfl (Nat.mul_one _) (by omega) hkn.1 hkn.2.2)) ?_;refine Aah 0 6 (by kernel_rfl) rfl rfl ?_ ?_
            ·
             refine Nl [] (cs:=[]) (k:=fun b72=>?_);refine Aah 4 6 (by kernel_rfl) rfl rfl ?_ ?_
             ·
              refine AeC rfl (AbF (k:=0) (cap:=0) (sz:=1) (e:=9) (g:=b72) (xs:=[]) (cur:=[]) (Nat.le_refl _) (by simp[maxLen]) rfl rfl rfl) ?_;refine AbR (AaU (sz:=1) (bytes:=16) Tryz.underlying27 ti9 rfl rfl rfl rfl rfl rfl rfl (Adm (AaC (e:=9) (sz:=1) (k:=nl.length) (n:=nl.length) (c:=lc) (a:=la) (xs:=nl.map vS)) j) (by rw[←List.map_take,List.length_map,htl,Nat.mul_one]) (by rw[←List.map_take];exact AeD _) (by omega) (by simp only[maxLen];omega) (k:=0) (xs:=[])) rfl (fun x76 ⟨a76,c76,h76⟩=>?_);subst h76;rw[Nat.zero_add,List.nil_append,←List.map_take];refine Dn 6 (k:=Nl [_] (cs:=[_]) (k:=fun b78=>Dn 7 (k:=?_)));refine AaT (sz:=1) (bytes:=16) Tryz.underlying27 ti9 rfl rfl rfl rfl rfl rfl rfl (by rfl) (by rfl) (by omega) (by simp only[maxLen];omega) rfl (fun a79 c79=>?_);refine Dn 11 (k:=?_);refine AbR (AaU (sz:=1) (bytes:=16) Tryz.underlying27 ti9 rfl rfl rfl rfl rfl rfl rfl (Adn (e:=9) (sz:=1) (a:=la) (n':=nl.length) (c':=lc) (m:=j) (kk:=j) (k:=nl.length) (xs:=nl.map vS) (Nat.mul_one _) hj) (by rw[←List.map_drop,List.length_map,hdl,Nat.mul_one]) (by rw[←List.map_drop];exact AeD _) (by omega) (by simp only[maxLen];omega) (k:=j+1) (xs:=(nl.take j).map vS++[vS w2])) rfl (fun x83 ⟨a83,c83,h83⟩=>?_);subst h83;rw[←List.map_drop];refine Dv 12 (k:=Dd (k:=Yb (Ya (Zr (k:=Qv (k:=Vv (k:=Wn ?_)))))));exact AhM
             ·
              refine Nl [_] (cs:=[_]) (k:=fun b78=>Dn 4 (k:=?_));refine AeC rfl (AbF (k:=0) (cap:=0) (sz:=1) (e:=9) (g:=b72) (xs:=[]) (cur:=[]) (Nat.le_refl _) (by simp[maxLen]) rfl rfl rfl) ?_;refine AbR (AaU (sz:=1) (bytes:=16) Tryz.underlying27 ti9 rfl rfl rfl rfl rfl rfl rfl (Adm (AaC (e:=9) (sz:=1) (k:=nl.length) (n:=nl.length) (c:=lc) (a:=la) (xs:=nl.map vS)) j) (by rw[←List.map_take,List.length_map,htl,Nat.mul_one]) (by rw[←List.map_take];exact AeD _) (by omega) (by simp only[maxLen];omega) (k:=0) (xs:=[])) rfl (fun x76 ⟨a76,c76,h76⟩=>?_);subst h76;rw[Nat.zero_add,List.nil_append,←List.map_take];refine Dn 7 (k:=?_);refine AaT (sz:=1) (bytes:=16) Tryz.underlying27 ti9 rfl rfl rfl rfl rfl rfl rfl (by rfl) (by rfl) (by omega) (by simp only[maxLen];omega) rfl (fun a79 c79=>?_);refine Dn 11 (k:=?_);refine AbR (AaU (sz:=1) (bytes:=16) Tryz.underlying27 ti9 rfl rfl rfl rfl rfl rfl rfl (Adn (e:=9) (sz:=1) (a:=la) (n':=nl.length) (c':=lc) (m:=j) (kk:=j) (k:=nl.length) (xs:=nl.map vS) (Nat.mul_one _) hj) (by rw[←List.map_drop,List.length_map,hdl,Nat.mul_one]) (by rw[←List.map_drop];exact AeD _) (by omega) (by simp only[maxLen];omega) (k:=j+1) (xs:=(nl.take j).map vS++[vS w2])) rfl (fun x83 ⟨a83,c83,h83⟩=>?_);subst h83;rw[←List.map_drop];refine Dv 12 (k:=Dd (k:=Yb (Ya (Zr (k:=Qv (k:=Vv (k:=Wn ?_)))))));exact AhM
            ·
             refine Nl [_] (cs:=[_]) (k:=fun b78=>Dn 0 (k:=Nl [] (cs:=[]) (k:=fun b72=>Dn 4 (k:=?_))));refine AeC rfl (AbF (k:=0) (cap:=0) (sz:=1) (e:=9) (g:=b72) (xs:=[]) (cur:=[]) (Nat.le_refl _) (by simp[maxLen]) rfl rfl rfl) ?_;refine AbR (AaU (sz:=1) (bytes:=16) Tryz.underlying27 ti9 rfl rfl rfl rfl rfl rfl rfl (Adm (AaC (e:=9) (sz:=1) (k:=nl.length) (n:=nl.length) (c:=lc) (a:=la) (xs:=nl.map vS)) j) (by rw[←List.map_take,List.length_map,htl,Nat.mul_one]) (by rw[←List.map_take];exact AeD _) (by omega) (by simp only[maxLen];omega) (k:=0) (xs:=[])) rfl (fun x76 ⟨a76,c76,h76⟩=>?_);subst h76;rw[Nat.zero_add,List.nil_append,←List.map_take];refine Dn 7 (k:=?_);refine AaT (sz:=1) (bytes:=16) Tryz.underlying27 ti9 rfl rfl rfl rfl rfl rfl rfl (by rfl) (by rfl) (by omega) (by simp only[maxLen];omega) rfl (fun a79 c79=>?_);refine Dn 11 (k:=?_);refine AbR (AaU (sz:=1) (bytes:=16) Tryz.underlying27 ti9 rfl rfl rfl rfl rfl rfl rfl (Adn (e:=9) (sz:=1) (a:=la) (n':=nl.length) (c':=lc) (m:=j) (kk:=j) (k:=nl.length) (xs:=nl.map vS) (Nat.mul_one _) hj) (by rw[←List.map_drop,List.length_map,hdl,Nat.mul_one]) (by rw[←List.map_drop];exact AeD _) (by omega) (by simp only[maxLen];omega) (k:=j+1) (xs:=(nl.take j).map vS++[vS w2])) rfl (fun x83 ⟨a83,c83,h83⟩=>?_);subst h83;rw[←List.map_drop];refine Dv 12 (k:=Dd (k:=Yb (Ya (Zr (k:=Qv (k:=Vv (k:=Wn ?_)))))));exact AhM
           ·
            refine Zk (k:=Yb (Ya (Zr (k:=Qv (k:=Vv (k:=Wn ?_))))));exact AhM
          ·
           refine Zr (k:=Qv (k:=Qv (k:=Vv (k:=Gi 4 (t:=fun h64=>?_) (f:=fun h64=>?_)))))
           ·
            refine O1 (k:=O1 (k:=O1 (k:=O1 (k:=O1 (k:=O1 (k:=P1 (k:=Wn ?_)))))));exact AiY
           ·
            refine J0 (k:=J0 (k:=I0 (k:=Ye 1 (k:=I0 (k:=Yl (hv:=by exact Aa4 [] (m:=j) (by omega)) (k:=J0 (k:=J0 (k:=?_))))))));refine P0 (k:=Wn ?_);exact AiY
         ·
          refine Zb (k:=?_);refine Aak (fun (i:{ j:Nat // j≤nl.length∧∀i,i<j→blt (nl.getD i []) w2=true })=>[(1,.pointer (some ⟨b1,0,none⟩)),(3,vS (AfJ n)),(4,.slice la nl.length lc),(5,vI k),(6,vS w2),(7,vI i.1)]) (fun (i:{ j:Nat // j≤nl.length∧∀i,i<j→blt (nl.getD i []) w2=true })=>[Row 9 1 (.slice la nl.length lc) nl.length (nl.map vS),Ce b1 118 [vI kd,vI n,vI base,vI d,vI u,vI tb,.slice xa xs.length xc,.slice fa fs.length fc,.slice pa ps.length pc,.slice ta ts.length tc,.slice va vs.length vc,vI d2,vI u2,.slice t2a t2s.length t2c,.slice v2a v2s.length v2c,.slice na ns.length nc],SlI xa (xs.map vI),SlI fa (fs.map vI),SlI pa (ps.map vI),SlI ta (ts.map vI),SlI va (vs.map vI),SlI t2a (t2s.map vI),SlI v2a (v2s.map vI),SlI na (ns.map vI)]) (fun (i:{ j:Nat // j≤nl.length∧∀i,i<j→blt (nl.getD i []) w2=true })=>nl.length-i.1) rfl (⟨0,Nat.zero_le _,fun i h=>by omega⟩) ?_ ?_ (fun i=>?_)
          · exact⟨rfl,rfl,rfl,rfl,rfl,rfl,trivial⟩
          ·
           exact Aa0
          obtain⟨j,hj,hok⟩:=i;dsimp only;try dsimp only
          refine Za (k:=Qc (k:=Qv (k:=Qv (k:=Vv (k:=Gi 4 (t:=fun h50=>?_) (f:=fun h50=>?_))))))
          ·
           refine J1 (k:=J1 (k:=I1 (k:=Ye 1 (k:=I1 (k:=Yl (hv:=by exact Aa4 [] (m:=j) (by omega)) (k:=J1 (k:=J1 (k:=?_))))))));refine P1 (k:=Wq (Zi (t:=fun h57=>?_) (f:=fun h57=>?_)))
           ·
            refine Zk (k:=Ya (Zb (k:=Zr (k:=Qv (k:=Vv (k:=Wn (Yb ?_)))))));refine Aa5 ⟨j+1,by omega,fun i hi=>?_⟩ (by dsimp only;omega) ⟨rfl,rfl,rfl,rfl,rfl,rfl,trivial⟩ Aa0;by_cases e:i=j
            · rw[e];exact h57
            · exact hok i (by omega)
           ·
            refine Ze (k:=Xa (Xi (Xb ?_)));exact All
          ·
           refine O0 (k:=O0 (k:=O0 (k:=O0 (k:=O0 (k:=O0 (k:=P0 (k:=Wq (Z0 (k:=Ze (k:=Xa (Xi ?_)))))))))));refine Xb ?_;exact All
        ·
         refine Ze (k:=Xa (Xi (Xb ?_)));exact Alk
       ·
        refine O0 (k:=O0 (k:=P0 (k:=Wq (Z0 (k:=Ze (k:=Xa (Xi (Xb ?_))))))));exact Alk
     ·
      refine Zk (k:=Yb ?_);exact Af5
  ·
   refine Qc (k:=Qv (k:=Wq (Zi (t:=fun h14=>?_) (f:=fun h14=>?_))))
   ·
    refine Zk (k:=?_);exact Aic
   ·
    refine Zr (k:=Qv (k:=Wn ?_));exact Aic
end
theorem argsB_len' (l:List Bs):(AaM l).length=((l.map List.length).map (·+1)).sum:=by
 induction l with
 | nil=>rfl
 | cons a l ih =>
   show (32::a++AaM l).length=_;simp only[List.cons_append,List.length_cons,List.length_append,ih,List.map_cons,List.sum_cons];omega
theorem cardB_len' (c:Cd):(Aco c).length=2+((c.args.map List.length).map (·+1)).sum:=by
 unfold Aco AbN;rw[List.length_append,List.length_cons,argsB_len',List.length_singleton];omega
theorem bodyB_len' (l:List Cd):(Aav l).length=(l.map fun c=>(Aco c).length).sum:=by
 induction l with
 | nil=>rfl
 | cons a l ih =>
   show (Aco a++Aav l).length=_;rw[List.length_append,ih,List.map_cons,List.sum_cons]
def amC (c:Ck) (b:Bs) (ps:List Bs):Ck:=⟨b,c.comment,c.date,c.files,ps,c.tags,c.user⟩
theorem AvW {c:Ck} {b:Bs} {ps:List Bs} (hb:b.length=c.base.length) (hp:ps.map List.length=c.parents.map List.length):(Aav (AaG (amC c b ps))).length=(Aav (AaG c)).length:=by
 have e1:(Aav (Abe b)).length=(Aav (Abe c.base)).length:=by
  unfold Abe;by_cases h:b=[]
  · have:c.base=[]:=List.eq_nil_of_length_eq_zero (by rw[←hb,h];rfl)
    rw[if_pos h,if_pos this]
  · have:c.base≠[]:=fun e=>h (List.eq_nil_of_length_eq_zero (by rw[hb,e];rfl))
    rw[if_neg h,if_neg this,bodyB_len',bodyB_len'];simp only[List.map_cons,List.map_nil,cardB_len',hb]
 have e2:(Aav (AbC ps)).length=(Aav (AbC c.parents)).length:=by
  unfold AbC;have hl:ps.length=c.parents.length:=by have:=congrArg List.length hp;simpa using this
  by_cases h:ps=[]
  · have:c.parents=[]:=List.eq_nil_of_length_eq_zero (by rw[←hl,h];rfl)
    rw[if_pos h,if_pos this]
  · have:c.parents≠[]:=fun e=>h (List.eq_nil_of_length_eq_zero (by rw[hl,e];rfl))
    rw[if_neg h,if_neg this,bodyB_len',bodyB_len'];simp only[List.map_cons,List.map_nil,cardB_len',hp]
 unfold AaG amC;simp only[Af4,List.length_append,e1,e2]
theorem Axu {c:Ck} (z:CkZ c) {b:Bs} {ps:List Bs} (hb:b.length≤1099511627) (hn:ps.length≤1073741824) (hp:∀p∈ps,p.length≤1099511627):CkZ (amC c b ps):=⟨hb,z.comment,z.user,z.fn,z.fz,hn,hp,z.tags⟩
theorem Aw3 {ps:List Bs} (h:∀p∈ps,p.length=40):ps.map List.length=List.replicate ps.length 40:=by
 induction ps with
 | nil=>rfl
 | cons a r ih=>rw[List.map_cons,h a (by simp),ih fun p hp=>h p (by simp[hp])];rfl
structure TgSim (l m:List Tg):Prop where
 eq:m.map (fun t=>(t.kind,t.name,t.value))=l.map fun t=>(t.kind,t.name,t.value)
 tg:∀t∈m,t.target.length=40
theorem TgSim.len {l m:List Tg} (h:TgSim l m):m.length=l.length:=by have:=congrArg List.length h.eq;simpa using this
def AlF (t:Tg) (w:Bs):Tg:=⟨t.kind,t.name,w,t.value⟩
theorem TgSim.set {l m:List Tg} (h:TgSim l m) {j:Nat} (hj:j<m.length) {w:Bs} (hw:w.length=40):TgSim l (m.set j (AlF m[j] w)):=by
 refine⟨?_,fun t ht=>?_⟩
 · rw [List.map_set,←h.eq]
   apply List.ext_getElem?;intro i;rw[List.getElem?_set];by_cases e:j=i
   · subst e
     simp[hj,AlF]
   · rw[if_neg e]
 · rcases List.mem_or_eq_of_mem_set ht with ht | rfl
   · exact h.tg t ht
   · exact hw
theorem Awf {l:List Tg} {j:Nat} (hj:j<l.length) (w:Bs):(l.flatMap Aab).set (j * 4+2) (vS w)=(l.set j (AlF l[j] w)).flatMap Aab:=by
 induction l generalizing j with
 | nil=>simp at hj
 | cons a r ih =>
   cases j with
   | zero=>simp[List.flatMap_cons,Aab,AlF]
   | succ j =>
     have hl:(Aab a).length=4:=rfl;rw[List.flatMap_cons,List.set_append_right _ _ (by omega),hl,show (j+1) * 4+2-4=j * 4+2 by omega,ih (by simpa using hj)];simp[List.flatMap_cons]
theorem AqH {s t:Tg} (h:(s.kind,s.name,s.value)=(t.kind,t.name,t.value)) (h2:s.target.length=t.target.length):(Aco (AaF s)).length=(Aco (AaF t)).length:=by
 simp only[Prod.mk.injEq] at h;obtain⟨h0,h1,h3⟩:=h;rw[cardB_len',cardB_len',AaF,AaF,h0,h1,h3];split<;>simp[h2]
theorem TgSim.cards {l m:List Tg} (h:TgSim l m) (hl:∀t∈l,t.target.length=40):(Aav (m.map AaF)).length=(Aav (l.map AaF)).length:=by
 rw[bodyB_len',bodyB_len',List.map_map,List.map_map];congr 1;apply List.ext_getElem (by simp[h.len]);intro i h1 h2;simp only[List.length_map] at h1 h2;simp only[List.getElem_map,Function.comp];have he:=congrArg (fun q=>q[i]?) h.eq;simp only[List.getElem?_map,List.getElem?_eq_getElem h1,List.getElem?_eq_getElem h2,Option.map_some,Option.some.injEq] at he;exact AqH he (by rw[h.tg _ (List.getElem_mem h1),hl _ (List.getElem_mem h2)])
def amT (c:Ct) (m:List Tg):Ct:=⟨c.date,m,c.user⟩
theorem AvV {c:Ct} {m:List Tg} (h:TgSim c.tags m) (hl:∀t∈c.tags,t.target.length=40):(Aav (AaR (amT c m))).length=(Aav (AaR c)).length:=by
 have:=h.cards hl;have e:∀c:Ct,AaR c=[⟨68,[AaX c.date.toNat]⟩]++(c.tags.map AaF++[⟨85,[c.user]⟩]):=fun _=>rfl;rw[e,e];simp only[Af4,List.length_append,amT,this]
theorem TgSim.z {l m:List Tg} (h:TgSim l m) (z:TgZ l):TgZ m:=by
 refine⟨by rw[h.len];exact z.n,fun t ht=>?_⟩;have h40:=h.tg t ht;obtain⟨i,hi,rfl⟩:=List.getElem_of_mem ht;have hi2:i<l.length:=by rw[←h.len];exact hi
 have he:=congrArg (fun q=>q[i]?) h.eq;simp only[List.getElem?_map,List.getElem?_eq_getElem hi,List.getElem?_eq_getElem hi2,Option.map_some,Option.some.injEq,Prod.mk.injEq] at he;have hz:=z.z _ (List.getElem_mem hi2);rw[he.2.1,he.2.2];exact⟨hz.1,by omega,hz.2.2⟩
theorem TgSim.refl {l:List Tg} (hl:∀t∈l,t.target.length=40):TgSim l l:=⟨rfl,hl⟩
theorem ctB_len' (c:Ct):(ctB c).length=(Aav (AaR c)).length+43:=by rw[ctB,AcI,Ac1]
theorem ckB_len' (c:Ck):(ckB c).length=(Aav (AaG c)).length+43:=by rw[ckB,AcI,Ac1]
theorem AqR {c:Ct} (h:Acu c):∀t∈c.tags,t.target.length=40:=fun t ht=>by
 obtain⟨i,hi,rfl⟩:=Aby (d:=tg0) ht;exact AdP ((h.tags.ok i hi).tgt.2 rfl)
theorem AtF {c:Ck} (h:AbD c):∀p∈c.parents,p.length=40:=fun p hp=>by
 obtain⟨i,hi,rfl⟩:=Aby (d:=[]) hp;exact AdP (h.parents.ok i hi).1
section
set_option maxRecDepth 100000
section
variable {r:Option Nat} {P:Program} {n:Nat} {ops:Array Oper} {os:List Oper} {A:List HP} {L:Loc} {Hs:List HP} {Q:Out} {ty:TypeId} {d:Nat} {pos:String} {after:Array Edge} {c:Code}
theorem ApI {f:Operand} {args:Array Operand} {argTypes:Array TypeId} {g:Nat} {vs lb:List Value} {As Rs:List HP} {X:Type} {val:X→Value} {φ:X→Prop} {Bs:X→List HP}
    (sp:Sp P g (vs++lb) As val φ Bs) (hf:ev L f=some (.func (.func g) #[] lb.toArray)) (ha:evs L args.toList=some vs) (hd:Nat.blt d n=true) [hp:Ab4 As Hs Rs]
    (k:∀x,φ x→wo r P n ops os ((d,val x)::L) (Bs x++Rs) Q) :
    wo r P n ops (⟨some d,.call ⟨.value f,args,argTypes⟩,ty,pos,after,none⟩::os) L Hs Q:=AhR (cap:=lb) sp hf ha hd hp.get k
theorem At7 {K:Loc→List HP→Prop} {t:TypeId} {x:Operand} {i:Nat} {a:Option Addr} {k:Nat} {fs:Array Field} {fd:Field} {xs:List Value} (ht:P.underlying t=some (.struct fs)) (hf:fs[i]?=some fd) {ti:TypeInfo} (hi:P.info? fd.type=some ti) (hz:Nat.beq ti.size 0=false)
    (hx:ev L x=some (.pointer (Abr a k))) {o kk:Nat} (ho:fd.offset=o) (hk:k+o=kk) [hr:Abu a xs Hs] (hne:0<xs.length) (hd:Nat.blt d n=true)
    (k':K ((d,.pointer (Abr a kk))::L) Hs):AnOp r P n ops A ⟨some d,.fieldAddr t x i,ty,pos,after,none⟩ K L Hs:=by
 obtain⟨B,sh,hB⟩:=hr.get;refine Alf hB hd (fun ac f w M h1 h2 hfr t' le yy dst pos after guard=>?_) k';obtain⟨g,off,rfl,_⟩:=AcK sh t' le yy (fun e=>by rw[e] at hne;exact absurd hne (by simp));have:=(AeO (n:=n) (ty:=ty) ht hf hi hz hx).run ac f w dst pos after guard;rw[this,ho,Nat.add_assoc,hk];rfl
end
theorem Aqt {Bn:HP} {ma:Option Addr} (b mc:Nat) (names:List Bs) (hn:0<names.length) (hl:names.length≤1000000) (sh:SlA Bn ma (names.map vS)) (n:Int) :
    Sp Tryz.prog 118 [vI n,.pointer (some ⟨b,0,none⟩)] [Ce b 27 [.slice ma names.length mc],Bn] (X:=Bs) (fun w=>vS w) (fun w=>w∈names) (fun _=>[Ce b 27 [.slice ma names.length mc],Bn]):=by
 haveI:Abu ma (names.map vS) [Ce b 27 [.slice ma names.length mc],Bn]:=⟨⟨Bn,sh,.there .here⟩⟩
 have hW:=Aaf n 0 ((names.length:Int)-1) (by omega) (by omega) (by omega);have hw:=AbA (n:=n) (show (0:Int)≤(names.length:Int)-1 by omega);obtain⟨i,hi⟩:∃i:Nat,Aar n 0 ((names.length:Int)-1)=(i:Int):=⟨(Aar n 0 ((names.length:Int)-1)).toNat,by omega⟩
 rw[hi] at hW hw;have hil:i<names.length:=by omega
 refine Sp.body (n:=12) Tryz.call118 Tryz.func118 rfl rfl rfl ?_;refine Qc (k:=Vv (k:=Wq (Za (k:=Dw [Ce b 27 [.slice ma names.length mc],Bn] (k:=?_)))));refine Di 0 (t:=Ul) (k:=Dv 1 (k:=Di 2 (t:=Ul) (k:=Dv 3 (k:=Dv 4 (k:=Dn 5 (k:=?_))))));refine Aal hW rfl rfl rfl ?_;refine Aa1 6 rfl rfl rfl (by kernel_rfl) (by kernel_rfl) (Aae (m:=i) (sz:=1) Tryz.underlying27 ti9 rfl rfl rfl rfl (by omega) (by rw[List.length_map];omega) (Nat.mul_one _)) ?_;refine Aa1 7 rfl rfl rfl (by kernel_rfl) (by kernel_rfl) (Aas Tryz.underlying9 rfl rfl (Adg (m:=i) hil)) ?_;refine Dv 8 (k:=Dd (k:=Ya (Zt (k:=?_))));exact Aa2 names[i] (vs:=[_]) (Cs:=[]) rfl (.tmp rfl .nil) rfl (List.getElem_mem hil) Aa0
theorem AjH {G:Prop} (h:G:=by
    first
    | (refine Aa5 ⟨(qs.set j nw,j+1),by dsimp only;omega,by dsimp only;rw[List.length_set];exact hql,fun p hp=>?_⟩ (by dsimp only;omega) ⟨rfl,rfl,rfl,rfl,rfl,trivial⟩ (by dsimp only;rw[List.map_set];exact Aa0)
       rcases List.mem_or_eq_of_mem_set hp with hp | rfl
       · exact hq40 p hp
       · exact hw40)
    | exact Aa5 ⟨(qs,j+1),by dsimp only;omega,hql,hq40⟩ (by dsimp only;omega) ⟨rfl,rfl,rfl,rfl,rfl,trivial⟩ Aa0):G:=h
theorem Aio {G:Prop} (h:G:=by
    first
    | exact Aa5 ⟨ckB (amC c bs qs),by omega⟩ trivial ⟨rfl,rfl,trivial⟩ Aa0
    | exact Aa5 ⟨ctB (amT c m),by omega⟩ trivial ⟨rfl,rfl,trivial⟩ Aa0
    | exact Aa5 ⟨s0,by have:=hs0.2;omega⟩ trivial ⟨rfl,rfl,trivial⟩ Aa0):G:=h
theorem Alj {G:Prop} (h:G:=by
    first
    | (have hb:c.base.length=40:=AdP (hkr.base.resolve_left (by assumption))
       exact Aa5 ⟨nb,by omega⟩ trivial ⟨rfl,rfl,trivial⟩ Aa0)
    | exact Aa5 ⟨c.base,rfl⟩ trivial ⟨rfl,rfl,trivial⟩ Aa0):G:=h
theorem Aib {G:Prop} (h:G:=by exact Aa5 () trivial ⟨rfl,rfl,rfl,rfl,(by first | (show some (Value.bool _)=some (Value.bool _);simp[h18]) | rfl),trivial⟩ Aa0):G:=h
set_option maxHeartbeats 16000000 in
theorem AmT {Bn:HP} {ma:Option Addr} (q:KaV) (z:q.Z) (mc:Nat) (names:List Bs) (hn:0<names.length) (hl:names.length≤1000000) (h40:∀w∈names,w.length=40) (sh:SlA Bn ma (names.map vS)) :
    Sp Tryz.prog 63 [.agg q.cells.toArray,.slice ma names.length mc] (q.hs++[Bn]) (X:=Bs) (fun s=>vS s) (fun s=>s.length≤300) (fun _=>q.hs++[Bn]):=by
 have hA:=AkD q z;obtain⟨kd,n,base,d,u,tb,⟨xa,xc,xs⟩,⟨fa,fc,fs⟩,⟨pa,pc,ps⟩,⟨ta,tc,ts⟩,⟨va,vc,vs⟩,d2,u2,⟨t2a,t2c,t2s⟩,⟨v2a,v2c,v2s⟩,⟨na,nc,ns⟩⟩:=q;obtain⟨z1,z2,z3,z4,z5,z6,z7,z8⟩:=z;dsimp only[KaV.cells,KaV.hs] at hA z1 z2 z3 z4 z5 z6 z7 z8 ⊢;simp only[List.cons_append,List.nil_append];have hCk:=Ag6 base d u tb xc fc pc tc vc xs fs ps ts vs z1 z2 z3 z4 z5 (Bx:=SlI xa (xs.map vI)) (Bf:=SlI fa (fs.map vI)) (Bp:=SlI pa (ps.map vI)) (Bt:=SlI ta (ts.map vI)) (Bv:=SlI va (vs.map vI)) Abo Abo Abo Abo Abo;have hCt:=AgQ d2 u2 t2c v2c t2s v2s z6 z7 (Bt:=SlI t2a (t2s.map vI)) (Bv:=SlI v2a (v2s.map vI)) Abo Abo;have hw:=AbA (n:=kd) (show (0:Int)≤4 by omega);refine Sp.body (n:=98) Tryz.call63 Tryz.func63 rfl rfl rfl ?_;have hOf:=fun b=>Aqt b mc names hn hl sh;refine Qc (k:=Zx [_,_,_,_,_,_,_,_,_,_,_,_,_,_,_,_] (k:=fun b2=>Zx [_] (k:=fun b3=>Vv (k:=Wq (Qc (k:=Qv (k:=Wq (Za (k:=?_)))))))));refine Zr (k:=Zm [_,_,_,_,_,_,_,_,_,_,_,_,_,_,_,_] (k:=?_));refine Aaq hA rfl rfl rfl (fun s0 hs0=>?_);refine Vv (k:=Wq ?_)
 refine Abg (fun (i:{ s:Bs // s.length≤1000000 })=>[(2,.pointer (some ⟨b2,0,none⟩)),(6,vS i.1)]) (fun (i:{ s:Bs // s.length≤1000000 })=>[Ce b2 118 [vI kd,vI n,vI base,vI d,vI u,vI tb,.slice xa xs.length xc,.slice fa fs.length fc,.slice pa ps.length pc,.slice ta ts.length tc,.slice va vs.length vc,vI d2,vI u2,.slice t2a t2s.length t2c,.slice v2a v2s.length v2c,.slice na ns.length nc],SlI xa (xs.map vI),SlI fa (fs.map vI),SlI pa (ps.map vI),SlI ta (ts.map vI),SlI va (vs.map vI),SlI t2a (t2s.map vI),SlI v2a (v2s.map vI),SlI na (ns.map vI),Bn]) rfl (fun i=>?_) ?_
 ·
  obtain⟨s,hsm⟩:=i;dsimp only;try dsimp only
  refine Za (k:=Qc (k:=Qv (k:=Vv (k:=Wq (Zi (t:=fun h94=>?_) (f:=fun h94=>?_))))))
  ·
   refine Qc (k:=Zm [_,_,_,_,_,_,_,_,_,_,_,_,_,_,_,_] (k:=?_));refine Aaq hA rfl rfl rfl (fun s2 hs2=>?_);refine Vv (k:=Wq (Zt (k:=Va ?_)));exact Aa2 s2 (vs:=[_]) (Cs:=[]) rfl (.tmp rfl .nil) rfl hs2.2 Aa0
  ·
   refine Zk (k:=Ya (Qc (k:=Qv (k:=Wq (Zt (k:=?_))))));exact Aa2 s (vs:=[_]) (Cs:=[]) rfl (.tmp rfl .nil) rfl (by omega) Aa0
 ·
  refine Qc (k:=Qx 0 3 (k:=?_));refine Aag (Aaf kd 0 4 (by omega) (by omega) (by omega)) rfl rfl rfl ?_;generalize Aar kd 0 4=w at hw ⊢;refine Wq (Zb (k:=?_));refine Abg (fun (i:Unit)=>[(2,.pointer (some ⟨b2,0,none⟩)),(5,.func (.func 118) #[] #[.pointer (some ⟨b3,0,none⟩)]),(6,vS s0),(17,vI w),(18,.bool (decide (w=0∨w=1)))]) (fun (i:Unit)=>[Ce b2 118 [vI kd,vI n,vI base,vI d,vI u,vI tb,.slice xa xs.length xc,.slice fa fs.length fc,.slice pa ps.length pc,.slice ta ts.length tc,.slice va vs.length vc,vI d2,vI u2,.slice t2a t2s.length t2c,.slice v2a v2s.length v2c,.slice na ns.length nc],Ce b3 27 [.slice ma names.length mc],Bn,SlI xa (xs.map vI),SlI fa (fs.map vI),SlI pa (ps.map vI),SlI ta (ts.map vI),SlI va (vs.map vI),SlI t2a (t2s.map vI),SlI v2a (v2s.map vI),SlI na (ns.map vI)]) rfl (fun i=>?_) ?_
  ·
   try dsimp only
   refine Zi (t:=fun h18=>?_) (f:=fun h18=>?_)
   ·
    refine Qc (k:=Vf 2 114 (k:=Zm [_,_,_,_,_,_,_,_,_] (k:=?_)));refine Aaq hCk rfl rfl rfl (fun x23 hx23=>?_);obtain⟨ka,c⟩:=x23;obtain⟨hK,hpc,hpl⟩:=hx23;dsimp only at hK hpc hpl ⊢;change wo _ _ _ _ _ ((23,.agg #[vS c.base,vS c.comment,vI c.date,.slice ka.fa c.files.length ka.fc,.slice ka.pa c.parents.length ka.pc,.slice ka.ta c.tags.length ka.tc,vS c.user])::_) _ _;have hkr:=hK.right;have hsm:=Aev hkr;have hp3:c.parents.length≤3:=by have:=hkr.parents.len;omega
    have hp40:=AtF hkr;refine Zc [vS [],vS [],.int .i64 0,.slice none 0 0,.slice none 0 0,.slice none 0 0,vS []] (k:=fun b7=>Zp (k:=Wq (Za (k:=Qc (k:=Qx 4 27 (k:=Qv (k:=Wq (Zb (k:=?_)))))))))
    refine Aak (fun (i:{ x:List Bs×Nat // x.2≤c.parents.length∧x.1.length=c.parents.length∧∀p∈x.1,p.length=40 })=>[(2,.pointer (some ⟨b2,0,none⟩)),(5,.func (.func 118) #[] #[.pointer (some ⟨b3,0,none⟩)]),(7,.pointer (some ⟨b7,0,none⟩)),(26,vI c.parents.length),(27,vI i.1.2)]) (fun (i:{ x:List Bs×Nat // x.2≤c.parents.length∧x.1.length=c.parents.length∧∀p∈x.1,p.length=40 })=>[Ce b7 30 [vS c.base,vS c.comment,vI c.date,.slice ka.fa c.files.length ka.fc,.slice ka.pa c.parents.length ka.pc,.slice ka.ta c.tags.length ka.tc,vS c.user],Row 9 1 (.slice ka.pa c.parents.length ka.pc) c.parents.length (i.1.1.map vS),Row 25 2 (.slice ka.fa c.files.length ka.fc) c.files.length (c.files.flatMap AaN),Row 60 4 (.slice ka.ta c.tags.length ka.tc) c.tags.length (c.tags.flatMap Aab),Ce b2 118 [vI kd,vI n,vI base,vI d,vI u,vI tb,.slice xa xs.length xc,.slice fa fs.length fc,.slice pa ps.length pc,.slice ta ts.length tc,.slice va vs.length vc,vI d2,vI u2,.slice t2a t2s.length t2c,.slice v2a v2s.length v2c,.slice na ns.length nc],Ce b3 27 [.slice ma names.length mc],Bn,SlI xa (xs.map vI),SlI fa (fs.map vI),SlI pa (ps.map vI),SlI ta (ts.map vI),SlI va (vs.map vI),SlI t2a (t2s.map vI),SlI v2a (v2s.map vI),SlI na (ns.map vI)]) (fun (i:{ x:List Bs×Nat // x.2≤c.parents.length∧x.1.length=c.parents.length∧∀p∈x.1,p.length=40 })=>c.parents.length-i.1.2) rfl (⟨(c.parents,0),Nat.zero_le _,rfl,hp40⟩) ?_ ?_ (fun i=>?_)
    · exact⟨rfl,rfl,rfl,rfl,rfl,trivial⟩
    ·
     exact Aa0
    obtain⟨⟨qs,j⟩,hj,hql,hq40⟩:=i;dsimp only at hj hql hq40 ⊢;try dsimp only
    refine Qc (k:=Vv (k:=Wq (Za (k:=Zi (t:=fun h28=>?_) (f:=fun h28=>?_)))))
    ·
     refine Zk (k:=Ya (Za (k:=Zb (k:=Qc (k:=Qv (k:=Wq (Qc (k:=Vv (k:=?_)))))))));refine Vf 2 114 (k:=Qx 6 87 (k:=Vv (k:=?_)));refine AaQ (m:=j) (sz:=1) Tryz.underlying87 ti3 rfl rfl rfl rfl (by omega) (by rw[List.length_map];omega) (Nat.mul_one _) rfl ?_;refine Yl (hv:=by exact Aa4 0 (m:=j) (by omega)) (k:=?_);refine ApI (hOf b3 (ps.getD j 0)) rfl rfl rfl (fun nw hnw=>?_);have hw40:=h40 nw hnw;refine Vv (k:=Wq (Qc (k:=Qv (k:=Vv (k:=Gi 2 (t:=fun h40=>?_) (f:=fun h40=>?_))))))
     ·
      refine O1 (k:=O1 (k:=O1 (k:=O1 (k:=O1 (k:=O1 (k:=P1 (k:=Wq (Z1 (k:=Zr (k:=Qx 4 27 (k:=?_)))))))))));refine Qv (k:=Ye 1 (k:=?_));refine AlP ti9 rfl rfl rfl rfl (by first | (rw[List.length_map];omega) | (rw[Aaj (fun _=>rfl)];omega) | (simp;omega)) ?_;refine Wn (Yb (Ya (Zr (k:=Qv (k:=Wn ?_)))));exact AjH
     ·
      refine J0 (k:=I0 (k:=Vf 4 27 (k:=I0 (k:=Zd (k:=I0 (k:=Ye 1 (m:=0) (k:=I0 (k:=Yl (hv:=by exact Aa4 [] (m:=0) (by omega)) (k:=J0 (k:=?_))))))))));refine P0 (k:=Wq (Zi (t:=fun h47=>?_) (f:=fun h47=>?_)))
      ·
       refine Zr (k:=Qx 4 27 (k:=Qv (k:=Ye 1 (k:=?_))));refine AlP ti9 rfl rfl rfl rfl (by first | (rw[List.length_map];omega) | (rw[Aaj (fun _=>rfl)];omega) | (simp;omega)) ?_;refine Wn (Yb (Ya (Zr (k:=Qv (k:=Wn ?_)))));exact AjH
      ·
       refine Zk (k:=Yb (Ya (Zr (k:=Qv (k:=Wn ?_)))));exact AjH
    ·
     refine Ze (k:=Xa (Xi (Xb (Ya ?_))));refine Abg (fun (i:{ x:Bs // x.length=c.base.length })=>[(2,.pointer (some ⟨b2,0,none⟩)),(7,.pointer (some ⟨b7,0,none⟩))]) (fun (i:{ x:Bs // x.length=c.base.length })=>[Ce b7 30 [vS i.1,vS c.comment,vI c.date,.slice ka.fa c.files.length ka.fc,.slice ka.pa c.parents.length ka.pc,.slice ka.ta c.tags.length ka.tc,vS c.user],Row 9 1 (.slice ka.pa c.parents.length ka.pc) c.parents.length (qs.map vS),Row 25 2 (.slice ka.fa c.files.length ka.fc) c.files.length (c.files.flatMap AaN),Row 60 4 (.slice ka.ta c.tags.length ka.tc) c.tags.length (c.tags.flatMap Aab),Ce b2 118 [vI kd,vI n,vI base,vI d,vI u,vI tb,.slice xa xs.length xc,.slice fa fs.length fc,.slice pa ps.length pc,.slice ta ts.length tc,.slice va vs.length vc,vI d2,vI u2,.slice t2a t2s.length t2c,.slice v2a v2s.length v2c,.slice na ns.length nc],SlI xa (xs.map vI),SlI fa (fs.map vI),SlI pa (ps.map vI),SlI ta (ts.map vI),SlI va (vs.map vI),SlI t2a (t2s.map vI),SlI v2a (v2s.map vI),SlI na (ns.map vI),Bn]) rfl (fun i=>?_) ?_
     ·
      obtain⟨bs,hbs⟩:=i;dsimp only;have hbl:c.base.length≤40:=by
       rcases hkr.base with e | e
       · rw[e];exact Nat.zero_le _
       · rw[AdP e];exact Nat.le_refl _
      have hml:qs.map List.length=c.parents.map List.length:=by rw[Aw3 hq40,Aw3 hp40,hql]
      have hal:=AvW (c:=c) (b:=bs) (ps:=qs) hbs hml;have hRc:=Ad8 (Bf:=Row 25 2 (.slice ka.fa c.files.length ka.fc) c.files.length (c.files.flatMap AaN)) (Bt:=Row 60 4 (.slice ka.ta c.tags.length ka.tc) c.tags.length (c.tags.flatMap Aab)) ka (amC c bs qs) (Axu hK.z (by omega) (by omega) (fun p hp=>by rw[hq40 p hp];decide)) hkr.date (by omega) AaC AaC (by show qs.length≤_;omega);have hRl:=ckB_len' (amC c bs qs);change Sp1 _ _ [.agg #[vS bs,vS c.comment,vI c.date,.slice ka.fa c.files.length ka.fc,.slice ka.pa qs.length ka.pc,.slice ka.ta c.tags.length ka.tc,vS c.user]] [_,SlI ka.pa (qs.map vS),_] _ _ at hRc;rw[hql] at hRc;try dsimp only
      refine Zr (k:=Zm [_,_,_,_,_,_,_] (k:=?_));refine Aej ka.pa ?_;refine Aaa hRc rfl rfl rfl ?_;refine Vv (k:=Wn (Yb ?_));exact Aio
     ·
      refine Qc (k:=Qx 0 9 (k:=Vv (k:=Wq (Zi (t:=fun h56=>?_) (f:=fun h56=>?_)))))
      ·
       refine Zr (k:=Vv (k:=Vf 2 114 (k:=Qx 0 3 (k:=?_))));refine Aa6 (AoB rfl rfl (by omega)) rfl ?_;refine ApI (hOf b3 _) rfl rfl rfl (fun nb hnb=>?_);have hb40:=h40 nb hnb;refine Vf 0 9 (k:=Zo (k:=Wn ?_));exact Alj
      ·
       refine Zk (k:=?_);exact Alj
   ·
    refine Qc (k:=Qv (k:=Wq (Zi (t:=fun h66=>?_) (f:=fun h66=>?_))))
    ·
     refine Qc (k:=Vf 11 116 (k:=Zm [_,_,_,_] (k:=?_)));refine Aaq hCt rfl rfl rfl (fun x70 hx70=>?_);obtain⟨⟨ka,kc⟩,c⟩:=x70;have hK:KCt c:=hx70;clear hx70;dsimp only[ctH] at ⊢;change wo _ _ _ _ _ ((70,.agg #[vI c.date,.slice ka c.tags.length kc,vS c.user])::_) _ _;have hkr:=hK.right;have hsm:=Agc hkr;have ht40:=AqR hkr;have ht12:=hkr.tags.len;refine Zc [.int .i64 0,.slice none 0 0,vS []] (k:=fun b10=>Zp (k:=Wq (Za (k:=Qc (k:=Qx 1 28 (k:=Qv (k:=Wq (Zb (k:=?_)))))))))
     refine Aak (fun (i:{ x:List Tg×Nat // x.2≤c.tags.length∧TgSim c.tags x.1 })=>[(2,.pointer (some ⟨b2,0,none⟩)),(5,.func (.func 118) #[] #[.pointer (some ⟨b3,0,none⟩)]),(10,.pointer (some ⟨b10,0,none⟩)),(73,vI c.tags.length),(74,vI i.1.2)]) (fun (i:{ x:List Tg×Nat // x.2≤c.tags.length∧TgSim c.tags x.1 })=>[Ce b10 70 [vI c.date,.slice ka c.tags.length kc,vS c.user],Row 60 4 (.slice ka c.tags.length kc) c.tags.length (i.1.1.flatMap Aab),Ce b2 118 [vI kd,vI n,vI base,vI d,vI u,vI tb,.slice xa xs.length xc,.slice fa fs.length fc,.slice pa ps.length pc,.slice ta ts.length tc,.slice va vs.length vc,vI d2,vI u2,.slice t2a t2s.length t2c,.slice v2a v2s.length v2c,.slice na ns.length nc],Ce b3 27 [.slice ma names.length mc],Bn,SlI xa (xs.map vI),SlI fa (fs.map vI),SlI pa (ps.map vI),SlI ta (ts.map vI),SlI va (vs.map vI),SlI t2a (t2s.map vI),SlI v2a (v2s.map vI),SlI na (ns.map vI)]) (fun (i:{ x:List Tg×Nat // x.2≤c.tags.length∧TgSim c.tags x.1 })=>c.tags.length-i.1.2) rfl (⟨(c.tags,0),Nat.zero_le _,TgSim.refl ht40⟩) ?_ ?_ (fun i=>?_)
     · exact⟨rfl,rfl,rfl,rfl,rfl,trivial⟩
     ·
      exact Aa0
     obtain⟨⟨m,j⟩,hj,hS⟩:=i;dsimp only at hj hS ⊢;have hml:=hS.len;try dsimp only
     refine Qc (k:=Vv (k:=Wq (Za (k:=Zi (t:=fun h75=>?_) (f:=fun h75=>?_)))))
     ·
      refine Zk (k:=Ya (Za (k:=Zb (k:=Qc (k:=Qv (k:=Wq (Dw [Ce b10 70 [vI c.date,.slice ka c.tags.length kc,vS c.user],Ce b2 118 [vI kd,vI n,vI base,vI d,vI u,vI tb,.slice xa xs.length xc,.slice fa fs.length fc,.slice pa ps.length pc,.slice ta ts.length tc,.slice va vs.length vc,vI d2,vI u2,.slice t2a t2s.length t2c,.slice v2a v2s.length v2c,.slice na ns.length nc]] (k:=?_))))))));refine Di 0 (t:=Uf 1 28) (k:=Di 1 (t:=Ul) (k:=Dv 2 (k:=Dv 3 (k:=Di 4 (t:=Uf 11 116) (k:=Di 5 (t:=Uf 3 87) (k:=Di 6 (t:=Ul) (k:=Dv 7 (k:=Dn 8 (k:=?_)))))))));refine AcL (AeQ v2c v2s (j:Int) (by omega) z7 (B:=SlI v2a (v2s.map vI)) Abo) rfl rfl rfl ?_;refine Dn 9 (k:=?_);refine Alg (cap:=[.pointer (some ⟨b3,0,none⟩)]) (hOf b3 _) rfl rfl rfl (fun nw hnw=>?_);have hw40:=h40 nw hnw;refine Dn 10 (k:=?_);refine AkK (m:=j) (sz:=4) Tryz.underlying28 Adx rfl rfl rfl rfl (by omega) (by rw[Aaj (sz:=4) (fun _=>rfl)];omega) rfl rfl ?_;refine Dn 11 (k:=?_);refine At7 (o:=2) Tryz.underlying60 rfl ti9 rfl rfl rfl rfl (by rw[Aaj (sz:=4) (fun _=>rfl)];omega) rfl ?_;refine Dn 12 (k:=?_);refine At6 ti9 rfl rfl rfl rfl (by rw[Aaj (sz:=4) (fun _=>rfl)];omega) ?_;refine Dd (k:=Yb (Ya (Zr (k:=Qv (k:=Wn ?_)))));have hjm:j<m.length:=by omega
      refine Aa5 ⟨(m.set j (AlF m[j] nw),j+1),by dsimp only;omega,hS.set hjm hw40⟩ (by dsimp only;omega) ⟨rfl,rfl,rfl,rfl,rfl,trivial⟩ ?_;dsimp only;rw[←Awf hjm nw];exact Aa0
     ·
      refine Ze (k:=Xa (Xi (Xb (Ya ?_))));have hal:=AvV hS ht40;have hRc:=Ad7 (Bt:=Row 60 4 (.slice ka c.tags.length kc) c.tags.length (m.flatMap Aab)) ka kc (amT c m) (hS.z hK.z) hkr.date (by omega) AaC;have hRl:=ctB_len' (amT c m);change Sp1 _ _ [.agg #[vI c.date,.slice ka m.length kc,vS c.user]] _ _ _ at hRc;rw[hml] at hRc;refine Zr (k:=Zm [_,_,_] (k:=?_));refine Aaa hRc rfl rfl rfl ?_;refine Vv (k:=Wn (Yb ?_));exact Aio
    ·
     refine Zk (k:=Yb ?_);exact Aio
  ·
   refine Qc (k:=Qv (k:=Wq (Zi (t:=fun h18=>?_) (f:=fun h18=>?_))))
   ·
    refine Zk (k:=?_);exact Aib
   ·
    refine Zr (k:=Qv (k:=Wn ?_));exact Aib
end
section
set_option maxRecDepth 100000
def Aqz (l:List KaV):HP:=⟨fun M _=>∀q∈l,SL q.hs M Res.emp,fun le h q hq=>SL.mono le (h q hq)⟩
instance {l:List KaV}:PersC (Aqz l):=⟨fun e=>e⟩
theorem Ajp (q:KaV):q.cells.length=16:=rfl
theorem AvG {l:List KaV} {q:KaV} {Hs:List HP} (h:q∈l) (hp:Has (Aqz l) Hs):Ent Hs (q.hs++Hs):=⟨fun {M g} s=>by
 obtain⟨_,_,a⟩:=hp.sat s;have e:g=Res.emp.add g:=(Res.emp_add g).symm;rw[e];exact SL.append (Res.emp_dj _) (a q h) s⟩
structure HdP (K:Ks):Prop where
 ok:∀p∈K,∃s,p=(AcX s,vS s)∧s.length≤300
 nd:(K.map (·.1)).Nodup
theorem HdP.txt {K:Ks} (h:HdP K):TxtK K:=fun p hp=>by
 obtain⟨s,rfl,hs⟩:=h.ok p hp;exact⟨s,rfl,by omega⟩
theorem HdP.k40 {K:Ks} (h:HdP K) {n:Bs} (hn:n∈K.map (·.1)):n.length=40:=by
 obtain⟨p,hp,rfl⟩:=List.mem_map.1 hn;obtain⟨s,rfl,_⟩:=h.ok p hp;exact Aeq s
theorem Aq3 (ks:Ks) (k:Bs) (v:Value) (h:k∉ks.map (·.1)):mput ks k v=ks++[(k,v)]:=by
 induction ks with
 | nil=>rfl
 | cons p r ih =>
   simp only[List.map_cons,List.mem_cons,not_or] at h;rw[mput,if_neg (fun e=>h.1 e.symm),ih h.2];rfl
theorem mlook_some_mem {ks:Ks} {k:Bs}:(mlook ks k).isSome=true↔k∈ks.map (·.1):=by
 constructor
 · intro h
   refine Classical.byContradiction fun hn=>?_;rw[Agz hn] at h;cases h
 · exact AsF
theorem HdP.put {K:Ks} (h:HdP K) {s:Bs} (hs:s.length≤300) (hn:AcX s∉K.map (·.1)):HdP (K++[(AcX s,vS s)]):=by
 refine⟨fun p hp=>?_,?_⟩
 · rcases List.mem_append.1 hp with hp | hp
   · exact h.ok p hp
   · rw[List.mem_singleton.1 hp]
     exact⟨s,rfl,hs⟩
 · rw[List.map_append,List.nodup_append]
   exact⟨h.nd,by simp,fun a ha b hb e=>by simp at hb;subst hb;subst e;exact hn ha⟩
structure HdS where
 a:Option Addr
 c:Nat
 j:Nat
 K:Ks
theorem Ank {G:Prop} (h:G:=by
    first
    | (have hno:nm∉K.map (·.1):=fun hm=>by rw[mlook_some_mem.2 hm] at h47;simp at h47
       refine Aa5 ⟨⟨a54,c54,j+1,K++[(nm,vS s)]⟩,hput hno,by dsimp only;rw[List.length_append,List.length_singleton];omega,by dsimp only;omega,by dsimp only;omega⟩ (by dsimp only;omega) ⟨rfl,rfl,rfl,Adk (by simp),rfl,trivial⟩ ?_;dsimp only;rw[←Aq3 K nm (vS s) hno,Ak5,if_neg hno,Aq3 K nm (vS s) hno,List.map_append,List.map_cons,List.map_nil,List.length_append,List.length_singleton];exact Aa0)
    | exact Aa5 ⟨⟨sa,sc,j+1,K⟩,hH,by dsimp only;omega,by dsimp only;omega,by dsimp only;omega⟩ (by dsimp only;omega) ⟨rfl,rfl,rfl,rfl,rfl,trivial⟩ Aa0):G:=h
theorem Anl {G:Prop} (h:G:=by
    first
    | exact Aa5 ⟨s1,hs1⟩ trivial ⟨rfl,rfl,rfl,rfl,rfl,rfl,trivial⟩ Aa0
    | exact Aa5 ⟨s0,hs0.2⟩ trivial ⟨rfl,rfl,rfl,rfl,rfl,rfl,trivial⟩ Aa0):G:=h
theorem ArD {G:Prop} (h:G:=by exact Aa2 (b12,K) (vs:=[_]) (Cs:=[]) rfl (.tmp rfl .nil) rfl ⟨hH,by dsimp only;omega⟩ Aa0):G:=h
set_option maxHeartbeats 16000000 in
theorem AoS (la:Option Addr) (lc:Nat) (qs:List KaV) (hz:∀q∈qs,q.Z) (most:Nat) (hm:most≤1000) (hq:qs.length≤9223372036854775807) :
    Sp Tryz.prog 22 [.slice la qs.length lc,vI most] [SlI la (qs.flatMap KaV.cells),Aqz qs] (X:=Nat×Ks) (fun x=>.map (some x.1)) (fun x=>HdP x.2∧x.2.length≤most) (fun x=>[MapS x.1 x.2,SlI la (qs.flatMap KaV.cells),Aqz qs]):=by
 refine Sp.body (n:=56) Tryz.call22 Tryz.func22 rfl rfl rfl ?_;refine Qc (k:=Vv (k:=Wq (Qc (k:=?_))));refine r_mkmap rfl (fun b12=>?_);refine Vv (k:=Wq (Qc (k:=Vv (k:=Wq (Za (k:=Qc (k:=Vv (k:=Wq (Zb (k:=?_))))))))));refine Aak (fun (i:{ x:HdS // HdP x.K∧x.K.length≤x.j∧x.j≤most∧x.j≤qs.length })=>[(0,.slice la qs.length lc),(1,vI most),(5,.map (some b12)),(6,.slice i.1.a i.1.K.length i.1.c),(7,vI i.1.j)]) (fun (i:{ x:HdS // HdP x.K∧x.K.length≤x.j∧x.j≤most∧x.j≤qs.length })=>[MapS b12 i.1.K,Row 9 1 (.slice i.1.a i.1.K.length i.1.c) i.1.K.length ((i.1.K.map (·.1)).map vS),SlI la (qs.flatMap KaV.cells),Aqz qs]) (fun (i:{ x:HdS // HdP x.K∧x.K.length≤x.j∧x.j≤most∧x.j≤qs.length })=>qs.length-i.1.j) rfl (⟨⟨none,0,0,[]⟩,⟨(fun p hp=>by cases hp),List.nodup_nil⟩,Nat.zero_le _,Nat.zero_le _,Nat.zero_le _⟩) ?_ ?_ (fun i=>?_)
 · exact⟨rfl,rfl,rfl,rfl,rfl,trivial⟩
 ·
  simp only[List.length_nil,List.map_nil];exact(AaS (e:=9) (sz:=1)).trans Aa0
 obtain⟨⟨sa,sc,j,K⟩,hH,hkl,hjm,hjq⟩:=i;dsimp only at hH hkl hjm hjq ⊢;have hnl:(K.map (·.1)).length=K.length:=List.length_map ..;try dsimp only
 refine Za (k:=Qc (k:=Qv (k:=Qv (k:=Vv (k:=Gi 4 (t:=fun h17=>?_) (f:=fun h17=>?_))))))
 ·
  refine J1 (k:=J1 (k:=J1 (k:=P1 (k:=Wq (Zi (t:=fun h21=>?_) (f:=fun h21=>?_))))))
  ·
   refine Zk (k:=Ya (Za (k:=Zb (k:=Za (k:=?_)))));have hjl:j<qs.length:=by omega
   obtain⟨q,hqe⟩:∃q,q=qs[j]:=⟨_,rfl⟩
   have hqm:q∈qs:=by rw[hqe];exact List.getElem_mem hjl
   have hget:((qs.flatMap KaV.cells).drop (j * 16)).take 16=q.cells:=by rw[hqe];exact Ab1 (fun x=>Ajp x) hjl
   have hA:=AkD q (hz q hqm);refine wc_ent' (AvG hqm HasC.get) ?_;refine Zr (k:=Qv (k:=?_));refine AaQ (m:=j) (sz:=16) Tryz.underlying44 Apm rfl rfl rfl rfl (by omega) (by rw[Aaj (sz:=16) Ajp];omega) rfl rfl ?_;refine Abb (vs:=q.cells) (sz:=16) Tryz.underlying118 rfl Apm rfl rfl (by rw[Aaj (sz:=16) Ajp];omega) rfl hget rfl ?_;refine Aaq hA rfl rfl rfl (fun s0 hs0=>?_);refine Vv (k:=Wq ?_);refine Abg (fun (i:{ s:Bs // s.length≤300 })=>[(0,.slice la qs.length lc),(1,vI most),(5,.map (some b12)),(6,.slice sa K.length sc),(7,vI j),(8,vS i.1)]) (fun (i:{ s:Bs // s.length≤300 })=>[MapS b12 K,Row 9 1 (.slice sa K.length sc) K.length ((K.map (·.1)).map vS),SlI la (qs.flatMap KaV.cells),Aqz qs]) rfl (fun i=>?_) ?_
   ·
    obtain⟨s,hs⟩:=i;dsimp only;have hjl:j<qs.length:=by omega
    have hSm:=AdH s (by omega);obtain⟨nm,hnm⟩:∃nm,nm=AcX s:=⟨_,rfl⟩
    rw[←hnm] at hSm;have hput:=hH.put (s:=s) hs;rw[←hnm] at hput;have hjm2:j<most:=by omega
    try dsimp only
    refine Qc (k:=Vv (k:=?_));refine Aag hSm rfl rfl rfl ?_;refine Vv (k:=Wq (Qc (k:=Qv (k:=?_))));refine r_lookup (ok:=true) (v:=.tuple #[(mlook K nm).getD (vS []),.bool (mlook K nm).isSome]) Tryz.underlying31 Tryz.underlying9 ti9 rfl rfl rfl rfl rfl ?_;refine Vv (k:=?_);refine Aa6 (Aa7 (v:=(mlook K nm).getD (vS [])) rfl rfl) rfl ?_;refine Aa6 (Aa7 (v:=.bool (mlook K nm).isSome) rfl rfl) rfl ?_;refine Qv (k:=Wq (Qc (k:=Qv (k:=Wq (Zi (t:=fun h47=>?_) (f:=fun h47=>?_))))))
    ·
     refine Qc (k:=Qv (k:=Vv (k:=?_)));refine r_mapUpdate Tryz.underlying31 Tryz.underlying9 rfl rfl rfl ?_;refine Wq (Zr (k:=Qv (k:=Zv [_] (cs:=[_]) (k:=fun b53=>?_))));refine Aao (sz:=1) (bytes:=16) Tryz.underlying27 ti9 rfl rfl rfl rfl rfl rfl rfl (by rfl) (by rfl) (by omega) (by simp only[maxLen];omega) rfl (fun a54 c54=>?_);refine Vv (k:=Wn (Yb (Ya (Zr (k:=Qv (k:=Vv (k:=Wn ?_)))))));exact Ank
    ·
     refine Zk (k:=Yb (Ya (Zr (k:=Qv (k:=Vv (k:=Wn ?_))))));exact Ank
   ·
    refine Qc (k:=Qv (k:=Vv (k:=Wq (Zi (t:=fun h31=>?_) (f:=fun h31=>?_)))))
    ·
     refine Zr (k:=Qv (k:=?_));refine AaQ (m:=j) (sz:=16) Tryz.underlying44 Apm rfl rfl rfl rfl (by omega) (by rw[Aaj (sz:=16) Ajp];omega) rfl rfl ?_;refine Abb (vs:=q.cells) (sz:=16) Tryz.underlying118 rfl Apm rfl rfl (by rw[Aaj (sz:=16) Ajp];omega) rfl hget rfl ?_;refine Vv (k:=?_);have hAm:=AmT (Bn:=Row 9 1 (.slice sa K.length sc) K.length ((K.map (·.1)).map vS)) (ma:=sa) q (hz q hqm) sc (K.map (·.1)) (by rw[hnl];omega) (by rw[hnl];omega) (fun w hw=>hH.k40 hw) AaC;rw[hnl] at hAm;refine Aaq hAm rfl rfl rfl (fun s1 hs1=>?_);refine Vv (k:=Wn ?_);exact Anl
    ·
     refine Zk (k:=?_);exact Anl
  ·
   refine Ze (k:=Xa (Xi (Xb (Ya (Qc (k:=Qv (k:=Wq (Zt (k:=?_)))))))));exact ArD
 ·
  refine O0 (k:=O0 (k:=O0 (k:=P0 (k:=Wq (Z0 (k:=Ze (k:=Xa (Xi (Xb (Ya (Za (k:=?_))))))))))));refine Zr (k:=Qv (k:=Wq (Zt (k:=?_))));exact ArD
end
section
set_option maxRecDepth 100000
def gwX:Nat→Bs
 | 0=>AcX (ckB (Ake [] [] me 0))
 | i+1=>AcX (ckB (Ake [gwX i] [] me ((i+1:Nat):Int)))
def gwT:List Tg:=[⟨42,brB,[42],[97]⟩]
def gzC (own:Bool) (i:Nat):Ck:=Ake [gwX i] (if own then gwT else []) me 50
def gzX (own:Bool) (i:Nat):Bs:=AcX (ckB (gzC own i))
end
end Go.Proofs.YtdnoacgopfcpbaaGreat
