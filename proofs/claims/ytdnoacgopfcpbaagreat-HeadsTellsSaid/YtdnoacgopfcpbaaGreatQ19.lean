/- Texts of this proof, put together: SR10e, SRefDec. -/
import Derived.Test.YtdnoacgopfcpbaaGreatQ18
set_option linter.unusedVariables false
set_option linter.unusedSimpArgs false
namespace Go.Proofs.YtdnoacgopfcpbaaGreat
section
set_option maxRecDepth 100000
theorem Aeo {G:Prop} (h:G:=by
    have hn:¬OkF (decide (c.base=[])) c.files j:=fun o=>by
     obtain⟨o1,o2,o3⟩:=o;rw[hg] at o1 o2 o3
     try simp only[Acy] at *
     have hN0:isN []=false:=by decide
     have h0:j=0∨0<j:=by omega
     clear hzj hfl hok hbad z5 z7 z9 hT kf kp;rcases h0 with h0 | h0
     · simp_all
     · have o2':=o2 h0
       simp_all
    refine Aa2 () (vs:=[_]) (Cs:=[]) rfl (.tmp rfl .nil) (by rw[hbad hn];rfl) trivial Aa0):G:=h
theorem AdB {G:Prop} (h:G:=by
    have hokj:OkF (decide (c.base=[])) c.files j:=by
     refine⟨by rw[hg];exact Classical.not_not.1 h64,fun h0=>?_,?_⟩
     · rw[hg]
       first
       | (exfalso;omega)
       | (clear hzj hfl hok hbad z5 z7 z9 hT kf kp;simp_all;done)
     · rw[hg]
       try simp only[Acy] at *
       clear hzj hfl hok hbad z5 z7 z9 hT kf kp;simp_all
    refine Aa5 ⟨j+1,by omega,fun i hi=>?_⟩ (by dsimp only;omega) ⟨rfl,rfl,rfl,rfl,trivial⟩ Aa0;by_cases he:i=j
    · rw[he];exact hokj
    · exact hok i (by omega)):G:=h
theorem Acv {G:Prop} (h:G:=by
    refine Aa2 () (vs:=[_]) (Cs:=[]) rfl (.tmp rfl .nil) ?_ trivial Aa0;show vB _=vB _;congr 1
    try simp only[Acy] at *
    refine(decide_eq_false (fun h=>?_)).symm;obtain⟨k1,k2,k3,k4,k5,k6,k7⟩:=h;have k8:=k4.len;have k9:=k5.len
    first
    | omega
    | (exact absurd k7 (by assumption))
    | simp_all):G:=h
theorem An8 {G:Prop} (h:G:=by
    try simp only[Acy] at *
    refine Aa5 ⟨(),?_,by omega,⟨by omega,by omega⟩,by omega,by omega,Classical.not_not.1 h51⟩ trivial ⟨rfl,trivial⟩ Aa0
    first
    | exact .inl (Classical.not_not.1 h12)
    | exact .inr (Classical.not_not.1 h18)):G:=h
set_option maxHeartbeats 4000000 in
theorem AgW {Bf Bt:HP} (x:CkA) (c:Ck) (z:CkZ c) (shf:SlA Bf x.fa (c.files.flatMap AaN)) (sht:SlA Bt x.ta (c.tags.flatMap Aab)) (hpc:c.parents.length≤x.pc) :
    Sp1 Tryz.prog 71 [.agg (AaZ x c).toArray] [Bf,SlI x.pa (c.parents.map vS),Bt] (vB (decide (AbD c))) [Bf,Bt]:=by
 obtain⟨z1,z2,z3,z4,z5,z6,z7,z8,z9⟩:=z;have hT:=Afx true c.tags.length x.tc c.tags sht rfl z8 (fun t ht=>by have:=z9 t ht;omega);haveI:Abu x.fa (c.files.flatMap AaN) [Bf,SlI x.pa (c.parents.map vS),Bt]:=⟨⟨Bf,shf,.here⟩⟩
 have hfl:(c.files.flatMap AaN).length=c.files.length * 2:=Aaj (f:=AaN) (sz:=2) (fun _=>rfl) c.files;refine Sp.body (n:=130) Tryz.call71 Tryz.func71 rfl rfl rfl ?_;refine Qc (k:=Zx [_,_,_,_,_,_,_] (k:=fun b1=>Vv (k:=Wq ?_)));refine Abg (fun (u:{ u:Unit // (c.base=[]∨isN c.base=true)∧c.comment.length≤40∧(0≤c.date∧c.date≤1073741824)∧c.files.length≤12∧c.parents.length≤3∧Acm c.user })=>[(1,.pointer (some ⟨b1,0,none⟩))]) (fun (u:{ u:Unit // (c.base=[]∨isN c.base=true)∧c.comment.length≤40∧(0≤c.date∧c.date≤1073741824)∧c.files.length≤12∧c.parents.length≤3∧Acm c.user })=>[Ce b1 30 [vS c.base,vS c.comment,vI c.date,.slice x.fa c.files.length x.fc,.slice x.pa c.parents.length x.pc,.slice x.ta c.tags.length x.tc,vS c.user],Bf,SlI x.pa (c.parents.map vS),Bt]) rfl (fun u=>?_) ?_
 ·
  obtain⟨u,kb,kc,kd,kf,kp,ku⟩:=u;try dsimp only
  refine Za (k:=Qc (k:=Qx 3 26 (k:=Qv (k:=Wq (Zb (k:=?_))))));refine Aak (fun (i:{ j:Nat // j≤c.files.length∧∀i,i<j→OkF (decide (c.base=[])) c.files i })=>[(1,.pointer (some ⟨b1,0,none⟩)),(53,.slice x.fa c.files.length x.fc),(54,vI c.files.length),(55,vI i.1)]) (fun (i:{ j:Nat // j≤c.files.length∧∀i,i<j→OkF (decide (c.base=[])) c.files i })=>[Ce b1 30 [vS c.base,vS c.comment,vI c.date,.slice x.fa c.files.length x.fc,.slice x.pa c.parents.length x.pc,.slice x.ta c.tags.length x.tc,vS c.user],Bf,SlI x.pa (c.parents.map vS),Bt]) (fun (i:{ j:Nat // j≤c.files.length∧∀i,i<j→OkF (decide (c.base=[])) c.files i })=>c.files.length-i.1) rfl (⟨0,Nat.zero_le _,fun i h=>by omega⟩) ?_ ?_ (fun i=>?_)
  · exact⟨rfl,rfl,rfl,rfl,trivial⟩
  ·
   exact Aa0
  obtain⟨j,hj,hok⟩:=i;dsimp only;try dsimp only
  refine Qc (k:=Vv (k:=Wq (Za (k:=Zi (t:=fun h56=>?_) (f:=fun h56=>?_)))))
  ·
   refine Zk (k:=Ya (Za (k:=Zb (k:=Za (k:=?_)))));have hjl:j<c.files.length:=by omega
   have hg:c.files.getD j ([],[])=c.files[j]:=by simp[hjl]
   have hzj:=z5 c.files[j] (List.getElem_mem hjl);obtain⟨t,ht⟩:∃t,t=c.files[j]:=⟨_,rfl⟩
   rw[←ht] at hzj hg;have hbad:∀(h:¬OkF (decide (c.base=[])) c.files j),decide (AbD c)=false:=fun h=>decide_eq_false (fun r=>h (r.files.ok j hjl));refine Zr (k:=Vv (k:=Ye 2 (k:=?_)));refine Abb (vs:=[_,_]) (sz:=2) Tryz.underlying25 rfl AfU rfl rfl (by rw[Aaj (sz:=2) (fun _=>rfl)];omega) rfl (by refine Ab1 (fun x=>?_) ?_<;>first | rfl | omega) rfl ?_;rw[←ht];refine Zc [vS [],vS []] (k:=fun b4=>Vv (k:=Zp (k:=Wq (Za (k:=Dw [Ce b4 25 [vS t.1,vS t.2],Ce b1 30 [vS c.base,vS c.comment,vI c.date,.slice x.fa c.files.length x.fc,.slice x.pa c.parents.length x.pc,.slice x.ta c.tags.length x.tc,vS c.user],Bf,SlI x.pa (c.parents.map vS),Bt] (k:=?_))))));refine Di 0 (t:=Uf 0 9) (k:=Di 1 (t:=Ul) (k:=Dn 2 (k:=?_)));refine Aal (Acj t.1 (by omega)) rfl rfl rfl ?_;refine Dv 3 (k:=Dv 4 (k:=Gd 4 (t:=fun h64=>?_) (f:=fun h64=>?_)))
   ·
    refine D1 5 (k:=D1 6 (k:=D1 7 (k:=D1 8 (k:=Di 9 (t:=Uu) (k:=Di 10 (t:=Uu) (k:=Di 11 (t:=Uu) (k:=D1 12 (k:=DP1 13 (k:=Dv 14 (k:=D1 15 (k:=D1 16 (k:=?_))))))))))));refine D1 17 (k:=D1 18 (k:=Di 19 (t:=Uu) (k:=Di 20 (t:=Uu) (k:=Di 21 (t:=Uu) (k:=Di 22 (t:=Uu) (k:=D1 23 (k:=DP1 24 (k:=Dv 25 (k:=D1 26 (k:=D1 27 (k:=D1 28 (k:=?_))))))))))));refine Di 29 (t:=Uu) (k:=Di 30 (t:=Uu) (k:=Di 31 (t:=Uu) (k:=Di 32 (t:=Uu) (k:=Di 33 (t:=Uu) (k:=Di 34 (t:=Uu) (k:=Di 35 (t:=Uu) (k:=Di 36 (t:=Uu) (k:=Di 37 (t:=Uu) (k:=Di 38 (t:=Uu) (k:=D1 39 (k:=DP1 40 (k:=?_))))))))))));refine Dd (k:=Ya (Z1 (k:=Qc (k:=Vv (k:=Wq (Zt (k:=Vb (Va (Vi (Vb ?_))))))))));refine Va ?_;exact Aeo
   ·
    refine Di 5 (t:=U0 (h:=Uf 1 9)) (k:=Di 6 (t:=U0 (h:=Ul)) (k:=Di 7 (t:=U0 (h:=Uv)) (k:=Di 8 (t:=U0 (h:=Uv)) (k:=Gd 8 (t:=fun h68=>?_) (f:=fun h68=>?_)))))
    ·
     refine Di 9 (t:=U1 (h:=Uf 0 9)) (k:=Di 10 (t:=U1 (h:=Ul)) (k:=Di 11 (t:=U1 (h:=Uv)) (k:=Di 12 (t:=U0 (h:=UP1)) (k:=DP0 13 (k:=Dv 14 (k:=Gd 14 (t:=fun h74=>?_) (f:=fun h74=>?_)))))))
     ·
      refine D1 15 (k:=D1 16 (k:=D1 17 (k:=D1 18 (k:=Di 19 (t:=Uu) (k:=Di 20 (t:=Uu) (k:=Di 21 (t:=Uu) (k:=Di 22 (t:=Uu) (k:=D1 23 (k:=DP1 24 (k:=Dv 25 (k:=D1 26 (k:=?_))))))))))));refine D1 27 (k:=D1 28 (k:=Di 29 (t:=Uu) (k:=Di 30 (t:=Uu) (k:=Di 31 (t:=Uu) (k:=Di 32 (t:=Uu) (k:=Di 33 (t:=Uu) (k:=Di 34 (t:=Uu) (k:=Di 35 (t:=Uu) (k:=Di 36 (t:=Uu) (k:=Di 37 (t:=Uu) (k:=Di 38 (t:=Uu) (k:=?_))))))))))));refine D1 39 (k:=DP1 40 (k:=Dd (k:=Ya (Z1 (k:=Qc (k:=Vv (k:=Wq (Zt (k:=Vb (Va ?_))))))))));refine Vi (Vb (Va ?_));exact Aeo
     ·
      refine Di 15 (t:=U0 (h:=Uf 1 9)) (k:=Di 16 (t:=U0 (h:=Ul)) (k:=Di 17 (t:=U0 (h:=Uv)) (k:=Di 18 (t:=U0 (h:=Uv)) (k:=Gd 18 (t:=fun h78=>?_) (f:=fun h78=>?_)))))
      ·
       refine Di 19 (t:=U1 (h:=Uf 1 9)) (k:=Di 20 (t:=U1 (h:=Ul)) (k:=Dn 21 (k:=?_)));refine AjC (b:=true) rfl ?_;refine Aal (Aci t.2 (by omega)) rfl rfl rfl ?_;refine Di 22 (t:=U1 (h:=Uv)) (k:=Di 23 (t:=U0 (h:=UP1)) (k:=DP0 24 (k:=Dv 25 (k:=Gd 25 (t:=fun h85=>?_) (f:=fun h85=>?_)))))
       ·
        refine D1 26 (k:=D1 27 (k:=D1 28 (k:=Di 29 (t:=Uu) (k:=Di 30 (t:=Uu) (k:=Di 31 (t:=Uu) (k:=Di 32 (t:=Uu) (k:=Di 33 (t:=Uu) (k:=Di 34 (t:=Uu) (k:=Di 35 (t:=Uu) (k:=Di 36 (t:=Uu) (k:=Di 37 (t:=Uu) (k:=?_))))))))))));refine Di 38 (t:=Uu) (k:=D1 39 (k:=DP1 40 (k:=Dd (k:=Ya (Z1 (k:=Qc (k:=Vv (k:=Wq (Zt (k:=Vb ?_))))))))));refine Va (Vi (Vb (Va ?_)));exact Aeo
       ·
        refine Di 26 (t:=U0 (h:=Uv)) (k:=Di 27 (t:=U0 (h:=Uv)) (k:=Di 28 (t:=U0 (h:=Uv)) (k:=Gd 28 (t:=fun h88=>?_) (f:=fun h88=>?_))))
        ·
         refine Di 29 (t:=U1 (h:=Uf 3 26)) (k:=Di 30 (t:=U1 (h:=Ul)) (k:=Di 31 (t:=U1 (h:=Uv)) (k:=Di 32 (t:=U1 (h:=Uv)) (k:=?_))));refine Aa1 33 rfl rfl rfl (by kernel_rfl) (by kernel_rfl) (Aau (b:=true) rfl (Aae (sz:=2) (m:=j-1) (kk:=2 * (j-1)) Tryz.underlying26 AfU rfl rfl rfl (by omega) (by omega) (by omega) (Nat.mul_comm _ _))) ?_;refine Aa1 34 rfl rfl rfl (by kernel_rfl) (by kernel_rfl) (Aau (b:=true) rfl (AaO (kk:=2 * (j-1)) Tryz.underlying25 rfl ti9 rfl rfl rfl rfl (by omega))) ?_;refine Aa1 35 rfl rfl rfl (by kernel_rfl) (by kernel_rfl) (Aau (b:=true) rfl (Aas Tryz.underlying9 rfl rfl (Aqe (j:=j-1) (by omega)))) ?_;refine Di 36 (t:=U1 (h:=Uf 0 9)) (k:=Di 37 (t:=U1 (h:=Ul)) (k:=Di 38 (t:=U1 (h:=Uv)) (k:=Di 39 (t:=U0 (h:=UP1)) (k:=DP0 40 (k:=Dd (k:=Ya (Zi (t:=fun h100=>?_) (f:=fun h100=>?_))))))))
         ·
          refine Qc (k:=Vv (k:=Wq (Zt (k:=Vb (Va (Vi (Vb (Va ?_))))))));exact Aeo
         ·
          refine Zk (k:=Yb (Ya (Zr (k:=Qv (k:=Wn ?_)))));exact AdB
        ·
         refine D0 29 (k:=D0 30 (k:=D0 31 (k:=D0 32 (k:=D0 33 (k:=D0 34 (k:=D0 35 (k:=D0 36 (k:=D0 37 (k:=D0 38 (k:=Di 39 (t:=U0 (h:=UP0)) (k:=DP0 40 (k:=?_))))))))))));refine Dd (k:=Ya (Z0 (k:=Zk (k:=Yb (Ya (Zr (k:=Qv (k:=Wn ?_))))))));exact AdB
      ·
       refine D0 19 (k:=D0 20 (k:=D0 21 (k:=D0 22 (k:=Di 23 (t:=U0 (h:=UP0)) (k:=DP0 24 (k:=Dv 25 (k:=Di 26 (t:=U0 (h:=Uv)) (k:=Di 27 (t:=U0 (h:=Uv)) (k:=Di 28 (t:=U0 (h:=Uv)) (k:=Gd 28 (t:=fun h88=>?_) (f:=fun h88=>?_)))))))))))
       ·
        refine Di 29 (t:=U1 (h:=Uf 3 26)) (k:=Di 30 (t:=U1 (h:=Ul)) (k:=Di 31 (t:=U1 (h:=Uv)) (k:=Di 32 (t:=U1 (h:=Uv)) (k:=?_))));refine Aa1 33 rfl rfl rfl (by kernel_rfl) (by kernel_rfl) (Aau (b:=true) rfl (Aae (sz:=2) (m:=j-1) (kk:=2 * (j-1)) Tryz.underlying26 AfU rfl rfl rfl (by omega) (by omega) (by omega) (Nat.mul_comm _ _))) ?_;refine Aa1 34 rfl rfl rfl (by kernel_rfl) (by kernel_rfl) (Aau (b:=true) rfl (AaO (kk:=2 * (j-1)) Tryz.underlying25 rfl ti9 rfl rfl rfl rfl (by omega))) ?_;refine Aa1 35 rfl rfl rfl (by kernel_rfl) (by kernel_rfl) (Aau (b:=true) rfl (Aas Tryz.underlying9 rfl rfl (Aqe (j:=j-1) (by omega)))) ?_;refine Di 36 (t:=U1 (h:=Uf 0 9)) (k:=Di 37 (t:=U1 (h:=Ul)) (k:=Di 38 (t:=U1 (h:=Uv)) (k:=Di 39 (t:=U0 (h:=UP1)) (k:=DP0 40 (k:=Dd (k:=Ya (Zi (t:=fun h100=>?_) (f:=fun h100=>?_))))))))
        ·
         refine Qc (k:=Vv (k:=Wq (Zt (k:=Vb (Va (Vi (Vb (Va ?_))))))));exact Aeo
        ·
         refine Zk (k:=Yb (Ya (Zr (k:=Qv (k:=Wn ?_)))));exact AdB
       ·
        refine D0 29 (k:=D0 30 (k:=D0 31 (k:=D0 32 (k:=D0 33 (k:=D0 34 (k:=D0 35 (k:=D0 36 (k:=D0 37 (k:=D0 38 (k:=Di 39 (t:=U0 (h:=UP0)) (k:=DP0 40 (k:=?_))))))))))));refine Dd (k:=Ya (Z0 (k:=Zk (k:=Yb (Ya (Zr (k:=Qv (k:=Wn ?_))))))));exact AdB
    ·
     refine D0 9 (k:=D0 10 (k:=D0 11 (k:=Di 12 (t:=U0 (h:=UP0)) (k:=DP0 13 (k:=Dv 14 (k:=Di 15 (t:=U0 (h:=Uf 1 9)) (k:=Di 16 (t:=U0 (h:=Ul)) (k:=Di 17 (t:=U0 (h:=Uv)) (k:=Di 18 (t:=U0 (h:=Uv)) (k:=Gd 18 (t:=fun h78=>?_) (f:=fun h78=>?_)))))))))))
     ·
      refine Di 19 (t:=U1 (h:=Uf 1 9)) (k:=Di 20 (t:=U1 (h:=Ul)) (k:=Dn 21 (k:=?_)));refine AjC (b:=true) rfl ?_;refine Aal (Aci t.2 (by omega)) rfl rfl rfl ?_;refine Di 22 (t:=U1 (h:=Uv)) (k:=Di 23 (t:=U0 (h:=UP1)) (k:=DP0 24 (k:=Dv 25 (k:=Gd 25 (t:=fun h85=>?_) (f:=fun h85=>?_)))))
      ·
       refine D1 26 (k:=D1 27 (k:=D1 28 (k:=Di 29 (t:=Uu) (k:=Di 30 (t:=Uu) (k:=Di 31 (t:=Uu) (k:=Di 32 (t:=Uu) (k:=Di 33 (t:=Uu) (k:=Di 34 (t:=Uu) (k:=Di 35 (t:=Uu) (k:=Di 36 (t:=Uu) (k:=Di 37 (t:=Uu) (k:=?_))))))))))));refine Di 38 (t:=Uu) (k:=D1 39 (k:=DP1 40 (k:=Dd (k:=Ya (Z1 (k:=Qc (k:=Vv (k:=Wq (Zt (k:=Vb ?_))))))))));refine Va (Vi (Vb (Va ?_)));exact Aeo
      ·
       refine Di 26 (t:=U0 (h:=Uv)) (k:=Di 27 (t:=U0 (h:=Uv)) (k:=Di 28 (t:=U0 (h:=Uv)) (k:=Gd 28 (t:=fun h88=>?_) (f:=fun h88=>?_))))
       ·
        refine Di 29 (t:=U1 (h:=Uf 3 26)) (k:=Di 30 (t:=U1 (h:=Ul)) (k:=Di 31 (t:=U1 (h:=Uv)) (k:=Di 32 (t:=U1 (h:=Uv)) (k:=?_))));refine Aa1 33 rfl rfl rfl (by kernel_rfl) (by kernel_rfl) (Aau (b:=true) rfl (Aae (sz:=2) (m:=j-1) (kk:=2 * (j-1)) Tryz.underlying26 AfU rfl rfl rfl (by omega) (by omega) (by omega) (Nat.mul_comm _ _))) ?_;refine Aa1 34 rfl rfl rfl (by kernel_rfl) (by kernel_rfl) (Aau (b:=true) rfl (AaO (kk:=2 * (j-1)) Tryz.underlying25 rfl ti9 rfl rfl rfl rfl (by omega))) ?_;refine Aa1 35 rfl rfl rfl (by kernel_rfl) (by kernel_rfl) (Aau (b:=true) rfl (Aas Tryz.underlying9 rfl rfl (Aqe (j:=j-1) (by omega)))) ?_;refine Di 36 (t:=U1 (h:=Uf 0 9)) (k:=Di 37 (t:=U1 (h:=Ul)) (k:=Di 38 (t:=U1 (h:=Uv)) (k:=Di 39 (t:=U0 (h:=UP1)) (k:=DP0 40 (k:=Dd (k:=Ya (Zi (t:=fun h100=>?_) (f:=fun h100=>?_))))))))
        ·
         refine Qc (k:=Vv (k:=Wq (Zt (k:=Vb (Va (Vi (Vb (Va ?_))))))));exact Aeo
        ·
         refine Zk (k:=Yb (Ya (Zr (k:=Qv (k:=Wn ?_)))));exact AdB
       ·
        refine D0 29 (k:=D0 30 (k:=D0 31 (k:=D0 32 (k:=D0 33 (k:=D0 34 (k:=D0 35 (k:=D0 36 (k:=D0 37 (k:=D0 38 (k:=Di 39 (t:=U0 (h:=UP0)) (k:=DP0 40 (k:=?_))))))))))));refine Dd (k:=Ya (Z0 (k:=Zk (k:=Yb (Ya (Zr (k:=Qv (k:=Wn ?_))))))));exact AdB
     ·
      refine D0 19 (k:=D0 20 (k:=D0 21 (k:=D0 22 (k:=Di 23 (t:=U0 (h:=UP0)) (k:=DP0 24 (k:=Dv 25 (k:=Di 26 (t:=U0 (h:=Uv)) (k:=Di 27 (t:=U0 (h:=Uv)) (k:=Di 28 (t:=U0 (h:=Uv)) (k:=Gd 28 (t:=fun h88=>?_) (f:=fun h88=>?_)))))))))))
      ·
       refine Di 29 (t:=U1 (h:=Uf 3 26)) (k:=Di 30 (t:=U1 (h:=Ul)) (k:=Di 31 (t:=U1 (h:=Uv)) (k:=Di 32 (t:=U1 (h:=Uv)) (k:=?_))));refine Aa1 33 rfl rfl rfl (by kernel_rfl) (by kernel_rfl) (Aau (b:=true) rfl (Aae (sz:=2) (m:=j-1) (kk:=2 * (j-1)) Tryz.underlying26 AfU rfl rfl rfl (by omega) (by omega) (by omega) (Nat.mul_comm _ _))) ?_;refine Aa1 34 rfl rfl rfl (by kernel_rfl) (by kernel_rfl) (Aau (b:=true) rfl (AaO (kk:=2 * (j-1)) Tryz.underlying25 rfl ti9 rfl rfl rfl rfl (by omega))) ?_;refine Aa1 35 rfl rfl rfl (by kernel_rfl) (by kernel_rfl) (Aau (b:=true) rfl (Aas Tryz.underlying9 rfl rfl (Aqe (j:=j-1) (by omega)))) ?_;refine Di 36 (t:=U1 (h:=Uf 0 9)) (k:=Di 37 (t:=U1 (h:=Ul)) (k:=Di 38 (t:=U1 (h:=Uv)) (k:=Di 39 (t:=U0 (h:=UP1)) (k:=DP0 40 (k:=Dd (k:=Ya (Zi (t:=fun h100=>?_) (f:=fun h100=>?_))))))))
       ·
        refine Qc (k:=Vv (k:=Wq (Zt (k:=Vb (Va (Vi (Vb (Va ?_))))))));exact Aeo
       ·
        refine Zk (k:=Yb (Ya (Zr (k:=Qv (k:=Wn ?_)))));exact AdB
      ·
       refine D0 29 (k:=D0 30 (k:=D0 31 (k:=D0 32 (k:=D0 33 (k:=D0 34 (k:=D0 35 (k:=D0 36 (k:=D0 37 (k:=D0 38 (k:=Di 39 (t:=U0 (h:=UP0)) (k:=DP0 40 (k:=?_))))))))))));refine Dd (k:=Ya (Z0 (k:=Zk (k:=Yb (Ya (Zr (k:=Qv (k:=Wn ?_))))))));exact AdB
  ·
   refine Ze (k:=Xa (Xi (Xb (Ya (Za (k:=Za (k:=?_)))))));have hFF:AiV (decide (c.base=[])) c.files:=⟨fun i hi=>hok i (by omega),kf⟩
   refine Zr (k:=Qx 4 27 (k:=Qv (k:=Wq (Zb (k:=?_)))));refine Aak (fun (i:{ j:Nat // j≤c.parents.length∧∀i,i<j→isN (c.parents.getD i [])=true∧c.parents.getD i []∉c.parents.take i })=>[(1,.pointer (some ⟨b1,0,none⟩)),(103,.slice x.pa c.parents.length x.pc),(104,vI c.parents.length),(105,vI i.1)]) (fun (i:{ j:Nat // j≤c.parents.length∧∀i,i<j→isN (c.parents.getD i [])=true∧c.parents.getD i []∉c.parents.take i })=>[Ce b1 30 [vS c.base,vS c.comment,vI c.date,.slice x.fa c.files.length x.fc,.slice x.pa c.parents.length x.pc,.slice x.ta c.tags.length x.tc,vS c.user],Bf,SlI x.pa (c.parents.map vS),Bt]) (fun (i:{ j:Nat // j≤c.parents.length∧∀i,i<j→isN (c.parents.getD i [])=true∧c.parents.getD i []∉c.parents.take i })=>c.parents.length-i.1) rfl (⟨0,Nat.zero_le _,fun i h=>by omega⟩) ?_ ?_ (fun i=>?_)
   · exact⟨rfl,rfl,rfl,rfl,trivial⟩
   ·
    exact Aa0
   obtain⟨j,hj,hok⟩:=i;dsimp only;try dsimp only
   refine Qc (k:=Vv (k:=Wq (Za (k:=Zi (t:=fun h106=>?_) (f:=fun h106=>?_)))))
   ·
    refine Zk (k:=Ya (Za (k:=Zb (k:=Za (k:=?_)))));have hjl:j<c.parents.length:=by omega
    have hg:c.parents.getD j []=c.parents[j]:=by simp[hjl]
    have hzj:=z7 c.parents[j] (List.getElem_mem hjl);obtain⟨t,ht⟩:∃t,t=c.parents.getD j []:=⟨_,rfl⟩
    rw[←hg,←ht] at hzj;have hbad:∀(h:¬(isN (c.parents.getD j [])=true∧c.parents.getD j []∉c.parents.take j)),decide (AbD c)=false:=fun h=>decide_eq_false (fun r=>h (r.parents.ok j hjl));refine Zr (k:=Vv (k:=Ye 1 (k:=Yl (hv:=by exact Aa4 [] hjl) (k:=?_))));rw[←ht];refine Qv (k:=Wq (Za (k:=Qc (k:=Vv (k:=?_)))));refine Aag (Aci t (by omega)) rfl rfl rfl ?_;refine Vv (k:=Wq (Zi (t:=fun h112=>?_) (f:=fun h112=>?_)))
    ·
     refine Qc (k:=Vv (k:=Wq (Zt (k:=Va (Vb (Va (Vi (Vb (Va ?_)))))))));have hn:¬(isN (c.parents.getD j [])=true∧c.parents.getD j []∉c.parents.take j):=fun ⟨o1,o2⟩=>by
      rw[←ht] at o1 o2
      try simp only[Acy] at *
      simp_all
     refine Aa2 () (vs:=[_]) (Cs:=[]) rfl (.tmp rfl .nil) (by rw[hbad hn];rfl) trivial Aa0
    ·
     refine Zk (k:=Ya (Qc (k:=Qx 4 27 (k:=Vv (k:=?_)))));refine Aa6 (Ac4 (m:=j) Tryz.underlying27 ti9 rfl rfl rfl (by omega)) rfl ?_;refine Qv (k:=Wq (Zb (k:=?_)));refine Aak (fun (i:{ k:Nat // k≤j∧t∉c.parents.take k })=>[(1,.pointer (some ⟨b1,0,none⟩)),(6,vS t),(103,.slice x.pa c.parents.length x.pc),(104,vI c.parents.length),(105,vI j),(116,.slice x.pa j x.pc),(117,vI j),(118,vI i.1)]) (fun (i:{ k:Nat // k≤j∧t∉c.parents.take k })=>[Ce b1 30 [vS c.base,vS c.comment,vI c.date,.slice x.fa c.files.length x.fc,.slice x.pa c.parents.length x.pc,.slice x.ta c.tags.length x.tc,vS c.user],Bf,SlI x.pa (c.parents.map vS),Bt]) (fun (i:{ k:Nat // k≤j∧t∉c.parents.take k })=>j-i.1) rfl (⟨0,Nat.zero_le _,by simp⟩) ?_ ?_ (fun i=>?_)
     · exact⟨rfl,rfl,rfl,rfl,rfl,rfl,rfl,rfl,trivial⟩
     ·
      exact Aa0
     obtain⟨k,hk,hnk⟩:=i;dsimp only;try dsimp only
     refine Qc (k:=Vv (k:=Wq (Za (k:=Zi (t:=fun h119=>?_) (f:=fun h119=>?_)))))
     ·
      refine Zk (k:=Ya (Za (k:=Zb (k:=Za (k:=?_)))));have hkl:k<c.parents.length:=by omega
      have htk:c.parents.take (k+1)=c.parents.take k++[c.parents.getD k []]:=by rw[List.take_succ_eq_append_getElem hkl];simp[hkl]
      refine Zr (k:=Ye 1 (k:=Yl (hv:=by exact Aa4 [] hkl) (k:=Vv (k:=Wq (Qc (k:=Qv (k:=Vv (k:=Wq (Zi (t:=fun h124=>?_) (f:=fun h124=>?_))))))))))
      ·
       refine Qc (k:=Vv (k:=Wq (Zt (k:=Vb (Va (Vi (Vb (Vb (Va (Vi ?_))))))))));refine Vb (Va ?_);have hn:¬(isN (c.parents.getD j [])=true∧c.parents.getD j []∉c.parents.take j):=fun ⟨o1,o2⟩=>o2 (by
        rw[←ht];have h1:t∈c.parents.take (k+1):=by rw[htk];simp_all
        exact List.mem_of_mem_take (i:=k+1) (by rw[List.take_take,Nat.min_eq_left (by omega)];exact h1))
       refine Aa2 () (vs:=[_]) (Cs:=[]) rfl (.tmp rfl .nil) (by rw[hbad hn];rfl) trivial Aa0
      ·
       refine Zk (k:=Yb (Ya (Zr (k:=Qv (k:=Wn ?_)))));refine Aa5 ⟨k+1,by omega,?_⟩ (by dsimp only;omega) ⟨rfl,rfl,rfl,rfl,rfl,rfl,rfl,rfl,trivial⟩ Aa0;rw[htk,List.mem_append,List.mem_singleton];exact fun h=>h.elim hnk h124
     ·
      refine Ze (k:=Xa (Xi (Xb (Yb (Ya (Zr (k:=Qv (k:=Wn ?_))))))));refine Aa5 ⟨j+1,by omega,fun i hi=>?_⟩ (by dsimp only;omega) ⟨rfl,rfl,rfl,rfl,trivial⟩ Aa0;by_cases he:i=j
      · subst he
        rw[←ht]
        try simp only[Acy] at *
        refine⟨Classical.not_not.1 h112,?_⟩;rwa [show k=i from by omega] at hnk
      · exact hok i (by omega)
   ·
    refine Ze (k:=Xa (Xi (Xb (Ya (Qc (k:=Qx 5 28 (k:=?_)))))));refine Aaa hT rfl rfl rfl ?_;refine Vv (k:=Wq (Zt (k:=?_)));refine Aa2 () (vs:=[_]) (Cs:=[]) rfl (.tmp rfl .nil) ?_ trivial Aa0;show vB _=vB _;congr 1;exact decide_eq_decide.2 ⟨fun h=>⟨kb,kc,kd,hFF,⟨fun i hi=>hok i (by omega),by omega⟩,h,ku⟩,fun h=>h.tags⟩
 ·
  refine Qc (k:=Qx 0 9 (k:=Qv (k:=Gi 3 (t:=fun h12=>?_) (f:=fun h12=>?_))))
  ·
   refine I1 (k:=Vf 0 9 (k:=I1 (k:=Zd (k:=I1 (k:=?_)))));refine Aag (Aci c.base (by omega)) rfl rfl rfl ?_;refine J1 (k:=P1 (k:=Vv (k:=Gi 9 (t:=fun h18=>?_) (f:=fun h18=>?_))))
   ·
    refine O1 (k:=O1 (k:=O1 (k:=O1 (k:=P1 (k:=Vv (k:=O1 (k:=O1 (k:=O1 (k:=P1 (k:=Vv (k:=O1 (k:=?_))))))))))));refine O1 (k:=O1 (k:=P1 (k:=Vv (k:=O1 (k:=O1 (k:=O1 (k:=O1 (k:=P1 (k:=Vv (k:=O1 (k:=O1 (k:=?_))))))))))));refine O1 (k:=O1 (k:=P1 (k:=Vv (k:=O1 (k:=O1 (k:=O1 (k:=O1 (k:=P1 (k:=Wq (Z1 (k:=Za (k:=?_))))))))))));refine Zr (k:=Vv (k:=Wq (Zt (k:=Vi ?_))));exact Acv
   ·
    refine I0 (k:=Vf 1 9 (k:=I0 (k:=Zd (k:=J0 (k:=J0 (k:=P0 (k:=Vv (k:=Gi 15 (t:=fun h24=>?_) (f:=fun h24=>?_)))))))))
    ·
     refine O1 (k:=O1 (k:=O1 (k:=P1 (k:=Vv (k:=O1 (k:=O1 (k:=O1 (k:=P1 (k:=Vv (k:=O1 (k:=O1 (k:=?_))))))))))));refine O1 (k:=O1 (k:=P1 (k:=Vv (k:=O1 (k:=O1 (k:=O1 (k:=O1 (k:=P1 (k:=Vv (k:=O1 (k:=O1 (k:=?_))))))))))));refine O1 (k:=O1 (k:=P1 (k:=Wq (Z1 (k:=Qc (k:=Vv (k:=Wq (Zt (k:=Vi ?_)))))))));exact Acv
    ·
     refine I0 (k:=Vf 2 3 (k:=I0 (k:=Zd (k:=J0 (k:=P0 (k:=Vv (k:=Gi 20 (t:=fun h29=>?_) (f:=fun h29=>?_))))))))
     ·
      refine O1 (k:=O1 (k:=O1 (k:=P1 (k:=Vv (k:=O1 (k:=O1 (k:=O1 (k:=O1 (k:=P1 (k:=Vv (k:=O1 (k:=?_))))))))))));refine O1 (k:=O1 (k:=O1 (k:=P1 (k:=Vv (k:=O1 (k:=O1 (k:=O1 (k:=O1 (k:=P1 (k:=Wq (Z1 (k:=?_))))))))))));refine Qc (k:=Vv (k:=Wq (Zt (k:=Vi ?_))));exact Acv
     ·
      refine I0 (k:=Vf 2 3 (k:=I0 (k:=Zd (k:=J0 (k:=P0 (k:=Vv (k:=Gi 25 (t:=fun h34=>?_) (f:=fun h34=>?_))))))))
      ·
       refine O1 (k:=O1 (k:=O1 (k:=O1 (k:=P1 (k:=Vv (k:=O1 (k:=O1 (k:=O1 (k:=O1 (k:=P1 (k:=Vv (k:=?_))))))))))));refine O1 (k:=O1 (k:=O1 (k:=O1 (k:=P1 (k:=Wq (Z1 (k:=Qc (k:=Vv (k:=Wq (Zt (k:=?_)))))))))));refine Vi ?_;exact Acv
      ·
       refine I0 (k:=Vf 3 26 (k:=I0 (k:=Zd (k:=J0 (k:=J0 (k:=P0 (k:=Vv (k:=Gi 31 (t:=fun h40=>?_) (f:=fun h40=>?_)))))))))
       ·
        refine O1 (k:=O1 (k:=O1 (k:=O1 (k:=P1 (k:=Vv (k:=O1 (k:=O1 (k:=O1 (k:=O1 (k:=P1 (k:=Wq ?_)))))))))));refine Z1 (k:=Qc (k:=Vv (k:=Wq (Zt (k:=Vi ?_)))));exact Acv
       ·
        refine I0 (k:=Vf 4 27 (k:=I0 (k:=Zd (k:=J0 (k:=J0 (k:=P0 (k:=Vv (k:=Gi 37 (t:=fun h46=>?_) (f:=fun h46=>?_)))))))))
        ·
         refine O1 (k:=O1 (k:=O1 (k:=O1 (k:=P1 (k:=Wq (Z1 (k:=Qc (k:=Vv (k:=Wq (Zt (k:=?_)))))))))));refine Vi ?_;exact Acv
        ·
         refine I0 (k:=Vf 6 9 (k:=I0 (k:=Zd (k:=I0 (k:=?_)))));refine Aag (Acj c.user (by omega)) rfl rfl rfl ?_;refine J0 (k:=P0 (k:=Wq (Zi (t:=fun h51=>?_) (f:=fun h51=>?_))))
         ·
          refine Qc (k:=Vv (k:=Wq (Zt (k:=Vi ?_))));exact Acv
         ·
          refine Zk (k:=?_);exact An8
  ·
   refine O0 (k:=O0 (k:=O0 (k:=O0 (k:=P0 (k:=Vv (k:=I0 (k:=Vf 1 9 (k:=I0 (k:=Zd (k:=J0 (k:=?_)))))))))));refine J0 (k:=P0 (k:=Vv (k:=Gi 15 (t:=fun h24=>?_) (f:=fun h24=>?_))))
   ·
    refine O1 (k:=O1 (k:=O1 (k:=P1 (k:=Vv (k:=O1 (k:=O1 (k:=O1 (k:=P1 (k:=Vv (k:=O1 (k:=O1 (k:=?_))))))))))));refine O1 (k:=O1 (k:=P1 (k:=Vv (k:=O1 (k:=O1 (k:=O1 (k:=O1 (k:=P1 (k:=Vv (k:=O1 (k:=O1 (k:=?_))))))))))));refine O1 (k:=O1 (k:=P1 (k:=Wq (Z1 (k:=Qc (k:=Vv (k:=Wq (Zt (k:=Vi ?_)))))))));exact Acv
   ·
    refine I0 (k:=Vf 2 3 (k:=I0 (k:=Zd (k:=J0 (k:=P0 (k:=Vv (k:=Gi 20 (t:=fun h29=>?_) (f:=fun h29=>?_))))))))
    ·
     refine O1 (k:=O1 (k:=O1 (k:=P1 (k:=Vv (k:=O1 (k:=O1 (k:=O1 (k:=O1 (k:=P1 (k:=Vv (k:=O1 (k:=?_))))))))))));refine O1 (k:=O1 (k:=O1 (k:=P1 (k:=Vv (k:=O1 (k:=O1 (k:=O1 (k:=O1 (k:=P1 (k:=Wq (Z1 (k:=?_))))))))))));refine Qc (k:=Vv (k:=Wq (Zt (k:=Vi ?_))));exact Acv
    ·
     refine I0 (k:=Vf 2 3 (k:=I0 (k:=Zd (k:=J0 (k:=P0 (k:=Vv (k:=Gi 25 (t:=fun h34=>?_) (f:=fun h34=>?_))))))))
     ·
      refine O1 (k:=O1 (k:=O1 (k:=O1 (k:=P1 (k:=Vv (k:=O1 (k:=O1 (k:=O1 (k:=O1 (k:=P1 (k:=Vv (k:=?_))))))))))));refine O1 (k:=O1 (k:=O1 (k:=O1 (k:=P1 (k:=Wq (Z1 (k:=Qc (k:=Vv (k:=Wq (Zt (k:=?_)))))))))));refine Vi ?_;exact Acv
     ·
      refine I0 (k:=Vf 3 26 (k:=I0 (k:=Zd (k:=J0 (k:=J0 (k:=P0 (k:=Vv (k:=Gi 31 (t:=fun h40=>?_) (f:=fun h40=>?_)))))))))
      ·
       refine O1 (k:=O1 (k:=O1 (k:=O1 (k:=P1 (k:=Vv (k:=O1 (k:=O1 (k:=O1 (k:=O1 (k:=P1 (k:=Wq ?_)))))))))));refine Z1 (k:=Qc (k:=Vv (k:=Wq (Zt (k:=Vi ?_)))));exact Acv
      ·
       refine I0 (k:=Vf 4 27 (k:=I0 (k:=Zd (k:=J0 (k:=J0 (k:=P0 (k:=Vv (k:=Gi 37 (t:=fun h46=>?_) (f:=fun h46=>?_)))))))))
       ·
        refine O1 (k:=O1 (k:=O1 (k:=O1 (k:=P1 (k:=Wq (Z1 (k:=Qc (k:=Vv (k:=Wq (Zt (k:=?_)))))))))));refine Vi ?_;exact Acv
       ·
        refine I0 (k:=Vf 6 9 (k:=I0 (k:=Zd (k:=I0 (k:=?_)))));refine Aag (Acj c.user (by omega)) rfl rfl rfl ?_;refine J0 (k:=P0 (k:=Wq (Zi (t:=fun h51=>?_) (f:=fun h51=>?_))))
        ·
         refine Qc (k:=Vv (k:=Wq (Zt (k:=Vi ?_))));exact Acv
        ·
         refine Zk (k:=?_);exact An8
end
section
set_option maxRecDepth 100000
theorem Aod (n:Nat) {m:Int} (h:m=48+((n % 10:Nat):Int)):[vU (IntKind.u8.wrap m)]=vUs [dgt n]:=by
 have e:IntKind.u8.wrap m=m:=u8_in' (by omega);have:=Aeb n;rw[e];simp only[vUs,List.map_cons,List.map_nil,this];rw[h];congr 2
theorem Akv (n:Nat) (h:n≤1073741824):SpF Tryz.prog 51 [vI n] (vS (AaX n)):=by
 induction n using Nat.strongRecOn with
 | _ n ih =>
 have hlen:=Amg n;by_cases h10:n<10
 · have hn:AaX n=[dgt n]:=by rw[AaX,if_pos h10]
   refine Sp.body (n:=26) Tryz.call51 Tryz.func51 rfl rfl rfl ?_;refine Qc (k:=Vv (k:=Wq (Za (k:=Qc (k:=Qv (k:=Vv (k:=Gi 2 (t:=fun h5=>?_) (f:=fun h5=>?_))))))))
   ·
    exfalso;omega
    --done
   ·
    refine J0 (k:=J0 (k:=P0 (k:=Wq (Zi (t:=fun h8=>?_) (f:=fun h8=>?_)))))
    ·
     exfalso;omega
     --done
    ·
     refine Zk (k:=Ya (Za (k:=Qc (k:=Qv (k:=Wq (Zi (t:=fun h10=>?_) (f:=fun h10=>?_)))))))
     ·
      refine Qc (k:=Qv (k:=?_));refine Aa6 (AcH rfl Tryz.underlying3 Tryz.underlying5) rfl ?_;refine Zv [_] (cs:=[_]) (k:=fun b14=>?_);refine Aji (l:=[dgt n]) Tryz.underlying56 Tryz.underlying9 Tryz.underlying5 rfl (by exact Aod n (by omega)) (by simp) rfl ?_;refine Vv (k:=Wq (Zt (k:=Va ?_)));exact Aa2 () (vs:=[_]) (Cs:=[]) rfl (.tmp rfl .nil) (by rw[hn];rfl) trivial Aad
     ·
      exfalso;omega
      --done
 · have hn:AaX n=AaX (n / 10)++[dgt n]:=by rw[AaX,if_neg h10]
   have hc:=ih (n / 10) (by omega) (by omega);rw[show (((n / 10:Nat)):Int)=(n:Int) / 10 from by omega] at hc;have hl2:=Amg (n / 10);refine Sp.body (n:=26) Tryz.call51 Tryz.func51 rfl rfl rfl ?_;refine Qc (k:=Vv (k:=Wq (Za (k:=Qc (k:=Qv (k:=Vv (k:=Gi 2 (t:=fun h5=>?_) (f:=fun h5=>?_))))))))
   ·
    exfalso;omega
    --done
   ·
    refine J0 (k:=J0 (k:=P0 (k:=Wq (Zi (t:=fun h8=>?_) (f:=fun h8=>?_)))))
    ·
     exfalso;omega
     --done
    ·
     refine Zk (k:=Ya (Za (k:=Qc (k:=Qv (k:=Wq (Zi (t:=fun h10=>?_) (f:=fun h10=>?_)))))))
     ·
      exfalso;omega
      --done
     ·
      refine Zk (k:=Ya (Za (k:=Dw [] (k:=?_))));refine Dv 0 (k:=Dv 1 (k:=Dv 3 (k:=Dv 4 (k:=Dv 5 (k:=?_)))));refine Aa1 6 rfl rfl rfl (by kernel_rfl) (by kernel_rfl) (Aat (AcH rfl Tryz.underlying3 Tryz.underlying5)) ?_;refine Aah 2 7 (by kernel_rfl) rfl rfl ?_ ?_
      ·
       refine Aal hc rfl rfl rfl ?_;refine Dn 7 (k:=?_);refine AhD [_] (cs:=[_]) Tryz.underlying56 ti5 rfl rfl rfl rfl rfl rfl rfl rfl (fun b23=>?_);refine Aa1 8 rfl rfl rfl (by kernel_rfl) (by kernel_rfl) (Atq (l:=[dgt n]) Tryz.underlying56 Tryz.underlying9 Tryz.underlying5 rfl (by exact Aod n (by omega)) (by simp)) ?_;refine Aa1 9 rfl rfl rfl (by kernel_rfl) (by kernel_rfl) (Aat (AiI rfl rfl (by rw[List.length_singleton];omega))) ?_;refine Dv 10 (k:=Dd (k:=Ya (Zt (k:=?_))));exact Aa2 () (vs:=[_]) (Cs:=[]) rfl (.tmp rfl .nil) (by rw[hn];rfl) trivial Aad
      ·
       refine AhD [_] (cs:=[_]) Tryz.underlying56 ti5 rfl rfl rfl rfl rfl rfl rfl rfl (fun b23=>?_);refine Aa1 8 rfl rfl rfl (by kernel_rfl) (by kernel_rfl) (Atq (l:=[dgt n]) Tryz.underlying56 Tryz.underlying9 Tryz.underlying5 rfl (by exact Aod n (by omega)) (by simp)) ?_;refine Dn 2 (k:=?_);refine Aal hc rfl rfl rfl ?_;refine Aa1 9 rfl rfl rfl (by kernel_rfl) (by kernel_rfl) (Aat (AiI rfl rfl (by rw[List.length_singleton];omega))) ?_;refine Dv 10 (k:=Dd (k:=Ya (Zt (k:=?_))));exact Aa2 () (vs:=[_]) (Cs:=[]) rfl (.tmp rfl .nil) (by rw[hn];rfl) trivial Aad
end
end Go.Proofs.YtdnoacgopfcpbaaGreat
