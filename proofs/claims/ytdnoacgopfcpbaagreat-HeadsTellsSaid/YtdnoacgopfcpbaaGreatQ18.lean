/- Texts of this proof, put together: SR10d. -/
import Derived.Test.YtdnoacgopfcpbaaGreatQ17
set_option linter.unusedVariables false
set_option linter.unusedSimpArgs false
namespace Go.Proofs.YtdnoacgopfcpbaaGreat
section
set_option maxRecDepth 100000
theorem Ans {G:Prop} (h:G:=by
    have hn:¬OkT own l j:=fun o=>by
     have h0:0<j:=by omega
     obtain⟨r1,r2⟩:=ApA o h0;rw[hg] at r1 r2;simp_all
    refine Aa2 () (vs:=[_]) (Cs:=[]) rfl (.tmp rfl .nil) (by rw[hbad hn];rfl) trivial Aa0):G:=h
theorem Aiu {G:Prop} (h:G:=by
    have hokj:OkT own l j:=by
     refine⟨by rw[hg];exact hkind,by rw[hg];exact hname,by rw[hg];exact hval,by rw[hg];exact⟨htg1,htg2⟩,?_⟩;intro h0;rw[hg]
     first
     | (exfalso;omega)
     | (have e1:blt (l.getD (j-1) tg0).name t.name=true∨(l.getD (j-1) tg0).name=t.name:=by
          cases hb1:blt (l.getD (j-1) tg0).name t.name with
          | true=>exact .inl rfl
          | false =>
            rw[hb1,Bool.false_or] at h79;exact .inr (by simpa using h79)
        first
        | exact⟨e1,fun e=>absurd e h89⟩
        | exact⟨e1,fun _=>by simpa using h101⟩)
    refine Aa5 ⟨j+1,by omega,fun i hi=>?_⟩ (by dsimp only;omega) ⟨rfl,rfl,rfl,rfl,rfl,trivial⟩ Aa0;by_cases he:i=j
    · rw[he];exact hokj
    · exact hok i (by omega)):G:=h
theorem Aap {G:Prop} (h:G:=by
    have hn:¬OkT own l j:=fun o=>by
     obtain⟨o1,o2,o3,⟨o4,o5⟩,_⟩:=o;rw[hg] at o1 o2 o3 o4 o5
     try simp only[Acy] at *
     clear hz hzj hok hbad hfl
     first
     | omega
     | (exact absurd o2 (by assumption))
     | (cases own<;>simp_all;done)
     | (cases own<;>simp_all<;>omega)
    refine Aa2 () (vs:=[_]) (Cs:=[]) rfl (.tmp rfl .nil) (by rw[hbad hn];rfl) trivial Aa0):G:=h
theorem AaP {G:Prop} (h:G:=by
    have key : (t.kind.toNat=43∨t.kind.toNat=42∨(t.kind.toNat=45∧t.value=[]))∧Acm t.name∧t.value.length≤12∧(own=true→t.target=[42])∧(own=false→isN t.target=true):=by
     try simp only[Acy] at *
     clear hz hzj hok hbad hfl;refine⟨?_,?_,by omega,?_,?_⟩
     · by_cases h1:t.kind.toNat=43
       · exact .inl h1
       · by_cases h2:t.kind.toNat=42
         · exact .inr (.inl h2)
         · by_cases h3:t.kind.toNat=45
           · refine .inr (.inr ⟨h3,?_⟩)
             first
             | (exfalso;omega)
             | (simp_all;done)
           · exfalso;omega
     · first
       | assumption
       | (simp_all;done)
     · intro ho;subst ho;first | (simp_all;done)
     · intro ho;subst ho;first | (simp_all;done)
    exact Aa5 ⟨(),key⟩ trivial ⟨rfl,rfl,rfl,rfl,rfl,rfl,rfl,trivial⟩ Aa0):G:=h
set_option maxHeartbeats 4000000 in
theorem Afx {B : HP} {a:Option Addr} (own:Bool) (n cap:Nat) (l:List Tg) (sh:SlA B a (l.flatMap Aab)) (hn:l.length=n) (hb:n≤1073741824) (hz:∀t∈l,t.name.length≤1099511627776∧t.target.length≤1099511627776∧t.value.length≤1099511627776) :
    Sp1 Tryz.prog 125 [.slice a n cap,vB own] [B] (vB (decide (RightT own l))) [B]:=by
 subst hn;haveI:Abu a (l.flatMap Aab) [B]:=⟨⟨B,sh,.here⟩⟩
 refine Sp.body (n:=106) Tryz.call125 Tryz.func125 rfl rfl rfl ?_;refine Qc (k:=Vv (k:=Wq (Za (k:=Qc (k:=Qv (k:=Vv (k:=Wq (Zb (k:=?_)))))))));refine Aak (fun (i:{ j:Nat // j≤l.length∧∀i,i<j→OkT own l i })=>[(0,.slice a l.length cap),(1,vB own),(7,.slice a l.length cap),(8,vI l.length),(9,vI i.1)]) (fun (i:{ j:Nat // j≤l.length∧∀i,i<j→OkT own l i })=>[B]) (fun (i:{ j:Nat // j≤l.length∧∀i,i<j→OkT own l i })=>l.length-i.1) rfl (⟨0,Nat.zero_le _,fun i h=>by omega⟩) ?_ ?_ (fun i=>?_)
 · exact⟨rfl,rfl,rfl,rfl,rfl,trivial⟩
 ·
  exact Aa0
 obtain⟨j,hj,hok⟩:=i;dsimp only;try dsimp only
 refine Qc (k:=Vv (k:=Wq (Za (k:=Zi (t:=fun h10=>?_) (f:=fun h10=>?_)))))
 ·
  refine Zk (k:=Ya (Za (k:=Zb (k:=Za (k:=?_)))));have hjl:j<l.length:=by omega
  have hg:l.getD j tg0=l[j]:=by simp[hjl]
  have hzj:=hz l[j] (List.getElem_mem hjl);obtain⟨t,ht⟩:∃t,t=l[j]:=⟨_,rfl⟩
  rw[←ht] at hzj hg;have hfl:(l.flatMap Aab).length=l.length * 4:=Aaj (f:=Aab) (sz:=4) (fun _=>rfl) l;have hbad:∀(h:¬OkT own l j),decide (RightT own l)=false:=fun h=>decide_eq_false (fun r=>h (r.ok j hjl));refine Zr (k:=Vv (k:=Ye 4 (k:=?_)));refine Abb (vs:=[_,_,_,_]) (sz:=4) Tryz.underlying60 rfl Adx rfl rfl (by rw[Aaj (sz:=4) (fun _=>rfl)];omega) rfl (by refine Ab1 (fun x=>?_) ?_<;>first | rfl | omega) rfl ?_;rw[←ht];refine Zc [.int .u8 0,vS [],vS [],vS []] (k:=fun b6=>Vv (k:=Zp (k:=Wq ?_)));refine Abg (fun (u:{ u:Unit // (t.kind.toNat=43∨t.kind.toNat=42∨(t.kind.toNat=45∧t.value=[]))∧Acm t.name∧t.value.length≤12∧(own=true→t.target=[42])∧(own=false→isN t.target=true) })=>[(0,.slice a l.length cap),(1,vB own),(5,vI j),(6,.pointer (some ⟨b6,0,none⟩)),(7,.slice a l.length cap),(8,vI l.length),(9,vI j)]) (fun (u:{ u:Unit // (t.kind.toNat=43∨t.kind.toNat=42∨(t.kind.toNat=45∧t.value=[]))∧Acm t.name∧t.value.length≤12∧(own=true→t.target=[42])∧(own=false→isN t.target=true) })=>[Ce b6 60 [vU (t.kind.toNat:Int),vS t.name,vS t.target,vS t.value],B]) rfl (fun u=>?_) ?_
  ·
   obtain⟨u,hkind,hname,hval,htg1,htg2⟩:=u;try dsimp only
   refine Za (k:=Dw [Ce b6 60 [vU (t.kind.toNat:Int),vS t.name,vS t.target,vS t.value],B] (k:=?_));refine Dv 0 (k:=Dv 1 (k:=Dv 2 (k:=Gd 2 (t:=fun h69=>?_) (f:=fun h69=>?_))))
   ·
    refine Di 3 (t:=U1 (h:=Uv)) (k:=Di 4 (t:=U1 (h:=Uv)) (k:=Di 5 (t:=U1 (h:=Uv)) (k:=?_)));refine Aa1 6 rfl rfl rfl (by kernel_rfl) (by kernel_rfl) (Aau (b:=true) rfl (Aae (sz:=4) (m:=j-1) (kk:=4 * (j-1)) Tryz.underlying28 Adx rfl rfl rfl (by omega) (by omega) (by omega) (Nat.mul_comm _ _))) ?_;refine Aa1 7 rfl rfl rfl (by kernel_rfl) (by kernel_rfl) (Aau (b:=true) rfl (AaO (kk:=4 * (j-1)+1) Tryz.underlying60 rfl ti9 rfl rfl rfl rfl (by omega))) ?_;refine Aa1 8 rfl rfl rfl (by kernel_rfl) (by kernel_rfl) (Aau (b:=true) rfl (Aas Tryz.underlying9 rfl rfl (Af7 (j:=j-1) (by omega)).1)) ?_;refine Di 9 (t:=U1 (h:=Uf 1 9)) (k:=Di 10 (t:=U1 (h:=Ul)) (k:=Di 11 (t:=U1 (h:=Uv)) (k:=Di 12 (t:=U1 (h:=Uv)) (k:=Gd 12 (t:=fun h79=>?_) (f:=fun h79=>?_)))))
    ·
     refine D1 13 (k:=D1 14 (k:=D1 15 (k:=D1 16 (k:=D1 17 (k:=D1 18 (k:=D1 19 (k:=D1 20 (k:=D1 21 (k:=D1 22 (k:=Di 23 (t:=Uu) (k:=Di 24 (t:=Uu) (k:=?_))))))))))));refine Di 25 (t:=Uu) (k:=Di 26 (t:=Uu) (k:=Di 27 (t:=Uu) (k:=Di 28 (t:=Uu) (k:=Di 29 (t:=Uu) (k:=Di 30 (t:=Uu) (k:=Di 31 (t:=Uu) (k:=D1 32 (k:=Di 33 (t:=U1 (h:=UP1)) (k:=DP1 34 (k:=Dd (k:=Ya ?_)))))))))));refine Z1 (k:=Qc (k:=Vv (k:=Wq (Zt (k:=Vb (Va (Vi (Vb (Va ?_)))))))));exact Ans
    ·
     refine Di 13 (t:=U0 (h:=Uv)) (k:=Di 14 (t:=U0 (h:=Uv)) (k:=Di 15 (t:=U0 (h:=Uv)) (k:=?_)));refine Aa1 16 rfl rfl rfl (by kernel_rfl) (by kernel_rfl) (Aau (b:=false) rfl (Aae (sz:=4) (m:=j-1) (kk:=4 * (j-1)) Tryz.underlying28 Adx rfl rfl rfl (by omega) (by omega) (by omega) (Nat.mul_comm _ _))) ?_;refine Aa1 17 rfl rfl rfl (by kernel_rfl) (by kernel_rfl) (Aau (b:=false) rfl (AaO (kk:=4 * (j-1)+1) Tryz.underlying60 rfl ti9 rfl rfl rfl rfl (by omega))) ?_;refine Aa1 18 rfl rfl rfl (by kernel_rfl) (by kernel_rfl) (Aau (b:=false) rfl (Aas Tryz.underlying9 rfl rfl (Af7 (j:=j-1) (by omega)).1)) ?_;refine Di 19 (t:=U0 (h:=Uf 1 9)) (k:=Di 20 (t:=U0 (h:=Ul)) (k:=Di 21 (t:=U0 (h:=Uv)) (k:=Di 22 (t:=U0 (h:=Uv)) (k:=Gd 22 (t:=fun h89=>?_) (f:=fun h89=>?_)))))
     ·
      refine Di 23 (t:=U1 (h:=Uv)) (k:=Di 24 (t:=U1 (h:=Uv)) (k:=Di 25 (t:=U1 (h:=Uv)) (k:=?_)));refine Aa1 26 rfl rfl rfl (by kernel_rfl) (by kernel_rfl) (Aau (b:=true) rfl (Aae (sz:=4) (m:=j-1) (kk:=4 * (j-1)) Tryz.underlying28 Adx rfl rfl rfl (by omega) (by omega) (by omega) (Nat.mul_comm _ _))) ?_;refine Aa1 27 rfl rfl rfl (by kernel_rfl) (by kernel_rfl) (Aau (b:=true) rfl (AaO (kk:=4 * (j-1)+2) Tryz.underlying60 rfl ti9 rfl rfl rfl rfl (by omega))) ?_;refine Aa1 28 rfl rfl rfl (by kernel_rfl) (by kernel_rfl) (Aau (b:=true) rfl (Aas Tryz.underlying9 rfl rfl (Af7 (j:=j-1) (by omega)).2)) ?_;refine Di 29 (t:=U1 (h:=Uf 2 9)) (k:=Di 30 (t:=U1 (h:=Ul)) (k:=Di 31 (t:=U1 (h:=Uv)) (k:=Di 32 (t:=U0 (h:=UP1)) (k:=Di 33 (t:=U1 (h:=UP0)) (k:=DP1 34 (k:=Dd (k:=Ya (Zi (t:=fun h101=>?_) (f:=fun h101=>?_)))))))))
      ·
       refine Qc (k:=Vv (k:=Wq (Zt (k:=Vb (Va (Vi (Vb (Va ?_))))))));exact Ans
      ·
       refine Zk (k:=Yb (Ya (Zr (k:=Qv (k:=Wn ?_)))));exact Aiu
     ·
      refine D0 23 (k:=D0 24 (k:=D0 25 (k:=D0 26 (k:=D0 27 (k:=D0 28 (k:=D0 29 (k:=D0 30 (k:=D0 31 (k:=Di 32 (t:=U0 (h:=UP0)) (k:=Di 33 (t:=U1 (h:=UP0)) (k:=DP1 34 (k:=?_))))))))))));refine Dd (k:=Ya (Z0 (k:=Zk (k:=Yb (Ya (Zr (k:=Qv (k:=Wn ?_))))))));exact Aiu
   ·
    refine D0 3 (k:=D0 4 (k:=D0 5 (k:=D0 6 (k:=D0 7 (k:=D0 8 (k:=D0 9 (k:=D0 10 (k:=D0 11 (k:=D0 12 (k:=Di 13 (t:=Uu) (k:=Di 14 (t:=Uu) (k:=?_))))))))))));refine Di 15 (t:=Uu) (k:=Di 16 (t:=Uu) (k:=Di 17 (t:=Uu) (k:=Di 18 (t:=Uu) (k:=Di 19 (t:=Uu) (k:=Di 20 (t:=Uu) (k:=Di 21 (t:=Uu) (k:=Di 22 (t:=Uu) (k:=Di 23 (t:=Uu) (k:=Di 24 (t:=Uu) (k:=Di 25 (t:=Uu) (k:=Di 26 (t:=Uu) (k:=?_))))))))))));refine Di 27 (t:=Uu) (k:=Di 28 (t:=Uu) (k:=Di 29 (t:=Uu) (k:=Di 30 (t:=Uu) (k:=Di 31 (t:=Uu) (k:=Di 32 (t:=Uu) (k:=D0 33 (k:=DP0 34 (k:=Dd (k:=Ya (Z0 (k:=Zk (k:=?_))))))))))));refine Yb (Ya (Zr (k:=Qv (k:=Wn ?_))));exact Aiu
  ·
   refine Qc (k:=Qx 0 5 (k:=Qv (k:=Gi 3 (t:=fun h17=>?_) (f:=fun h17=>?_))))
   ·
    refine I1 (k:=Vf 0 5 (k:=I1 (k:=Zd (k:=J1 (k:=P1 (k:=Vv (k:=Gi 8 (t:=fun h22=>?_) (f:=fun h22=>?_))))))))
    ·
     refine I1 (k:=Vf 0 5 (k:=I1 (k:=Zd (k:=J1 (k:=P1 (k:=Vv (k:=Gi 13 (t:=fun h27=>?_) (f:=fun h27=>?_))))))))
     ·
      refine O1 (k:=O1 (k:=O1 (k:=O1 (k:=P1 (k:=Vv (k:=O1 (k:=O1 (k:=Ou (k:=Ou (k:=Ou (k:=O1 (k:=?_))))))))))));refine P1 (k:=Vv (k:=O1 (k:=O1 (k:=O1 (k:=Ou (k:=Ou (k:=Ou (k:=Ou (k:=O1 (k:=P1 (k:=Vv (k:=?_))))))))))));refine O1 (k:=O1 (k:=O1 (k:=O1 (k:=Ou (k:=Ou (k:=Ou (k:=O1 (k:=P1 (k:=Vv (k:=O1 (k:=O1 (k:=?_))))))))))));refine O1 (k:=O1 (k:=P1 (k:=Wq (Z1 (k:=Qc (k:=Vv (k:=Wq (Zt (k:=Vi (Vb ?_))))))))));refine Va (Vi (Vb (Va ?_)));exact Aap
     ·
      refine I0 (k:=Vf 1 9 (k:=I0 (k:=Zd (k:=I0 (k:=?_)))));refine Aag (Acj t.name (by omega)) rfl rfl rfl ?_;refine J0 (k:=P0 (k:=Vv (k:=Gi 19 (t:=fun h33=>?_) (f:=fun h33=>?_))))
      ·
       refine O1 (k:=O1 (k:=Ou (k:=Ou (k:=Ou (k:=O1 (k:=P1 (k:=Vv (k:=O1 (k:=O1 (k:=O1 (k:=Ou (k:=?_))))))))))));refine Ou (k:=Ou (k:=Ou (k:=O1 (k:=P1 (k:=Vv (k:=O1 (k:=O1 (k:=O1 (k:=O1 (k:=Ou (k:=Ou (k:=?_))))))))))));refine Ou (k:=O1 (k:=P1 (k:=Vv (k:=O1 (k:=O1 (k:=O1 (k:=O1 (k:=P1 (k:=Wq (Z1 (k:=Za (k:=?_))))))))))));refine Zr (k:=Vv (k:=Wq (Zt (k:=Vi (Vb (Va (Vi (Vb (Va ?_)))))))));exact Aap
      ·
       refine J0 (k:=J0 (k:=Gi 21 (t:=fun h35=>?_) (f:=fun h35=>?_)))
       ·
        refine I1 (k:=Vf 2 9 (k:=I1 (k:=Zd (k:=J1 (k:=I0 (k:=P1 (k:=P0 (k:=Vv (k:=Gi 27 (t:=fun h41=>?_) (f:=fun h41=>?_))))))))))
        ·
         refine O1 (k:=O1 (k:=O1 (k:=Ou (k:=Ou (k:=Ou (k:=Ou (k:=O1 (k:=P1 (k:=Vv (k:=O1 (k:=O1 (k:=?_))))))))))));refine O1 (k:=O1 (k:=Ou (k:=Ou (k:=Ou (k:=O1 (k:=P1 (k:=Vv (k:=O1 (k:=O1 (k:=O1 (k:=O1 (k:=?_))))))))))));refine P1 (k:=Wq (Z1 (k:=Qc (k:=Vv (k:=Wq (Zt (k:=Vi (Vb (Va (Vi ?_))))))))));refine Vb (Va ?_);exact Aap
        ·
         refine J0 (k:=J0 (k:=J0 (k:=Gi 30 (t:=fun h44=>?_) (f:=fun h44=>?_))))
         ·
          refine I1 (k:=Vf 2 9 (k:=I1 (k:=Zd (k:=I1 (k:=?_)))));refine Aag (Aci t.target (by omega)) rfl rfl rfl ?_;refine J1 (k:=I0 (k:=P1 (k:=P0 (k:=Vv (k:=Gi 37 (t:=fun h51=>?_) (f:=fun h51=>?_))))))
          ·
           refine O1 (k:=O1 (k:=O1 (k:=O1 (k:=Ou (k:=Ou (k:=Ou (k:=O1 (k:=P1 (k:=Vv (k:=O1 (k:=O1 (k:=?_))))))))))));refine O1 (k:=O1 (k:=P1 (k:=Wq (Z1 (k:=Qc (k:=Vv (k:=Wq (Zt (k:=Vi (Vb ?_))))))))));refine Va (Vi (Vb (Va ?_)));exact Aap
          ·
           refine I0 (k:=Vf 0 5 (k:=I0 (k:=Zd (k:=J0 (k:=J0 (k:=Gi 41 (t:=fun h55=>?_) (f:=fun h55=>?_)))))))
           ·
            refine I1 (k:=Vf 3 9 (k:=I1 (k:=Zd (k:=J1 (k:=I0 (k:=P1 (k:=P0 (k:=Vv (k:=Gi 47 (t:=fun h61=>?_) (f:=fun h61=>?_))))))))))
            ·
             refine O1 (k:=O1 (k:=O1 (k:=O1 (k:=P1 (k:=Wq (Z1 (k:=Qc (k:=Vv (k:=Wq (Zt (k:=?_)))))))))));refine Vi (Vb (Va (Vi (Vb (Va ?_)))));exact Aap
            ·
             refine I0 (k:=Vf 3 9 (k:=I0 (k:=Zd (k:=J0 (k:=J0 (k:=P0 (k:=Wq (Zi (t:=fun h66=>?_) (f:=fun h66=>?_)))))))))
             ·
              refine Qc (k:=Vv (k:=Wq (Zt (k:=Vi (Vb (Va (Vi (Vb (Va ?_)))))))));exact Aap
             ·
              refine Zk (k:=?_);exact AaP
           ·
            refine O0 (k:=O0 (k:=O0 (k:=I0 (k:=P0 (k:=P0 (k:=Vv (k:=I0 (k:=Vf 3 9 (k:=I0 (k:=Zd (k:=I0 (k:=?_))))))))))));refine Vv (k:=J0 (k:=P0 (k:=Wq (Zi (t:=fun h66=>?_) (f:=fun h66=>?_)))))
            ·
             refine Qc (k:=Vv (k:=Wq (Zt (k:=Vi (Vb (Va (Vi (Vb (Va ?_)))))))));exact Aap
            ·
             refine Zk (k:=?_);exact AaP
         ·
          refine O0 (k:=O0 (k:=O0 (k:=O0 (k:=I0 (k:=P0 (k:=P0 (k:=Vv (k:=I0 (k:=Vf 0 5 (k:=I0 (k:=Zd (k:=?_))))))))))));refine J0 (k:=J0 (k:=Gi 41 (t:=fun h55=>?_) (f:=fun h55=>?_)))
          ·
           refine I1 (k:=Vf 3 9 (k:=I1 (k:=Zd (k:=J1 (k:=I0 (k:=P1 (k:=P0 (k:=Vv (k:=Gi 47 (t:=fun h61=>?_) (f:=fun h61=>?_))))))))))
           ·
            refine O1 (k:=O1 (k:=O1 (k:=O1 (k:=P1 (k:=Wq (Z1 (k:=Qc (k:=Vv (k:=Wq (Zt (k:=?_)))))))))));refine Vi (Vb (Va (Vi (Vb (Va ?_)))));exact Aap
           ·
            refine I0 (k:=Vf 3 9 (k:=I0 (k:=Zd (k:=J0 (k:=J0 (k:=P0 (k:=Wq (Zi (t:=fun h66=>?_) (f:=fun h66=>?_)))))))))
            ·
             refine Qc (k:=Vv (k:=Wq (Zt (k:=Vi (Vb (Va (Vi (Vb (Va ?_)))))))));exact Aap
            ·
             refine Zk (k:=?_);exact AaP
          ·
           refine O0 (k:=O0 (k:=O0 (k:=I0 (k:=P0 (k:=P0 (k:=Vv (k:=I0 (k:=Vf 3 9 (k:=I0 (k:=Zd (k:=I0 (k:=?_))))))))))));refine Vv (k:=J0 (k:=P0 (k:=Wq (Zi (t:=fun h66=>?_) (f:=fun h66=>?_)))))
           ·
            refine Qc (k:=Vv (k:=Wq (Zt (k:=Vi (Vb (Va (Vi (Vb (Va ?_)))))))));exact Aap
           ·
            refine Zk (k:=?_);exact AaP
       ·
        refine O0 (k:=O0 (k:=O0 (k:=I0 (k:=P0 (k:=P0 (k:=Vv (k:=J0 (k:=J0 (k:=I0 (k:=?_))))))))));refine Vv (k:=Gi 30 (t:=fun h44=>?_) (f:=fun h44=>?_))
        ·
         refine I1 (k:=Vf 2 9 (k:=I1 (k:=Zd (k:=I1 (k:=?_)))));refine Aag (Aci t.target (by omega)) rfl rfl rfl ?_;refine J1 (k:=I0 (k:=P1 (k:=P0 (k:=Vv (k:=Gi 37 (t:=fun h51=>?_) (f:=fun h51=>?_))))))
         ·
          refine O1 (k:=O1 (k:=O1 (k:=O1 (k:=Ou (k:=Ou (k:=Ou (k:=O1 (k:=P1 (k:=Vv (k:=O1 (k:=O1 (k:=?_))))))))))));refine O1 (k:=O1 (k:=P1 (k:=Wq (Z1 (k:=Qc (k:=Vv (k:=Wq (Zt (k:=Vi (Vb ?_))))))))));refine Va (Vi (Vb (Va ?_)));exact Aap
         ·
          refine I0 (k:=Vf 0 5 (k:=I0 (k:=Zd (k:=J0 (k:=J0 (k:=Gi 41 (t:=fun h55=>?_) (f:=fun h55=>?_)))))))
          ·
           refine I1 (k:=Vf 3 9 (k:=I1 (k:=Zd (k:=J1 (k:=I0 (k:=P1 (k:=P0 (k:=Vv (k:=Gi 47 (t:=fun h61=>?_) (f:=fun h61=>?_))))))))))
           ·
            refine O1 (k:=O1 (k:=O1 (k:=O1 (k:=P1 (k:=Wq (Z1 (k:=Qc (k:=Vv (k:=Wq (Zt (k:=?_)))))))))));refine Vi (Vb (Va (Vi (Vb (Va ?_)))));exact Aap
           ·
            refine I0 (k:=Vf 3 9 (k:=I0 (k:=Zd (k:=J0 (k:=J0 (k:=P0 (k:=Wq (Zi (t:=fun h66=>?_) (f:=fun h66=>?_)))))))))
            ·
             refine Qc (k:=Vv (k:=Wq (Zt (k:=Vi (Vb (Va (Vi (Vb (Va ?_)))))))));exact Aap
            ·
             refine Zk (k:=?_);exact AaP
          ·
           refine O0 (k:=O0 (k:=O0 (k:=I0 (k:=P0 (k:=P0 (k:=Vv (k:=I0 (k:=Vf 3 9 (k:=I0 (k:=Zd (k:=I0 (k:=?_))))))))))));refine Vv (k:=J0 (k:=P0 (k:=Wq (Zi (t:=fun h66=>?_) (f:=fun h66=>?_)))))
           ·
            refine Qc (k:=Vv (k:=Wq (Zt (k:=Vi (Vb (Va (Vi (Vb (Va ?_)))))))));exact Aap
           ·
            refine Zk (k:=?_);exact AaP
        ·
         refine O0 (k:=O0 (k:=O0 (k:=O0 (k:=I0 (k:=P0 (k:=P0 (k:=Vv (k:=I0 (k:=Vf 0 5 (k:=I0 (k:=Zd (k:=?_))))))))))));refine J0 (k:=J0 (k:=Gi 41 (t:=fun h55=>?_) (f:=fun h55=>?_)))
         ·
          refine I1 (k:=Vf 3 9 (k:=I1 (k:=Zd (k:=J1 (k:=I0 (k:=P1 (k:=P0 (k:=Vv (k:=Gi 47 (t:=fun h61=>?_) (f:=fun h61=>?_))))))))))
          ·
           refine O1 (k:=O1 (k:=O1 (k:=O1 (k:=P1 (k:=Wq (Z1 (k:=Qc (k:=Vv (k:=Wq (Zt (k:=?_)))))))))));refine Vi (Vb (Va (Vi (Vb (Va ?_)))));exact Aap
          ·
           refine I0 (k:=Vf 3 9 (k:=I0 (k:=Zd (k:=J0 (k:=J0 (k:=P0 (k:=Wq (Zi (t:=fun h66=>?_) (f:=fun h66=>?_)))))))))
           ·
            refine Qc (k:=Vv (k:=Wq (Zt (k:=Vi (Vb (Va (Vi (Vb (Va ?_)))))))));exact Aap
           ·
            refine Zk (k:=?_);exact AaP
         ·
          refine O0 (k:=O0 (k:=O0 (k:=I0 (k:=P0 (k:=P0 (k:=Vv (k:=I0 (k:=Vf 3 9 (k:=I0 (k:=Zd (k:=I0 (k:=?_))))))))))));refine Vv (k:=J0 (k:=P0 (k:=Wq (Zi (t:=fun h66=>?_) (f:=fun h66=>?_)))))
          ·
           refine Qc (k:=Vv (k:=Wq (Zt (k:=Vi (Vb (Va (Vi (Vb (Va ?_)))))))));exact Aap
          ·
           refine Zk (k:=?_);exact AaP
    ·
     refine O0 (k:=O0 (k:=O0 (k:=P0 (k:=Vv (k:=I0 (k:=Vf 1 9 (k:=I0 (k:=Zd (k:=I0 (k:=?_))))))))));refine Aag (Acj t.name (by omega)) rfl rfl rfl ?_;refine J0 (k:=P0 (k:=Vv (k:=Gi 19 (t:=fun h33=>?_) (f:=fun h33=>?_))))
     ·
      refine O1 (k:=O1 (k:=Ou (k:=Ou (k:=Ou (k:=O1 (k:=P1 (k:=Vv (k:=O1 (k:=O1 (k:=O1 (k:=Ou (k:=?_))))))))))));refine Ou (k:=Ou (k:=Ou (k:=O1 (k:=P1 (k:=Vv (k:=O1 (k:=O1 (k:=O1 (k:=O1 (k:=Ou (k:=Ou (k:=?_))))))))))));refine Ou (k:=O1 (k:=P1 (k:=Vv (k:=O1 (k:=O1 (k:=O1 (k:=O1 (k:=P1 (k:=Wq (Z1 (k:=Za (k:=?_))))))))))));refine Zr (k:=Vv (k:=Wq (Zt (k:=Vi (Vb (Va (Vi (Vb (Va ?_)))))))));exact Aap
     ·
      refine J0 (k:=J0 (k:=Gi 21 (t:=fun h35=>?_) (f:=fun h35=>?_)))
      ·
       refine I1 (k:=Vf 2 9 (k:=I1 (k:=Zd (k:=J1 (k:=I0 (k:=P1 (k:=P0 (k:=Vv (k:=Gi 27 (t:=fun h41=>?_) (f:=fun h41=>?_))))))))))
       ·
        refine O1 (k:=O1 (k:=O1 (k:=Ou (k:=Ou (k:=Ou (k:=Ou (k:=O1 (k:=P1 (k:=Vv (k:=O1 (k:=O1 (k:=?_))))))))))));refine O1 (k:=O1 (k:=Ou (k:=Ou (k:=Ou (k:=O1 (k:=P1 (k:=Vv (k:=O1 (k:=O1 (k:=O1 (k:=O1 (k:=?_))))))))))));refine P1 (k:=Wq (Z1 (k:=Qc (k:=Vv (k:=Wq (Zt (k:=Vi (Vb (Va (Vi ?_))))))))));refine Vb (Va ?_);exact Aap
       ·
        refine J0 (k:=J0 (k:=J0 (k:=Gi 30 (t:=fun h44=>?_) (f:=fun h44=>?_))))
        ·
         refine I1 (k:=Vf 2 9 (k:=I1 (k:=Zd (k:=I1 (k:=?_)))));refine Aag (Aci t.target (by omega)) rfl rfl rfl ?_;refine J1 (k:=I0 (k:=P1 (k:=P0 (k:=Vv (k:=Gi 37 (t:=fun h51=>?_) (f:=fun h51=>?_))))))
         ·
          refine O1 (k:=O1 (k:=O1 (k:=O1 (k:=Ou (k:=Ou (k:=Ou (k:=O1 (k:=P1 (k:=Vv (k:=O1 (k:=O1 (k:=?_))))))))))));refine O1 (k:=O1 (k:=P1 (k:=Wq (Z1 (k:=Qc (k:=Vv (k:=Wq (Zt (k:=Vi (Vb ?_))))))))));refine Va (Vi (Vb (Va ?_)));exact Aap
         ·
          refine I0 (k:=Vf 0 5 (k:=I0 (k:=Zd (k:=J0 (k:=J0 (k:=Gi 41 (t:=fun h55=>?_) (f:=fun h55=>?_)))))))
          ·
           refine I1 (k:=Vf 3 9 (k:=I1 (k:=Zd (k:=J1 (k:=I0 (k:=P1 (k:=P0 (k:=Vv (k:=Gi 47 (t:=fun h61=>?_) (f:=fun h61=>?_))))))))))
           ·
            refine O1 (k:=O1 (k:=O1 (k:=O1 (k:=P1 (k:=Wq (Z1 (k:=Qc (k:=Vv (k:=Wq (Zt (k:=?_)))))))))));refine Vi (Vb (Va (Vi (Vb (Va ?_)))));exact Aap
           ·
            refine I0 (k:=Vf 3 9 (k:=I0 (k:=Zd (k:=J0 (k:=J0 (k:=P0 (k:=Wq (Zi (t:=fun h66=>?_) (f:=fun h66=>?_)))))))))
            ·
             refine Qc (k:=Vv (k:=Wq (Zt (k:=Vi (Vb (Va (Vi (Vb (Va ?_)))))))));exact Aap
            ·
             refine Zk (k:=?_);exact AaP
          ·
           refine O0 (k:=O0 (k:=O0 (k:=I0 (k:=P0 (k:=P0 (k:=Vv (k:=I0 (k:=Vf 3 9 (k:=I0 (k:=Zd (k:=I0 (k:=?_))))))))))));refine Vv (k:=J0 (k:=P0 (k:=Wq (Zi (t:=fun h66=>?_) (f:=fun h66=>?_)))))
           ·
            refine Qc (k:=Vv (k:=Wq (Zt (k:=Vi (Vb (Va (Vi (Vb (Va ?_)))))))));exact Aap
           ·
            refine Zk (k:=?_);exact AaP
        ·
         refine O0 (k:=O0 (k:=O0 (k:=O0 (k:=I0 (k:=P0 (k:=P0 (k:=Vv (k:=I0 (k:=Vf 0 5 (k:=I0 (k:=Zd (k:=?_))))))))))));refine J0 (k:=J0 (k:=Gi 41 (t:=fun h55=>?_) (f:=fun h55=>?_)))
         ·
          refine I1 (k:=Vf 3 9 (k:=I1 (k:=Zd (k:=J1 (k:=I0 (k:=P1 (k:=P0 (k:=Vv (k:=Gi 47 (t:=fun h61=>?_) (f:=fun h61=>?_))))))))))
          ·
           refine O1 (k:=O1 (k:=O1 (k:=O1 (k:=P1 (k:=Wq (Z1 (k:=Qc (k:=Vv (k:=Wq (Zt (k:=?_)))))))))));refine Vi (Vb (Va (Vi (Vb (Va ?_)))));exact Aap
          ·
           refine I0 (k:=Vf 3 9 (k:=I0 (k:=Zd (k:=J0 (k:=J0 (k:=P0 (k:=Wq (Zi (t:=fun h66=>?_) (f:=fun h66=>?_)))))))))
           ·
            refine Qc (k:=Vv (k:=Wq (Zt (k:=Vi (Vb (Va (Vi (Vb (Va ?_)))))))));exact Aap
           ·
            refine Zk (k:=?_);exact AaP
         ·
          refine O0 (k:=O0 (k:=O0 (k:=I0 (k:=P0 (k:=P0 (k:=Vv (k:=I0 (k:=Vf 3 9 (k:=I0 (k:=Zd (k:=I0 (k:=?_))))))))))));refine Vv (k:=J0 (k:=P0 (k:=Wq (Zi (t:=fun h66=>?_) (f:=fun h66=>?_)))))
          ·
           refine Qc (k:=Vv (k:=Wq (Zt (k:=Vi (Vb (Va (Vi (Vb (Va ?_)))))))));exact Aap
          ·
           refine Zk (k:=?_);exact AaP
      ·
       refine O0 (k:=O0 (k:=O0 (k:=I0 (k:=P0 (k:=P0 (k:=Vv (k:=J0 (k:=J0 (k:=I0 (k:=?_))))))))));refine Vv (k:=Gi 30 (t:=fun h44=>?_) (f:=fun h44=>?_))
       ·
        refine I1 (k:=Vf 2 9 (k:=I1 (k:=Zd (k:=I1 (k:=?_)))));refine Aag (Aci t.target (by omega)) rfl rfl rfl ?_;refine J1 (k:=I0 (k:=P1 (k:=P0 (k:=Vv (k:=Gi 37 (t:=fun h51=>?_) (f:=fun h51=>?_))))))
        ·
         refine O1 (k:=O1 (k:=O1 (k:=O1 (k:=Ou (k:=Ou (k:=Ou (k:=O1 (k:=P1 (k:=Vv (k:=O1 (k:=O1 (k:=?_))))))))))));refine O1 (k:=O1 (k:=P1 (k:=Wq (Z1 (k:=Qc (k:=Vv (k:=Wq (Zt (k:=Vi (Vb ?_))))))))));refine Va (Vi (Vb (Va ?_)));exact Aap
        ·
         refine I0 (k:=Vf 0 5 (k:=I0 (k:=Zd (k:=J0 (k:=J0 (k:=Gi 41 (t:=fun h55=>?_) (f:=fun h55=>?_)))))))
         ·
          refine I1 (k:=Vf 3 9 (k:=I1 (k:=Zd (k:=J1 (k:=I0 (k:=P1 (k:=P0 (k:=Vv (k:=Gi 47 (t:=fun h61=>?_) (f:=fun h61=>?_))))))))))
          ·
           refine O1 (k:=O1 (k:=O1 (k:=O1 (k:=P1 (k:=Wq (Z1 (k:=Qc (k:=Vv (k:=Wq (Zt (k:=?_)))))))))));refine Vi (Vb (Va (Vi (Vb (Va ?_)))));exact Aap
          ·
           refine I0 (k:=Vf 3 9 (k:=I0 (k:=Zd (k:=J0 (k:=J0 (k:=P0 (k:=Wq (Zi (t:=fun h66=>?_) (f:=fun h66=>?_)))))))))
           ·
            refine Qc (k:=Vv (k:=Wq (Zt (k:=Vi (Vb (Va (Vi (Vb (Va ?_)))))))));exact Aap
           ·
            refine Zk (k:=?_);exact AaP
         ·
          refine O0 (k:=O0 (k:=O0 (k:=I0 (k:=P0 (k:=P0 (k:=Vv (k:=I0 (k:=Vf 3 9 (k:=I0 (k:=Zd (k:=I0 (k:=?_))))))))))));refine Vv (k:=J0 (k:=P0 (k:=Wq (Zi (t:=fun h66=>?_) (f:=fun h66=>?_)))))
          ·
           refine Qc (k:=Vv (k:=Wq (Zt (k:=Vi (Vb (Va (Vi (Vb (Va ?_)))))))));exact Aap
          ·
           refine Zk (k:=?_);exact AaP
       ·
        refine O0 (k:=O0 (k:=O0 (k:=O0 (k:=I0 (k:=P0 (k:=P0 (k:=Vv (k:=I0 (k:=Vf 0 5 (k:=I0 (k:=Zd (k:=?_))))))))))));refine J0 (k:=J0 (k:=Gi 41 (t:=fun h55=>?_) (f:=fun h55=>?_)))
        ·
         refine I1 (k:=Vf 3 9 (k:=I1 (k:=Zd (k:=J1 (k:=I0 (k:=P1 (k:=P0 (k:=Vv (k:=Gi 47 (t:=fun h61=>?_) (f:=fun h61=>?_))))))))))
         ·
          refine O1 (k:=O1 (k:=O1 (k:=O1 (k:=P1 (k:=Wq (Z1 (k:=Qc (k:=Vv (k:=Wq (Zt (k:=?_)))))))))));refine Vi (Vb (Va (Vi (Vb (Va ?_)))));exact Aap
         ·
          refine I0 (k:=Vf 3 9 (k:=I0 (k:=Zd (k:=J0 (k:=J0 (k:=P0 (k:=Wq (Zi (t:=fun h66=>?_) (f:=fun h66=>?_)))))))))
          ·
           refine Qc (k:=Vv (k:=Wq (Zt (k:=Vi (Vb (Va (Vi (Vb (Va ?_)))))))));exact Aap
          ·
           refine Zk (k:=?_);exact AaP
        ·
         refine O0 (k:=O0 (k:=O0 (k:=I0 (k:=P0 (k:=P0 (k:=Vv (k:=I0 (k:=Vf 3 9 (k:=I0 (k:=Zd (k:=I0 (k:=?_))))))))))));refine Vv (k:=J0 (k:=P0 (k:=Wq (Zi (t:=fun h66=>?_) (f:=fun h66=>?_)))))
         ·
          refine Qc (k:=Vv (k:=Wq (Zt (k:=Vi (Vb (Va (Vi (Vb (Va ?_)))))))));exact Aap
         ·
          refine Zk (k:=?_);exact AaP
   ·
    refine O0 (k:=O0 (k:=O0 (k:=P0 (k:=Vv (k:=O0 (k:=O0 (k:=O0 (k:=P0 (k:=Vv (k:=I0 (k:=Vf 1 9 (k:=?_))))))))))));refine I0 (k:=Zd (k:=I0 (k:=?_)));refine Aag (Acj t.name (by omega)) rfl rfl rfl ?_;refine J0 (k:=P0 (k:=Vv (k:=Gi 19 (t:=fun h33=>?_) (f:=fun h33=>?_))))
    ·
     refine O1 (k:=O1 (k:=Ou (k:=Ou (k:=Ou (k:=O1 (k:=P1 (k:=Vv (k:=O1 (k:=O1 (k:=O1 (k:=Ou (k:=?_))))))))))));refine Ou (k:=Ou (k:=Ou (k:=O1 (k:=P1 (k:=Vv (k:=O1 (k:=O1 (k:=O1 (k:=O1 (k:=Ou (k:=Ou (k:=?_))))))))))));refine Ou (k:=O1 (k:=P1 (k:=Vv (k:=O1 (k:=O1 (k:=O1 (k:=O1 (k:=P1 (k:=Wq (Z1 (k:=Za (k:=?_))))))))))));refine Zr (k:=Vv (k:=Wq (Zt (k:=Vi (Vb (Va (Vi (Vb (Va ?_)))))))));exact Aap
    ·
     refine J0 (k:=J0 (k:=Gi 21 (t:=fun h35=>?_) (f:=fun h35=>?_)))
     ·
      refine I1 (k:=Vf 2 9 (k:=I1 (k:=Zd (k:=J1 (k:=I0 (k:=P1 (k:=P0 (k:=Vv (k:=Gi 27 (t:=fun h41=>?_) (f:=fun h41=>?_))))))))))
      ·
       refine O1 (k:=O1 (k:=O1 (k:=Ou (k:=Ou (k:=Ou (k:=Ou (k:=O1 (k:=P1 (k:=Vv (k:=O1 (k:=O1 (k:=?_))))))))))));refine O1 (k:=O1 (k:=Ou (k:=Ou (k:=Ou (k:=O1 (k:=P1 (k:=Vv (k:=O1 (k:=O1 (k:=O1 (k:=O1 (k:=?_))))))))))));refine P1 (k:=Wq (Z1 (k:=Qc (k:=Vv (k:=Wq (Zt (k:=Vi (Vb (Va (Vi ?_))))))))));refine Vb (Va ?_);exact Aap
      ·
       refine J0 (k:=J0 (k:=J0 (k:=Gi 30 (t:=fun h44=>?_) (f:=fun h44=>?_))))
       ·
        refine I1 (k:=Vf 2 9 (k:=I1 (k:=Zd (k:=I1 (k:=?_)))));refine Aag (Aci t.target (by omega)) rfl rfl rfl ?_;refine J1 (k:=I0 (k:=P1 (k:=P0 (k:=Vv (k:=Gi 37 (t:=fun h51=>?_) (f:=fun h51=>?_))))))
        ·
         refine O1 (k:=O1 (k:=O1 (k:=O1 (k:=Ou (k:=Ou (k:=Ou (k:=O1 (k:=P1 (k:=Vv (k:=O1 (k:=O1 (k:=?_))))))))))));refine O1 (k:=O1 (k:=P1 (k:=Wq (Z1 (k:=Qc (k:=Vv (k:=Wq (Zt (k:=Vi (Vb ?_))))))))));refine Va (Vi (Vb (Va ?_)));exact Aap
        ·
         refine I0 (k:=Vf 0 5 (k:=I0 (k:=Zd (k:=J0 (k:=J0 (k:=Gi 41 (t:=fun h55=>?_) (f:=fun h55=>?_)))))))
         ·
          refine I1 (k:=Vf 3 9 (k:=I1 (k:=Zd (k:=J1 (k:=I0 (k:=P1 (k:=P0 (k:=Vv (k:=Gi 47 (t:=fun h61=>?_) (f:=fun h61=>?_))))))))))
          ·
           refine O1 (k:=O1 (k:=O1 (k:=O1 (k:=P1 (k:=Wq (Z1 (k:=Qc (k:=Vv (k:=Wq (Zt (k:=?_)))))))))));refine Vi (Vb (Va (Vi (Vb (Va ?_)))));exact Aap
          ·
           refine I0 (k:=Vf 3 9 (k:=I0 (k:=Zd (k:=J0 (k:=J0 (k:=P0 (k:=Wq (Zi (t:=fun h66=>?_) (f:=fun h66=>?_)))))))))
           ·
            refine Qc (k:=Vv (k:=Wq (Zt (k:=Vi (Vb (Va (Vi (Vb (Va ?_)))))))));exact Aap
           ·
            refine Zk (k:=?_);exact AaP
         ·
          refine O0 (k:=O0 (k:=O0 (k:=I0 (k:=P0 (k:=P0 (k:=Vv (k:=I0 (k:=Vf 3 9 (k:=I0 (k:=Zd (k:=I0 (k:=?_))))))))))));refine Vv (k:=J0 (k:=P0 (k:=Wq (Zi (t:=fun h66=>?_) (f:=fun h66=>?_)))))
          ·
           refine Qc (k:=Vv (k:=Wq (Zt (k:=Vi (Vb (Va (Vi (Vb (Va ?_)))))))));exact Aap
          ·
           refine Zk (k:=?_);exact AaP
       ·
        refine O0 (k:=O0 (k:=O0 (k:=O0 (k:=I0 (k:=P0 (k:=P0 (k:=Vv (k:=I0 (k:=Vf 0 5 (k:=I0 (k:=Zd (k:=?_))))))))))));refine J0 (k:=J0 (k:=Gi 41 (t:=fun h55=>?_) (f:=fun h55=>?_)))
        ·
         refine I1 (k:=Vf 3 9 (k:=I1 (k:=Zd (k:=J1 (k:=I0 (k:=P1 (k:=P0 (k:=Vv (k:=Gi 47 (t:=fun h61=>?_) (f:=fun h61=>?_))))))))))
         ·
          refine O1 (k:=O1 (k:=O1 (k:=O1 (k:=P1 (k:=Wq (Z1 (k:=Qc (k:=Vv (k:=Wq (Zt (k:=?_)))))))))));refine Vi (Vb (Va (Vi (Vb (Va ?_)))));exact Aap
         ·
          refine I0 (k:=Vf 3 9 (k:=I0 (k:=Zd (k:=J0 (k:=J0 (k:=P0 (k:=Wq (Zi (t:=fun h66=>?_) (f:=fun h66=>?_)))))))))
          ·
           refine Qc (k:=Vv (k:=Wq (Zt (k:=Vi (Vb (Va (Vi (Vb (Va ?_)))))))));exact Aap
          ·
           refine Zk (k:=?_);exact AaP
        ·
         refine O0 (k:=O0 (k:=O0 (k:=I0 (k:=P0 (k:=P0 (k:=Vv (k:=I0 (k:=Vf 3 9 (k:=I0 (k:=Zd (k:=I0 (k:=?_))))))))))));refine Vv (k:=J0 (k:=P0 (k:=Wq (Zi (t:=fun h66=>?_) (f:=fun h66=>?_)))))
         ·
          refine Qc (k:=Vv (k:=Wq (Zt (k:=Vi (Vb (Va (Vi (Vb (Va ?_)))))))));exact Aap
         ·
          refine Zk (k:=?_);exact AaP
     ·
      refine O0 (k:=O0 (k:=O0 (k:=I0 (k:=P0 (k:=P0 (k:=Vv (k:=J0 (k:=J0 (k:=I0 (k:=?_))))))))));refine Vv (k:=Gi 30 (t:=fun h44=>?_) (f:=fun h44=>?_))
      ·
       refine I1 (k:=Vf 2 9 (k:=I1 (k:=Zd (k:=I1 (k:=?_)))));refine Aag (Aci t.target (by omega)) rfl rfl rfl ?_;refine J1 (k:=I0 (k:=P1 (k:=P0 (k:=Vv (k:=Gi 37 (t:=fun h51=>?_) (f:=fun h51=>?_))))))
       ·
        refine O1 (k:=O1 (k:=O1 (k:=O1 (k:=Ou (k:=Ou (k:=Ou (k:=O1 (k:=P1 (k:=Vv (k:=O1 (k:=O1 (k:=?_))))))))))));refine O1 (k:=O1 (k:=P1 (k:=Wq (Z1 (k:=Qc (k:=Vv (k:=Wq (Zt (k:=Vi (Vb ?_))))))))));refine Va (Vi (Vb (Va ?_)));exact Aap
       ·
        refine I0 (k:=Vf 0 5 (k:=I0 (k:=Zd (k:=J0 (k:=J0 (k:=Gi 41 (t:=fun h55=>?_) (f:=fun h55=>?_)))))))
        ·
         refine I1 (k:=Vf 3 9 (k:=I1 (k:=Zd (k:=J1 (k:=I0 (k:=P1 (k:=P0 (k:=Vv (k:=Gi 47 (t:=fun h61=>?_) (f:=fun h61=>?_))))))))))
         ·
          refine O1 (k:=O1 (k:=O1 (k:=O1 (k:=P1 (k:=Wq (Z1 (k:=Qc (k:=Vv (k:=Wq (Zt (k:=?_)))))))))));refine Vi (Vb (Va (Vi (Vb (Va ?_)))));exact Aap
         ·
          refine I0 (k:=Vf 3 9 (k:=I0 (k:=Zd (k:=J0 (k:=J0 (k:=P0 (k:=Wq (Zi (t:=fun h66=>?_) (f:=fun h66=>?_)))))))))
          ·
           refine Qc (k:=Vv (k:=Wq (Zt (k:=Vi (Vb (Va (Vi (Vb (Va ?_)))))))));exact Aap
          ·
           refine Zk (k:=?_);exact AaP
        ·
         refine O0 (k:=O0 (k:=O0 (k:=I0 (k:=P0 (k:=P0 (k:=Vv (k:=I0 (k:=Vf 3 9 (k:=I0 (k:=Zd (k:=I0 (k:=?_))))))))))));refine Vv (k:=J0 (k:=P0 (k:=Wq (Zi (t:=fun h66=>?_) (f:=fun h66=>?_)))))
         ·
          refine Qc (k:=Vv (k:=Wq (Zt (k:=Vi (Vb (Va (Vi (Vb (Va ?_)))))))));exact Aap
         ·
          refine Zk (k:=?_);exact AaP
      ·
       refine O0 (k:=O0 (k:=O0 (k:=O0 (k:=I0 (k:=P0 (k:=P0 (k:=Vv (k:=I0 (k:=Vf 0 5 (k:=I0 (k:=Zd (k:=?_))))))))))));refine J0 (k:=J0 (k:=Gi 41 (t:=fun h55=>?_) (f:=fun h55=>?_)))
       ·
        refine I1 (k:=Vf 3 9 (k:=I1 (k:=Zd (k:=J1 (k:=I0 (k:=P1 (k:=P0 (k:=Vv (k:=Gi 47 (t:=fun h61=>?_) (f:=fun h61=>?_))))))))))
        ·
         refine O1 (k:=O1 (k:=O1 (k:=O1 (k:=P1 (k:=Wq (Z1 (k:=Qc (k:=Vv (k:=Wq (Zt (k:=?_)))))))))));refine Vi (Vb (Va (Vi (Vb (Va ?_)))));exact Aap
        ·
         refine I0 (k:=Vf 3 9 (k:=I0 (k:=Zd (k:=J0 (k:=J0 (k:=P0 (k:=Wq (Zi (t:=fun h66=>?_) (f:=fun h66=>?_)))))))))
         ·
          refine Qc (k:=Vv (k:=Wq (Zt (k:=Vi (Vb (Va (Vi (Vb (Va ?_)))))))));exact Aap
         ·
          refine Zk (k:=?_);exact AaP
       ·
        refine O0 (k:=O0 (k:=O0 (k:=I0 (k:=P0 (k:=P0 (k:=Vv (k:=I0 (k:=Vf 3 9 (k:=I0 (k:=Zd (k:=I0 (k:=?_))))))))))));refine Vv (k:=J0 (k:=P0 (k:=Wq (Zi (t:=fun h66=>?_) (f:=fun h66=>?_)))))
        ·
         refine Qc (k:=Vv (k:=Wq (Zt (k:=Vi (Vb (Va (Vi (Vb (Va ?_)))))))));exact Aap
        ·
         refine Zk (k:=?_);exact AaP
 ·
  refine Ze (k:=Xa (Xi (Xb (Ya (Qc (k:=Qv (k:=Qv (k:=Wq ?_))))))));refine Zt (k:=?_);refine Aa2 () (vs:=[_]) (Cs:=[]) rfl (.tmp rfl .nil) ?_ trivial Aa0;show vB _=vB _;congr 1;refine decide_eq_decide.2 ⟨fun h=>⟨fun i hi=>hok i (by omega),by omega⟩,fun h=>?_⟩;have:=h.len;omega
end
end Go.Proofs.YtdnoacgopfcpbaaGreat
