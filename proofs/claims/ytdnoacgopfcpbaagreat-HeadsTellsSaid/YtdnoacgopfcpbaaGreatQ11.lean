/- Texts of this proof, put together: SCard3, SRead, PCk, PCk2. -/
import Derived.Test.YtdnoacgopfcpbaaGreatQ10
set_option linter.unusedVariables false
set_option linter.unusedSimpArgs false
namespace Go.Proofs.YtdnoacgopfcpbaaGreat
section
set_option maxRecDepth 100000
theorem AjV {s:Bs} {l:List Cd} (h:ReadsC s l):43≤s.length∧s.take (s.length-43)=Aav l∧Afw (s.take (s.length-43))=s:=by
 have e:s=Afw (Aav l):=h.2.symm;subst e;rw[Ac1];have ht:(Afw (Aav l)).take (Aav l).length=Aav l:=by
  rw[Afw,List.append_assoc,List.append_assoc];exact List.take_left
 rw[Nat.add_sub_cancel,ht];exact⟨by omega,rfl,rfl⟩
def Amt (s:Bs) (m:List Cd) (rest:Bs):Prop:=∀l,ReadsC s l→∃l2,l=m++l2∧Aav l2=rest
theorem Atj {s:Bs} {m:List Cd} (h:Amt s m []) {l:List Cd} (k:ReadsC s l):l=m:=by
 obtain⟨l2,e,e2⟩:=h l k
 cases l2 with
 | nil=>rw[e,List.append_nil]
 | cons c l2=>rw[Ac8] at e2;simp at e2
theorem AjO {s:Bs} {m:List Cd} {rest:Bs} (h:Amt s m rest) (hr:rest≠[]) {l:List Cd} (k:ReadsC s l):∃c l3,l=(m++[c])++l3∧rest=AbN c++10::Aav l3∧10∉AbN c∧Aet (Aaw 32 (AbN c))=some (c.l,c.args):=by
 obtain⟨l2,e,e2⟩:=h l k
 cases l2 with
 | nil=>exact absurd e2.symm hr
 | cons c l2 =>
   have hb:=k.1.both c (by rw[e];simp);exact⟨c,l2,by rw[e];simp,by rw[←e2,Ac8],AgD hb.1 hb.2,Arg hb.1 hb.2⟩
theorem AqE {s:Bs} {m:List Cd} {rest:Bs} (h:Amt s m rest) (hr:rest≠[]) (hn:(10:UInt8)∉rest):∀l,¬ReadsC s l:=fun l k=>by
 obtain⟨c,l3,_,e,_,_⟩:=AjO h hr k;exact hn (by rw[e];simp)
theorem Asj {s:Bs} {m:List Cd} {line rest:Bs} (h:Amt s m (line++10::rest)) (hn:(10:UInt8)∉line) {c:UInt8} {xs:List Bs} (hf:Aet (Aaw 32 line)=some (c,xs)):Amt s (m++[⟨c,xs⟩]) rest:=fun l k=>by
 obtain⟨d,l3,e1,e2,e3,e4⟩:=AjO h (by simp) k;obtain⟨q1,q2⟩:=Ahw hn e3 e2;rw[q1,e4] at hf
 cases hf;exact⟨l3,by rw[e1],q2.symm⟩
theorem Atk {s:Bs} {m:List Cd} {line rest:Bs} (h:Amt s m (line++10::rest)) (hn:(10:UInt8)∉line) (hf:Aet (Aaw 32 line)=none):∀l,¬ReadsC s l:=fun l k=>by
 obtain⟨d,l3,e1,e2,e3,e4⟩:=AjO h (by simp) k;obtain⟨q1,q2⟩:=Ahw hn e3 e2;rw[q1,e4] at hf
 cases hf
theorem Arf {pre r:List Bs} {w:Bs} {st:UInt8×List Bs} (h:Aet pre=some st) (hw:AdE st w=none):Aet (pre++w::r)=none:=by
 have e:pre++w::r=(pre++[w])++r:=by simp
 have h1:Aet (pre++[w])=none:=by rw[AiO,h];exact hw
 rw[e,Aet,List.foldlM_append];rw[Aet] at h1;rw[h1];rfl
def CdB (b:Nat) (pre:List Bs):HP:=Ex fun z:UInt8×List Bs×Option Addr×Nat=>Al [Pu (Aet pre=some (z.1,z.2.1)),Ce b 220 [vU z.1.toNat,.slice z.2.2.1 z.2.1.length z.2.2.2],Row 9 1 (.slice z.2.2.1 z.2.1.length z.2.2.2) z.2.1.length (z.2.1.map vS)]
theorem Ahp {b T:Nat} {pre:List Bs} {v0 v1:Value} {Hs R1 Rs:List HP} (c:UInt8) (xs:List Bs) (a:Option Addr) (k m:Nat) (hf:Aet pre=some (c,xs)) (hm:m=xs.length) [q:AhJ b T [v0,v1] Hs R1] (hT:T=220) (h0:v0=vU c.toNat) (h1:v1=.slice a m k) {n:Nat} {ys:List Value} {e sz:Nat} [q2:Aia (.slice a m k) e sz n ys R1 Rs] (he:e=9) (hsz:sz=1) (hn:n=m) (hy:ys=xs.map vS):Ent Hs (CdB b pre::Rs):=by
 subst hT;subst h0;subst h1;subst he;subst hsz;subst hn;subst hy;subst hm;refine AbV (c,xs,a,k) ?_;refine Acl (Adl hf ?_);exact Picks.ent (.cons q.get (.cons q2.get .nil))
theorem Ad3 (qs:List CdV) (q:CdV):Aa3 (qs++[q])=Aa3 qs++[q.cd]:=by simp[Aa3]
abbrev Ae0 (x:(Option Addr×Nat)×List CdV):Value:=.slice x.1.1 x.2.length x.1.2
abbrev AgU (x:(Option Addr×Nat)×List CdV):List HP:=[Row 220 2 (.slice x.1.1 x.2.length x.1.2) x.2.length (x.2.flatMap CdV.cells),CdM x.2]
theorem Ahs {Hs:List HP}:Ent Hs (AgU ((none,0),[])):=(AaS (e:=220) (sz:=2)).trans (ent_cdm_nil.trans (show Ent _ [Row 220 2 (.slice none 0 0) 0 [],CdM []] from Aa0))
theorem Anv {G:Prop} (h:G:=by
    have hn:Abv s=none:=readC_none.2 fun l h=>by
     have:=hrl l h
     first
     | omega
     | (exact absurd this.2.2 (by simpa using h23))
    refine Aa2 ((none,0),[]) (vs:=[_,_]) (Cs:=[]) rfl (.tmp rfl (.tmp rfl .nil)) ?_ (by rw[hn];rfl) Ahs;rw[hn];rfl):G:=h
theorem AlA {G:Prop} (h:G:=by
    have hn:Abv s=none:=readC_none.2 fun l h=>by
     first
     | exact hnr (by simpa using h66) l h
     | (have he:rest=[]:=by simpa using h66
        have e:=Atj (hu he) h;rw[←e] at h71;have e2:prB l=s:=by rw[prB,if_pos h.1];exact h.2
        exact absurd e2 (by simpa using h71))
    refine Aa2 ((none,0),[]) (vs:=[_,_]) (Cs:=[]) rfl (.tmp rfl (.tmp rfl .nil)) ?_ (by rw[hn];rfl) Ahs;rw[hn];rfl):G:=h
theorem Ah0 {G:Prop} (h:G:=by
    first
    | (have he:rest=[]:=by simpa using h30
       subst he;exact Aa5 ⟨((a,ac),qs,[]),by dsimp only;omega,fun _=>hu,fun h=>absurd rfl h⟩ trivial ⟨rfl,rfl,rfl,trivial⟩ Aa0)
    | (have hm:more=false:=by simpa using h38
       exact Aa5 ⟨((a,ac),qs,rest),by dsimp only;omega,fun h=>absurd h hne,fun _=>AqE hu hne (hcc.1 hm)⟩ trivial ⟨rfl,rfl,rfl,trivial⟩ Aa0)
    | exact Aa5 ⟨((a,ac),qs,rest),by dsimp only;omega,fun h=>absurd h hne,fun _=>hbad⟩ trivial ⟨rfl,rfl,rfl,trivial⟩ Aa0):G:=h
set_option maxHeartbeats 2000000 in
theorem AjA (s:Bs) (hs:s.length≤1073741824):Sp Tryz.prog 105 [vS s] [] (X:=(Option Addr×Nat)×List CdV) (fun x=>.tuple #[Ae0 x,vB (Abv s).isSome]) (fun x=>Aa3 x.2=(Abv s).getD []) AgU:=by
 have hrl:=fun l (h:ReadsC s l)=>AjV h;refine Sp.body (n:=73) Tryz.call105 Tryz.func105 rfl rfl rfl ?_;refine Qc (k:=Qv (k:=Wq (Zs (k:=Za (k:=Qc (k:=Qv (k:=Vv (k:=?_))))))));refine Vv (k:=Gi 3 (t:=fun h14=>?_) (f:=fun h14=>?_))
 ·
  refine O1 (k:=O1 (k:=O1 (k:=O1 (k:=O1 (k:=O1 (k:=O1 (k:=O1 (k:=P1 (k:=Wq (Z1 (k:=Za (k:=?_))))))))))));refine Zr (k:=Qv (k:=Wq (Zt (k:=Va (Vs ?_)))));exact Anv
 ·
  refine J0 (k:=J0 (k:=J0 (k:=J0 (k:=I0 (k:=?_)))));refine Aa6 (Acd (m:=s.length-43) Tryz.underlying9 rfl rfl (by omega) (by omega)) rfl ?_;refine I0 (k:=?_);refine Aag (AhA (s.take (s.length-43)) (by rw[List.length_take];omega)) rfl rfl rfl ?_;refine J0 (k:=J0 (k:=P0 (k:=Wq (Zi (t:=fun h23=>?_) (f:=fun h23=>?_)))))
  ·
   refine Qc (k:=Qv (k:=Wq (Zt (k:=Va (Vs ?_)))));exact Anv
  ·
   refine Zk (k:=Ya (Za (k:=?_)));have h43:43≤s.length:=by omega
   refine Zr (k:=Vv (k:=Wq (Qc (k:=Qv (k:=Qv (k:=?_))))));refine Aa6 (Acd (m:=s.length-43) Tryz.underlying9 rfl rfl (by omega) (by omega)) rfl ?_;refine Vv (k:=Wq (Za (k:=Zl (k:=Ya ?_))));refine Abg (fun (i:{ x:(Option Addr×Nat)×List CdV×Bs // (Aav (Aa3 x.2.1)).length≤s.length∧(x.2.2=[]→Amt s (Aa3 x.2.1) [])∧(x.2.2≠[]→∀l,¬ReadsC s l) })=>[(0,vS s),(4,.slice i.1.1.1 i.1.2.1.length i.1.1.2),(5,vS i.1.2.2)]) (fun (i:{ x:(Option Addr×Nat)×List CdV×Bs // (Aav (Aa3 x.2.1)).length≤s.length∧(x.2.2=[]→Amt s (Aa3 x.2.1) [])∧(x.2.2≠[]→∀l,¬ReadsC s l) })=>[Row 220 2 (.slice i.1.1.1 i.1.2.1.length i.1.1.2) i.1.2.1.length (i.1.2.1.flatMap CdV.cells),CdM i.1.2.1]) rfl (fun i=>?_) ?_
   ·
    obtain⟨⟨⟨a,ac⟩,qs,rest⟩,hz,hu,hnr⟩:=i;dsimp only at hz hu hnr;have hP:=Adr (B:=Row 220 2 (.slice a qs.length ac) qs.length (qs.flatMap CdV.cells)) qs.length ac qs AaC rfl (by omega);try dsimp only
    refine Za (k:=Qc (k:=Qv (k:=Vv (k:=Gi 2 (t:=fun h66=>?_) (f:=fun h66=>?_)))))
    ·
     refine O1 (k:=O1 (k:=O1 (k:=O1 (k:=P1 (k:=Wq (Z1 (k:=Qc (k:=Qv (k:=Wq ?_)))))))));refine Zt (k:=Va (Vs ?_));exact AlA
    ·
     refine J0 (k:=I0 (k:=?_));refine Aaa hP rfl rfl rfl ?_;refine J0 (k:=J0 (k:=P0 (k:=Wq (Zi (t:=fun h71=>?_) (f:=fun h71=>?_)))))
     ·
      refine Qc (k:=Qv (k:=Wq (Zt (k:=Va (Vs ?_)))));exact AlA
     ·
      refine Zk (k:=Ya (Qc (k:=Qv (k:=Vv (k:=Wq (Zt (k:=Vs ?_)))))));have he:prB (Aa3 qs)=s:=by simpa using h71
      have hr:Abv s=some (Aa3 qs):=readC_iff.2 (by
       rw[prB] at he;split at he
       · rename_i hR;exact⟨hR,he⟩
       · rw[←he] at h43;simp at h43)
      refine Aa2 ((a,ac),qs) (vs:=[_,_]) (Cs:=[]) rfl (.tmp rfl (.tmp rfl .nil)) ?_ (by rw[hr];rfl) Aa0;rw[hr];rfl
   ·
    refine Zb (k:=?_);refine Aak (fun (i:{ x:(Option Addr×Nat)×List CdV×Bs // Amt s (Aa3 x.2.1) x.2.2∧(Aav (Aa3 x.2.1)).length+x.2.2.length≤s.length })=>[(0,vS s),(4,.slice i.1.1.1 i.1.2.1.length i.1.1.2),(5,vS i.1.2.2)]) (fun (i:{ x:(Option Addr×Nat)×List CdV×Bs // Amt s (Aa3 x.2.1) x.2.2∧(Aav (Aa3 x.2.1)).length+x.2.2.length≤s.length })=>[Row 220 2 (.slice i.1.1.1 i.1.2.1.length i.1.1.2) i.1.2.1.length (i.1.2.1.flatMap CdV.cells),CdM i.1.2.1]) (fun (i:{ x:(Option Addr×Nat)×List CdV×Bs // Amt s (Aa3 x.2.1) x.2.2∧(Aav (Aa3 x.2.1)).length+x.2.2.length≤s.length })=>i.1.2.2.length) rfl (⟨((none,0),[],s.take (s.length-43)),fun l h=>⟨l,rfl,(hrl l h).2.1.symm⟩,by show 0+(s.take _).length≤_;rw[List.length_take];omega⟩) ?_ ?_ (fun i=>?_)
    · exact⟨rfl,rfl,rfl,trivial⟩
    ·
     exact Ahs
    obtain⟨⟨⟨a,ac⟩,qs,rest⟩,hu,hz⟩:=i;dsimp only at hu hz ⊢;try dsimp only
    refine Za (k:=Qc (k:=Qv (k:=Wq (Zi (t:=fun h30=>?_) (f:=fun h30=>?_)))))
    ·
     refine Zk (k:=Ya (Zb (k:=Za (k:=?_))));have hne:rest≠[]:=by simpa using h30
     have hqn:qs.length≤1073741824:=(AcO (N:=1073741824) (by omega)).1;obtain⟨line,hln⟩:∃w,(Afk 10 rest).1=w:=⟨_,rfl⟩
     obtain⟨behind,hbh⟩:∃w,(Afk 10 rest).2.1=w:=⟨_,rfl⟩
     obtain⟨more,hmo⟩:∃w,(Afk 10 rest).2.2=w:=⟨_,rfl⟩
     have hcc:(more=false→(10:UInt8)∉rest)∧(more=true→rest=line++10::behind∧(10:UInt8)∉line):=by
      rcases Ami 10 rest with ⟨hn,hc⟩ | ⟨x,r,he,hn,hc⟩
      · rw[hc] at hmo hln hbh
        subst hmo;exact⟨fun _=>hn,fun h=>(by cases h)⟩
      · rw[hc] at hmo hln hbh
        subst hmo;subst hln;subst hbh;exact⟨fun h=>(by cases h),fun _=>⟨he,hn⟩⟩
     refine Zr (k:=Vv (k:=?_));refine Aag (AuN rest 10 (by omega)) rfl rfl rfl ?_;rw[AsT,hln,hbh,hmo];refine Vv (k:=?_);refine Aa6 (Aa7 (v:=vS line) rfl rfl) rfl ?_;refine Aa6 (Aa7 (v:=vS behind) rfl rfl) rfl ?_;refine Aa6 (Aa7 (v:=vB more) rfl rfl) rfl ?_;refine Qv (k:=Vv (k:=Wq (Za (k:=Qc (k:=Qv (k:=Wq (Zi (t:=fun h38=>?_) (f:=fun h38=>?_))))))))
     ·
      refine Ze (k:=Xa (Xo (k:=Xi (Xb ?_))));exact Ah0
     ·
      refine Zk (k:=Ya (Za (k:=?_)));have hm:more=true:=by simpa using h38
      obtain⟨hrest,hn10⟩:=hcc.2 hm;have hrl2:=congrArg List.length hrest;rw[List.length_append,List.length_cons] at hrl2;rw[hrest] at hu;refine Zr (k:=Zc [.int .u8 0,.slice none 0 0] (k:=fun b9=>Wq (Za (k:=Qc (k:=Vv (k:=?_))))));refine Aaq (AkZ line) rfl rfl rfl (fun x40 _=>?_);refine Wq (Zb (k:=?_));refine AfC (fun pre=>[CdB b9 pre,Row 220 2 (.slice a qs.length ac) qs.length (qs.flatMap CdV.cells),CdM qs]) (fun j pre=>match j with | some 0=>[Pu (∀l,¬ReadsC s l),Row 220 2 (.slice a qs.length ac) qs.length (qs.flatMap CdV.cells),CdM qs] | _=>[Pu False]) rfl (Al0 line (by omega) x40) rfl (fun _=>by rfl) rfl ?_ (fun l pre w hok=>?_) ?_ (fun j pre hs=>?_)
      · (refine AdR ?_;refine Ent.trans (AaS (e:=9) (sz:=1)) ?_;exact Aac (Ahp 0 [] none 0 0 (by rfl) (by rfl) (by rfl) (by rfl) (by rfl) (by rfl) (by rfl) (by rfl) (by rfl)) Aa0)
      ·
       obtain⟨rr,hrr⟩:=hok;refine AdM (CdB b9 pre) (AcE fun z=>AdW (AfR fun hq=>?_));obtain⟨c,xs,za,zc⟩:=z;dsimp only at hq;dsimp only;have hxl:xs.length≤line.length+1:=by
        have h1:=(AnX pre (0,[]) (c,xs) hq).1;have h2:=congrArg (fun l=>(AaM l).length) hrr;have h3:=congrArg List.length (Ah6 line);have h4:=Aqs xs;dsimp only at h1 h2;rw[Agf,List.length_append] at h2;rw[List.length_cons] at h3;rw[Aef,List.length_nil] at h1;omega
       have hsn:Aet (pre++[w])=AdE (c,xs) w:=by rw[AiO,hq];rfl
       refine Zr (k:=Vv (k:=Wg (Zb (k:=Zb (k:=Qc (k:=Qx 0 5 (k:=Qv (k:=Wq ?_))))))));refine Zi (t:=fun h42=>?_) (f:=fun h42=>?_)
       ·
        refine Zr (k:=Qx 1 27 (k:=Vv (k:=Zv [_] (cs:=[_]) (k:=fun b49=>?_))));refine Aao (sz:=1) (bytes:=16) Tryz.underlying27 ti9 rfl rfl rfl rfl rfl rfl rfl (by rfl) (by rfl) (by omega) (by simp only[maxLen];omega) rfl (fun a50 c50=>?_);refine Vf 1 27 (k:=Zo (k:=Wn (Yb (Yb ?_))));refine AaV ?_
        first
        | (rw[AdE,if_pos (show 0<c.toNat by omega)] at hsn
           exact Aac (Ahp c (xs++[w]) a50 c50 (xs.length+1) hsn (by simp) (by rfl) (by rfl) (by rfl) (by rfl) (by rfl) (by rfl) (by simp)) Aa0)
        | (rw[AdE,if_neg (show ¬0<c.toNat by omega),if_pos (show w.length=1 by omega)] at hsn
           exact Aac (Ahp (w.getD 0 0) xs za zc xs.length hsn (by rfl) (by rfl) (by rfl) (by rfl) (by rfl) (by rfl) (by rfl) (by rfl)) Aa0)
       ·
        refine Qc (k:=Qv (k:=Qv (k:=Wq (Zi (t:=fun h52=>?_) (f:=fun h52=>?_)))))
        ·
         refine Zr (k:=Vv (k:=?_));refine Aa6 (Abt (m:=0) Tryz.underlying9 rfl rfl rfl (by omega)) rfl ?_;refine Vf 0 5 (k:=Zo (k:=Wn (Yb (Yb ?_))));refine AaV ?_
         first
         | (rw[AdE,if_pos (show 0<c.toNat by omega)] at hsn
            exact Aac (Ahp c (xs++[w]) a50 c50 (xs.length+1) hsn (by simp) (by rfl) (by rfl) (by rfl) (by rfl) (by rfl) (by rfl) (by simp)) Aa0)
         | (rw[AdE,if_neg (show ¬0<c.toNat by omega),if_pos (show w.length=1 by omega)] at hsn
            exact Aac (Ahp (w.getD 0 0) xs za zc xs.length hsn (by rfl) (by rfl) (by rfl) (by rfl) (by rfl) (by rfl) (by rfl) (by rfl)) Aa0)
        ·
         refine Ze (k:=Xo (k:=Xo (k:=?_)));refine Aif 0 ?_;rw[AdE,if_neg (show ¬0<c.toNat by omega),if_neg (show ¬w.length=1 by omega)] at hsn;have hbad:∀l,¬ReadsC s l:=Atk hu hn10 (by rw[hrr];exact Arf hq (by rw[←hsn,AiO,hq];rfl));exact Adl hbad Aa0
      ·
       skip
       refine Yb (Ya ?_);refine AdM (CdB b9 (Aaw 32 line)) (AcE fun z=>AdW (AfR fun hq=>?_));obtain⟨c,xs,za,zc⟩:=z;dsimp only at hq;dsimp only;have hst:=Asj hu hn10 hq;have hcl:=Arh hq;refine Aca (A:=Row 9 1 (.slice za xs.length zc) xs.length (xs.map vS)) HasC.get AbH (fun hk=>?_);refine Zr (k:=?_);refine Aw8 za ?_;refine Vv (k:=Zm [_,_] (k:=Zv [_] (cs:=[_,_]) (k:=fun b61=>?_)));refine Aao (sz:=2) (bytes:=32) Tryz.underlying170 Adi rfl rfl rfl rfl rfl rfl rfl (by rfl) (by rfl) (by omega) (by simp only[maxLen];omega) rfl (fun a62 c62=>?_);refine Qv (k:=Vv (k:=Wn (Yb ?_)));obtain⟨q,hqq⟩:∃q:CdV,q=⟨c,za,zc,xs⟩:=⟨_,rfl⟩
       have hqc:q.cd=⟨c,xs⟩:=by rw[hqq];rfl
       refine Aa5 ⟨((a62,c62),qs++[q],behind),?_,?_⟩ ?_ ⟨rfl,Adk (by simp),rfl,trivial⟩ ?_
       · dsimp only;rw[Ad3,hqc];exact hst
       · dsimp only
         rw[Ad3,hqc,Af4,List.length_append];have:(Aav [⟨c,xs⟩]:Bs).length=(Aco ⟨c,xs⟩).length:=by simp[Aav]
         omega
       · dsimp only;omega
       · dsimp only
         rw[show (qs++[q]).length=qs.length+1 from by simp];refine(AbG (qs:=qs) (q:=q) HasC.get (by rw[hqq];exact HasC.get) (by rw[hqq];exact hk.1)).trans ?_;exact Aac (AaW (by rfl) (by rw[hqq];simp[CdV.cells])) Aa0
      ·
       rcases j with _ | _ | j
       · exact AfS (fun s=>by obtain⟨_,_,_,_,a,_⟩:=s;exact a)
       · refine ArG (Gs:=[Pu (∀l,¬ReadsC s l),Row 220 2 (.slice a qs.length ac) qs.length (qs.flatMap CdV.cells),CdM qs]) (show Ent ([Pu (∀l,¬ReadsC s l),Row 220 2 (.slice a qs.length ac) qs.length (qs.flatMap CdV.cells),CdM qs]++_) _ from Aa0) (AfR fun hbad=>?_)
         refine Ze (k:=Xo (k:=Xa (Xo (k:=Xi (Xb ?_)))));exact Ah0
       · exact AfS (fun s=>by obtain⟨_,_,_,_,a,_⟩:=s;exact a)
    ·
     refine Ze (k:=Xa (Xi (Xb ?_)));exact Ah0
end
section
set_option maxRecDepth 100000
def rdI (s:Bs):Int:=match AbM s with | some n=>(n:Int) | none=>-1
theorem Ap4 {G:Prop} (h:G:=by
    rw[hi,if_pos (by omega)] at hd;refine Aa2 () (vs:=[_]) rfl (.tmp rfl .nil) ?_ trivial Aad;simp[Af9,hd,Ajj]):G:=h
theorem Ana {G:Prop} (h:G:=by
    have hjs:j=s.length:=by omega
    subst hjs;rw[List.drop_length,dn2] at hi;have hc:s.length=0∨(1<s.length∧s.getD 0 0=48):=by
     first
     | exact .inl (by omega)
     | exact .inr ⟨by omega,UInt8.toNat_inj.1 (by simp only[UInt8.reduceToNat];omega)⟩
    refine Aa2 () (vs:=[_]) rfl (.tmp rfl .nil) ?_ trivial Aad;simp only[Af9,←hi,if_pos hc];rfl):G:=h
theorem An9 {G:Prop} (h:G:=by
    have hjs:j=s.length:=by omega
    subst hjs;rw[List.drop_length,dn2] at hi;have hc:¬(s.length=0∨(1<s.length∧s.getD 0 0=48)):=by
     rintro(e | ⟨e1,e2⟩)
     · omega
     · have:=congrArg UInt8.toNat e2
       simp only[UInt8.reduceToNat] at this
       first | omega | (simp_all;done)
    refine Aa2 () (vs:=[_]) rfl (.tmp rfl .nil) ?_ trivial Aad;simp only[Af9,←hi,if_neg hc];rfl):G:=h
theorem Aex (s:List UInt8) (hs:s.length≤140737488355328):SpF Tryz.prog 70 [vS s] (vI (rdI s)):=by
 have hq:rdI s=(match Af9 s with | some n=>(n:Int) | none=>-1):=by rw[rdI,ApD]
 rw[hq];refine Sp.body (n:=45) Tryz.call70 Tryz.func70 rfl rfl rfl ?_;refine Qc (k:=Vv (k:=Wq (Qc (k:=Vv (k:=Wq (Za (k:=Qc (k:=Vv (k:=?_)))))))));refine Wq (Zb (k:=?_));refine Aak (fun (i:{ p:Nat×Nat // dn2 (s.drop p.1) p.2=dn2 s 0∧p.1≤s.length∧p.2≤1073741824 })=>[(0,vS s),(4,vI i.1.1),(3,vI i.1.2)]) (fun (i:{ p:Nat×Nat // dn2 (s.drop p.1) p.2=dn2 s 0∧p.1≤s.length∧p.2≤1073741824 })=>[]) (fun (i:{ p:Nat×Nat // dn2 (s.drop p.1) p.2=dn2 s 0∧p.1≤s.length∧p.2≤1073741824 })=>s.length-i.1.1) rfl (⟨(0,0),rfl,Nat.zero_le _,by omega⟩) ?_ ?_ (fun i=>?_)
 · exact⟨rfl,rfl,rfl,trivial⟩
 ·
  exact Aa0
 obtain⟨⟨j,n⟩,hi,hj,hn⟩:=i;dsimp only at hi hj hn;try dsimp only
 refine Za (k:=Qc (k:=Qv (k:=Qv (k:=Wq (Zi (t:=fun h8=>?_) (f:=fun h8=>?_))))))
 ·
  refine Zk (k:=Ya (Za (k:=Zb (k:=Za (k:=Za (k:=?_))))));have hd:=Aut (s:=s) (i:=j) (by omega) n;refine Zr (k:=Qv (k:=Qv (k:=Vv (k:=Gi 4 (t:=fun h15=>?_) (f:=fun h15=>?_)))))
  ·
   refine O1 (k:=O1 (k:=O1 (k:=O1 (k:=P1 (k:=Wq (Z1 (k:=Qc (k:=Vv (k:=Wq (Zt (k:=?_)))))))))));refine Va (Vb (Va (Vi (Vb (Va ?_)))));exact Ap4
  ·
   refine J0 (k:=J0 (k:=J0 (k:=J0 (k:=P0 (k:=Wq (Zi (t:=fun h20=>?_) (f:=fun h20=>?_)))))))
   ·
    refine Qc (k:=Vv (k:=Wq (Zt (k:=Va (Vb (Va (Vi (Vb (Va ?_)))))))));exact Ap4
   ·
    refine Zk (k:=Ya (Qc (k:=Qv (k:=Qv (k:=Vv (k:=?_))))));refine Aa6 (by first | exact ArO rfl rfl (by omega) | exact AeN rfl rfl) rfl ?_;refine Aa6 (Agx rfl Tryz.underlying5 Tryz.underlying3 (by first | exact Anw _ | exact wrap_u8 _ | exact i64_in' (by omega))) rfl ?_;refine Qv (k:=Wq (Qc (k:=Qv (k:=Wq (Zi (t:=fun h30=>?_) (f:=fun h30=>?_))))))
    ·
     refine Qc (k:=Vv (k:=Wq (Zt (k:=Vb (Va (Vi (Vb (Va ?_))))))));rw[hi,if_neg (by omega),if_pos (by omega)] at hd;refine Aa2 () (vs:=[_]) rfl (.tmp rfl .nil) ?_ trivial Aad;simp[Af9,hd,Ajj]
    ·
     refine Zk (k:=Yb (Ya (Zr (k:=Qv (k:=Vv (k:=Wn ?_))))));rw[hi,if_neg (by omega),if_neg (by omega)] at hd;refine Aa5 ⟨(j+1,10 * n+((s.getD j 0).toNat-48)),hd.symm,?_,?_⟩ ?_ ⟨rfl,rfl,?_,trivial⟩ Aad
     · dsimp only;omega
     · dsimp only;omega
     · dsimp only;omega
     · exact AeF (by dsimp only;omega)
 ·
  refine Ze (k:=Xa (Xi (Xb (Ya (Za (k:=Qc (k:=Qv (k:=Qv (k:=?_)))))))));refine Gi 3 (t:=fun h34=>?_) (f:=fun h34=>?_)
  ·
   refine O1 (k:=O1 (k:=O1 (k:=O1 (k:=Ou (k:=Ou (k:=Ou (k:=O1 (k:=P1 (k:=Wq (Z1 (k:=Za (k:=?_))))))))))));refine Zr (k:=Vv (k:=Wq (Zt (k:=Va ?_))));exact Ana
  ·
   refine J0 (k:=J0 (k:=J0 (k:=J0 (k:=Gi 7 (t:=fun h38=>?_) (f:=fun h38=>?_)))))
   ·
    refine J1 (k:=I1 (k:=?_));refine Aa6 (Abt (m:=0) Tryz.underlying9 rfl rfl rfl (by omega)) rfl ?_;refine J1 (k:=I0 (k:=P1 (k:=P0 (k:=Wq (Zi (t:=fun h43=>?_) (f:=fun h43=>?_))))))
    ·
     refine Qc (k:=Vv (k:=Wq (Zt (k:=Va ?_))));exact Ana
    ·
     refine Zk (k:=Ya (Qc (k:=Qv (k:=Wq (Zt (k:=?_))))));exact An9
   ·
    refine O0 (k:=O0 (k:=O0 (k:=I0 (k:=P0 (k:=P0 (k:=Wq (Z0 (k:=Zk (k:=Ya (Qc (k:=?_)))))))))));refine Qv (k:=Wq (Zt (k:=?_)));exact An9
end
structure Tg where
 kind:UInt8
 name:Bs
 target:Bs
 value:Bs
 deriving DecidableEq,Repr
def tg0:Tg:=⟨0,[],[],[]⟩
structure Ck where
 base:Bs
 comment:Bs
 date:Int
 files:List (Bs×Bs)
 parents:List Bs
 tags:List Tg
 user:Bs
 deriving DecidableEq,Repr
def ck0:Ck:=⟨[],[],0,[],[],[],[]⟩
structure OkT (own:Bool) (l:List Tg) (i:Nat):Prop where
 kind:(l.getD i tg0).kind.toNat=43∨(l.getD i tg0).kind.toNat=42∨((l.getD i tg0).kind.toNat=45∧(l.getD i tg0).value=[])
 name:Acm (l.getD i tg0).name
 val:(l.getD i tg0).value.length≤12
 tgt:(own=true→(l.getD i tg0).target=[42])∧(own=false→isN (l.getD i tg0).target=true)
 rise:0<i→(blt (l.getD (i-1) tg0).name (l.getD i tg0).name=true∨(l.getD (i-1) tg0).name=(l.getD i tg0).name)∧((l.getD (i-1) tg0).name=(l.getD i tg0).name→blt (l.getD (i-1) tg0).target (l.getD i tg0).target=true)
structure RightT (own:Bool) (l:List Tg):Prop where
 ok:∀i,i<l.length→OkT own l i
 len:l.length≤12
structure OkF (whole:Bool) (l:List (Bs×Bs)) (i:Nat):Prop where
 name:Acm (l.getD i ([],[])).1
 rise:0<i→blt (l.getD (i-1) ([],[])).1 (l.getD i ([],[])).1=true
 hash:isN (l.getD i ([],[])).2=true∨(whole=false∧(l.getD i ([],[])).2=[])
structure AiV (whole:Bool) (l:List (Bs×Bs)):Prop where
 ok:∀i,i<l.length→OkF whole l i
 len:l.length≤12
structure Akk (l:List Bs) (most:Int):Prop where
 ok:∀i,i<l.length→isN (l.getD i [])=true∧l.getD i []∉l.take i
 len:(l.length:Int)≤most
instance (own:Bool) (l:List Tg) (i:Nat):Decidable (OkT own l i):=decidable_of_iff (((l.getD i tg0).kind.toNat=43∨(l.getD i tg0).kind.toNat=42∨((l.getD i tg0).kind.toNat=45∧(l.getD i tg0).value=[]))∧Acm (l.getD i tg0).name∧(l.getD i tg0).value.length≤12∧((own=true→(l.getD i tg0).target=[42])∧(own=false→isN (l.getD i tg0).target=true))∧(0<i→(blt (l.getD (i-1) tg0).name (l.getD i tg0).name=true∨(l.getD (i-1) tg0).name=(l.getD i tg0).name)∧((l.getD (i-1) tg0).name=(l.getD i tg0).name→blt (l.getD (i-1) tg0).target (l.getD i tg0).target=true))) ⟨fun ⟨a,b,c,d,e⟩=>⟨a,b,c,d,e⟩,fun ⟨a,b,c,d,e⟩=>⟨a,b,c,d,e⟩⟩
instance (own:Bool) (l:List Tg):Decidable (RightT own l):=decidable_of_iff ((∀i,i<l.length→OkT own l i)∧l.length≤12) ⟨fun ⟨a,b⟩=>⟨a,b⟩,fun ⟨a,b⟩=>⟨a,b⟩⟩
instance (w:Bool) (l:List (Bs×Bs)) (i:Nat):Decidable (OkF w l i):=decidable_of_iff (Acm (l.getD i ([],[])).1∧(0<i→blt (l.getD (i-1) ([],[])).1 (l.getD i ([],[])).1=true)∧(isN (l.getD i ([],[])).2=true∨(w=false∧(l.getD i ([],[])).2=[]))) ⟨fun ⟨a,b,c⟩=>⟨a,b,c⟩,fun ⟨a,b,c⟩=>⟨a,b,c⟩⟩
instance (w:Bool) (l:List (Bs×Bs)):Decidable (AiV w l):=decidable_of_iff ((∀i,i<l.length→OkF w l i)∧l.length≤12) ⟨fun ⟨a,b⟩=>⟨a,b⟩,fun ⟨a,b⟩=>⟨a,b⟩⟩
instance (l:List Bs) (m:Int):Decidable (Akk l m):=decidable_of_iff ((∀i,i<l.length→isN (l.getD i [])=true∧l.getD i []∉l.take i)∧(l.length:Int)≤m) ⟨fun ⟨a,b⟩=>⟨a,b⟩,fun ⟨a,b⟩=>⟨a,b⟩⟩
structure AbD (c:Ck):Prop where
 base:c.base=[]∨isN c.base=true
 comment:c.comment.length≤40
 date:0≤c.date∧c.date≤1073741824
 files:AiV (decide (c.base=[])) c.files
 parents:Akk c.parents 3
 tags:RightT true c.tags
 user:Acm c.user
instance (c:Ck):Decidable (AbD c):=decidable_of_iff ((c.base=[]∨isN c.base=true)∧c.comment.length≤40∧(0≤c.date∧c.date≤1073741824)∧AiV (decide (c.base=[])) c.files∧Akk c.parents 3∧RightT true c.tags∧Acm c.user) ⟨fun ⟨a,b,c,d,e,f,g⟩=>⟨a,b,c,d,e,f,g⟩,fun ⟨a,b,c,d,e,f,g⟩=>⟨a,b,c,d,e,f,g⟩⟩
def AaF (t:Tg):Cd:=⟨84,[t.kind::t.name,t.target]++if t.value=[] then [] else [Abf t.value]⟩
def AaL (f:Bs×Bs):Cd:=⟨70,if f.2=[] then [f.1] else [f.1,f.2]⟩
def Abe (b:Bs):List Cd:=if b=[] then [] else [⟨66,[b]⟩]
def AbC (l:List Bs):List Cd:=if l=[] then [] else [⟨80,l⟩]
def AaG (c:Ck):List Cd:=Abe c.base++[⟨67,[46::Abf c.comment]⟩,⟨68,[AaX c.date.toNat]⟩]++c.files.map AaL++AbC c.parents++(c.tags.map AaF++[⟨85,[c.user]⟩])
def ckB (c:Ck):Bs:=AcI (AaG c)
theorem Ag7 {s:Bs} (h:isN s=true):AbZ s:=by
 have:=of_decide_eq_true h;exact AwI this.1 this.2
theorem AdP {s:Bs} (h:isN s=true):s.length=40:=(of_decide_eq_true h).1
theorem Aqh:∀(n:Nat),AaX n≠[]∧∀c∈AaX n,48≤c.toNat∧c.toNat≤57:=by
 intro n
 induction n using Nat.strongRecOn with
 | _ n ih =>
   rw[AaX];split
   · refine⟨by simp,fun c hc=>?_⟩
     rw[List.mem_singleton.1 hc,Aeb];omega
   · refine⟨by simp,fun c hc=>?_⟩
     rcases List.mem_append.1 hc with hc | hc
     · exact(ih (n / 10) (by omega)).2 c hc
     · rw[List.mem_singleton.1 hc,Aeb];omega
theorem AvK:∀(k n:Nat),n<10 ^ k→(AaX n).length≤k∨k=0:=by
 intro k
 induction k with
 | zero=>intros;exact .inr rfl
 | succ k ih =>
   intro n h
   left
   rw[AaX];split
   · simp
   · rw[List.length_append,List.length_singleton]
     rw[Nat.pow_succ] at h;rcases ih (n / 10) (by omega) with h1 | h1
     · omega
     · subst h1;omega
theorem As6 {n:Nat} (h:n≤1073741824):(AaX n).length≤10:=by
 rcases AvK 10 n (by omega) with h | h<;>omega
theorem Amh (n:Nat):AbZ (AaX n):=argOk_iff.2 ⟨fun e=>(Aqh n).1 (List.eq_nil_of_length_eq_zero e),fun d hd=>by have:=(Aqh n).2 d hd;omega⟩
theorem Amq {c:UInt8} {s:Bs} (hc:c.toNat≠32∧c.toNat≠10) (h:∀d∈s,d.toNat≠32∧d.toNat≠10):AbZ (c::s):=argOk_iff.2 ⟨by simp,fun d hd=>by
 rcases List.mem_cons.1 hd with rfl | hd
 · exact hc
 · exact h d hd⟩
theorem AuP {s:Bs} (h:Acm s):∀d∈s,d.toNat≠32∧d.toNat≠10:=fun d hd=>by have:=h.1 d hd;omega
theorem Anz {own:Bool} {l:List Tg} (h:RightT own l):∀t∈l,∀a∈(AaF t).args,AbZ a:=by
 intro t ht a ha;obtain⟨i,hi,rfl⟩:=Aby (d:=tg0) ht;obtain⟨hk,o2,_,o4,_⟩:=h.ok i hi;generalize l.getD i tg0=t at hk o2 o4 ha;have hn:=AuP o2;have ht2:AbZ t.target:=by
  cases own with
  | true=>rw[o4.1 rfl];exact⟨by simp,by decide,by decide⟩
  | false=>exact Ag7 (o4.2 rfl)
 simp only[AaF,List.mem_append,List.mem_cons,List.not_mem_nil,or_false] at ha;rcases ha with (rfl | rfl) | ha
 · exact Amq (by omega) hn
 · exact ht2
 · split at ha
   · cases ha
   · rename_i hv
     rw[List.mem_singleton.1 ha];exact At5 hv
theorem AjY {k:Nat} {l m:List Cd} (h1:∀a∈l,a.l.toNat≤k) (h2:∀b∈m,k≤b.l.toNat) (p1:l.Pairwise (fun a b=>a.l.toNat≤b.l.toNat)) (p2:m.Pairwise (fun a b=>a.l.toNat≤b.l.toNat)):(l++m).Pairwise (fun a b=>a.l.toNat≤b.l.toNat):=by
 rw[List.pairwise_append];exact⟨p1,p2,fun a ha b hb=>Nat.le_trans (h1 a ha) (h2 b hb)⟩
theorem Afa {l:List Cd} {k:Nat} (h:∀a∈l,a.l.toNat=k):l.Pairwise (fun a b=>a.l.toNat≤b.l.toNat):=by
 rw[List.pairwise_iff_getElem];intro i j hi hj _;rw[h _ (List.getElem_mem hi),h _ (List.getElem_mem hj)];exact Nat.le_refl _
theorem Aed (b:Bs):∀a∈Abe b,a.l.toNat=66:=by unfold Abe;split<;>simp
theorem Agy (l:List Bs):∀a∈AbC l,a.l.toNat=80:=by unfold AbC;split<;>simp
theorem Afj (l:List (Bs×Bs)):∀a∈l.map AaL,a.l.toNat=70:=by
 intro a ha;obtain⟨f,_,rfl⟩:=List.mem_map.1 ha;rfl
theorem AiA (l:List Tg):∀a∈l.map AaF,a.l.toNat=84:=by
 intro a ha;obtain⟨f,_,rfl⟩:=List.mem_map.1 ha;rfl
theorem Api (l:List Tg) (u:Bs):(∀a∈l.map AaF++[(⟨85,[u]⟩:Cd)],84≤a.l.toNat∧a.l.toNat≤85)∧(l.map AaF++[(⟨85,[u]⟩:Cd)]).Pairwise (fun a b=>a.l.toNat≤b.l.toNat):=by
 have h1:∀a∈[(⟨85,[u]⟩:Cd)],a.l.toNat=85:=by simp
 refine⟨fun a ha=>?_,AjY (k:=84) (fun a ha=>by rw[AiA l a ha];exact Nat.le_refl _) (fun b hb=>by rw[h1 b hb];decide) (Afa (AiA l)) (Afa h1)⟩;rcases List.mem_append.1 ha with ha | ha
 · rw[AiA l a ha];decide
 · rw[h1 a ha];decide
theorem AeM {c:Ck} (h:AbD c):RightC (AaG c):=by
 have htu:=Api c.tags c.user;have hcd:∀a∈[(⟨67,[46::Abf c.comment]⟩:Cd),⟨68,[AaX c.date.toNat]⟩],a.l.toNat=67∨a.l.toNat=68:=by simp
 have hcdp:[(⟨67,[46::Abf c.comment]⟩:Cd),⟨68,[AaX c.date.toNat]⟩].Pairwise (fun a b=>a.l.toNat≤b.l.toNat):=by simp
 refine RightC.mk' (by simp[AaG]) ?_ ?_ ?_
 · intro a ha
   unfold AaG at ha;rw[List.mem_append] at ha;rcases ha with ha | ha
   · rw [List.mem_append] at ha
     rcases ha with ha | ha
     · rw [List.mem_append] at ha
       rcases ha with ha | ha
       · rw[List.mem_append] at ha
         rcases ha with ha | ha
         · rw[Aed _ a ha];decide
         · rcases hcd a ha with e | e<;>rw[e]<;>decide
       · rw[Afj _ a ha];decide
     · rw[Agy _ a ha];decide
   · have:=htu.1 a ha;omega
 · intro a ha x hx
   unfold AaG at ha;rw[List.mem_append] at ha;rcases ha with ha | ha
   · rw [List.mem_append] at ha
     rcases ha with ha | ha
     · rw [List.mem_append] at ha
       rcases ha with ha | ha
       · rw [List.mem_append] at ha
         rcases ha with ha | ha
         · unfold Abe at ha
           split at ha
           · cases ha
           · rename_i hb
             rw[List.mem_singleton.1 ha] at hx;rw[List.mem_singleton.1 hx];exact Ag7 (h.base.resolve_left hb)
         · simp only[List.mem_cons,List.not_mem_nil,or_false] at ha
           rcases ha with rfl | rfl
           · rw[List.mem_singleton.1 hx];exact Amq (by decide) (As4 _)
           · rw[List.mem_singleton.1 hx];exact Amh _
       · obtain ⟨f,hf,rfl⟩:=List.mem_map.1 ha
         obtain⟨i,hi,rfl⟩:=Aby (d:=([],[])) hf;obtain⟨o1,_,o3⟩:=h.files.ok i hi;generalize c.files.getD i ([],[])=f at o1 o3 hx;unfold AaL at hx;dsimp only at hx;split at hx
         · rw[List.mem_singleton.1 hx];exact Aj3 o1
         · rename_i hf2
           simp only[List.mem_cons,List.not_mem_nil,or_false] at hx;rcases hx with rfl | rfl
           · exact Aj3 o1
           · exact Ag7 (o3.resolve_right (fun e=>hf2 e.2))
     · unfold AbC at ha
       split at ha
       · cases ha
       · rw[List.mem_singleton.1 ha] at hx
         obtain⟨i,hi,rfl⟩:=Aby (d:=[]) hx;exact Ag7 (h.parents.ok i hi).1
   · rw [List.mem_append] at ha
     rcases ha with ha | ha
     · obtain⟨t,ht,rfl⟩:=List.mem_map.1 ha
       exact Anz h.tags t ht x hx
     · rw[List.mem_singleton.1 ha] at hx
       rw[List.mem_singleton.1 hx];exact Aj3 h.user
 · unfold AaG
   refine AjY (k:=80) (fun a ha=>?_) (fun a ha=>by have:=htu.1 a ha;omega) ?_ htu.2
   · rw [List.mem_append] at ha
     rcases ha with ha | ha
     · rw [List.mem_append] at ha
       rcases ha with ha | ha
       · rw[List.mem_append] at ha
         rcases ha with ha | ha
         · rw[Aed _ a ha];decide
         · rcases hcd a ha with e | e<;>rw[e]<;>decide
       · rw[Afj _ a ha];decide
     · rw[Agy _ a ha];exact Nat.le_refl _
   · refine AjY (k:=70) (fun a ha=>?_) (fun a ha=>by rw[Agy _ a ha];decide) ?_ (Afa (Agy _))
     · rw [List.mem_append] at ha
       rcases ha with ha | ha
       · rw[List.mem_append] at ha
         rcases ha with ha | ha
         · rw[Aed _ a ha];decide
         · rcases hcd a ha with e | e<;>rw[e]<;>decide
       · rw[Afj _ a ha];exact Nat.le_refl _
     · refine AjY (k:=68) (fun a ha=>?_) (fun a ha=>by rw[Afj _ a ha];decide) ?_ (Afa (Afj _))
       · rw[List.mem_append] at ha
         rcases ha with ha | ha
         · rw[Aed _ a ha];decide
         · rcases hcd a ha with e | e<;>rw[e]<;>decide
       · exact AjY (k:=66) (fun a ha=>by rw[Aed _ a ha];exact Nat.le_refl _) (fun a ha=>by rcases hcd a ha with e | e<;>rw[e]<;>decide) (Afa (Aed _)) hcdp
section
open Classical in
noncomputable def the {α:Type} (R:α→Prop):Option α:=if h:∃a,R a then some h.choose else none
theorem ArL {α:Type} {R:α→Prop} (u:∀a b,R a→R b→a=b) {a:α}:the R=some a↔R a:=by
 unfold the;split
 · rename_i h
   simp only[Option.some.injEq];exact⟨fun e=>e▸h.choose_spec,fun k=>u _ _ h.choose_spec k⟩
 · rename_i h
   simp only[reduceCtorEq,false_iff];exact fun k=>h ⟨a,k⟩
theorem Acb {α:Type} {R:α→Prop} (h:∀a,¬R a):the R=none:=by
 unfold the;rw[dif_neg (fun ⟨a,e⟩=>h a e)]
def Aa8 (x:UInt8) (l:List Cd):List (List Bs):=(l.filter (fun c=>c.l=x)).map (·.args)
theorem AdA (x:UInt8) (l m:List Cd):Aa8 x (l++m)=Aa8 x l++Aa8 x m:=by simp[Aa8]
theorem AiU {α:Type} (x y:UInt8) (f:α→Cd) (h:∀a,(f a).l=y) (l:List α):Aa8 x (l.map f)=if y=x then l.map (fun a=>(f a).args) else []:=by
 induction l with
 | nil=>simp[Aa8]
 | cons a l ih =>
   simp only[Aa8,List.map_cons,List.filter_cons,h a] at ih ⊢;by_cases e:y=x
   · rw[if_pos e] at ih ⊢;simp[e,ih]
   · rw[if_neg e] at ih ⊢;simp[e,ih]
def AbT (l:List (List Bs)):Option Bs:=match l with
 | [[a]]=>some a
 | _=>none
def Aj8 (xs:List Bs):Option Tg :=
 if xs.length<2∨3<xs.length∨(xs.getD 0 []).length<2 then none
 else if xs.length=3 then (AaB (xs.getD 2 [])).map (fun v=>⟨(xs.getD 0 []).getD 0 0,(xs.getD 0 []).drop 1,xs.getD 1 [],v⟩)
 else some ⟨(xs.getD 0 []).getD 0 0,(xs.getD 0 []).drop 1,xs.getD 1 [],[]⟩
def AaK:List (List Bs)→Option (List Tg)
 | []=>some []
 | x::r=>match Aj8 x with
   | none=>none
   | some t=>(AaK r).map (t::·)
def Ajt (xs:List Bs):Bs×Bs:=if xs.length=2 then (xs.getD 0 [],xs.getD 1 []) else if xs.length=1 then (xs.getD 0 [],[]) else ([],[])
def ApQ (l:List Cd):Option Ck:=match AbT (Aa8 67 l),AbT (Aa8 68 l),AbT (Aa8 85 l) with
 | some said,some date,some user=>match AaB (Lib.trimPrefix said [46]),AbM date,AaK (Aa8 84 l) with
   | some text,some day,some tags=>some ⟨(AbT (Aa8 66 l)).getD [],text,day,(Aa8 70 l).map Ajt,(Aa8 80 l).headD [],tags,user⟩
   | _,_,_=>none
 | _,_,_=>none
theorem AhT {own:Bool} {l:List Tg} (h:RightT own l):∀t∈l,Aj8 (AaF t).args=some t:=by
 intro t ht;obtain⟨i,hi,rfl⟩:=Aby (d:=tg0) ht;obtain⟨o1,o2,_,_,_⟩:=h.ok i hi;generalize l.getD i tg0=t at o1 o2;obtain⟨k,n,tt,v⟩:=t;dsimp only at o1 o2;have hn:=o2.2.1;unfold AaF;dsimp only;by_cases hv:v=[]
 · subst hv
   simp only[if_true,List.append_nil,Aj8];rw[if_neg (by simp;omega),if_neg (by simp)];rfl
 · rw[if_neg hv]
   simp only[Aj8];rw[if_neg (by simp;omega),if_pos (by simp)];simp[AjP]
theorem AhW {l:List Tg} (h:∀t∈l,Aj8 (AaF t).args=some t):AaK (l.map (fun t=>(AaF t).args))=some l:=by
 induction l with
 | nil=>rfl
 | cons t l ih =>
   simp only[List.map_cons,AaK];rw[h t (by simp),ih fun x hx=>h x (by simp[hx])];rfl
theorem AsQ (f:Bs×Bs):Ajt (AaL f).args=f:=by
 unfold AaL;dsimp only;split
 · rename_i h
   obtain⟨a,b⟩:=f;dsimp only at h;subst h;rfl
 · rfl
theorem Atn (e:Bs):Lib.trimPrefix (46::e) [46]=e:=by simp[Lib.trimPrefix,Lib.hasPrefix]
theorem Aee (x:UInt8) (c:Ck):Aa8 x (AaG c)=Aa8 x (Abe c.base)++(Aa8 x [⟨67,[46::Abf c.comment]⟩,⟨68,[AaX c.date.toNat]⟩]++((if (70:UInt8)=x then c.files.map (fun f=>(AaL f).args) else [])++(Aa8 x (AbC c.parents)++((if (84:UInt8)=x then c.tags.map (fun t=>(AaF t).args) else [])++Aa8 x [⟨85,[c.user]⟩])))):=by
 unfold AaG;rw[AdA,AdA,AdA,AdA,AdA,AiU x 70 AaL (fun _=>rfl),AiU x 84 AaF (fun _=>rfl)];simp only[List.append_assoc]
theorem Afq (x:UInt8) (b:Bs):Aa8 x (Abe b)=if (66:UInt8)=x∧b≠[] then [[b]] else []:=by
 unfold Abe;by_cases h:b=[]
 · simp[h,Aa8]
 · by_cases h2:(66:UInt8)=x<;>simp[h,Aa8,h2]
theorem Afp (x:UInt8) (l:List Bs):Aa8 x (AbC l)=if (80:UInt8)=x∧l≠[] then [l] else []:=by
 unfold AbC;by_cases h:l=[]
 · simp[h,Aa8]
 · by_cases h2:(80:UInt8)=x<;>simp[h,Aa8,h2]
theorem At3 (c:Ck):Aa8 67 (AaG c)=[[46::Abf c.comment]]:=by rw[Aee,Afq,Afp];simp[Aa8]
theorem At2 (c:Ck):Aa8 68 (AaG c)=[[AaX c.date.toNat]]:=by rw[Aee,Afq,Afp];simp[Aa8]
theorem AsZ (c:Ck):Aa8 85 (AaG c)=[[c.user]]:=by rw[Aee,Afq,Afp];simp[Aa8]
theorem Ao7 (c:Ck):Aa8 84 (AaG c)=c.tags.map (fun t=>(AaF t).args):=by rw[Aee,Afq,Afp];simp[Aa8]
theorem At1 (c:Ck):Aa8 70 (AaG c)=c.files.map (fun f=>(AaL f).args):=by rw[Aee,Afq,Afp];simp[Aa8]
theorem At4 (c:Ck):Aa8 66 (AaG c)=if c.base=[] then [] else [[c.base]]:=by
 rw[Aee,Afq,Afp];by_cases h:c.base=[]<;>simp[Aa8,h]
theorem At0 (c:Ck):Aa8 80 (AaG c)=if c.parents=[] then [] else [c.parents]:=by
 rw[Aee,Afq,Afp];by_cases h:c.parents=[]<;>simp[Aa8,h]
theorem AfA {c:Ck} (h:AbD c):ApQ (AaG c)=some c:=by
 unfold ApQ;rw[At3,At2,AsZ,Ao7,At1,At4,At0];have hd:=h.date;simp only[AbT];rw[Atn,AjP,AiH (by omega),AhW (AhT h.tags)];simp only[List.map_map];have h1:(c.files.map (Ajt ∘ fun f=>(AaL f).args))=c.files:=by
  have:(Ajt ∘ fun f=>(AaL f).args)=id:=by funext f;exact AsQ f
  rw[this,List.map_id]
 rw[h1];obtain⟨b,co,d,f,p,t,u⟩:=c;dsimp only at hd ⊢;have h2:((d.toNat:Nat):Int)=d:=by omega
 rw[h2];by_cases hb:b=[]
 · by_cases hp:p=[]<;>simp[hb,hp]
 · by_cases hp:p=[]<;>simp[hb,hp]
def ReadsK (s:Bs) (c:Ck):Prop:=AbD c∧ckB c=s
theorem ReadsK.reads {s:Bs} {c:Ck} (h:ReadsK s c):ReadsC s (AaG c):=⟨AeM h.1,h.2⟩
theorem ReadsK.uniq {s:Bs} (a b:Ck) (h:ReadsK s a) (k:ReadsK s b):a=b:=by
 have e:=h.reads.uniq k.reads;have:=AfA h.1;rw[e,AfA k.1] at this;exact(Option.some.inj this).symm
noncomputable def AaD (s:Bs):Option Ck:=the (ReadsK s)
theorem readK_iff {s:Bs} {c:Ck}:AaD s=some c↔ReadsK s c:=ArL ReadsK.uniq
def AdG (c:Ck) (x:Cd):Option Ck :=
 if x.l=66∧x.args.length=1 then some { c with base:=x.args.getD 0 [] }
 else if x.l=67∧x.args.length=1∧((x.args.getD 0 []).getD 0 0)=46 then (AaB ((x.args.getD 0 []).drop 1)).map (fun t=>{ c with comment:=t })
 else if x.l=68∧x.args.length=1 then some { c with date:=rdI (x.args.getD 0 []) }
 else if x.l=70∧x.args.length=1 then some { c with files:=c.files++[(x.args.getD 0 [],[])] }
 else if x.l=70∧x.args.length=2 then some { c with files:=c.files++[(x.args.getD 0 [],x.args.getD 1 [])] }
 else if x.l=80 then some { c with parents:=x.args }
 else if x.l=84 then some c
 else if x.l=85∧x.args.length=1 then some { c with user:=x.args.getD 0 [] }
 else none
def Ab5:List Cd→Ck→Option Ck
 | [],c=>some c
 | x::r,c=>match AdG c x with
   | none=>none
   | some c'=>Ab5 r c'
theorem AcY (l m:List Cd) (c:Ck):Ab5 (l++m) c=(Ab5 l c).bind (Ab5 m):=by
 induction l generalizing c with
 | nil=>rfl
 | cons x l ih =>
   simp only[List.cons_append,Ab5]
   cases AdG c x with
   | none=>rfl
   | some c'=>exact ih c'
theorem AmE (l:List (Bs×Bs)) (c:Ck):Ab5 (l.map AaL) c=some { c with files:=c.files++l }:=by
 induction l generalizing c with
 | nil=>simp[Ab5]
 | cons f l ih =>
   have e:AdG c (AaL f)=some { c with files:=c.files++[f] }:=by
    unfold AaL;try dsimp only
    split
    · rename_i h
      obtain⟨a,b⟩:=f;dsimp only at h;subst h;simp[AdG]
    · simp[AdG]
   simp only[List.map_cons,Ab5,e];rw[ih];simp
theorem Aot (l:List Tg) (c:Ck):Ab5 (l.map AaF) c=some c:=by
 induction l generalizing c with
 | nil=>rfl
 | cons t l ih =>
   have e:AdG c (AaF t)=some c:=by
    have hl:(AaF t).l=84:=rfl;have h1:(AaF t).args.length≠1:=by simp[AaF]
    simp[AdG,hl]
   simp only[List.map_cons,Ab5,e];exact ih c
theorem ApE {n:Int} (h:0≤n∧n≤1073741824):rdI (AaX n.toNat)=n:=by
 rw[rdI,AiH (by omega)];dsimp only;omega
def AlN (l:List Cd):Option Ck:=match AaK (Aa8 84 l) with
 | none=>none
 | some tags=>Ab5 l { ck0 with tags:=tags }
theorem Aku {c:Ck} (h:AbD c):AlN (AaG c)=some c:=by
 unfold AlN;rw[Ao7,AhW (AhT h.tags)];dsimp only;unfold AaG;have hd:=ApE h.date;obtain⟨b,co,d,f,p,t,u⟩:=c;dsimp only at hd ⊢;have hb:∀k:Ck,Ab5 (Abe b) k=some (if b=[] then k else { k with base:=b }):=by
  intro k;unfold Abe;by_cases e:b=[]
  · simp[e,Ab5]
  · simp[e,Ab5,AdG]
 have hp:∀k:Ck,Ab5 (AbC p) k=some (if p=[] then k else { k with parents:=p }):=by
  intro k;unfold AbC;by_cases e:p=[]
  · simp[e,Ab5]
  · simp[e,Ab5,AdG]
 have hcd:∀k:Ck,Ab5 [⟨67,[46::Abf co]⟩,⟨68,[AaX d.toNat]⟩] k=some { k with comment:=co,date:=d }:=by
  intro k;simp[Ab5,AdG,AjP,hd]
 have hu:∀k:Ck,Ab5 [⟨85,[u]⟩] k=some { k with user:=u }:=by
  intro k;simp[Ab5,AdG]
 rw[AcY,AcY,AcY,AcY,hb,Option.bind_some,hcd,Option.bind_some,AmE,Option.bind_some,hp,Option.bind_some,AcY,Aot,Option.bind_some,hu];by_cases e1:b=[]
 · by_cases e2:p=[]<;>simp[e1,e2,ck0]
 · by_cases e2:p=[]<;>simp[e1,e2,ck0]
theorem AiT {l:List Cd} {k:Nat} (h:∀c∈l,(Aco c).length≤k):(Aav l).length≤k * l.length:=by
 induction l with
 | nil=>simp[Aav]
 | cons c l ih =>
   have e:Aav (c::l)=Aco c++Aav l:=by simp[Aav]
   have h1:=h c (by simp);have h2:=ih fun x hx=>h x (by simp[hx]);rw[e,List.length_append,List.length_cons,Nat.mul_add];omega
theorem AdK (x:UInt8) (a:Bs):(Aco ⟨x,[a]⟩).length=a.length+3:=by simp[Aco,AbN,AaM]
theorem Apo {own:Bool} {l:List Tg} (h:RightT own l):∀t∈l,(Aco (AaF t)).length≤200:=by
 intro t ht;obtain⟨i,hi,rfl⟩:=Aby (d:=tg0) ht;obtain⟨_,o2,o3,o4,_⟩:=h.ok i hi;generalize l.getD i tg0=t at o2 o3 o4;have h1:=o2.2.2;have h2:t.target.length≤40:=by
  cases own with
  | true=>rw[o4.1 rfl];decide
  | false=>rw[AdP (o4.2 rfl)];exact Nat.le_refl _
 have h3:=(Aeu t.value).2;unfold AaF;split
 · simp[Aco,AbN,AaM];omega
 · simp[Aco,AbN,AaM];omega
theorem Aev {c:Ck} (h:AbD c):(Aav (AaG c)).length≤10000:=by
 have hb:∀x∈Abe c.base,(Aco x).length≤200:=by
  unfold Abe;split
  · simp
  · rename_i e
    intro x hx;rw[List.mem_singleton.1 hx,AdK,AdP (h.base.resolve_left e)];decide
 have hcd:∀x∈[(⟨67,[46::Abf c.comment]⟩:Cd),⟨68,[AaX c.date.toNat]⟩],(Aco x).length≤200:=by
  intro x hx;simp only[List.mem_cons,List.not_mem_nil,or_false] at hx;have h1:=(Aeu c.comment).2;have h2:=h.comment;have h3:=As6 (n:=c.date.toNat) (by have:=h.date;omega);rcases hx with rfl | rfl
  · rw[AdK,List.length_cons];omega
  · rw[AdK];omega
 have hf:∀x∈c.files.map AaL,(Aco x).length≤200:=by
  intro x hx;obtain⟨f,hf,rfl⟩:=List.mem_map.1 hx;obtain⟨i,hi,rfl⟩:=Aby (d:=([],[])) hf;obtain⟨o1,_,o3⟩:=h.files.ok i hi;generalize c.files.getD i ([],[])=f at o1 o3;have h1:=o1.2.2;unfold AaL;split
  · rw[AdK];omega
  · rename_i e
    have h2:=AdP (o3.resolve_right fun x=>e x.2);simp[Aco,AbN,AaM];omega
 have hp:∀x∈AbC c.parents,(Aco x).length≤200:=by
  unfold AbC;split
  · simp
  · intro x hx
    rw[List.mem_singleton.1 hx];have hl:=h.parents.len;have:(AaM c.parents).length≤41 * c.parents.length:=by
     have hk:∀a∈c.parents,a.length=40:=fun a ha=>by
      obtain⟨i,hi,rfl⟩:=Aby (d:=[]) ha;exact AdP (h.parents.ok i hi).1
     generalize c.parents=l at hk
     induction l with
     | nil=>simp[AaM]
     | cons a l ih =>
       rw[AbQ,List.length_cons,List.length_append,List.length_cons,hk a (by simp)];have:=ih fun x hx=>hk x (by simp[hx]);omega
    simp[Aco,AbN];omega
 have htu:∀x∈c.tags.map AaF++[(⟨85,[c.user]⟩:Cd)],(Aco x).length≤200:=by
  intro x hx;rcases List.mem_append.1 hx with hx | hx
  · obtain⟨t,ht,rfl⟩:=List.mem_map.1 hx
    exact Apo h.tags t ht
  · have:=h.user.2.2
    rw[List.mem_singleton.1 hx,AdK];omega
 have hall:=AiT (l:=AaG c) (k:=200) (by
  intro x hx;unfold AaG at hx;rw[List.mem_append] at hx;rcases hx with hx | hx
  · rw [List.mem_append] at hx
    rcases hx with hx | hx
    · rw [List.mem_append] at hx
      rcases hx with hx | hx
      · rw[List.mem_append] at hx
        rcases hx with hx | hx
        · exact hb x hx
        · exact hcd x hx
      · exact hf x hx
    · exact hp x hx
  · exact htu x hx)
 have hlen:(AaG c).length≤29:=by
  have h1:=h.files.len;have h2:=h.tags.len;have h3:(Abe c.base).length≤1:=by unfold Abe;split<;>simp
  have h4:(AbC c.parents).length≤1:=by unfold AbC;split<;>simp
  simp only[AaG,List.length_append,List.length_map,List.length_cons,List.length_nil];omega
 omega
structure Ct where
 date:Int
 tags:List Tg
 user:Bs
 deriving DecidableEq,Repr
structure Acu (c:Ct):Prop where
 date:0≤c.date∧c.date≤1073741824
 some:0<c.tags.length
 tags:RightT false c.tags
 user:Acm c.user
instance (c:Ct):Decidable (Acu c):=decidable_of_iff ((0≤c.date∧c.date≤1073741824)∧0<c.tags.length∧RightT false c.tags∧Acm c.user) ⟨fun ⟨a,b,c,d⟩=>⟨a,b,c,d⟩,fun ⟨a,b,c,d⟩=>⟨a,b,c,d⟩⟩
def AaR (c:Ct):List Cd:=⟨68,[AaX c.date.toNat]⟩::(c.tags.map AaF++[⟨85,[c.user]⟩])
def ctB (c:Ct):Bs:=AcI (AaR c)
theorem Aih {c:Ct} (h:Acu c):RightC (AaR c):=by
 have htu:=Api c.tags c.user;have e:AaR c=[⟨68,[AaX c.date.toNat]⟩]++(c.tags.map AaF++[⟨85,[c.user]⟩]):=rfl;have h1:∀a∈[(⟨68,[AaX c.date.toNat]⟩:Cd)],a.l.toNat=68:=by simp
 refine RightC.mk' (by simp[AaR]) ?_ ?_ ?_
 · intro a ha
   rw[e,List.mem_append] at ha;rcases ha with ha | ha
   · rw[h1 a ha];decide
   · have:=htu.1 a ha;omega
 · intro a ha x hx
   rw[e,List.mem_append] at ha;rcases ha with ha | ha
   · rw[List.mem_singleton.1 ha] at hx
     rw[List.mem_singleton.1 hx];exact Amh _
   · rw [List.mem_append] at ha
     rcases ha with ha | ha
     · obtain⟨t,ht,rfl⟩:=List.mem_map.1 ha
       exact Anz h.tags t ht x hx
     · rw[List.mem_singleton.1 ha] at hx
       rw[List.mem_singleton.1 hx];exact Aj3 h.user
 · rw[e]
   exact AjY (k:=68) (fun a ha=>by rw[h1 a ha];exact Nat.le_refl _) (fun a ha=>by have:=htu.1 a ha;omega) (Afa h1) htu.2
theorem Agc {c:Ct} (h:Acu c):(Aav (AaR c)).length≤10000:=by
 have hall:=AiT (l:=AaR c) (k:=200) (by
  intro x hx;unfold AaR at hx;rcases List.mem_cons.1 hx with rfl | hx
  · have h3:=As6 (n:=c.date.toNat) (by have:=h.date;omega)
    rw[AdK];omega
  · rcases List.mem_append.1 hx with hx | hx
    · obtain⟨t,ht,rfl⟩:=List.mem_map.1 hx
      exact Apo h.tags t ht
    · have:=h.user.2.2
      rw[List.mem_singleton.1 hx,AdK];omega)
 have hlen:(AaR c).length≤14:=by
  have h2:=h.tags.len;simp only[AaR,List.length_append,List.length_map,List.length_cons,List.length_nil];omega
 omega
theorem AkJ (c:Ct):Aa8 84 (AaR c)=c.tags.map (fun t=>(AaF t).args):=by
 have e:AaR c=[⟨68,[AaX c.date.toNat]⟩]++(c.tags.map AaF++[⟨85,[c.user]⟩]):=rfl;rw[e,AdA,AdA,AiU 84 84 AaF (fun _=>rfl)];simp[Aa8]
def Aba:List Cd→Int×Bs→Int×Bs
 | [],st=>st
 | x::r,st=>if x.args.length=0 then st
   else if x.l.toNat=68 then (match AbM (x.args.getD 0 []) with | some n=>Aba r ((n:Int),st.2) | none=>(0,st.2))
   else if x.l.toNat=85 then Aba r (st.1,x.args.getD 0 []) else Aba r st
def ArS (l:List Cd):Option Ct:=(AaK (Aa8 84 l)).map fun t=>⟨(Aba l (0,[])).1,t,(Aba l (0,[])).2⟩
theorem Aqi (l:List Tg) (r:List Cd) (st:Int×Bs):Aba (l.map AaF++r) st=Aba r st:=by
 induction l generalizing st with
 | nil=>rfl
 | cons t l ih =>
   have hl:(AaF t).l=84:=rfl;have h1:(AaF t).args.length≠0:=by simp[AaF]
   simp only[List.map_cons,List.cons_append,Aba];rw[if_neg h1,if_neg (by rw[hl];decide),if_neg (by rw[hl];decide),ih]
theorem Ahf {c:Ct} (h:Acu c):ArS (AaR c)=some c:=by
 unfold ArS;rw[AkJ,AhW (AhT h.tags)];have hd:=h.date;have e:Aba (AaR c) (0,[])=(c.date,c.user):=by
  unfold AaR;simp only[Aba];rw[if_neg (by simp),if_pos (by decide)];have e1:([AaX c.date.toNat]:List Bs).getD 0 []=AaX c.date.toNat:=rfl;rw[e1,AiH (by omega)];dsimp only;rw[Aqi];simp only[Aba];rw[if_neg (by simp),if_neg (by decide),if_pos (by decide)];have e2:((c.date.toNat:Nat):Int)=c.date:=by omega
  rw[e2];rfl
 rw[e];rfl
def Akt (l:List Cd):Option Ct:=if l.length<3∨(l.getD 0 cd0).l.toNat≠68∨(l.getD 0 cd0).args.length≠1∨(l.getD (l.length-1) cd0).l.toNat≠85∨(l.getD (l.length-1) cd0).args.length≠1 then none
 else (AaK (Aa8 84 l)).map fun t=>⟨rdI ((l.getD 0 cd0).args.getD 0 []),t,(l.getD (l.length-1) cd0).args.getD 0 []⟩
theorem Aks {c:Ct} (h:Acu c):Akt (AaR c)=some c:=by
 unfold Akt;have hlen:(AaR c).length=c.tags.length+2:=by simp[AaR]
 have h0:(AaR c).getD 0 cd0=⟨68,[AaX c.date.toNat]⟩:=rfl;have hlast:(AaR c).getD ((AaR c).length-1) cd0=⟨85,[c.user]⟩:=by
  rw[hlen];unfold AaR
  simp
 have hs:=h.some;rw[h0,hlast,hlen,if_neg (by simp;omega),AkJ,AhW (AhT h.tags)];have e1:([AaX c.date.toNat]:List Bs).getD 0 []=AaX c.date.toNat:=rfl;simp only[e1,Option.map_some];rw[ApE h.date];rfl
def ReadsCt (s:Bs) (c:Ct):Prop:=Acu c∧ctB c=s
theorem ReadsCt.reads {s:Bs} {c:Ct} (h:ReadsCt s c):ReadsC s (AaR c):=⟨Aih h.1,h.2⟩
theorem ReadsCt.uniq {s:Bs} (a b:Ct) (h:ReadsCt s a) (k:ReadsCt s b):a=b:=by
 have e:=h.reads.uniq k.reads;have:=Ahf h.1;rw[e,Ahf k.1] at this;exact(Option.some.inj this).symm
noncomputable def Ab9 (s:Bs):Option Ct:=the (ReadsCt s)
theorem readCt_iff {s:Bs} {c:Ct}:Ab9 s=some c↔ReadsCt s c:=ArL ReadsCt.uniq
structure AjE (l:List Bs):Prop where
 ok:∀i,i<l.length→isN (l.getD i [])=true∧(0<i→blt (l.getD (i-1) []) (l.getD i [])=true)
 len:1≤l.length∧l.length≤12
def Amk (n:Bs):Cd:=⟨77,[n]⟩
def AbW (l:List Bs):List Cd:=l.map Amk
def clB (l:List Bs):Bs:=AcI (AbW l)
theorem AkG (l:List Bs):∀a∈AbW l,a.l.toNat=77:=by
 intro a ha;obtain⟨f,_,rfl⟩:=List.mem_map.1 ha;rfl
theorem AmD {l:List Bs} (h:AjE l):RightC (AbW l):=by
 refine RightC.mk' (fun e=>?_) (fun a ha=>by rw[AkG l a ha];decide) ?_ (Afa (AkG l))
 · have:=congrArg List.length e
   have h1:=h.len.1;simp[AbW] at this;simp[this] at h1
 · intro a ha x hx
   obtain⟨n,hn,rfl⟩:=List.mem_map.1 ha;rw[show (Amk n).args=[n] from rfl] at hx;rw[List.mem_singleton.1 hx];obtain⟨i,hi,rfl⟩:=Aby (d:=[]) hn;exact Ag7 (h.ok i hi).1
theorem Aqk {l:List Bs} (h:AjE l):(Aav (AbW l)).length≤10000:=by
 have hall:=AiT (l:=AbW l) (k:=200) (by
  intro x hx;obtain⟨n,hn,rfl⟩:=List.mem_map.1 hx;obtain⟨i,hi,rfl⟩:=Aby (d:=[]) hn;unfold Amk;rw[AdK,AdP (h.ok i hi).1];decide)
 have:(AbW l).length=l.length:=by simp[AbW]
 have:=h.len.2;omega
def ReadsCl (s:Bs) (l:List Bs):Prop:=AjE l∧clB l=s
theorem ReadsCl.reads {s:Bs} {l:List Bs} (h:ReadsCl s l):ReadsC s (AbW l):=⟨AmD h.1,h.2⟩
noncomputable def Awi (s:Bs):Option (List Bs):=the (ReadsCl s)
end
end Go.Proofs.YtdnoacgopfcpbaaGreat
