/- Texts of this proof, put together: SCard3, SRead, PCk, PCk2. -/
import Derived.Test.YtdnoacgopfcpbaaGreatQ10
set_option linter.unusedVariables false
set_option linter.unusedSimpArgs false
namespace Go.Proofs.YtdnoacgopfcpbaaGreat
section
set_option maxRecDepth 100000
theorem Ajc {s:Bs} {l:List Cd} (h:ReadsC s l):43≤s.length∧s.take (s.length-43)=Aau l∧Afp (s.take (s.length-43))=s:=by
 have e:s=Afp (Aau l):=h.2.symm
 subst e
 rw[AbT]
 have ht:(Afp (Aau l)).take (Aau l).length=Aau l:=by
  rw[Afp,List.append_assoc,List.append_assoc]
  exact List.take_left
 rw[Nat.add_sub_cancel,ht]
 exact⟨by omega,rfl,rfl⟩
/-- What stands ahead is what has been read so far. -/
def AlA (s:Bs) (m:List Cd) (rest:Bs):Prop:=∀l,ReadsC s l→∃l2,l=m++l2∧Aau l2=rest
theorem ArY {s:Bs} {m:List Cd} (h:AlA s m []) {l:List Cd} (k:ReadsC s l):l=m:=by
 obtain⟨l2,e,e2⟩:=h l k
 cases l2 with
 | nil=>rw[e,List.append_nil]
 | cons c l2=>rw[AbQ] at e2;simp at e2
/-- A right line ahead. -/
theorem Aj2 {s:Bs} {m:List Cd} {rest:Bs} (h:AlA s m rest) (hr:rest≠[]) {l:List Cd} (k:ReadsC s l):∃c l3,l=(m++[c])++l3∧rest=Aby c++10::Aau l3∧10∉Aby c∧Ae7 (Aat 32 (Aby c))=some (c.l,c.args):=by
 obtain⟨l2,e,e2⟩:=h l k
 cases l2 with
 | nil=>exact absurd e2.symm hr
 | cons c l2 =>
   have hb:=k.1.both c (by rw[e];simp)
   exact⟨c,l2,by rw[e];simp,by rw[←e2,AbQ],Ag1 hb.1 hb.2,Aq2 hb.1 hb.2⟩
theorem Apq {s:Bs} {m:List Cd} {rest:Bs} (h:AlA s m rest) (hr:rest≠[]) (hn:(10:UInt8)∉rest):∀l,¬ReadsC s l:=fun l k=>by
 obtain⟨c,l3,_,e,_,_⟩:=Aj2 h hr k
 exact hn (by rw[e];simp)
theorem AqY {s:Bs} {m:List Cd} {line rest:Bs} (h:AlA s m (line++10::rest)) (hn:(10:UInt8)∉line) {c:UInt8} {xs:List Bs} (hf:Ae7 (Aat 32 line)=some (c,xs)):AlA s (m++[⟨c,xs⟩]) rest:=fun l k=>by
 obtain⟨d,l3,e1,e2,e3,e4⟩:=Aj2 h (by simp) k
 obtain⟨q1,q2⟩:=AgP hn e3 e2
 rw[q1,e4] at hf
 cases hf
 exact⟨l3,by rw[e1],q2.symm⟩
theorem ArZ {s:Bs} {m:List Cd} {line rest:Bs} (h:AlA s m (line++10::rest)) (hn:(10:UInt8)∉line) (hf:Ae7 (Aat 32 line)=none):∀l,¬ReadsC s l:=fun l k=>by
 obtain⟨d,l3,e1,e2,e3,e4⟩:=Aj2 h (by simp) k
 obtain⟨q1,q2⟩:=AgP hn e3 e2
 rw[q1,e4] at hf
 cases hf
theorem Aq1 {pre r:List Bs} {w:Bs} {st:UInt8×List Bs} (h:Ae7 pre=some st) (hw:Adf st w=none):Ae7 (pre++w::r)=none:=by
 have e:pre++w::r=(pre++[w])++r:=by simp
 have h1:Ae7 (pre++[w])=none:=by rw[AhZ,h];exact hw
 rw[e,Ae7,List.foldlM_append]
 rw[Ae7] at h1
 rw[h1];rfl
/-- A card that is being made. -/
def CdB (b:Nat) (pre:List Bs):HP:=Ex fun z:UInt8×List Bs×Option Addr×Nat=>Al [Pu (Ae7 pre=some (z.1,z.2.1)),Ce b 220 [vU z.1.toNat,.slice z.2.2.1 z.2.1.length z.2.2.2],Row 9 1 (.slice z.2.2.1 z.2.1.length z.2.2.2) z.2.1.length (z.2.1.map vS)]
theorem AgK {b T:Nat} {pre:List Bs} {v0 v1:Value} {Hs R1 Rs:List HP} (c:UInt8) (xs:List Bs) (a:Option Addr) (k m:Nat) (hf:Ae7 pre=some (c,xs)) (hm:m=xs.length) [q:Ah1 b T [v0,v1] Hs R1] (hT:T=220) (h0:v0=vU c.toNat) (h1:v1=.slice a m k) {n:Nat} {ys:List Value} {e sz:Nat} [q2:Ahm (.slice a m k) e sz n ys R1 Rs] (he:e=9) (hsz:sz=1) (hn:n=m) (hy:ys=xs.map vS):Ent Hs (CdB b pre::Rs):=by
 subst hT;subst h0;subst h1;subst he;subst hsz;subst hn;subst hy;subst hm
 refine Abt (c,xs,a,k) ?_
 refine AbP (Ad6 hf ?_)
 exact Picks.ent (.cons q.get (.cons q2.get .nil))
theorem AcG (qs:List CdV) (q:CdV):Aa3 (qs++[q])=Aa3 qs++[q.cd]:=by simp[Aa3]
abbrev Aec (x:(Option Addr×Nat)×List CdV):Value:=.slice x.1.1 x.2.length x.1.2
abbrev Agi (x:(Option Addr×Nat)×List CdV):List HP:=[Row 220 2 (.slice x.1.1 x.2.length x.1.2) x.2.length (x.2.flatMap CdV.cells),CdM x.2]
theorem AgN {Hs:List HP}:Ent Hs (Agi ((none,0),[])):=(AaV (e:=220) (sz:=2)).trans (ent_cdm_nil.trans (show Ent _ [Row 220 2 (.slice none 0 0) 0 [],CdM []] from Aa0))
theorem Amu {G:Prop} (h:G:=by
    have hn:AbS s=none:=readC_none.2 fun l h=>by
     have:=hrl l h
     first
     | omega
     | (exact absurd this.2.2 (by simpa using h23))
    refine Aa2 ((none,0),[]) (vs:=[_,_]) (Cs:=[]) rfl (.tmp rfl (.tmp rfl .nil)) ?_ (by rw[hn];rfl) AgN
    rw[hn];rfl):G:=h
theorem AkI {G:Prop} (h:G:=by
    have hn:AbS s=none:=readC_none.2 fun l h=>by
     first
     | exact hnr (by simpa using h66) l h
     | (have he:rest=[]:=by simpa using h66
        have e:=ArY (hu he) h
        rw[←e] at h71
        have e2:prB l=s:=by rw[prB,if_pos h.1];exact h.2
        exact absurd e2 (by simpa using h71))
    refine Aa2 ((none,0),[]) (vs:=[_,_]) (Cs:=[]) rfl (.tmp rfl (.tmp rfl .nil)) ?_ (by rw[hn];rfl) AgN
    rw[hn];rfl):G:=h
theorem Agn {G:Prop} (h:G:=by
    first
    | (have he:rest=[]:=by simpa using h30
       subst he
       exact Aa6 ⟨((a,ac),qs,[]),by dsimp only;omega,fun _=>hu,fun h=>absurd rfl h⟩ trivial ⟨rfl,rfl,rfl,trivial⟩ Aa0)
    | (have hm:more=false:=by simpa using h38
       exact Aa6 ⟨((a,ac),qs,rest),by dsimp only;omega,fun h=>absurd h hne,fun _=>Apq hu hne (hcc.1 hm)⟩ trivial ⟨rfl,rfl,rfl,trivial⟩ Aa0)
    | exact Aa6 ⟨((a,ac),qs,rest),by dsimp only;omega,fun h=>absurd h hne,fun _=>hbad⟩ trivial ⟨rfl,rfl,rfl,trivial⟩ Aa0):G:=h
set_option maxHeartbeats 2000000 in
theorem AiP (s:Bs) (hs:s.length≤1073741824):Sp Tryz.prog 105 [vS s] [] (X:=(Option Addr×Nat)×List CdV) (fun x=>.tuple #[Aec x,vB (AbS s).isSome]) (fun x=>Aa3 x.2=(AbS s).getD []) Agi:=by
 have hrl:=fun l (h:ReadsC s l)=>Ajc h
 refine Sp.body (n:=73) Tryz.call105 Tryz.func105 rfl rfl rfl ?_
 refine Qc (k:=Qv (k:=Wq (Zs (k:=Za (k:=Qc (k:=Qv (k:=Vv (k:=?_))))))))
 refine Vv (k:=Gi 3 (t:=fun h14=>?_) (f:=fun h14=>?_))
 ·
  refine O1 (k:=O1 (k:=O1 (k:=O1 (k:=O1 (k:=O1 (k:=O1 (k:=O1 (k:=P1 (k:=Wq (Z1 (k:=Za (k:=?_))))))))))))
  refine Zr (k:=Qv (k:=Wq (Zt (k:=Va (Vs ?_)))))
  exact Amu
 ·
  refine J0 (k:=J0 (k:=J0 (k:=J0 (k:=I0 (k:=?_)))))
  refine Aa5 (AbW (m:=s.length-43) Tryz.underlying9 rfl rfl (by omega) (by omega)) rfl ?_
  refine I0 (k:=?_)
  refine Aag (AgS (s.take (s.length-43)) (by rw[List.length_take];omega)) rfl rfl rfl ?_
  refine J0 (k:=J0 (k:=P0 (k:=Wq (Zi (t:=fun h23=>?_) (f:=fun h23=>?_)))))
  ·
   refine Qc (k:=Qv (k:=Wq (Zt (k:=Va (Vs ?_)))))
   exact Amu
  ·
   refine Zk (k:=Ya (Za (k:=?_)))
   have h43:43≤s.length:=by omega
   refine Zr (k:=Vv (k:=Wq (Qc (k:=Qv (k:=Qv (k:=?_))))))
   refine Aa5 (AbW (m:=s.length-43) Tryz.underlying9 rfl rfl (by omega) (by omega)) rfl ?_
   refine Vv (k:=Wq (Za (k:=Zl (k:=Ya ?_))))
   refine Abd (fun (i:{ x:(Option Addr×Nat)×List CdV×Bs // (Aau (Aa3 x.2.1)).length≤s.length∧(x.2.2=[]→AlA s (Aa3 x.2.1) [])∧(x.2.2≠[]→∀l,¬ReadsC s l) })=>[(0,vS s),(4,.slice i.1.1.1 i.1.2.1.length i.1.1.2),(5,vS i.1.2.2)]) (fun (i:{ x:(Option Addr×Nat)×List CdV×Bs // (Aau (Aa3 x.2.1)).length≤s.length∧(x.2.2=[]→AlA s (Aa3 x.2.1) [])∧(x.2.2≠[]→∀l,¬ReadsC s l) })=>[Row 220 2 (.slice i.1.1.1 i.1.2.1.length i.1.1.2) i.1.2.1.length (i.1.2.1.flatMap CdV.cells),CdM i.1.2.1]) rfl (fun i=>?_) ?_
   ·
    obtain⟨⟨⟨a,ac⟩,qs,rest⟩,hz,hu,hnr⟩:=i
    dsimp only at hz hu hnr
    have hP:=AcY (B:=Row 220 2 (.slice a qs.length ac) qs.length (qs.flatMap CdV.cells)) qs.length ac qs AaJ rfl (by omega)
    try dsimp only
    refine Za (k:=Qc (k:=Qv (k:=Vv (k:=Gi 2 (t:=fun h66=>?_) (f:=fun h66=>?_)))))
    ·
     refine O1 (k:=O1 (k:=O1 (k:=O1 (k:=P1 (k:=Wq (Z1 (k:=Qc (k:=Qv (k:=Wq ?_)))))))))
     refine Zt (k:=Va (Vs ?_))
     exact AkI
    ·
     refine J0 (k:=I0 (k:=?_))
     refine Aad hP rfl rfl rfl ?_
     refine J0 (k:=J0 (k:=P0 (k:=Wq (Zi (t:=fun h71=>?_) (f:=fun h71=>?_)))))
     ·
      refine Qc (k:=Qv (k:=Wq (Zt (k:=Va (Vs ?_)))))
      exact AkI
     ·
      refine Zk (k:=Ya (Qc (k:=Qv (k:=Vv (k:=Wq (Zt (k:=Vs ?_)))))))
      have he:prB (Aa3 qs)=s:=by simpa using h71
      have hr:AbS s=some (Aa3 qs):=readC_iff.2 (by
       rw[prB] at he
       split at he
       · rename_i hR;exact⟨hR,he⟩
       · rw[←he] at h43;simp at h43)
      refine Aa2 ((a,ac),qs) (vs:=[_,_]) (Cs:=[]) rfl (.tmp rfl (.tmp rfl .nil)) ?_ (by rw[hr];rfl) Aa0
      rw[hr];rfl
   ·
    refine Zb (k:=?_)
    refine Aan (fun (i:{ x:(Option Addr×Nat)×List CdV×Bs // AlA s (Aa3 x.2.1) x.2.2∧(Aau (Aa3 x.2.1)).length+x.2.2.length≤s.length })=>[(0,vS s),(4,.slice i.1.1.1 i.1.2.1.length i.1.1.2),(5,vS i.1.2.2)]) (fun (i:{ x:(Option Addr×Nat)×List CdV×Bs // AlA s (Aa3 x.2.1) x.2.2∧(Aau (Aa3 x.2.1)).length+x.2.2.length≤s.length })=>[Row 220 2 (.slice i.1.1.1 i.1.2.1.length i.1.1.2) i.1.2.1.length (i.1.2.1.flatMap CdV.cells),CdM i.1.2.1]) (fun (i:{ x:(Option Addr×Nat)×List CdV×Bs // AlA s (Aa3 x.2.1) x.2.2∧(Aau (Aa3 x.2.1)).length+x.2.2.length≤s.length })=>i.1.2.2.length) rfl (⟨((none,0),[],s.take (s.length-43)),fun l h=>⟨l,rfl,(hrl l h).2.1.symm⟩,by show 0+(s.take _).length≤_;rw[List.length_take];omega⟩) ?_ ?_ (fun i=>?_)
    · exact⟨rfl,rfl,rfl,trivial⟩
    ·
     exact AgN
    obtain⟨⟨⟨a,ac⟩,qs,rest⟩,hu,hz⟩:=i
    dsimp only at hu hz ⊢
    try dsimp only
    refine Za (k:=Qc (k:=Qv (k:=Wq (Zi (t:=fun h30=>?_) (f:=fun h30=>?_)))))
    ·
     refine Zk (k:=Ya (Zb (k:=Za (k:=?_))))
     have hne:rest≠[]:=by simpa using h30
     have hqn:qs.length≤1073741824:=(AcT (N:=1073741824) (by omega)).1
     obtain⟨line,hln⟩:∃w,(AeU 10 rest).1=w:=⟨_,rfl⟩
     obtain⟨behind,hbh⟩:∃w,(AeU 10 rest).2.1=w:=⟨_,rfl⟩
     obtain⟨more,hmo⟩:∃w,(AeU 10 rest).2.2=w:=⟨_,rfl⟩
     have hcc:(more=false→(10:UInt8)∉rest)∧(more=true→rest=line++10::behind∧(10:UInt8)∉line):=by
      rcases Alr 10 rest with ⟨hn,hc⟩ | ⟨x,r,he,hn,hc⟩
      · rw[hc] at hmo hln hbh
        subst hmo
        exact⟨fun _=>hn,fun h=>(by cases h)⟩
      · rw[hc] at hmo hln hbh
        subst hmo;subst hln;subst hbh
        exact⟨fun h=>(by cases h),fun _=>⟨he,hn⟩⟩
     refine Zr (k:=Vv (k:=?_))
     refine Aag (Atp rest 10 (by omega)) rfl rfl rfl ?_
     rw[Arz,hln,hbh,hmo]
     refine Vv (k:=?_)
     refine Aa5 (Aa9 (v:=vS line) rfl rfl) rfl ?_
     refine Aa5 (Aa9 (v:=vS behind) rfl rfl) rfl ?_
     refine Aa5 (Aa9 (v:=vB more) rfl rfl) rfl ?_
     refine Qv (k:=Vv (k:=Wq (Za (k:=Qc (k:=Qv (k:=Wq (Zi (t:=fun h38=>?_) (f:=fun h38=>?_))))))))
     ·
      refine Ze (k:=Xa (Xo (k:=Xi (Xb ?_))))
      exact Agn
     ·
      refine Zk (k:=Ya (Za (k:=?_)))
      have hm:more=true:=by simpa using h38
      obtain⟨hrest,hn10⟩:=hcc.2 hm
      have hrl2:=congrArg List.length hrest
      rw[List.length_append,List.length_cons] at hrl2
      rw[hrest] at hu
      refine Zr (k:=Zc [.int .u8 0,.slice none 0 0] (k:=fun b9=>Wq (Za (k:=Qc (k:=Vv (k:=?_))))))
      refine Aar (Ak7 line) rfl rfl rfl (fun x40 _=>?_)
      refine Wq (Zb (k:=?_))
      refine Af8 (fun pre=>[CdB b9 pre,Row 220 2 (.slice a qs.length ac) qs.length (qs.flatMap CdV.cells),CdM qs]) (fun j pre=>match j with | some 0=>[Pu (∀l,¬ReadsC s l),Row 220 2 (.slice a qs.length ac) qs.length (qs.flatMap CdV.cells),CdM qs] | _=>[Pu False]) rfl (Ak8 line (by omega) x40) rfl (fun _=>by rfl) rfl ?_ (fun l pre w hok=>?_) ?_ (fun j pre hs=>?_)
      · (refine Ae0 ?_;refine Ent.trans (AaV (e:=9) (sz:=1)) ?_;exact Aaa (AgK 0 [] none 0 0 (by rfl) (by rfl) (by rfl) (by rfl) (by rfl) (by rfl) (by rfl) (by rfl) (by rfl)) Aa0)
      ·
       obtain⟨rr,hrr⟩:=hok
       refine Ado (CdB b9 pre) (AbZ fun z=>Adc (Afk fun hq=>?_))
       obtain⟨c,xs,za,zc⟩:=z
       dsimp only at hq
       dsimp only
       have hxl:xs.length≤line.length+1:=by
        have h1:=(AmP pre (0,[]) (c,xs) hq).1
        have h2:=congrArg (fun l=>(AaH l).length) hrr
        have h3:=congrArg List.length (Agt line)
        have h4:=Apd xs
        dsimp only at h1 h2
        rw[AfG,List.length_append] at h2
        rw[List.length_cons] at h3
        rw[AdP,List.length_nil] at h1
        omega
       have hsn:Ae7 (pre++[w])=Adf (c,xs) w:=by rw[AhZ,hq];rfl
       refine Zr (k:=Vv (k:=Wg (Zb (k:=Zb (k:=Qc (k:=Qx 0 5 (k:=Qv (k:=Wq ?_))))))))
       refine Zi (t:=fun h42=>?_) (f:=fun h42=>?_)
       ·
        refine Zr (k:=Qx 1 27 (k:=Vv (k:=Zv [_] (cs:=[_]) (k:=fun b49=>?_))))
        refine Aam (sz:=1) (bytes:=16) Tryz.underlying27 ti9 rfl rfl rfl rfl rfl rfl rfl (by rfl) (by rfl) (by omega) (by simp only[maxLen];omega) rfl (fun a50 c50=>?_)
        refine Vf 1 27 (k:=Zo (k:=Wn (Yb (Yb ?_))))
        refine Ab4 ?_
        first
        | (rw[Adf,if_pos (show 0<c.toNat by omega)] at hsn
           exact Aaa (AgK c (xs++[w]) a50 c50 (xs.length+1) hsn (by simp) (by rfl) (by rfl) (by rfl) (by rfl) (by rfl) (by rfl) (by simp)) Aa0)
        | (rw[Adf,if_neg (show ¬0<c.toNat by omega),if_pos (show w.length=1 by omega)] at hsn
           exact Aaa (AgK (w.getD 0 0) xs za zc xs.length hsn (by rfl) (by rfl) (by rfl) (by rfl) (by rfl) (by rfl) (by rfl) (by rfl)) Aa0)
       ·
        refine Qc (k:=Qv (k:=Qv (k:=Wq (Zi (t:=fun h52=>?_) (f:=fun h52=>?_)))))
        ·
         refine Zr (k:=Vv (k:=?_))
         refine Aa5 (Abj (m:=0) Tryz.underlying9 rfl rfl rfl (by omega)) rfl ?_
         refine Vf 0 5 (k:=Zo (k:=Wn (Yb (Yb ?_))))
         refine Ab4 ?_
         first
         | (rw[Adf,if_pos (show 0<c.toNat by omega)] at hsn
            exact Aaa (AgK c (xs++[w]) a50 c50 (xs.length+1) hsn (by simp) (by rfl) (by rfl) (by rfl) (by rfl) (by rfl) (by rfl) (by simp)) Aa0)
         | (rw[Adf,if_neg (show ¬0<c.toNat by omega),if_pos (show w.length=1 by omega)] at hsn
            exact Aaa (AgK (w.getD 0 0) xs za zc xs.length hsn (by rfl) (by rfl) (by rfl) (by rfl) (by rfl) (by rfl) (by rfl) (by rfl)) Aa0)
        ·
         refine Ze (k:=Xo (k:=Xo (k:=?_)))
         refine AlH 0 ?_
         rw[Adf,if_neg (show ¬0<c.toNat by omega),if_neg (show ¬w.length=1 by omega)] at hsn
         have hbad:∀l,¬ReadsC s l:=ArZ hu hn10 (by rw[hrr];exact Aq1 hq (by rw[←hsn,AhZ,hq];rfl))
         exact Ad6 hbad Aa0
      ·
       skip
       refine Yb (Ya ?_)
       refine Ado (CdB b9 (Aat 32 line)) (AbZ fun z=>Adc (Afk fun hq=>?_))
       obtain⟨c,xs,za,zc⟩:=z
       dsimp only at hq
       dsimp only
       have hst:=AqY hu hn10 hq
       have hcl:=Aq3 hq
       refine Adn (A:=Row 9 1 (.slice za xs.length zc) xs.length (xs.map vS)) HasC.get AbK (fun hk=>?_)
       refine Zr (k:=?_)
       refine AuB za ?_
       refine Vv (k:=Zm [_,_] (k:=Zv [_] (cs:=[_,_]) (k:=fun b61=>?_)))
       refine Aam (sz:=2) (bytes:=32) Tryz.underlying170 AcU rfl rfl rfl rfl rfl rfl rfl (by rfl) (by rfl) (by omega) (by simp only[maxLen];omega) rfl (fun a62 c62=>?_)
       refine Qv (k:=Vv (k:=Wn (Yb ?_)))
       obtain⟨q,hqq⟩:∃q:CdV,q=⟨c,za,zc,xs⟩:=⟨_,rfl⟩
       have hqc:q.cd=⟨c,xs⟩:=by rw[hqq];rfl
       refine Aa6 ⟨((a62,c62),qs++[q],behind),?_,?_⟩ ?_ ⟨rfl,Adi (by simp),rfl,trivial⟩ ?_
       · dsimp only;rw[AcG,hqc];exact hst
       · dsimp only
         rw[AcG,hqc,AeD,List.length_append]
         have:(Aau [⟨c,xs⟩]:Bs).length=(Ac5 ⟨c,xs⟩).length:=by simp[Aau]
         omega
       · dsimp only;omega
       · dsimp only
         rw[show (qs++[q]).length=qs.length+1 from by simp]
         refine(Abq (qs:=qs) (q:=q) HasC.get (by rw[hqq];exact HasC.get) (by rw[hqq];exact hk.1)).trans ?_
         exact Aaa (AaS (by rfl) (by rw[hqq];simp[CdV.cells])) Aa0
      ·
       rcases j with _ | _ | j
       · exact Agb (fun s=>by obtain⟨_,_,_,_,a,_⟩:=s;exact a)
       · refine Aqr (Gs:=[Pu (∀l,¬ReadsC s l),Row 220 2 (.slice a qs.length ac) qs.length (qs.flatMap CdV.cells),CdM qs]) (show Ent ([Pu (∀l,¬ReadsC s l),Row 220 2 (.slice a qs.length ac) qs.length (qs.flatMap CdV.cells),CdM qs]++_) _ from Aa0) (Afk fun hbad=>?_)
         refine Ze (k:=Xo (k:=Xa (Xo (k:=Xi (Xb ?_)))))
         exact Agn
       · exact Agb (fun s=>by obtain⟨_,_,_,_,a,_⟩:=s;exact a)
    ·
     refine Ze (k:=Xa (Xi (Xb ?_)))
     exact Agn
end
section
set_option maxRecDepth 100000
def rdI (s:Bs):Int:=match Abx s with | some n=>(n:Int) | none=>-1
theorem AnS {G:Prop} (h:G:=by
    rw[hi,if_pos (by omega)] at hd
    refine Aa2 () (vs:=[_]) rfl (.tmp rfl .nil) ?_ trivial Aab
    simp[AeJ,hd,Ajj]):G:=h
theorem Amc {G:Prop} (h:G:=by
    have hjs:j=s.length:=by omega
    subst hjs
    rw[List.drop_length,dn2] at hi
    have hc:s.length=0∨(1<s.length∧s.getD 0 0=48):=by
     first
     | exact .inl (by omega)
     | exact .inr ⟨by omega,UInt8.toNat_inj.1 (by simp only[UInt8.reduceToNat];omega)⟩
    refine Aa2 () (vs:=[_]) rfl (.tmp rfl .nil) ?_ trivial Aab
    simp only[AeJ,←hi,if_pos hc]
    rfl):G:=h
theorem Amb {G:Prop} (h:G:=by
    have hjs:j=s.length:=by omega
    subst hjs
    rw[List.drop_length,dn2] at hi
    have hc:¬(s.length=0∨(1<s.length∧s.getD 0 0=48)):=by
     rintro(e | ⟨e1,e2⟩)
     · omega
     · have:=congrArg UInt8.toNat e2
       simp only[UInt8.reduceToNat] at this
       first | omega | (simp_all;done)
    refine Aa2 () (vs:=[_]) rfl (.tmp rfl .nil) ?_ trivial Aab
    simp only[AeJ,←hi,if_neg hc]
    rfl):G:=h
theorem Ak0 (s:List UInt8) (hs:s.length≤140737488355328):SpF Tryz.prog 70 [vS s] (vI (rdI s)):=by
 have hq:rdI s=(match AeJ s with | some n=>(n:Int) | none=>-1):=by rw[rdI,Aor]
 rw[hq]
 refine Sp.body (n:=45) Tryz.call70 Tryz.func70 rfl rfl rfl ?_
 refine Qc (k:=Vv (k:=Wq (Qc (k:=Vv (k:=Wq (Za (k:=Qc (k:=Vv (k:=?_)))))))))
 refine Wq (Zb (k:=?_))
 refine Aan (fun (i:{ p:Nat×Nat // dn2 (s.drop p.1) p.2=dn2 s 0∧p.1≤s.length∧p.2≤1073741824 })=>[(0,vS s),(4,vI i.1.1),(3,vI i.1.2)]) (fun (i:{ p:Nat×Nat // dn2 (s.drop p.1) p.2=dn2 s 0∧p.1≤s.length∧p.2≤1073741824 })=>[]) (fun (i:{ p:Nat×Nat // dn2 (s.drop p.1) p.2=dn2 s 0∧p.1≤s.length∧p.2≤1073741824 })=>s.length-i.1.1) rfl (⟨(0,0),rfl,Nat.zero_le _,by omega⟩) ?_ ?_ (fun i=>?_)
 · exact⟨rfl,rfl,rfl,trivial⟩
 ·
  exact Aa0
 obtain⟨⟨j,n⟩,hi,hj,hn⟩:=i
 dsimp only at hi hj hn
 try dsimp only
 refine Za (k:=Qc (k:=Qv (k:=Qv (k:=Wq (Zi (t:=fun h8=>?_) (f:=fun h8=>?_))))))
 ·
  refine Zk (k:=Ya (Za (k:=Zb (k:=Za (k:=Za (k:=?_))))))
  have hd:=At7 (s:=s) (i:=j) (by omega) n
  refine Zr (k:=Qv (k:=Qv (k:=Vv (k:=Gi 4 (t:=fun h15=>?_) (f:=fun h15=>?_)))))
  ·
   refine O1 (k:=O1 (k:=O1 (k:=O1 (k:=P1 (k:=Wq (Z1 (k:=Qc (k:=Vv (k:=Wq (Zt (k:=?_)))))))))))
   refine Va (Vb (Va (Vi (Vb (Va ?_)))))
   exact AnS
  ·
   refine J0 (k:=J0 (k:=J0 (k:=J0 (k:=P0 (k:=Wq (Zi (t:=fun h20=>?_) (f:=fun h20=>?_)))))))
   ·
    refine Qc (k:=Vv (k:=Wq (Zt (k:=Va (Vb (Va (Vi (Vb (Va ?_)))))))))
    exact AnS
   ·
    refine Zk (k:=Ya (Qc (k:=Qv (k:=Qv (k:=Vv (k:=?_))))))
    refine Aa5 (by first | exact Aqx rfl rfl (by omega) | exact Aeq rfl rfl) rfl ?_
    refine Aa5 (AfW rfl Tryz.underlying5 Tryz.underlying3 (by first | exact Amv _ | exact wrap_u8 _ | exact i64_in' (by omega))) rfl ?_
    refine Qv (k:=Wq (Qc (k:=Qv (k:=Wq (Zi (t:=fun h30=>?_) (f:=fun h30=>?_))))))
    ·
     refine Qc (k:=Vv (k:=Wq (Zt (k:=Vb (Va (Vi (Vb (Va ?_))))))))
     rw[hi,if_neg (by omega),if_pos (by omega)] at hd
     refine Aa2 () (vs:=[_]) rfl (.tmp rfl .nil) ?_ trivial Aab
     simp[AeJ,hd,Ajj]
    ·
     refine Zk (k:=Yb (Ya (Zr (k:=Qv (k:=Vv (k:=Wn ?_))))))
     rw[hi,if_neg (by omega),if_neg (by omega)] at hd
     refine Aa6 ⟨(j+1,10 * n+((s.getD j 0).toNat-48)),hd.symm,?_,?_⟩ ?_ ⟨rfl,rfl,?_,trivial⟩ Aab
     · dsimp only;omega
     · dsimp only;omega
     · dsimp only;omega
     · exact Aei (by dsimp only;omega)
 ·
  refine Ze (k:=Xa (Xi (Xb (Ya (Za (k:=Qc (k:=Qv (k:=Qv (k:=?_)))))))))
  refine Gi 3 (t:=fun h34=>?_) (f:=fun h34=>?_)
  ·
   refine O1 (k:=O1 (k:=O1 (k:=O1 (k:=Ou (k:=Ou (k:=Ou (k:=O1 (k:=P1 (k:=Wq (Z1 (k:=Za (k:=?_))))))))))))
   refine Zr (k:=Vv (k:=Wq (Zt (k:=Va ?_))))
   exact Amc
  ·
   refine J0 (k:=J0 (k:=J0 (k:=J0 (k:=Gi 7 (t:=fun h38=>?_) (f:=fun h38=>?_)))))
   ·
    refine J1 (k:=I1 (k:=?_))
    refine Aa5 (Abj (m:=0) Tryz.underlying9 rfl rfl rfl (by omega)) rfl ?_
    refine J1 (k:=I0 (k:=P1 (k:=P0 (k:=Wq (Zi (t:=fun h43=>?_) (f:=fun h43=>?_))))))
    ·
     refine Qc (k:=Vv (k:=Wq (Zt (k:=Va ?_))))
     exact Amc
    ·
     refine Zk (k:=Ya (Qc (k:=Qv (k:=Wq (Zt (k:=?_))))))
     exact Amb
   ·
    refine O0 (k:=O0 (k:=O0 (k:=I0 (k:=P0 (k:=P0 (k:=Wq (Z0 (k:=Zk (k:=Ya (Qc (k:=?_)))))))))))
    refine Qv (k:=Wq (Zt (k:=?_)))
    exact Amb
end
structure Tg where
 kind:UInt8
 name:Bs
 target:Bs
 value:Bs
 deriving DecidableEq,Repr
def tg0:Tg:=⟨0,[],[],[]⟩
structure Ck where
 base:Bs
 comment:Bs
 date:Int
 files:List (Bs×Bs)
 parents:List Bs
 tags:List Tg
 user:Bs
 deriving DecidableEq,Repr
def ck0:Ck:=⟨[],[],0,[],[],[],[]⟩
structure OkT (own:Bool) (l:List Tg) (i:Nat):Prop where
 kind:(l.getD i tg0).kind.toNat=43∨(l.getD i tg0).kind.toNat=42∨((l.getD i tg0).kind.toNat=45∧(l.getD i tg0).value=[])
 name:Ac3 (l.getD i tg0).name
 val:(l.getD i tg0).value.length≤12
 tgt:(own=true→(l.getD i tg0).target=[42])∧(own=false→isN (l.getD i tg0).target=true)
 rise:0<i→(blt (l.getD (i-1) tg0).name (l.getD i tg0).name=true∨(l.getD (i-1) tg0).name=(l.getD i tg0).name)∧((l.getD (i-1) tg0).name=(l.getD i tg0).name→blt (l.getD (i-1) tg0).target (l.getD i tg0).target=true)
structure Ad9 (own:Bool) (l:List Tg):Prop where
 ok:∀i,i<l.length→OkT own l i
 len:l.length≤12
structure OkF (whole:Bool) (l:List (Bs×Bs)) (i:Nat):Prop where
 name:Ac3 (l.getD i ([],[])).1
 rise:0<i→blt (l.getD (i-1) ([],[])).1 (l.getD i ([],[])).1=true
 hash:isN (l.getD i ([],[])).2=true∨(whole=false∧(l.getD i ([],[])).2=[])
structure Ai6 (whole:Bool) (l:List (Bs×Bs)):Prop where
 ok:∀i,i<l.length→OkF whole l i
 len:l.length≤12
structure AjA (l:List Bs) (most:Int):Prop where
 ok:∀i,i<l.length→isN (l.getD i [])=true∧l.getD i []∉l.take i
 len:(l.length:Int)≤most
instance (own:Bool) (l:List Tg) (i:Nat):Decidable (OkT own l i):=decidable_of_iff (((l.getD i tg0).kind.toNat=43∨(l.getD i tg0).kind.toNat=42∨((l.getD i tg0).kind.toNat=45∧(l.getD i tg0).value=[]))∧Ac3 (l.getD i tg0).name∧(l.getD i tg0).value.length≤12∧((own=true→(l.getD i tg0).target=[42])∧(own=false→isN (l.getD i tg0).target=true))∧(0<i→(blt (l.getD (i-1) tg0).name (l.getD i tg0).name=true∨(l.getD (i-1) tg0).name=(l.getD i tg0).name)∧((l.getD (i-1) tg0).name=(l.getD i tg0).name→blt (l.getD (i-1) tg0).target (l.getD i tg0).target=true))) ⟨fun ⟨a,b,c,d,e⟩=>⟨a,b,c,d,e⟩,fun ⟨a,b,c,d,e⟩=>⟨a,b,c,d,e⟩⟩
instance (own:Bool) (l:List Tg):Decidable (Ad9 own l):=decidable_of_iff ((∀i,i<l.length→OkT own l i)∧l.length≤12) ⟨fun ⟨a,b⟩=>⟨a,b⟩,fun ⟨a,b⟩=>⟨a,b⟩⟩
instance (w:Bool) (l:List (Bs×Bs)) (i:Nat):Decidable (OkF w l i):=decidable_of_iff (Ac3 (l.getD i ([],[])).1∧(0<i→blt (l.getD (i-1) ([],[])).1 (l.getD i ([],[])).1=true)∧(isN (l.getD i ([],[])).2=true∨(w=false∧(l.getD i ([],[])).2=[]))) ⟨fun ⟨a,b,c⟩=>⟨a,b,c⟩,fun ⟨a,b,c⟩=>⟨a,b,c⟩⟩
instance (w:Bool) (l:List (Bs×Bs)):Decidable (Ai6 w l):=decidable_of_iff ((∀i,i<l.length→OkF w l i)∧l.length≤12) ⟨fun ⟨a,b⟩=>⟨a,b⟩,fun ⟨a,b⟩=>⟨a,b⟩⟩
instance (l:List Bs) (m:Int):Decidable (AjA l m):=decidable_of_iff ((∀i,i<l.length→isN (l.getD i [])=true∧l.getD i []∉l.take i)∧(l.length:Int)≤m) ⟨fun ⟨a,b⟩=>⟨a,b⟩,fun ⟨a,b⟩=>⟨a,b⟩⟩
structure Abo (c:Ck):Prop where
 base:c.base=[]∨isN c.base=true
 comment:c.comment.length≤40
 date:0≤c.date∧c.date≤1073741824
 files:Ai6 (decide (c.base=[])) c.files
 parents:AjA c.parents 3
 tags:Ad9 true c.tags
 user:Ac3 c.user
instance (c:Ck):Decidable (Abo c):=decidable_of_iff ((c.base=[]∨isN c.base=true)∧c.comment.length≤40∧(0≤c.date∧c.date≤1073741824)∧Ai6 (decide (c.base=[])) c.files∧AjA c.parents 3∧Ad9 true c.tags∧Ac3 c.user) ⟨fun ⟨a,b,c,d,e,f,g⟩=>⟨a,b,c,d,e,f,g⟩,fun ⟨a,b,c,d,e,f,g⟩=>⟨a,b,c,d,e,f,g⟩⟩
def AaB (t:Tg):Cd:=⟨84,[t.kind::t.name,t.target]++if t.value=[] then [] else [Aba t.value]⟩
def AaF (f:Bs×Bs):Cd:=⟨70,if f.2=[] then [f.1] else [f.1,f.2]⟩
def Ab7 (b:Bs):List Cd:=if b=[] then [] else [⟨66,[b]⟩]
def Abn (l:List Bs):List Cd:=if l=[] then [] else [⟨80,l⟩]
def AaD (c:Ck):List Cd:=Ab7 c.base++[⟨67,[46::Aba c.comment]⟩,⟨68,[AaP c.date.toNat]⟩]++c.files.map AaF++Abn c.parents++(c.tags.map AaB++[⟨85,[c.user]⟩])
def ckB (c:Ck):Bs:=AcD (AaD c)
/-! Right check-ins' cards are right. -/
theorem Ahf {s:Bs} (h:isN s=true):AbI s:=by
 have:=of_decide_eq_true h
 exact Av8 this.1 this.2
theorem Adt {s:Bs} (h:isN s=true):s.length=40:=(of_decide_eq_true h).1
theorem Ap3:∀(n:Nat),AaP n≠[]∧∀c∈AaP n,48≤c.toNat∧c.toNat≤57:=by
 intro n
 induction n using Nat.strongRecOn with
 | _ n ih =>
   rw[AaP]
   split
   · refine⟨by simp,fun c hc=>?_⟩
     rw[List.mem_singleton.1 hc,AdL];omega
   · refine⟨by simp,fun c hc=>?_⟩
     rcases List.mem_append.1 hc with hc | hc
     · exact(ih (n / 10) (by omega)).2 c hc
     · rw[List.mem_singleton.1 hc,AdL];omega
theorem Auh:∀(k n:Nat),n<10 ^ k→(AaP n).length≤k∨k=0:=by
 intro k
 induction k with
 | zero=>intros;exact .inr rfl
 | succ k ih =>
   intro n h
   left
   rw[AaP]
   split
   · simp
   · rw[List.length_append,List.length_singleton]
     rw[Nat.pow_succ] at h
     rcases ih (n / 10) (by omega) with h1 | h1
     · omega
     · subst h1;omega
theorem AqN {n:Nat} (h:n≤1073741824):(AaP n).length≤10:=by
 rcases Auh 10 n (by omega) with h | h<;>omega
theorem Alq (n:Nat):AbI (AaP n):=argOk_iff.2 ⟨fun e=>(Ap3 n).1 (List.eq_nil_of_length_eq_zero e),fun d hd=>by have:=(Ap3 n).2 d hd;omega⟩
theorem Alx {c:UInt8} {s:Bs} (hc:c.toNat≠32∧c.toNat≠10) (h:∀d∈s,d.toNat≠32∧d.toNat≠10):AbI (c::s):=argOk_iff.2 ⟨by simp,fun d hd=>by
 rcases List.mem_cons.1 hd with rfl | hd
 · exact hc
 · exact h d hd⟩
theorem Atr {s:Bs} (h:Ac3 s):∀d∈s,d.toNat≠32∧d.toNat≠10:=fun d hd=>by have:=h.1 d hd;omega
theorem Amx {own:Bool} {l:List Tg} (h:Ad9 own l):∀t∈l,∀a∈(AaB t).args,AbI a:=by
 intro t ht a ha
 obtain⟨i,hi,rfl⟩:=Abs (d:=tg0) ht
 obtain⟨hk,o2,_,o4,_⟩:=h.ok i hi
 generalize l.getD i tg0=t at hk o2 o4 ha
 have hn:=Atr o2
 have ht2:AbI t.target:=by
  cases own with
  | true=>rw[o4.1 rfl];exact⟨by simp,by decide,by decide⟩
  | false=>exact Ahf (o4.2 rfl)
 simp only[AaB,List.mem_append,List.mem_cons,List.not_mem_nil,or_false] at ha
 rcases ha with (rfl | rfl) | ha
 · exact Alx (by omega) hn
 · exact ht2
 · split at ha
   · cases ha
   · rename_i hv
     rw[List.mem_singleton.1 ha];exact ArL hv
theorem Ajf {k:Nat} {l m:List Cd} (h1:∀a∈l,a.l.toNat≤k) (h2:∀b∈m,k≤b.l.toNat) (p1:l.Pairwise (fun a b=>a.l.toNat≤b.l.toNat)) (p2:m.Pairwise (fun a b=>a.l.toNat≤b.l.toNat)):(l++m).Pairwise (fun a b=>a.l.toNat≤b.l.toNat):=by
 rw[List.pairwise_append]
 exact⟨p1,p2,fun a ha b hb=>Nat.le_trans (h1 a ha) (h2 b hb)⟩
theorem Afu {l:List Cd} {k:Nat} (h:∀a∈l,a.l.toNat=k):l.Pairwise (fun a b=>a.l.toNat≤b.l.toNat):=by
 rw[List.pairwise_iff_getElem]
 intro i j hi hj _
 rw[h _ (List.getElem_mem hi),h _ (List.getElem_mem hj)]
 exact Nat.le_refl _
theorem AdN (b:Bs):∀a∈Ab7 b,a.l.toNat=66:=by unfold Ab7;split<;>simp
theorem AfX (l:List Bs):∀a∈Abn l,a.l.toNat=80:=by unfold Abn;split<;>simp
theorem AeS (l:List (Bs×Bs)):∀a∈l.map AaF,a.l.toNat=70:=by
 intro a ha;obtain⟨f,_,rfl⟩:=List.mem_map.1 ha;rfl
theorem AhJ (l:List Tg):∀a∈l.map AaB,a.l.toNat=84:=by
 intro a ha;obtain⟨f,_,rfl⟩:=List.mem_map.1 ha;rfl
theorem Ao5 (l:List Tg) (u:Bs):(∀a∈l.map AaB++[(⟨85,[u]⟩:Cd)],84≤a.l.toNat∧a.l.toNat≤85)∧(l.map AaB++[(⟨85,[u]⟩:Cd)]).Pairwise (fun a b=>a.l.toNat≤b.l.toNat):=by
 have h1:∀a∈[(⟨85,[u]⟩:Cd)],a.l.toNat=85:=by simp
 refine⟨fun a ha=>?_,Ajf (k:=84) (fun a ha=>by rw[AhJ l a ha];exact Nat.le_refl _) (fun b hb=>by rw[h1 b hb];decide) (Afu (AhJ l)) (Afu h1)⟩
 rcases List.mem_append.1 ha with ha | ha
 · rw[AhJ l a ha];decide
 · rw[h1 a ha];decide
theorem Aeo {c:Ck} (h:Abo c):RightC (AaD c):=by
 have htu:=Ao5 c.tags c.user
 have hcd:∀a∈[(⟨67,[46::Aba c.comment]⟩:Cd),⟨68,[AaP c.date.toNat]⟩],a.l.toNat=67∨a.l.toNat=68:=by simp
 have hcdp:[(⟨67,[46::Aba c.comment]⟩:Cd),⟨68,[AaP c.date.toNat]⟩].Pairwise (fun a b=>a.l.toNat≤b.l.toNat):=by simp
 refine RightC.mk' (by simp[AaD]) ?_ ?_ ?_
 · intro a ha
   unfold AaD at ha
   rw[List.mem_append] at ha
   rcases ha with ha | ha
   · rw [List.mem_append] at ha
     rcases ha with ha | ha
     · rw [List.mem_append] at ha
       rcases ha with ha | ha
       · rw[List.mem_append] at ha
         rcases ha with ha | ha
         · rw[AdN _ a ha];decide
         · rcases hcd a ha with e | e<;>rw[e]<;>decide
       · rw[AeS _ a ha];decide
     · rw[AfX _ a ha];decide
   · have:=htu.1 a ha;omega
 · intro a ha x hx
   unfold AaD at ha
   rw[List.mem_append] at ha
   rcases ha with ha | ha
   · rw [List.mem_append] at ha
     rcases ha with ha | ha
     · rw [List.mem_append] at ha
       rcases ha with ha | ha
       · rw [List.mem_append] at ha
         rcases ha with ha | ha
         · unfold Ab7 at ha
           split at ha
           · cases ha
           · rename_i hb
             rw[List.mem_singleton.1 ha] at hx
             rw[List.mem_singleton.1 hx]
             exact Ahf (h.base.resolve_left hb)
         · simp only[List.mem_cons,List.not_mem_nil,or_false] at ha
           rcases ha with rfl | rfl
           · rw[List.mem_singleton.1 hx];exact Alx (by decide) (AqL _)
           · rw[List.mem_singleton.1 hx];exact Alq _
       · obtain ⟨f,hf,rfl⟩:=List.mem_map.1 ha
         obtain⟨i,hi,rfl⟩:=Abs (d:=([],[])) hf
         obtain⟨o1,_,o3⟩:=h.files.ok i hi
         generalize c.files.getD i ([],[])=f at o1 o3 hx
         unfold AaF at hx
         dsimp only at hx
         split at hx
         · rw[List.mem_singleton.1 hx];exact Aic o1
         · rename_i hf2
           simp only[List.mem_cons,List.not_mem_nil,or_false] at hx
           rcases hx with rfl | rfl
           · exact Aic o1
           · exact Ahf (o3.resolve_right (fun e=>hf2 e.2))
     · unfold Abn at ha
       split at ha
       · cases ha
       · rw[List.mem_singleton.1 ha] at hx
         obtain⟨i,hi,rfl⟩:=Abs (d:=[]) hx
         exact Ahf (h.parents.ok i hi).1
   · rw [List.mem_append] at ha
     rcases ha with ha | ha
     · obtain⟨t,ht,rfl⟩:=List.mem_map.1 ha
       exact Amx h.tags t ht x hx
     · rw[List.mem_singleton.1 ha] at hx
       rw[List.mem_singleton.1 hx];exact Aic h.user
 · unfold AaD
   refine Ajf (k:=80) (fun a ha=>?_) (fun a ha=>by have:=htu.1 a ha;omega) ?_ htu.2
   · rw [List.mem_append] at ha
     rcases ha with ha | ha
     · rw [List.mem_append] at ha
       rcases ha with ha | ha
       · rw[List.mem_append] at ha
         rcases ha with ha | ha
         · rw[AdN _ a ha];decide
         · rcases hcd a ha with e | e<;>rw[e]<;>decide
       · rw[AeS _ a ha];decide
     · rw[AfX _ a ha];exact Nat.le_refl _
   · refine Ajf (k:=70) (fun a ha=>?_) (fun a ha=>by rw[AfX _ a ha];decide) ?_ (Afu (AfX _))
     · rw [List.mem_append] at ha
       rcases ha with ha | ha
       · rw[List.mem_append] at ha
         rcases ha with ha | ha
         · rw[AdN _ a ha];decide
         · rcases hcd a ha with e | e<;>rw[e]<;>decide
       · rw[AeS _ a ha];exact Nat.le_refl _
     · refine Ajf (k:=68) (fun a ha=>?_) (fun a ha=>by rw[AeS _ a ha];decide) ?_ (Afu (AeS _))
       · rw[List.mem_append] at ha
         rcases ha with ha | ha
         · rw[AdN _ a ha];decide
         · rcases hcd a ha with e | e<;>rw[e]<;>decide
       · exact Ajf (k:=66) (fun a ha=>by rw[AdN _ a ha];exact Nat.le_refl _) (fun a ha=>by rcases hcd a ha with e | e<;>rw[e]<;>decide) (Afu (AdN _)) hcdp
section
open Classical in
noncomputable def the {α:Type} (R:α→Prop):Option α:=if h:∃a,R a then some h.choose else none
theorem Aqv {α:Type} {R:α→Prop} (u:∀a b,R a→R b→a=b) {a:α}:the R=some a↔R a:=by
 unfold the
 split
 · rename_i h
   simp only[Option.some.injEq]
   exact⟨fun e=>e▸h.choose_spec,fun k=>u _ _ h.choose_spec k⟩
 · rename_i h
   simp only[reduceCtorEq,false_iff]
   exact fun k=>h ⟨a,k⟩
theorem AeG {α:Type} {R:α→Prop} (h:∀a,¬R a):the R=none:=by
 unfold the
 rw[dif_neg (fun ⟨a,e⟩=>h a e)]
def Aa7 (x:UInt8) (l:List Cd):List (List Bs):=(l.filter (fun c=>c.l=x)).map (·.args)
theorem Ad8 (x:UInt8) (l m:List Cd):Aa7 x (l++m)=Aa7 x l++Aa7 x m:=by simp[Aa7]
theorem Ai5 {α:Type} (x y:UInt8) (f:α→Cd) (h:∀a,(f a).l=y) (l:List α):Aa7 x (l.map f)=if y=x then l.map (fun a=>(f a).args) else []:=by
 induction l with
 | nil=>simp[Aa7]
 | cons a l ih =>
   simp only[Aa7,List.map_cons,List.filter_cons,h a] at ih ⊢
   by_cases e:y=x
   · rw[if_pos e] at ih ⊢;simp[e,ih]
   · rw[if_neg e] at ih ⊢;simp[e,ih]
def AbE (l:List (List Bs)):Option Bs:=match l with
 | [[a]]=>some a
 | _=>none
def Aii (xs:List Bs):Option Tg :=
 if xs.length<2∨3<xs.length∨(xs.getD 0 []).length<2 then none
 else if xs.length=3 then (Aax (xs.getD 2 [])).map (fun v=>⟨(xs.getD 0 []).getD 0 0,(xs.getD 0 []).drop 1,xs.getD 1 [],v⟩)
 else some ⟨(xs.getD 0 []).getD 0 0,(xs.getD 0 []).drop 1,xs.getD 1 [],[]⟩
def AaM:List (List Bs)→Option (List Tg)
 | []=>some []
 | x::r=>match Aii x with
   | none=>none
   | some t=>(AaM r).map (t::·)
def AiH (xs:List Bs):Bs×Bs:=if xs.length=2 then (xs.getD 0 [],xs.getD 1 []) else if xs.length=1 then (xs.getD 0 [],[]) else ([],[])
def AoE (l:List Cd):Option Ck:=match AbE (Aa7 67 l),AbE (Aa7 68 l),AbE (Aa7 85 l) with
 | some said,some date,some user=>match Aax (Lib.trimPrefix said [46]),Abx date,AaM (Aa7 84 l) with
   | some text,some day,some tags=>some ⟨(AbE (Aa7 66 l)).getD [],text,day,(Aa7 70 l).map AiH,(Aa7 80 l).headD [],tags,user⟩
   | _,_,_=>none
 | _,_,_=>none
theorem Aj5 {own:Bool} {l:List Tg} (h:Ad9 own l):∀t∈l,Aii (AaB t).args=some t:=by
 intro t ht
 obtain⟨i,hi,rfl⟩:=Abs (d:=tg0) ht
 obtain⟨o1,o2,_,_,_⟩:=h.ok i hi
 generalize l.getD i tg0=t at o1 o2
 obtain⟨k,n,tt,v⟩:=t
 dsimp only at o1 o2
 have hn:=o2.2.1
 unfold AaB
 dsimp only
 by_cases hv:v=[]
 · subst hv
   simp only[if_true,List.append_nil,Aii]
   rw[if_neg (by simp;omega),if_neg (by simp)]
   rfl
 · rw[if_neg hv]
   simp only[Aii]
   rw[if_neg (by simp;omega),if_pos (by simp)]
   simp[Aj3]
theorem Ajd {l:List Tg} (h:∀t∈l,Aii (AaB t).args=some t):AaM (l.map (fun t=>(AaB t).args))=some l:=by
 induction l with
 | nil=>rfl
 | cons t l ih =>
   simp only[List.map_cons,AaM]
   rw[h t (by simp),ih fun x hx=>h x (by simp[hx])]
   rfl
theorem Arw (f:Bs×Bs):AiH (AaF f).args=f:=by
 unfold AaF
 dsimp only
 split
 · rename_i h
   obtain⟨a,b⟩:=f
   dsimp only at h
   subst h
   rfl
 · rfl
theorem As2 (e:Bs):Lib.trimPrefix (46::e) [46]=e:=by simp[Lib.trimPrefix,Lib.hasPrefix]
theorem AdO (x:UInt8) (c:Ck):Aa7 x (AaD c)=Aa7 x (Ab7 c.base)++(Aa7 x [⟨67,[46::Aba c.comment]⟩,⟨68,[AaP c.date.toNat]⟩]++((if (70:UInt8)=x then c.files.map (fun f=>(AaF f).args) else [])++(Aa7 x (Abn c.parents)++((if (84:UInt8)=x then c.tags.map (fun t=>(AaB t).args) else [])++Aa7 x [⟨85,[c.user]⟩])))):=by
 unfold AaD
 rw[Ad8,Ad8,Ad8,Ad8,Ad8,Ai5 x 70 AaF (fun _=>rfl),Ai5 x 84 AaB (fun _=>rfl)]
 simp only[List.append_assoc]
theorem AeY (x:UInt8) (b:Bs):Aa7 x (Ab7 b)=if (66:UInt8)=x∧b≠[] then [[b]] else []:=by
 unfold Ab7
 by_cases h:b=[]
 · simp[h,Aa7]
 · by_cases h2:(66:UInt8)=x<;>simp[h,Aa7,h2]
theorem AeX (x:UInt8) (l:List Bs):Aa7 x (Abn l)=if (80:UInt8)=x∧l≠[] then [l] else []:=by
 unfold Abn
 by_cases h:l=[]
 · simp[h,Aa7]
 · by_cases h2:(80:UInt8)=x<;>simp[h,Aa7,h2]
theorem ArJ (c:Ck):Aa7 67 (AaD c)=[[46::Aba c.comment]]:=by rw[AdO,AeY,AeX];simp[Aa7]
theorem ArI (c:Ck):Aa7 68 (AaD c)=[[AaP c.date.toNat]]:=by rw[AdO,AeY,AeX];simp[Aa7]
theorem ArF (c:Ck):Aa7 85 (AaD c)=[[c.user]]:=by rw[AdO,AeY,AeX];simp[Aa7]
theorem AmX (c:Ck):Aa7 84 (AaD c)=c.tags.map (fun t=>(AaB t).args):=by rw[AdO,AeY,AeX];simp[Aa7]
theorem ArH (c:Ck):Aa7 70 (AaD c)=c.files.map (fun f=>(AaF f).args):=by rw[AdO,AeY,AeX];simp[Aa7]
theorem ArK (c:Ck):Aa7 66 (AaD c)=if c.base=[] then [] else [[c.base]]:=by
 rw[AdO,AeY,AeX]
 by_cases h:c.base=[]<;>simp[Aa7,h]
theorem ArG (c:Ck):Aa7 80 (AaD c)=if c.parents=[] then [] else [c.parents]:=by
 rw[AdO,AeY,AeX]
 by_cases h:c.parents=[]<;>simp[Aa7,h]
theorem Af7 {c:Ck} (h:Abo c):AoE (AaD c)=some c:=by
 unfold AoE
 rw[ArJ,ArI,ArF,AmX,ArH,ArK,ArG]
 have hd:=h.date
 simp only[AbE]
 rw[As2,Aj3,AhQ (by omega),Ajd (Aj5 h.tags)]
 simp only[List.map_map]
 have h1:(c.files.map (AiH ∘ fun f=>(AaF f).args))=c.files:=by
  have:(AiH ∘ fun f=>(AaF f).args)=id:=by funext f;exact Arw f
  rw[this,List.map_id]
 rw[h1]
 obtain⟨b,co,d,f,p,t,u⟩:=c
 dsimp only at hd ⊢
 have h2:((d.toNat:Nat):Int)=d:=by omega
 rw[h2]
 by_cases hb:b=[]
 · by_cases hp:p=[]<;>simp[hb,hp]
 · by_cases hp:p=[]<;>simp[hb,hp]
def ReadsK (s:Bs) (c:Ck):Prop:=Abo c∧ckB c=s
theorem ReadsK.reads {s:Bs} {c:Ck} (h:ReadsK s c):ReadsC s (AaD c):=⟨Aeo h.1,h.2⟩
theorem ReadsK.uniq {s:Bs} (a b:Ck) (h:ReadsK s a) (k:ReadsK s b):a=b:=by
 have e:=h.reads.uniq k.reads
 have:=Af7 h.1
 rw[e,Af7 k.1] at this
 exact(Option.some.inj this).symm
noncomputable def Abf (s:Bs):Option Ck:=the (ReadsK s)
theorem readK_iff {s:Bs} {c:Ck}:Abf s=some c↔ReadsK s c:=Aqv ReadsK.uniq
/-! As the document reads. -/
def Adh (c:Ck) (x:Cd):Option Ck :=
 if x.l=66∧x.args.length=1 then some { c with base:=x.args.getD 0 [] }
 else if x.l=67∧x.args.length=1∧((x.args.getD 0 []).getD 0 0)=46 then (Aax ((x.args.getD 0 []).drop 1)).map (fun t=>{ c with comment:=t })
 else if x.l=68∧x.args.length=1 then some { c with date:=rdI (x.args.getD 0 []) }
 else if x.l=70∧x.args.length=1 then some { c with files:=c.files++[(x.args.getD 0 [],[])] }
 else if x.l=70∧x.args.length=2 then some { c with files:=c.files++[(x.args.getD 0 [],x.args.getD 1 [])] }
 else if x.l=80 then some { c with parents:=x.args }
 else if x.l=84 then some c
 else if x.l=85∧x.args.length=1 then some { c with user:=x.args.getD 0 [] }
 else none
def AaW:List Cd→Ck→Option Ck
 | [],c=>some c
 | x::r,c=>match Adh c x with
   | none=>none
   | some c'=>AaW r c'
theorem AcB (l m:List Cd) (c:Ck):AaW (l++m) c=(AaW l c).bind (AaW m):=by
 induction l generalizing c with
 | nil=>rfl
 | cons x l ih =>
   simp only[List.cons_append,AaW]
   cases Adh c x with
   | none=>rfl
   | some c'=>exact ih c'
theorem AlL (l:List (Bs×Bs)) (c:Ck):AaW (l.map AaF) c=some { c with files:=c.files++l }:=by
 induction l generalizing c with
 | nil=>simp[AaW]
 | cons f l ih =>
   have e:Adh c (AaF f)=some { c with files:=c.files++[f] }:=by
    unfold AaF
    try dsimp only
    split
    · rename_i h
      obtain⟨a,b⟩:=f
      dsimp only at h
      subst h
      simp[Adh]
    · simp[Adh]
   simp only[List.map_cons,AaW,e]
   rw[ih];simp
theorem Anj (l:List Tg) (c:Ck):AaW (l.map AaB) c=some c:=by
 induction l generalizing c with
 | nil=>rfl
 | cons t l ih =>
   have e:Adh c (AaB t)=some c:=by
    have hl:(AaB t).l=84:=rfl
    have h1:(AaB t).args.length≠1:=by simp[AaB]
    simp[Adh,hl]
   simp only[List.map_cons,AaW,e]
   exact ih c
theorem Asp {n:Int} (h:0≤n∧n≤1073741824):rdI (AaP n.toNat)=n:=by
 rw[rdI,AhQ (by omega)]
 dsimp only;omega
def AkU (l:List Cd):Option Ck:=match AaM (Aa7 84 l) with
 | none=>none
 | some tags=>AaW l { ck0 with tags:=tags }
theorem AjI {c:Ck} (h:Abo c):AkU (AaD c)=some c:=by
 unfold AkU
 rw[AmX,Ajd (Aj5 h.tags)]
 dsimp only
 unfold AaD
 have hd:=Asp h.date
 obtain⟨b,co,d,f,p,t,u⟩:=c
 dsimp only at hd ⊢
 have hb:∀k:Ck,AaW (Ab7 b) k=some (if b=[] then k else { k with base:=b }):=by
  intro k
  unfold Ab7
  by_cases e:b=[]
  · simp[e,AaW]
  · simp[e,AaW,Adh]
 have hp:∀k:Ck,AaW (Abn p) k=some (if p=[] then k else { k with parents:=p }):=by
  intro k
  unfold Abn
  by_cases e:p=[]
  · simp[e,AaW]
  · simp[e,AaW,Adh]
 have hcd:∀k:Ck,AaW [⟨67,[46::Aba co]⟩,⟨68,[AaP d.toNat]⟩] k=some { k with comment:=co,date:=d }:=by
  intro k
  simp[AaW,Adh,Aj3,hd]
 have hu:∀k:Ck,AaW [⟨85,[u]⟩] k=some { k with user:=u }:=by
  intro k;simp[AaW,Adh]
 rw[AcB,AcB,AcB,AcB,hb,Option.bind_some,hcd,Option.bind_some,AlL,Option.bind_some,hp,Option.bind_some,AcB,Anj,Option.bind_some,hu]
 by_cases e1:b=[]
 · by_cases e2:p=[]<;>simp[e1,e2,ck0]
 · by_cases e2:p=[]<;>simp[e1,e2,ck0]
/-! Sizes. -/
theorem Ai4 {l:List Cd} {k:Nat} (h:∀c∈l,(Ac5 c).length≤k):(Aau l).length≤k * l.length:=by
 induction l with
 | nil=>simp[Aau]
 | cons c l ih =>
   have e:Aau (c::l)=Ac5 c++Aau l:=by simp[Aau]
   have h1:=h c (by simp)
   have h2:=ih fun x hx=>h x (by simp[hx])
   rw[e,List.length_append,List.length_cons,Nat.mul_add];omega
theorem Adm (x:UInt8) (a:Bs):(Ac5 ⟨x,[a]⟩).length=a.length+3:=by simp[Ac5,Aby,AaH]
theorem Aoa {own:Bool} {l:List Tg} (h:Ad9 own l):∀t∈l,(Ac5 (AaB t)).length≤200:=by
 intro t ht
 obtain⟨i,hi,rfl⟩:=Abs (d:=tg0) ht
 obtain⟨_,o2,o3,o4,_⟩:=h.ok i hi
 generalize l.getD i tg0=t at o2 o3 o4
 have h1:=o2.2.2
 have h2:t.target.length≤40:=by
  cases own with
  | true=>rw[o4.1 rfl];decide
  | false=>rw[Adt (o4.2 rfl)];exact Nat.le_refl _
 have h3:=(Ae8 t.value).2
 unfold AaB
 split
 · simp[Ac5,Aby,AaH];omega
 · simp[Ac5,Aby,AaH];omega
theorem Ae9 {c:Ck} (h:Abo c):(Aau (AaD c)).length≤10000:=by
 have hb:∀x∈Ab7 c.base,(Ac5 x).length≤200:=by
  unfold Ab7
  split
  · simp
  · rename_i e
    intro x hx
    rw[List.mem_singleton.1 hx,Adm,Adt (h.base.resolve_left e)];decide
 have hcd:∀x∈[(⟨67,[46::Aba c.comment]⟩:Cd),⟨68,[AaP c.date.toNat]⟩],(Ac5 x).length≤200:=by
  intro x hx
  simp only[List.mem_cons,List.not_mem_nil,or_false] at hx
  have h1:=(Ae8 c.comment).2
  have h2:=h.comment
  have h3:=AqN (n:=c.date.toNat) (by have:=h.date;omega)
  rcases hx with rfl | rfl
  · rw[Adm,List.length_cons];omega
  · rw[Adm];omega
 have hf:∀x∈c.files.map AaF,(Ac5 x).length≤200:=by
  intro x hx
  obtain⟨f,hf,rfl⟩:=List.mem_map.1 hx
  obtain⟨i,hi,rfl⟩:=Abs (d:=([],[])) hf
  obtain⟨o1,_,o3⟩:=h.files.ok i hi
  generalize c.files.getD i ([],[])=f at o1 o3
  have h1:=o1.2.2
  unfold AaF
  split
  · rw[Adm];omega
  · rename_i e
    have h2:=Adt (o3.resolve_right fun x=>e x.2)
    simp[Ac5,Aby,AaH];omega
 have hp:∀x∈Abn c.parents,(Ac5 x).length≤200:=by
  unfold Abn
  split
  · simp
  · intro x hx
    rw[List.mem_singleton.1 hx]
    have hl:=h.parents.len
    have:(AaH c.parents).length≤41 * c.parents.length:=by
     have hk:∀a∈c.parents,a.length=40:=fun a ha=>by
      obtain⟨i,hi,rfl⟩:=Abs (d:=[]) ha
      exact Adt (h.parents.ok i hi).1
     generalize c.parents=l at hk
     induction l with
     | nil=>simp[AaH]
     | cons a l ih =>
       rw[AbC,List.length_cons,List.length_append,List.length_cons,hk a (by simp)]
       have:=ih fun x hx=>hk x (by simp[hx])
       omega
    simp[Ac5,Aby];omega
 have htu:∀x∈c.tags.map AaB++[(⟨85,[c.user]⟩:Cd)],(Ac5 x).length≤200:=by
  intro x hx
  rcases List.mem_append.1 hx with hx | hx
  · obtain⟨t,ht,rfl⟩:=List.mem_map.1 hx
    exact Aoa h.tags t ht
  · have:=h.user.2.2
    rw[List.mem_singleton.1 hx,Adm];omega
 have hall:=Ai4 (l:=AaD c) (k:=200) (by
  intro x hx
  unfold AaD at hx
  rw[List.mem_append] at hx
  rcases hx with hx | hx
  · rw [List.mem_append] at hx
    rcases hx with hx | hx
    · rw [List.mem_append] at hx
      rcases hx with hx | hx
      · rw[List.mem_append] at hx
        rcases hx with hx | hx
        · exact hb x hx
        · exact hcd x hx
      · exact hf x hx
    · exact hp x hx
  · exact htu x hx)
 have hlen:(AaD c).length≤29:=by
  have h1:=h.files.len
  have h2:=h.tags.len
  have h3:(Ab7 c.base).length≤1:=by unfold Ab7;split<;>simp
  have h4:(Abn c.parents).length≤1:=by unfold Abn;split<;>simp
  simp only[AaD,List.length_append,List.length_map,List.length_cons,List.length_nil];omega
 omega
/-! Control artifacts. -/
structure Ct where
 date:Int
 tags:List Tg
 user:Bs
 deriving DecidableEq,Repr
structure Adx (c:Ct):Prop where
 date:0≤c.date∧c.date≤1073741824
 some:0<c.tags.length
 tags:Ad9 false c.tags
 user:Ac3 c.user
instance (c:Ct):Decidable (Adx c):=decidable_of_iff ((0≤c.date∧c.date≤1073741824)∧0<c.tags.length∧Ad9 false c.tags∧Ac3 c.user) ⟨fun ⟨a,b,c,d⟩=>⟨a,b,c,d⟩,fun ⟨a,b,c,d⟩=>⟨a,b,c,d⟩⟩
def AaY (c:Ct):List Cd:=⟨68,[AaP c.date.toNat]⟩::(c.tags.map AaB++[⟨85,[c.user]⟩])
def ctB (c:Ct):Bs:=AcD (AaY c)
theorem Ahs {c:Ct} (h:Adx c):RightC (AaY c):=by
 have htu:=Ao5 c.tags c.user
 have e:AaY c=[⟨68,[AaP c.date.toNat]⟩]++(c.tags.map AaB++[⟨85,[c.user]⟩]):=rfl
 have h1:∀a∈[(⟨68,[AaP c.date.toNat]⟩:Cd)],a.l.toNat=68:=by simp
 refine RightC.mk' (by simp[AaY]) ?_ ?_ ?_
 · intro a ha
   rw[e,List.mem_append] at ha
   rcases ha with ha | ha
   · rw[h1 a ha];decide
   · have:=htu.1 a ha;omega
 · intro a ha x hx
   rw[e,List.mem_append] at ha
   rcases ha with ha | ha
   · rw[List.mem_singleton.1 ha] at hx
     rw[List.mem_singleton.1 hx];exact Alq _
   · rw [List.mem_append] at ha
     rcases ha with ha | ha
     · obtain⟨t,ht,rfl⟩:=List.mem_map.1 ha
       exact Amx h.tags t ht x hx
     · rw[List.mem_singleton.1 ha] at hx
       rw[List.mem_singleton.1 hx];exact Aic h.user
 · rw[e]
   exact Ajf (k:=68) (fun a ha=>by rw[h1 a ha];exact Nat.le_refl _) (fun a ha=>by have:=htu.1 a ha;omega) (Afu h1) htu.2
theorem AiK {c:Ct} (h:Adx c):(Aau (AaY c)).length≤10000:=by
 have hall:=Ai4 (l:=AaY c) (k:=200) (by
  intro x hx
  unfold AaY at hx
  rcases List.mem_cons.1 hx with rfl | hx
  · have h3:=AqN (n:=c.date.toNat) (by have:=h.date;omega)
    rw[Adm];omega
  · rcases List.mem_append.1 hx with hx | hx
    · obtain⟨t,ht,rfl⟩:=List.mem_map.1 hx
      exact Aoa h.tags t ht
    · have:=h.user.2.2
      rw[List.mem_singleton.1 hx,Adm];omega)
 have hlen:(AaY c).length≤14:=by
  have h2:=h.tags.len
  simp only[AaY,List.length_append,List.length_map,List.length_cons,List.length_nil];omega
 omega
theorem Apc (c:Ct):Aa7 84 (AaY c)=c.tags.map (fun t=>(AaB t).args):=by
 have e:AaY c=[⟨68,[AaP c.date.toNat]⟩]++(c.tags.map AaB++[⟨85,[c.user]⟩]):=rfl
 rw[e,Ad8,Ad8,Ai5 84 84 AaB (fun _=>rfl)]
 simp[Aa7]
/-- The cards of a control artifact but its tags, one by one. -/
def Ab2:List Cd→Int×Bs→Int×Bs
 | [],st=>st
 | x::r,st=>if x.args.length=0 then st
   else if x.l.toNat=68 then (match Abx (x.args.getD 0 []) with | some n=>Ab2 r ((n:Int),st.2) | none=>(0,st.2))
   else if x.l.toNat=85 then Ab2 r (st.1,x.args.getD 0 []) else Ab2 r st
def AqA (l:List Cd):Option Ct:=(AaM (Aa7 84 l)).map fun t=>⟨(Ab2 l (0,[])).1,t,(Ab2 l (0,[])).2⟩
theorem Ap4 (l:List Tg) (r:List Cd) (st:Int×Bs):Ab2 (l.map AaB++r) st=Ab2 r st:=by
 induction l generalizing st with
 | nil=>rfl
 | cons t l ih =>
   have hl:(AaB t).l=84:=rfl
   have h1:(AaB t).args.length≠0:=by simp[AaB]
   simp only[List.map_cons,List.cons_append,Ab2]
   rw[if_neg h1,if_neg (by rw[hl];decide),if_neg (by rw[hl];decide),ih]
theorem AgB {c:Ct} (h:Adx c):AqA (AaY c)=some c:=by
 unfold AqA
 rw[Apc,Ajd (Aj5 h.tags)]
 have hd:=h.date
 have e:Ab2 (AaY c) (0,[])=(c.date,c.user):=by
  unfold AaY
  simp only[Ab2]
  rw[if_neg (by simp),if_pos (by decide)]
  have e1:([AaP c.date.toNat]:List Bs).getD 0 []=AaP c.date.toNat:=rfl
  rw[e1,AhQ (by omega)]
  dsimp only
  rw[Ap4]
  simp only[Ab2]
  rw[if_neg (by simp),if_neg (by decide),if_pos (by decide)]
  have e2:((c.date.toNat:Nat):Int)=c.date:=by omega
  rw[e2];rfl
 rw[e];rfl
def ReadsCt (s:Bs) (c:Ct):Prop:=Adx c∧ctB c=s
theorem ReadsCt.reads {s:Bs} {c:Ct} (h:ReadsCt s c):ReadsC s (AaY c):=⟨Ahs h.1,h.2⟩
theorem ReadsCt.uniq {s:Bs} (a b:Ct) (h:ReadsCt s a) (k:ReadsCt s b):a=b:=by
 have e:=h.reads.uniq k.reads
 have:=AgB h.1
 rw[e,AgB k.1] at this
 exact(Option.some.inj this).symm
noncomputable def Ad4 (s:Bs):Option Ct:=the (ReadsCt s)
theorem readCt_iff {s:Bs} {c:Ct}:Ad4 s=some c↔ReadsCt s c:=Aqv ReadsCt.uniq
/-! Clusters. -/
structure AnN (l:List Bs):Prop where
 ok:∀i,i<l.length→isN (l.getD i [])=true∧(0<i→blt (l.getD (i-1) []) (l.getD i [])=true)
 len:1≤l.length∧l.length≤12
def AnK (n:Bs):Cd:=⟨77,[n]⟩
def Acn (l:List Bs):List Cd:=l.map AnK
def clB (l:List Bs):Bs:=AcD (Acn l)
theorem Ap6 {l:List Bs} (h:AnN l):(Aau (Acn l)).length≤10000:=by
 have hall:=Ai4 (l:=Acn l) (k:=200) (by
  intro x hx
  obtain⟨n,hn,rfl⟩:=List.mem_map.1 hx
  obtain⟨i,hi,rfl⟩:=Abs (d:=[]) hn
  unfold AnK
  rw[Adm,Adt (h.ok i hi).1];decide)
 have:(Acn l).length=l.length:=by simp[Acn]
 have:=h.len.2
 omega
end
end Go.Proofs.YtdnoacgopfcpbaaGreat
