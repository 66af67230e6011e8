/- Texts of this proof, put together: Slic, SHash4, SIs, SEsc. -/
import Derived.Test.YtdnoacgopfcpbaaGreatQ08
set_option linter.unusedVariables false
set_option linter.unusedSimpArgs false
namespace Go.Proofs.YtdnoacgopfcpbaaGreat
section
def Afh (a:Option Addr) (m cap kk:Nat):Option Addr:=if m<cap then Abr a kk else a
section
variable {r:Option Nat} {P:Program} {n:Nat} {L:Loc} {Hs:List HP} {Q:Out} {ty:TypeId}
theorem Acw {x y:Operand} {a:Option Addr} {len cap m kk:Nat} {k:IntKind} {i:Int} {t e:TypeId} {ti:TypeInfo} {sz:Nat} (ht:P.underlying t=some (.slice e)) (hi:P.info? e=some ti) (hsz:ti.size=sz) (hx:ev L x=some (.slice a len cap)) (hy:ev L y=some (.int k i)) (hm:i=(m:Int)) (hk:m * sz=kk) (h:m≤len) (hc:len≤cap) (ha:∀b,a=some b→b.spot=none) :
    PV P n L (.slice t x (some y) none none) ty (.slice (Afh a m cap kk) (len-m) (cap-m)):=by
 by_cases hlt:m<cap
 · have:=AjZ (P:=P) (n:=n) (ty:=ty) ht hi hsz hx hy hm hk h hlt ha
   rw[Afh,if_pos hlt];exact this
 · subst hm
   have:=AgP (P:=P) (n:=n) (ty:=ty) ht hi hx hy (by omega) (by omega);rw[Int.toNat_natCast,if_pos (by omega)] at this;rw[Afh,if_neg hlt];exact this
theorem AbH {e:TypeId} {sz k n' c':Nat} {a:Option Addr} {xs:List Value} {M:Kn} {h:Res} (x:(Row e sz (.slice a n' c') k xs).at_ M h):k≤c'∧xs.length=k * sz∧∀b,a=some b→b.spot=none:=by
 rcases x with ⟨h1,h2,h3⟩ | ⟨g,cap,cur,h1,h2,h3,h4,h5,h6,h7⟩
 · cases h1;subst h2;subst h3
   exact⟨Nat.zero_le _,by simp,fun b e=>by cases e⟩
 · cases h1
   exact⟨h2,h5,fun b e=>by cases e;rfl⟩
theorem Adm {A:HP} {a:Option Addr} {xs:List Value} (sh:SlA A a xs) (k:Nat):SlA A a (xs.take k):=fun x=>by
 rcases sh x with e | ⟨g,off,l,T,fz,e1,e2,e3⟩
 · left;rw[e];simp
 · refine .inr ⟨g,off,l,T,fz,e1,e2,?_⟩
   conv=>rhs;rw[←e3]
   rw[List.take_take,List.length_take]
theorem Adn {e:TypeId} {sz k n' c' m kk:Nat} {a:Option Addr} {xs:List Value} (hk:m * sz=kk) (hm:m≤k):SlA (Row e sz (.slice a n' c') k xs) (Afh a m c' kk) (xs.drop kk):=fun x=>by
 obtain⟨h1,h2,h3⟩:=AbH x;by_cases hlt:m<c'
 · rcases AaC x with e | ⟨g,off,l,T,fz,e1,e2,e3⟩
   · left;rw[e];simp
   · refine .inr ⟨g,off+kk,l,T,fz,?_,e2,?_⟩
     · rw[Afh,if_pos hlt,e1];rfl
     · conv=>rhs;rw[←e3]
       rw[List.drop_take,List.drop_drop,List.length_drop]
 · left
   have hmk:m=k:=by omega
   subst hmk;rw[←hk,←h2,List.drop_length]
end
end
section
set_option maxRecDepth 100000
theorem Atw {b:Nat} {T:TypeId} {l:List Value} (off k:Nat):SlA (Ce b T l) (some ⟨b,off,none⟩) ((l.drop off).take k):=fun x=>.inr ⟨b,off,l,T,(0,0),rfl,.inr (by have:_=Res.one b _:=x;rw[this];exact Res.one_same _ _),by rw[List.length_take,List.take_eq_take_iff.2];simp⟩
def AkY (x:UInt32) (j:Nat):Bs:=(List.range j).map fun j=>hexD.getD ((x >>> UInt32.ofNat (28-4 * j)) &&& 15).toNat 0
theorem AnR (x:UInt32) (j:Nat):AkY x (j+1)=AkY x j++[hexD.getD ((x >>> UInt32.ofNat (28-4 * j)) &&& 15).toNat 0]:=by simp[AkY,List.range_succ]
theorem Aum (x:UInt32) (j:Nat):(AkY x j).length=j:=by simp[AkY]
theorem Aw2 (x:UInt32):(x &&& 15).toNat<16:=by
 rw[UInt32.toNat_and];exact Nat.lt_of_le_of_lt Nat.and_le_right (by decide)
theorem Aqb (s:Bs) (hs:s.length≤1099511627776):SpF Tryz.prog 198 [vS s] (vS (AcX s)):=by
 have hpl:=ApV s;have hbu:Aaz s≤17179869185:=by unfold Aaz;omega
 have hb1:1≤Aaz s:=by unfold Aaz;omega
 obtain⟨N,hN⟩:∃N,N=Aaz s:=⟨_,rfl⟩
 obtain⟨p,hp⟩:∃p,p=AmP s:=⟨_,rfl⟩
 have hsha:AcX s=(Adj p h0W N).list.flatMap AiN:=by rw[hN,hp];rfl
 have hpd:=Am9 s hs;rw[←hN] at hpl hbu hb1 hpd;rw[←hp] at hpl hpd;have hpv:(vUs p).length=64 * N:=by simp[vUs,hpl]
 refine Sp.body (n:=39) Tryz.call198 Tryz.func198 rfl rfl rfl ?_;refine Qc (k:=Vv (k:=Wq (Qc (k:=?_))));refine Aa6 (AeY (vs:=[_,_,_,_,_]) Tryz.underlying95 AbE rfl rfl rfl Aoj rfl rfl) rfl ?_;refine Zc [.int .u32 0,.int .u32 0,.int .u32 0,.int .u32 0,.int .u32 0] (k:=fun b3=>Zp (k:=Wq (Za (k:=Qc (k:=Vv (k:=?_))))));refine Aaq hpd rfl rfl rfl (fun g _=>?_);refine Vv (k:=Wq (Zb (k:=?_)));refine Aak (fun (i:{ x:Nat×Option Addr // x.1≤N∧(x.1<N→x.2=some ⟨g,64 * x.1,none⟩)∧∀b,x.2=some b→b.spot=none })=>[(3,.pointer (some ⟨b3,0,none⟩)),(4,.slice i.1.2 (64 * N-64 * i.1.1) (64 * N-64 * i.1.1))]) (fun (i:{ x:Nat×Option Addr // x.1≤N∧(x.1<N→x.2=some ⟨g,64 * x.1,none⟩)∧∀b,x.2=some b→b.spot=none })=>[Ce b3 95 ((Adj p h0W i.1.1).list.map vW),Ce g 5 (vUs p)]) (fun (i:{ x:Nat×Option Addr // x.1≤N∧(x.1<N→x.2=some ⟨g,64 * x.1,none⟩)∧∀b,x.2=some b→b.spot=none })=>N-i.1.1) rfl (⟨(0,some ⟨g,0,none⟩),Nat.zero_le _,fun _=>rfl,fun b e=>by cases e;rfl⟩) ?_ ?_ (fun i=>?_)
 · exact⟨rfl,rfl,trivial⟩
 ·
  exact Aac (AaH (by rfl) (by rfl)) Aa0
 obtain⟨⟨i,ad⟩,hi,had,hsp⟩:=i;dsimp only at hi had hsp ⊢;try dsimp only
 refine Za (k:=Qc (k:=Qv (k:=Vv (k:=Wq (Zi (t:=fun h14=>?_) (f:=fun h14=>?_))))))
 ·
  refine Zk (k:=Ya (Za (k:=Zb (k:=?_))));have hiN:i<N:=by omega
  have hal:=had hiN;subst hal;have hvt:vUs ((p.drop (64 * i)).take 64)=((vUs p).drop (64 * i)).take 64:=by simp[vUs,List.map_take,List.map_drop]
  refine Zr (k:=Vv (k:=?_));refine Aa6 (Ac4 (m:=64) Tryz.underlying56 ti5 rfl rfl rfl (by omega)) rfl ?_;refine Aaa (AoT (B:=Ce g 5 (vUs p)) b3 (64 * N-64 * i) (Adj p h0W i) ((p.drop (64 * i)).take 64) (by rw[List.length_take,List.length_drop];omega) (by rw[hvt];exact Atw (64 * i) 64)) rfl rfl rfl ?_;refine Wn (Yb (Ya (Zr (k:=Vv (k:=?_)))));refine Aa6 (Acw (m:=64) (kk:=64) Tryz.underlying56 ti5 rfl rfl rfl rfl rfl (by omega) (Nat.le_refl _) hsp) rfl ?_;refine Vv (k:=Wn ?_);refine Aa5 ⟨(i+1,Afh (some ⟨g,64 * i,none⟩) 64 (64 * N-64 * i) 64),by dsimp only;omega,fun h=>?_,fun b e=>?_⟩ (by dsimp only;omega) ⟨rfl,?_,trivial⟩ ?_
  · dsimp only at h ⊢
    rw[Afh,if_pos (by omega)];simp only[Abr];congr 2
  · dsimp only at e
    unfold Afh at e;split at e
    · simp only[Abr,Option.some.injEq] at e;subst e;rfl
    · exact hsp b e
  · dsimp only
    show some (Value.slice _ _ _)=some (Value.slice _ _ _);rw[show 64 * N-64 * i-64=64 * N-64 * (i+1) from by omega]
  · dsimp only
    rw[show Adj p h0W (i+1)=Aig (Adj p h0W i) ((p.drop (64 * i)).take 64) from rfl];exact Aa0
 ·
  refine Ze (k:=Xa (Xi (Xb (Ya (Za (k:=?_))))));have hiN:i=N:=by omega
  subst hiN;obtain⟨hl,hhl⟩:∃hl,hl=(Adj p h0W i).list:=⟨_,rfl⟩
  have hl5:hl.length=5:=by rw[hhl];rfl
  have hag:(Value.agg #[vW (Adj p h0W i).a,vW (Adj p h0W i).b,vW (Adj p h0W i).c,vW (Adj p h0W i).d,vW (Adj p h0W i).e])=.agg (hl.map vW).toArray:=by rw[hhl];rfl
  rw[←hhl] at hsha;refine Zr (k:=Vv (k:=Wq (Za (k:=Qc (k:=Zm [_,_,_,_,_] (k:=Vv (k:=Wq (Zb (k:=?_)))))))));refine Aak (fun (i:{ x:(Option Addr×Nat)×Nat // x.2≤5 })=>[(5,.slice i.1.1.1 (8 * i.1.2) i.1.1.2),(20,.agg (hl.map vW).toArray),(21,vI i.1.2)]) (fun (i:{ x:(Option Addr×Nat)×Nat // x.2≤5 })=>[Row 5 1 (.slice i.1.1.1 (8 * i.1.2) i.1.1.2) (8 * i.1.2) (vUs ((hl.take i.1.2).flatMap AiN))]) (fun (i:{ x:(Option Addr×Nat)×Nat // x.2≤5 })=>5-i.1.2) rfl (⟨((none,0),0),Nat.zero_le _⟩) ?_ ?_ (fun i=>?_)
  · exact⟨rfl,by subst hhl;rfl,rfl,trivial⟩
  ·
   exact Aac AaS Aad
  obtain⟨⟨⟨a1,c1⟩,m⟩,hm⟩:=i;dsimp only at hm ⊢;try dsimp only
  refine Qc (k:=Vv (k:=Wq (Za (k:=Zi (t:=fun h22=>?_) (f:=fun h22=>?_)))))
  ·
   refine Zk (k:=Ya (Za (k:=Zb (k:=Qc (k:=?_)))));refine Aa6 (AoE Tryz.underlying95 Tryz.underlying94 AbE rfl rfl rfl rfl rfl (by omega) (Acp (m:=m) (by omega))) rfl ?_;refine Vv (k:=Wq (Za (k:=?_)));obtain⟨x,hx⟩:∃x,x=hl.getD m 0:=⟨_,rfl⟩
   rw[←hx];obtain⟨xs,hxs⟩:∃xs,xs=(hl.take m).flatMap AiN:=⟨_,rfl⟩
   rw[←hxs];refine Zr (k:=Vv (k:=Wq (Zb (k:=?_))));refine Aak (fun (i:{ y:(Option Addr×Nat)×Nat // y.2≤8 })=>[(5,.slice i.1.1.1 (8 * m+i.1.2) i.1.1.2),(7,vW x),(8,vI (28-4 * i.1.2)),(20,.agg (hl.map vW).toArray),(21,vI m)]) (fun (i:{ y:(Option Addr×Nat)×Nat // y.2≤8 })=>[Row 5 1 (.slice i.1.1.1 (8 * m+i.1.2) i.1.1.2) (8 * m+i.1.2) (vUs (xs++AkY x i.1.2))]) (fun (i:{ y:(Option Addr×Nat)×Nat // y.2≤8 })=>8-i.1.2) rfl (⟨((a1,c1),0),Nat.zero_le _⟩) ?_ ?_ (fun i=>?_)
   · exact⟨rfl,rfl,rfl,rfl,rfl,trivial⟩
   ·
    dsimp only;rw[show AkY x 0=[] from rfl,List.append_nil];exact Aa0
   obtain⟨⟨⟨a2,c2⟩,j⟩,hj⟩:=i;dsimp only at hj ⊢;try dsimp only
   refine Za (k:=Qc (k:=Qv (k:=Wq (Zi (t:=fun h25=>?_) (f:=fun h25=>?_)))))
   ·
    refine Zk (k:=Ya (Za (k:=Zb (k:=Zr (k:=Qv (k:=Vv (k:=?_)))))));refine Aa6 (Afz (m:=28-4 * j) rfl rfl (by omega) (by omega)) rfl ?_;refine Aa6 (Adu (b:=15) rfl rfl) rfl ?_;refine Aa6 (Abt (l:=hexD) (m:=((x >>> UInt32.ofNat (28-4 * j)) &&& 15).toNat) Tryz.underlying9 rfl rfl rfl (show _<16 from Aw2 _)) rfl ?_;refine Zv [_] (cs:=[_]) (k:=fun b34=>?_);refine Aao (sz:=1) (bytes:=1) Tryz.underlying56 ti5 rfl rfl rfl rfl rfl rfl rfl (by rfl) (by rfl) (by omega) (by simp only[maxLen];omega) rfl (fun a35 c35=>?_);refine Vv (k:=Wn (Yb (Ya (Zr (k:=Qv (k:=Vv (k:=Wn ?_)))))));refine Aa5 ⟨((a35,c35),j+1),by dsimp only;omega⟩ (by dsimp only;omega) ⟨rfl,rfl,AeF (by dsimp only;omega),rfl,rfl,trivial⟩ ?_;dsimp only;refine Asr (by omega) ?_;rw[AnR,←List.append_assoc];simp[vUs]
   ·
    refine Ze (k:=Xa (Xi (Xb (Yb (Ya (Zr (k:=Qv (k:=Wn ?_))))))));have hj8:j=8:=by omega
    subst hj8;have hml:m<hl.length:=by omega
    have hxe:xs++AkY x 8=(hl.take (m+1)).flatMap AiN:=by
     rw[List.take_succ_eq_append_getElem hml,List.flatMap_append,←hxs];have:x=hl[m]:=by rw[hx];simp[hml]
     rw[this];simp[AiN,AkY]
    refine Aa5 ⟨((a2,c2),m+1),by dsimp only;omega⟩ (by dsimp only;omega) ⟨Adk (by dsimp only;omega),rfl,rfl,trivial⟩ ?_;dsimp only;rw[←hxe];exact Aa0
  ·
   refine Ze (k:=Xa (Xi (Xb (Ya (Za (k:=?_))))));have hm5:m=5:=by omega
   subst hm5;rw[List.take_of_length_le (by omega),←hsha];refine Zr (k:=Vv (k:=?_));refine Aw7 (fun h=>by simp at h) (fun gg cap cur e1 e2 e3 e4 e5 e6=>?_)
   cases e1;refine Aji (l:=AcX s) Tryz.underlying56 Tryz.underlying9 Tryz.underlying5 rfl (by simpa using e6) (by omega) rfl ?_;refine Vv (k:=Wq (Zt (k:=?_)));refine Aa2 () (vs:=[_]) (Cs:=[]) rfl (.tmp rfl .nil) rfl trivial ?_;exact Aad
end
section
set_option maxRecDepth 100000
def isN (s:Bs):Bool:=decide (s.length=40∧∀c∈s,c∈hexD)
theorem Avv (s:Bs):isN (AcX s)=true:=decide_eq_true ⟨Aeq s,Ajb s⟩
theorem index_neg {l:Bs} {c:UInt8}:Lib.indexByte l c<0↔c∉l:=by
 rw[Ahm]
 cases h:l.findIdx? (· == c) with
 | none =>
   rw[List.findIdx?_eq_none_iff] at h;simp only[Int.reduceNeg,Int.reduceLT,true_iff];intro hm;have:=h c hm;simp at this
 | some i =>
   have h1:=List.findIdx?_eq_some_iff_getElem.1 h;obtain⟨hi,h2,_⟩:=h1;have:l[i]=c:=by simpa using h2
   constructor
   · intro h;dsimp only at h;omega
   · intro hm;exact absurd (this▸List.getElem_mem hi) hm
theorem Ae8 (s:Bs) (hs:s.length≤9223372036854775807):SpF Tryz.prog 207 [vS s] (vB (isN s)):=by
 refine Sp.body (n:=18) Tryz.call207 Tryz.func207 rfl rfl rfl ?_;refine Qc (k:=Vv (k:=Wq (Za (k:=Qc (k:=Qv (k:=Vv (k:=Wq (Zb (k:=?_)))))))));refine Aak (fun (i:{ j:Nat // j≤s.length∧∀i (h:i<s.length),i<j→s[i]∈hexD })=>[(0,vS s),(5,vI s.length),(6,vI i.1)]) (fun (i:{ j:Nat // j≤s.length∧∀i (h:i<s.length),i<j→s[i]∈hexD })=>[]) (fun (i:{ j:Nat // j≤s.length∧∀i (h:i<s.length),i<j→s[i]∈hexD })=>s.length-i.1) rfl (⟨0,Nat.zero_le _,fun i h1 h2=>by omega⟩) ?_ ?_ (fun i=>?_)
 · exact⟨rfl,rfl,rfl,trivial⟩
 ·
  exact Aa0
 obtain⟨j,hj,hin⟩:=i;dsimp only;try dsimp only
 refine Qc (k:=Vv (k:=Wq (Za (k:=Zi (t:=fun h7=>?_) (f:=fun h7=>?_)))))
 ·
  refine Zk (k:=Ya (Za (k:=Zb (k:=Qc (k:=Qv (k:=Wq (Za (k:=?_))))))));have hjl:j<s.length:=by omega
  have hg:((s.getD j 0).toNat:Int).toNat.toUInt8=s[j]:=by
   have:s.getD j 0=s[j]:=by simp[hjl]
   rw[this];simp
  refine Zr (k:=Qv (k:=Vv (k:=?_)));refine Aag (AoZ hexD ((s.getD j 0).toNat:Int)) rfl rfl rfl ?_;refine Vv (k:=Wq (Zi (t:=fun h13=>?_) (f:=fun h13=>?_)))
  ·
   refine Qc (k:=Vv (k:=Wq (Zt (k:=Vb (Va (Vi (Vb (Va ?_))))))));have hc:s[j]∉hexD:=by
    have:=index_neg.1 h13;rw[hg] at this;exact this
   refine Aa2 () (vs:=[_]) (Cs:=[]) rfl (.tmp rfl .nil) ?_ trivial Aad;have:isN s=false:=decide_eq_false (fun ⟨_,h⟩=>hc (h _ (List.getElem_mem hjl)));rw[this];rfl
  ·
   refine Zk (k:=Yb (Ya (Zr (k:=Qv (k:=Wn ?_)))));refine Aa5 ⟨j+1,by omega,fun i hi h=>?_⟩ (by dsimp only;omega) ⟨rfl,rfl,rfl,trivial⟩ Aad;by_cases he:i=j
   · subst he
     have:=h13;rw[index_neg,hg] at this;exact Classical.not_not.1 this
   · exact hin i hi (by omega)
 ·
  refine Ze (k:=Xa (Xi (Xb (Ya (Qc (k:=Qv (k:=Qv (k:=Wq ?_))))))));refine Zt (k:=?_);refine Aa2 () (vs:=[_]) (Cs:=[]) rfl (.tmp rfl .nil) ?_ trivial Aad;have hall:∀c∈s,c∈hexD:=fun c hc=>by
   obtain⟨i,hi,rfl⟩:=List.getElem_of_mem hc;exact hin i hi (by omega)
  show vB _=vB _;congr 1;rw[isN];exact decide_eq_decide.2 ⟨fun h=>⟨by omega,hall⟩,fun h=>by omega⟩
theorem Avx:∀n:Fin 256,UInt8.ofNat n.1∈hexD↔((48≤n.1∧n.1≤57)∨(97≤n.1∧n.1≤102)):=by decide
theorem Avw (c:UInt8):c∈hexD↔((48≤c.toNat∧c.toNat≤57)∨(97≤c.toNat∧c.toNat≤102)):=by
 have:=Avx ⟨c.toNat,c.toNat_lt⟩;simpa using this
theorem AhQ {G:Prop} (h:G:=by
    have hc:s[j]∉hexD:=by
     rw[←hg,hx];omega
    refine Aa2 () (vs:=[_]) (Cs:=[]) rfl (.tmp rfl .nil) ?_ trivial Aad;have:isN s=false:=decide_eq_false (fun ⟨_,h⟩=>hc (h _ (List.getElem_mem hjl)));rw[this];rfl):G:=h
theorem Aiv {G:Prop} (h:G:=by
    have hc:s[j]∈hexD:=by
     rw[←hg,hx];omega
    refine Aa5 ⟨j+1,by omega,fun i hi h=>?_⟩ (by dsimp only;omega) ⟨rfl,rfl,trivial⟩ Aad;by_cases he:i=j
    · subst he;exact hc
    · exact hin i hi (by omega)):G:=h
theorem Aci (s:Bs) (hs:s.length≤9223372036854775807):SpF Tryz.prog 123 [vS s] (vB (isN s)):=by
 refine Sp.body (n:=35) Tryz.call123 Tryz.func123 rfl rfl rfl ?_;refine Qc (k:=Vv (k:=Wq (Za (k:=Qc (k:=Vv (k:=Wq (Zb (k:=?_))))))));refine Aak (fun (i:{ j:Nat // j≤s.length∧∀i (h:i<s.length),i<j→s[i]∈hexD })=>[(0,vS s),(3,vI i.1)]) (fun (i:{ j:Nat // j≤s.length∧∀i (h:i<s.length),i<j→s[i]∈hexD })=>[]) (fun (i:{ j:Nat // j≤s.length∧∀i (h:i<s.length),i<j→s[i]∈hexD })=>s.length-i.1) rfl (⟨0,Nat.zero_le _,fun i h1 h2=>by omega⟩) ?_ ?_ (fun i=>?_)
 · exact⟨rfl,rfl,trivial⟩
 ·
  exact Aa0
 obtain⟨j,hj,hin⟩:=i;dsimp only;try dsimp only
 refine Za (k:=Qc (k:=Qv (k:=Qv (k:=Wq (Zi (t:=fun h7=>?_) (f:=fun h7=>?_))))))
 ·
  refine Zk (k:=Ya (Za (k:=Zb (k:=Za (k:=?_)))));have hjl:j<s.length:=by omega
  have hg:s.getD j 0=s[j]:=by simp[hjl]
  have hx:=Avw s[j];rw[←hg] at hx;refine Zr (k:=Qv (k:=Qv (k:=Vv (k:=Gi 4 (t:=fun h14=>?_) (f:=fun h14=>?_)))))
  ·
   refine O1 (k:=O1 (k:=O1 (k:=O1 (k:=P1 (k:=Vv (k:=J1 (k:=J1 (k:=J1 (k:=?_)))))))));refine J1 (k:=J1 (k:=Gi 15 (t:=fun h25=>?_) (f:=fun h25=>?_)))
   ·
    refine O1 (k:=O1 (k:=O1 (k:=O1 (k:=I1 (k:=P1 (k:=P1 (k:=Wq (Z1 (k:=Qc (k:=Vv (k:=?_)))))))))));refine Wq (Zt (k:=Vb (Va (Vi (Vb (Va ?_))))));exact AhQ
   ·
    refine J0 (k:=J0 (k:=J0 (k:=J0 (k:=I1 (k:=P0 (k:=P1 (k:=Wq ?_)))))));refine Zi (t:=fun h31=>?_) (f:=fun h31=>?_)
    ·
     refine Qc (k:=Vv (k:=Wq (Zt (k:=Vb (Va (Vi (Vb (Va ?_))))))));exact AhQ
    ·
     refine Zk (k:=Yb (Ya (Zr (k:=Qv (k:=Vv (k:=Wn ?_))))));exact Aiv
  ·
   refine J0 (k:=J0 (k:=J0 (k:=J0 (k:=P0 (k:=Vv (k:=Gi 10 (t:=fun h20=>?_) (f:=fun h20=>?_)))))))
   ·
    refine J1 (k:=J1 (k:=J1 (k:=J1 (k:=J1 (k:=Gi 15 (t:=fun h25=>?_) (f:=fun h25=>?_))))))
    ·
     refine O1 (k:=O1 (k:=O1 (k:=O1 (k:=I1 (k:=P1 (k:=P1 (k:=Wq (Z1 (k:=Qc (k:=Vv (k:=?_)))))))))));refine Wq (Zt (k:=Vb (Va (Vi (Vb (Va ?_))))));exact AhQ
    ·
     refine J0 (k:=J0 (k:=J0 (k:=J0 (k:=I1 (k:=P0 (k:=P1 (k:=Wq ?_)))))));refine Zi (t:=fun h31=>?_) (f:=fun h31=>?_)
     ·
      refine Qc (k:=Vv (k:=Wq (Zt (k:=Vb (Va (Vi (Vb (Va ?_))))))));exact AhQ
     ·
      refine Zk (k:=Yb (Ya (Zr (k:=Qv (k:=Vv (k:=Wn ?_))))));exact Aiv
   ·
    refine O0 (k:=O0 (k:=O0 (k:=O0 (k:=O0 (k:=Ou (k:=Ou (k:=Ou (k:=Ou (k:=O0 (k:=P0 (k:=Wq ?_)))))))))));refine Z0 (k:=Zk (k:=Yb (Ya (Zr (k:=Qv (k:=Vv (k:=Wn ?_)))))));exact Aiv
 ·
  refine Ze (k:=Xa (Xi (Xb (Ya (Qc (k:=Qv (k:=Qv (k:=Wq ?_))))))));refine Zt (k:=?_);refine Aa2 () (vs:=[_]) (Cs:=[]) rfl (.tmp rfl .nil) ?_ trivial Aad;have hall:∀c∈s,c∈hexD:=fun c hc=>by
   obtain⟨i,hi,rfl⟩:=List.getElem_of_mem hc;exact hin i hi (by omega)
  show vB _=vB _;congr 1;rw[isN];exact decide_eq_decide.2 ⟨fun h=>⟨by omega,hall⟩,fun h=>by omega⟩
end
section
set_option maxRecDepth 100000
theorem Ab3 (p:Nat) (l:List UInt8) (c:UInt8) (h:l.length+1≤140737488355328):Sp1 Tryz.prog 156 [.pointer (some ⟨p,0,none⟩),vU c.toNat] [IsB p l] .nilIface [IsB p (l++[c])]:=by
 refine Sp.body (n:=17) Tryz.call156 Tryz.func156 rfl rfl rfl ?_;refine AcE fun q1=>AcE fun q2=>AdW (AfR fun hq=>?_);refine Qc (k:=Vv (k:=Wq (Qc (k:=Vv (k:=?_)))));refine Aaa (Ajv p q1 q2 hq.1) rfl rfl rfl ?_;refine Wq (Qc (k:=Qv (k:=Vv (k:=Qx 1 56 (k:=Vv (k:=Zv [_] (cs:=[_]) (k:=fun b13=>?_)))))));refine Aao (sz:=1) (bytes:=1) Tryz.underlying56 ti5 rfl rfl rfl rfl rfl rfl rfl (by rfl) (by rfl) (by omega) (by simp only[maxLen];omega) rfl (fun a14 c14=>?_);refine Vv (k:=Vf 1 56 (k:=?_));refine Agw Atr rfl rfl rfl rfl (by simp) ?_;refine Wq (Qc (k:=Vv (k:=Wq (Zt (k:=?_)))));refine Aa2 () (vs:=[_]) (Cs:=[]) rfl (.tmp rfl .nil) rfl trivial ?_;refine AbV (.pointer (some ⟨p,0,none⟩)) ?_;refine AbV (.slice a14 (l.length+1) c14) ?_;refine Acl ?_;have e1:(l++[c]).length=l.length+1:=List.length_append;have e2:vUs (l++[c])=vUs l++[vU c.toNat]:=by simp[vUs]
 rw[e1,e2];refine Adl ⟨.inr rfl,fun e=>by omega⟩ Aa0
theorem Agk {G:Prop} (h:G:=by
    refine Aa5 ⟨j+1,by omega⟩ (by dsimp only;omega) ⟨rfl,rfl,rfl,rfl,trivial⟩ ?_;dsimp only;rw[hsu];exact Aa0):G:=h
theorem Aij (s:Bs) (hs:s.length≤1099511627776):SpF Tryz.prog 163 [vS s] (vS (Abf s)):=by
 refine Sp.body (n:=28) Tryz.call163 Tryz.func163 rfl rfl rfl ?_;refine Qc (k:=Vv (k:=Wq (Qc (k:=Zc [.pointer none,.slice none 0 0] (k:=fun b3=>?_)))));refine wo_ent' (Ak8 (p:=b3) (by rfl) (by rfl) (by rfl)) ?_;refine Wq (Za (k:=Qc (k:=Qv (k:=Vv (k:=Wq (Zb (k:=?_)))))));refine Aak (fun (i:{ j:Nat // j≤s.length })=>[(0,vS s),(3,.pointer (some ⟨b3,0,none⟩)),(6,vI s.length),(7,vI i.1)]) (fun (i:{ j:Nat // j≤s.length })=>[IsB b3 (Abf (s.take i.1))]) (fun (i:{ j:Nat // j≤s.length })=>s.length-i.1) rfl (⟨0,Nat.zero_le _⟩) ?_ ?_ (fun i=>?_)
 · exact⟨rfl,rfl,rfl,rfl,trivial⟩
 ·
  exact Ent.refl _
 obtain⟨j,hj⟩:=i;dsimp only;try dsimp only
 refine Qc (k:=Vv (k:=Wq (Za (k:=Zi (t:=fun h8=>?_) (f:=fun h8=>?_)))))
 ·
  refine Zk (k:=Ya (Za (k:=Zb (k:=Za (k:=?_)))));have hjl:j<s.length:=by omega
  have htl:=(Aeu (s.take j)).2;rw[List.length_take] at htl;have hsu:Abf (s.take (j+1))=Abf (s.take j)++Ahr (s.getD j 0):=by
   rw[List.take_succ_eq_append_getElem hjl,Aqf];simp[Abf,hjl]
  refine Zr (k:=Qv (k:=Wq (Qc (k:=Qv (k:=Vv (k:=Wq (Zb (k:=Za (k:=?_)))))))));refine Zr (k:=Qv (k:=Wq (Zi (t:=fun h17=>?_) (f:=fun h17=>?_))))
  ·
   refine Zr (k:=?_);refine Aaa (AcB b3 (Abf (s.take j)) [92,115] (by simp only[List.length_cons,List.length_nil];omega)) rfl rfl rfl ?_;rw[Ahr,if_pos (by omega)] at hsu;refine Wn (Yb (Yb (Ya (Zr (k:=Qv (k:=Wn ?_))))));exact Agk
  ·
   refine Qc (k:=Qv (k:=Wq (Zi (t:=fun h20=>?_) (f:=fun h20=>?_))))
   ·
    refine Zr (k:=?_);refine Aaa (AcB b3 (Abf (s.take j)) [92,110] (by simp only[List.length_cons,List.length_nil];omega)) rfl rfl rfl ?_;rw[Ahr,if_neg (by omega),if_pos (by omega)] at hsu;refine Wn (Yb (Yb (Ya (Zr (k:=Qv (k:=Wn ?_))))));exact Agk
   ·
    refine Qc (k:=Qv (k:=Wq (Zi (t:=fun h23=>?_) (f:=fun h23=>?_))))
    ·
     refine Zr (k:=?_);refine Aaa (AcB b3 (Abf (s.take j)) [92,92] (by simp only[List.length_cons,List.length_nil];omega)) rfl rfl rfl ?_;rw[Ahr,if_neg (by omega),if_neg (by omega),if_pos (by omega)] at hsu;refine Wn (Yb (Yb (Ya (Zr (k:=Qv (k:=Wn ?_))))));exact Agk
    ·
     refine Zr (k:=Qv (k:=Vv (k:=?_)));refine Aaa (Ab3 b3 (Abf (s.take j)) (s.getD j 0) (by omega)) rfl rfl rfl ?_;rw[Ahr,if_neg (by omega),if_neg (by omega),if_neg (by omega)] at hsu;refine Wn (Yb (Yb (Ya (Zr (k:=Qv (k:=Wn ?_))))));exact Agk
 ·
  refine Ze (k:=Xa (Xi (Xb (Ya (Za (k:=?_))))));have hjl:j=s.length:=by omega
  subst hjl;rw[List.take_length];refine Zr (k:=?_);refine Aaa (Ai4 b3 (Abf s) (by have:=(Aeu s).2;omega)) rfl rfl rfl ?_;refine Vv (k:=Wq (Zt (k:=?_)));refine Aa2 () (vs:=[_]) (Cs:=[]) rfl (.tmp rfl .nil) rfl trivial ?_;exact Aad
theorem AhN {G:Prop} (h:G:=by refine Aa5 ⟨j+1,by omega⟩ (by dsimp only;omega) ⟨rfl,by rw[hsu];rfl,rfl,trivial⟩ Aad):G:=h
theorem AgO (s:Bs) (hs:s.length≤1099511627776):SpF Tryz.prog 50 [vS s] (vS (Abf s)):=by
 refine Sp.body (n:=34) Tryz.call50 Tryz.func50 rfl rfl rfl ?_;refine Qc (k:=Vv (k:=Wq (Qc (k:=Vv (k:=Wq (Za (k:=Qc (k:=Vv (k:=?_)))))))));refine Wq (Zb (k:=?_));refine Aak (fun (i:{ j:Nat // j≤s.length })=>[(0,vS s),(3,vS (Abf (s.take i.1))),(4,vI i.1)]) (fun (i:{ j:Nat // j≤s.length })=>[]) (fun (i:{ j:Nat // j≤s.length })=>s.length-i.1) rfl (⟨0,Nat.zero_le _⟩) ?_ ?_ (fun i=>?_)
 · exact⟨rfl,rfl,rfl,trivial⟩
 ·
  exact Aad
 obtain⟨j,hj⟩:=i;dsimp only;have htl:=(Aeu (s.take j)).2;rw[List.length_take] at htl;try dsimp only
 refine Za (k:=Qc (k:=Qv (k:=Qv (k:=Wq (Zi (t:=fun h8=>?_) (f:=fun h8=>?_))))))
 ·
  refine Zk (k:=Ya (Za (k:=Zb (k:=Za (k:=?_)))));have hjl:j<s.length:=by omega
  have hsu:Abf (s.take (j+1))=Abf (s.take j)++Ahr (s.getD j 0):=by
   rw[List.take_succ_eq_append_getElem hjl,Aqf];simp[Abf,hjl]
  refine Zr (k:=Qv (k:=Vv (k:=Wq (Zb (k:=Qc (k:=Qv (k:=Wq (Zi (t:=fun h21=>?_) (f:=fun h21=>?_)))))))))
  ·
   rw[Ahr,if_pos (by omega)] at hsu;refine Zr (k:=Qv (k:=Vv (k:=Wn (Yb (Yb (Ya (Zr (k:=Qv (k:=Vv (k:=?_))))))))));refine Wn ?_;exact AhN
  ·
   refine Qc (k:=Qv (k:=Wq (Zi (t:=fun h25=>?_) (f:=fun h25=>?_))))
   ·
    rw[Ahr,if_neg (by omega),if_pos (by omega)] at hsu;refine Zr (k:=Qv (k:=Vv (k:=Wn (Yb (Yb (Ya (Zr (k:=Qv (k:=Vv (k:=?_))))))))));refine Wn ?_;exact AhN
   ·
    refine Qc (k:=Qv (k:=Wq (Zi (t:=fun h29=>?_) (f:=fun h29=>?_))))
    ·
     rw[Ahr,if_neg (by omega),if_neg (by omega),if_pos (by omega)] at hsu;refine Zr (k:=Qv (k:=Vv (k:=Wn (Yb (Yb (Ya (Zr (k:=Qv (k:=Vv (k:=?_))))))))));refine Wn ?_;exact AhN
    ·
     rw[Ahr,if_neg (by omega),if_neg (by omega),if_neg (by omega)] at hsu;refine Zr (k:=Qv (k:=Qv (k:=Vv (k:=?_))));refine Aa6 (Ad9 (m:=j) (o:=j+1) Tryz.underlying9 rfl rfl rfl rfl (by omega) (by omega) (by omega)) rfl ?_;have hone:(s.drop j).take (j+1-j)=[s.getD j 0]:=by
      rw[drop_cons' hjl,show j+1-j=1 from by omega];rfl
     rw[hone];refine Qv (k:=Wn (Yb (Yb (Ya (Zr (k:=Qv (k:=Vv (k:=Wn ?_))))))));exact AhN
 ·
  refine Ze (k:=Xa (Xi (Xb (Ya (Qc (k:=Qv (k:=Wq (Zt (k:=?_)))))))));have hjl:j=s.length:=by omega
  subst hjl;rw[List.take_length];exact Aa2 () (vs:=[_]) (Cs:=[]) rfl (.tmp rfl .nil) rfl trivial Aad
def unV (s:Bs):Value:=.tuple #[vS ((AaB s).getD []),vB (AaB s).isSome]
theorem Aes {x:Option Bs} {a b:Bs}:(x.map (b++·)).map (a++·)=x.map ((a++b)++·):=by cases x<;>simp
theorem AkB (x:Option Bs):x=x.map ([]++·):=by cases x<;>rfl
theorem Ask : ∀(n:Nat) (s t:Bs),s.length≤n→AaB s=some t→t.length≤s.length:=by
 intro n
 induction n with
 | zero =>
   intro s t hs h;have:s=[]:=List.eq_nil_of_length_eq_zero (by omega);subst this
   cases h;simp
 | succ n ih =>
   intro s t hs h
   cases s with
   | nil=>cases h;simp
   | cons c r =>
     simp only[List.length_cons] at hs ⊢;rw[Ad5] at h;split at h
     · split at h
       · cases h
       · rename_i d r'
         simp only[List.length_cons] at hs ⊢;split at h
         · cases h
         · cases e:AaB r' with
           | none=>rw[e] at h;cases h
           | some u =>
             rw[e] at h
             cases h;have:=ih r' u (by omega) e;simp only[List.length_cons];omega
     · split at h
       · cases h
       · cases e:AaB r with
         | none=>rw[e] at h;cases h
         | some u =>
           rw[e] at h
           cases h;have:=ih r u (by omega) e;simp only[List.length_cons];omega
theorem Aiz {s t:Bs} (h:AaB s=some t):t.length≤s.length:=Ask _ s t (Nat.le_refl _) h
theorem Ah4 {s:Bs} {i:Nat} (h:i<s.length) (h1:(s.getD i 0).toNat≠92) (h2:(s.getD i 0).toNat≠32) (h3:(s.getD i 0).toNat≠10):AaB (s.drop i)=(AaB (s.drop (i+1))).map ([s.getD i 0]++·):=by
 rw[drop_cons' h,Ad5,if_neg h1,if_neg (by omega)];rfl
theorem Atm {s:Bs} {i:Nat} (h:i<s.length) (h1:(s.getD i 0).toNat≠92) (h2:(s.getD i 0).toNat=32∨(s.getD i 0).toNat=10):AaB (s.drop i)=none:=by
 rw[drop_cons' h,Ad5,if_neg h1,if_pos h2]
theorem ArI {s:Bs} {i:Nat} (h:i<s.length) (h1:(s.getD i 0).toNat=92) (h2:i+1=s.length):AaB (s.drop i)=none:=by
 rw[drop_cons' h,Ad5,if_pos h1,h2,List.drop_length]
theorem Atl {s:Bs} {i:Nat} (h:i<s.length) (h1:(s.getD i 0).toNat=92) (h2:i+1<s.length):AaB (s.drop i)=match unC (s.getD (i+1) 0) with | none=>none | some e=>(AaB (s.drop (i+2))).map ([e]++·):=by
 rw[drop_cons' h,Ad5,if_pos h1,drop_cons' h2];rfl
theorem Ago {G:Prop} (h:G:=by
    rw[Aes] at hu
    first
    | exact Aa5 ⟨(_,j+1),by dsimp only;omega,by dsimp only;rw[List.length_append];simp only[List.length_singleton];omega,hu⟩ (by dsimp only;omega) ⟨rfl,rfl,rfl,trivial⟩ Aa0
    | exact Aa5 ⟨(_,j+2),by dsimp only;omega,by dsimp only;rw[List.length_append];simp only[List.length_singleton];omega,hu⟩ (by dsimp only;omega) ⟨rfl,rfl,AeF (by dsimp only;omega),trivial⟩ Aa0):G:=h
theorem Alz {G:Prop} (h:G:=by
    rw[Atm hjl (by omega) (by omega)] at hu;refine Aa2 () (vs:=[_,_]) (Cs:=[]) rfl (.tmp rfl (.tmp rfl .nil)) ?_ trivial Aad;rw[unV,hu];rfl):G:=h
theorem Ahq (s:Bs) (hs:s.length≤1099511627776):SpF Tryz.prog 107 [vS s] (unV s):=by
 refine Sp.body (n:=42) Tryz.call107 Tryz.func107 rfl rfl rfl ?_;refine Qc (k:=Qv (k:=Wq (Qc (k:=Zc [.pointer none,.slice none 0 0] (k:=fun b4=>?_)))));refine wo_ent' (Ak8 (p:=b4) (by rfl) (by rfl) (by rfl)) ?_;refine Wq (Za (k:=Qc (k:=Vv (k:=Wq (Zb (k:=?_))))));refine Aak (fun (i:{ x:Bs×Nat // x.2≤s.length∧x.1.length≤x.2∧AaB s=(AaB (s.drop x.2)).map (x.1++·) })=>[(0,vS s),(4,.pointer (some ⟨b4,0,none⟩)),(5,vI i.1.2)]) (fun (i:{ x:Bs×Nat // x.2≤s.length∧x.1.length≤x.2∧AaB s=(AaB (s.drop x.2)).map (x.1++·) })=>[IsB b4 i.1.1]) (fun (i:{ x:Bs×Nat // x.2≤s.length∧x.1.length≤x.2∧AaB s=(AaB (s.drop x.2)).map (x.1++·) })=>s.length-i.1.2) rfl (⟨([],0),Nat.zero_le _,Nat.zero_le _,AkB (AaB s)⟩) ?_ ?_ (fun i=>?_)
 · exact⟨rfl,rfl,rfl,trivial⟩
 ·
  exact Ent.refl _
 obtain⟨⟨out,j⟩,hj,hol,hu⟩:=i;dsimp only at hj hol hu ⊢;try dsimp only
 refine Za (k:=Qc (k:=Qv (k:=Qv (k:=Wq (Zi (t:=fun h10=>?_) (f:=fun h10=>?_))))))
 ·
  refine Zk (k:=Ya (Za (k:=Zb (k:=Za (k:=?_)))));have hjl:j<s.length:=by omega
  refine Zr (k:=Qv (k:=Qv (k:=Wq (Za (k:=Qc (k:=Qv (k:=Wq ?_)))))));refine Zi (t:=fun h17=>?_) (f:=fun h17=>?_)
  ·
   refine Za (k:=Qc (k:=Qv (k:=Vv (k:=Wq (Qc (k:=Qv (k:=Vv (k:=?_))))))));refine Vv (k:=Wq (Zi (t:=fun h23=>?_) (f:=fun h23=>?_)))
   ·
    refine Qc (k:=Qv (k:=Wq (Zt (k:=Va (Va (Vb (Va (Vi (Vb ?_)))))))));refine Va ?_;rw[ArI hjl (by omega) (by omega)] at hu;refine Aa2 () (vs:=[_,_]) (Cs:=[]) rfl (.tmp rfl (.tmp rfl .nil)) ?_ trivial Aad;rw[unV,hu];rfl
   ·
    refine Zk (k:=Ya (Za (k:=?_)));have hj1:j+1<s.length:=by omega
    rw[Atl hjl (by omega) hj1] at hu;refine Zr (k:=Qv (k:=?_));refine Aa6 (Abt (m:=j+1) Tryz.underlying9 rfl rfl (by omega) (by omega)) rfl ?_;refine Wq (Zb (k:=Qc (k:=Qv (k:=Wq (Zi (t:=fun h27=>?_) (f:=fun h27=>?_))))))
    ·
     rw[unC,if_pos (by omega)] at hu;refine Zr (k:=Vv (k:=Wn (Yb (Ya (Zr (k:=Vv (k:=?_)))))))
     first
     | (rw[Ah4 hjl (by omega) (by omega) (by omega)] at hu
        refine Aaa (Ab3 b4 out (s.getD j 0) (by omega)) rfl rfl rfl ?_)
     | refine Aaa (Ab3 b4 out 32 (by omega)) rfl rfl rfl ?_
     | refine Aaa (Ab3 b4 out 10 (by omega)) rfl rfl rfl ?_
     | (rw[hc92];refine Aaa (Ab3 b4 out 92 (by omega)) rfl rfl rfl ?_)
     refine Wn (Yb (Ya (Zr (k:=Qv (k:=Vv (k:=Wn ?_))))));exact Ago
    ·
     refine Qc (k:=Qv (k:=Wq (Zi (t:=fun h29=>?_) (f:=fun h29=>?_))))
     ·
      rw[unC,if_neg (by omega),if_pos (by omega)] at hu;refine Zr (k:=Vv (k:=Wn (Yb (Ya (Zr (k:=Vv (k:=?_)))))))
      first
      | (rw[Ah4 hjl (by omega) (by omega) (by omega)] at hu
         refine Aaa (Ab3 b4 out (s.getD j 0) (by omega)) rfl rfl rfl ?_)
      | refine Aaa (Ab3 b4 out 32 (by omega)) rfl rfl rfl ?_
      | refine Aaa (Ab3 b4 out 10 (by omega)) rfl rfl rfl ?_
      | (rw[hc92];refine Aaa (Ab3 b4 out 92 (by omega)) rfl rfl rfl ?_)
      refine Wn (Yb (Ya (Zr (k:=Qv (k:=Vv (k:=Wn ?_))))));exact Ago
     ·
      refine Qc (k:=Qv (k:=Wq (Zi (t:=fun h31=>?_) (f:=fun h31=>?_))))
      ·
       rw[unC,if_neg (by omega),if_neg (by omega),if_pos (by omega)] at hu;have hc92:s.getD j 0=92:=u8eq.2 (show _=92 by omega);refine Zk (k:=Yb (Ya (Zr (k:=Vv (k:=?_)))))
       first
       | (rw[Ah4 hjl (by omega) (by omega) (by omega)] at hu
          refine Aaa (Ab3 b4 out (s.getD j 0) (by omega)) rfl rfl rfl ?_)
       | refine Aaa (Ab3 b4 out 32 (by omega)) rfl rfl rfl ?_
       | refine Aaa (Ab3 b4 out 10 (by omega)) rfl rfl rfl ?_
       | (rw[hc92];refine Aaa (Ab3 b4 out 92 (by omega)) rfl rfl rfl ?_)
       refine Wn (Yb (Ya (Zr (k:=Qv (k:=Vv (k:=Wn ?_))))));exact Ago
      ·
       refine Qc (k:=Qv (k:=Wq (Zt (k:=Vb (Va (Vb (Va (Vi (Vb ?_)))))))));refine Va ?_;rw[unC,if_neg (by omega),if_neg (by omega),if_neg (by omega)] at hu;refine Aa2 () (vs:=[_,_]) (Cs:=[]) rfl (.tmp rfl (.tmp rfl .nil)) ?_ trivial Aad;rw[unV,hu];rfl
  ·
   refine Qc (k:=Qv (k:=Vv (k:=Gi 2 (t:=fun h35=>?_) (f:=fun h35=>?_))))
   ·
    refine O1 (k:=O1 (k:=P1 (k:=Wq (Z1 (k:=Qc (k:=Qv (k:=Wq (Zt (k:=Va ?_)))))))));refine Vb (Va (Vi (Vb (Va ?_))));exact Alz
   ·
    refine J0 (k:=J0 (k:=P0 (k:=Wq (Zi (t:=fun h38=>?_) (f:=fun h38=>?_)))))
    ·
     refine Qc (k:=Qv (k:=Wq (Zt (k:=Va (Vb (Va (Vi (Vb (Va ?_)))))))));exact Alz
    ·
     refine Zk (k:=Ya (Zr (k:=Vv (k:=?_))))
     first
     | (rw[Ah4 hjl (by omega) (by omega) (by omega)] at hu
        refine Aaa (Ab3 b4 out (s.getD j 0) (by omega)) rfl rfl rfl ?_)
     | refine Aaa (Ab3 b4 out 32 (by omega)) rfl rfl rfl ?_
     | refine Aaa (Ab3 b4 out 10 (by omega)) rfl rfl rfl ?_
     | (rw[hc92];refine Aaa (Ab3 b4 out 92 (by omega)) rfl rfl rfl ?_)
     refine Wn (Yb (Ya (Zr (k:=Qv (k:=Vv (k:=Wn ?_))))));exact Ago
 ·
  refine Ze (k:=Xa (Xi (Xb (Ya (Za (k:=?_))))));have hjl:j=s.length:=by omega
  subst hjl;rw[AlD (Nat.le_refl _)] at hu;simp only[Option.map_some,List.append_nil] at hu;refine Zr (k:=?_);refine Aaa (Ai4 b4 out (by omega)) rfl rfl rfl ?_;refine Qv (k:=Wq (Zt (k:=?_)));refine Aa2 () (vs:=[_,_]) (Cs:=[]) rfl (.tmp rfl (.tmp rfl .nil)) ?_ trivial Aad;rw[unV,hu];rfl
theorem Ap5 {G:Prop} (h:G:=by
    have hu2:=Atm hjl (by omega) (by omega);rw[hu2] at hu;refine Aa2 () (vs:=[_,_]) (Cs:=[]) rfl (.tmp rfl (.tmp rfl .nil)) ?_ trivial Aad;rw[unV,hu];rfl):G:=h
theorem AhL {G:Prop} (h:G:=by
    first
    | exact Aa5 ⟨(_,j+1),by dsimp only;omega,by dsimp only;rw[List.length_append];simp only[List.length_singleton];omega,hu⟩ (by dsimp only;omega) ⟨rfl,rfl,rfl,trivial⟩ Aad
    | exact Aa5 ⟨(_,j+2),by dsimp only;omega,by dsimp only;rw[List.length_append];simp only[List.length_singleton];omega,hu⟩ (by dsimp only;omega) ⟨rfl,rfl,AeF (by dsimp only;omega),trivial⟩ Aad):G:=h
theorem Afy (s:Bs) (hs:s.length≤1099511627776):SpF Tryz.prog 69 [vS s] (unV s):=by
 refine Sp.body (n:=53) Tryz.call69 Tryz.func69 rfl rfl rfl ?_;refine Qc (k:=Qv (k:=Wq (Qc (k:=Vv (k:=Wq (Za (k:=Qc (k:=?_))))))));refine Vv (k:=Wq (Zb (k:=?_)));refine Aak (fun (i:{ x:Bs×Nat // x.2≤s.length∧x.1.length≤x.2∧AaB s=(AaB (s.drop x.2)).map (x.1++·) })=>[(0,vS s),(4,vS i.1.1),(5,vI i.1.2)]) (fun (i:{ x:Bs×Nat // x.2≤s.length∧x.1.length≤x.2∧AaB s=(AaB (s.drop x.2)).map (x.1++·) })=>[]) (fun (i:{ x:Bs×Nat // x.2≤s.length∧x.1.length≤x.2∧AaB s=(AaB (s.drop x.2)).map (x.1++·) })=>s.length-i.1.2) rfl (⟨([],0),Nat.zero_le _,Nat.zero_le _,AkB (AaB s)⟩) ?_ ?_ (fun i=>?_)
 · exact⟨rfl,rfl,rfl,trivial⟩
 ·
  exact Aad
 obtain⟨⟨out,j⟩,hj,hol,hu⟩:=i;dsimp only at hj hol hu ⊢;try dsimp only
 refine Za (k:=Qc (k:=Qv (k:=Qv (k:=Wq (Zi (t:=fun h10=>?_) (f:=fun h10=>?_))))))
 ·
  refine Zk (k:=Ya (Za (k:=Zb (k:=Za (k:=?_)))));have hjl:j<s.length:=by omega
  refine Zr (k:=Qv (k:=Qv (k:=Wq (Za (k:=Qc (k:=Qv (k:=Vv (k:=?_))))))));refine Gi 2 (t:=fun h18=>?_) (f:=fun h18=>?_)
  ·
   refine O1 (k:=O1 (k:=P1 (k:=Wq (Z1 (k:=Qc (k:=Qv (k:=Wq (Zt (k:=Va ?_)))))))));refine Vb (Va (Vi (Vb (Va ?_))));exact Ap5
  ·
   refine J0 (k:=J0 (k:=P0 (k:=Wq (Zi (t:=fun h21=>?_) (f:=fun h21=>?_)))))
   ·
    refine Qc (k:=Qv (k:=Wq (Zt (k:=Va (Vb (Va (Vi (Vb (Va ?_)))))))));exact Ap5
   ·
    refine Zk (k:=Ya (Za (k:=Qc (k:=Qv (k:=Wq (Zi (t:=fun h23=>?_) (f:=fun h23=>?_)))))))
    ·
     refine Za (k:=?_);rw[Ah4 hjl (by omega) (by omega) (by omega),Aes] at hu;have hone:(s.drop j).take (j+1-j)=[s.getD j 0]:=by
      rw[drop_cons' hjl,show j+1-j=1 from by omega];rfl
     refine Zr (k:=Qv (k:=Qv (k:=Vv (k:=?_))));refine Aa6 (Ad9 (m:=j) (o:=j+1) Tryz.underlying9 rfl rfl rfl rfl (by omega) (by omega) (by omega)) rfl ?_;rw[hone];refine Qv (k:=Wq (Ze (k:=Xa (Xb (Ya (Zr (k:=Qv (k:=Vv (k:=Wn ?_)))))))));exact AhL
    ·
     refine Zk (k:=Ya (Qc (k:=Qv (k:=Vv (k:=Wq (Za (k:=Qc (k:=Vv (k:=?_)))))))));refine Qv (k:=Vv (k:=Wq (Zi (t:=fun h36=>?_) (f:=fun h36=>?_))))
     ·
      refine Qc (k:=Qv (k:=Wq (Zt (k:=Va (Vb (Va (Vi (Vb (Va ?_)))))))));rw[ArI hjl (by omega) (by omega)] at hu;refine Aa2 () (vs:=[_,_]) (Cs:=[]) rfl (.tmp rfl (.tmp rfl .nil)) ?_ trivial Aad;rw[unV,hu];rfl
     ·
      refine Zk (k:=Ya (Za (k:=?_)));have hj1:j+1<s.length:=by omega
      rw[Atl hjl (by omega) hj1] at hu;refine Zr (k:=Qv (k:=?_));refine Aa6 (Abt (m:=j+1) Tryz.underlying9 rfl rfl (by omega) (by omega)) rfl ?_;refine Wq (Zb (k:=Qc (k:=Qv (k:=Wq (Zi (t:=fun h40=>?_) (f:=fun h40=>?_))))))
      ·
       rw[unC,if_pos (by omega)] at hu;dsimp only at hu;rw[Aes] at hu;refine Zr (k:=Qv (k:=Vv (k:=Wn (Yb (Yb (Ya (Zr (k:=Qv (k:=Vv (k:=?_))))))))));refine Wn ?_;exact AhL
      ·
       refine Qc (k:=Qv (k:=Wq (Zi (t:=fun h44=>?_) (f:=fun h44=>?_))))
       ·
        rw[unC,if_neg (by omega),if_pos (by omega)] at hu;dsimp only at hu;rw[Aes] at hu;refine Zr (k:=Qv (k:=Vv (k:=Wn (Yb (Yb (Ya (Zr (k:=Qv (k:=Vv (k:=?_))))))))));refine Wn ?_;exact AhL
       ·
        refine Qc (k:=Qv (k:=Wq (Zi (t:=fun h48=>?_) (f:=fun h48=>?_))))
        ·
         rw[unC,if_neg (by omega),if_neg (by omega),if_pos (by omega)] at hu;dsimp only at hu;rw[Aes] at hu;refine Zr (k:=Qv (k:=Vv (k:=Wn (Yb (Yb (Ya (Zr (k:=Qv (k:=Vv (k:=?_))))))))));refine Wn ?_;exact AhL
        ·
         refine Qc (k:=Qv (k:=Wq (Zt (k:=Vb (Vb (Va (Vi (Vb (Va ?_)))))))));rw[unC,if_neg (by omega),if_neg (by omega),if_neg (by omega)] at hu;refine Aa2 () (vs:=[_,_]) (Cs:=[]) rfl (.tmp rfl (.tmp rfl .nil)) ?_ trivial Aad;rw[unV,hu];rfl
 ·
  refine Ze (k:=Xa (Xi (Xb (Ya (Qc (k:=Qv (k:=Vv (k:=Wq (Zt (k:=?_))))))))));have hjl:j=s.length:=by omega
  subst hjl;rw[AlD (Nat.le_refl _)] at hu;simp only[Option.map_some,List.append_nil] at hu;refine Aa2 () (vs:=[_,_]) (Cs:=[]) rfl (.tmp rfl (.tmp rfl .nil)) ?_ trivial Aad;rw[unV,hu];rfl
theorem Apd {s:Bs} {j:Nat} (h:j<s.length) (hb:(s.getD j 0).toNat≤32∨126<(s.getD j 0).toNat∨(s.getD j 0).toNat=92):¬Acm s:=by
 rintro⟨h1,_⟩;have:=h1 (s.getD j 0) (by simp[h]);omega
theorem Ape {s:Bs} (h:∀i,i<s.length→32<(s.getD i 0).toNat∧(s.getD i 0).toNat≤126∧(s.getD i 0).toNat≠92):Acm s↔1≤s.length∧s.length≤12 :=
 ⟨fun x=>x.2,fun x=>⟨fun c hc=>by obtain⟨i,hi,rfl⟩:=Aby (d:=0) hc;exact h i hi,x⟩⟩
theorem AjI {G:Prop} (h:G:=by
    have hn:=Apd hjl (by omega);refine Aa2 () (vs:=[_]) (Cs:=[]) rfl (.tmp rfl .nil) ?_ trivial Aad;rw[decide_eq_false hn];rfl):G:=h
theorem Anm {G:Prop} (h:G:=by
    refine Aa2 () (vs:=[_]) (Cs:=[]) rfl (.tmp rfl .nil) ?_ trivial Aad;show vB _=vB _;congr 1
    first
    | (have hp:=List.length_pos_iff.2 h28
       refine decide_eq_decide.2 (Iff.trans ?_ hall.symm);constructor<;>intro h<;>omega)
    | (have hp:s=[]:=by simpa using h28
       exact(decide_eq_false (fun h=>by have:=(hall.1 h).1;rw[hp] at this;simp at this)).symm)):G:=h
theorem Ad1 (s:Bs) (hs:s.length≤9223372036854775807):SpF Tryz.prog 212 [vS s] (vB (decide (Acm s))):=by
 refine Sp.body (n:=33) Tryz.call212 Tryz.func212 rfl rfl rfl ?_;refine Qc (k:=Vv (k:=Wq (Za (k:=Qc (k:=Qv (k:=Vv (k:=Wq (Zb (k:=?_)))))))));refine Aak (fun (i:{ j:Nat // j≤s.length∧∀i,i<j→32<(s.getD i 0).toNat∧(s.getD i 0).toNat≤126∧(s.getD i 0).toNat≠92 })=>[(0,vS s),(5,vI s.length),(6,vI i.1)]) (fun (i:{ j:Nat // j≤s.length∧∀i,i<j→32<(s.getD i 0).toNat∧(s.getD i 0).toNat≤126∧(s.getD i 0).toNat≠92 })=>[]) (fun (i:{ j:Nat // j≤s.length∧∀i,i<j→32<(s.getD i 0).toNat∧(s.getD i 0).toNat≤126∧(s.getD i 0).toNat≠92 })=>s.length-i.1) rfl (⟨0,Nat.zero_le _,fun i h=>by omega⟩) ?_ ?_ (fun i=>?_)
 · exact⟨rfl,rfl,rfl,trivial⟩
 ·
  exact Aa0
 obtain⟨j,hj,hin⟩:=i;dsimp only;try dsimp only
 refine Qc (k:=Vv (k:=Wq (Za (k:=Zi (t:=fun h7=>?_) (f:=fun h7=>?_)))))
 ·
  refine Zk (k:=Ya (Za (k:=Zb (k:=Qc (k:=Qv (k:=Wq (Za (k:=?_))))))));have hjl:j<s.length:=by omega
  refine Zr (k:=Qv (k:=Qv (k:=Vv (k:=Gi 4 (t:=fun h13=>?_) (f:=fun h13=>?_)))))
  ·
   refine O1 (k:=O1 (k:=O1 (k:=O1 (k:=P1 (k:=Vv (k:=O1 (k:=O1 (k:=O1 (k:=O1 (k:=P1 (k:=Wq ?_)))))))))));refine Z1 (k:=Qc (k:=Vv (k:=Wq (Zt (k:=Vb (Va (Vi (Vb (Va ?_)))))))));exact AjI
  ·
   refine J0 (k:=J0 (k:=J0 (k:=J0 (k:=P0 (k:=Vv (k:=Gi 10 (t:=fun h19=>?_) (f:=fun h19=>?_)))))))
   ·
    refine O1 (k:=O1 (k:=O1 (k:=O1 (k:=P1 (k:=Wq (Z1 (k:=Qc (k:=Vv (k:=Wq (Zt (k:=?_)))))))))));refine Vb (Va (Vi (Vb (Va ?_))));exact AjI
   ·
    refine J0 (k:=J0 (k:=J0 (k:=J0 (k:=P0 (k:=Wq (Zi (t:=fun h24=>?_) (f:=fun h24=>?_)))))))
    ·
     refine Qc (k:=Vv (k:=Wq (Zt (k:=Vb (Va (Vi (Vb (Va ?_))))))));exact AjI
    ·
     refine Zk (k:=Yb (Ya (Zr (k:=Qv (k:=Wn ?_)))));refine Aa5 ⟨j+1,by omega,fun i hi=>?_⟩ (by dsimp only;omega) ⟨rfl,rfl,rfl,trivial⟩ Aad;by_cases he:i=j
     · subst he;omega
     · exact hin i (by omega)
 ·
  refine Ze (k:=Xa (Xi (Xb (Ya (Za (k:=?_))))));have hall:=Ape (s:=s) fun i hi=>hin i (by omega);refine Zr (k:=Qv (k:=Vv (k:=Gi 2 (t:=fun h28=>?_) (f:=fun h28=>?_))))
  ·
   refine J1 (k:=J1 (k:=J1 (k:=P1 (k:=Vv (k:=Wq (Zt (k:=?_)))))));exact Anm
  ·
   refine O0 (k:=O0 (k:=O0 (k:=P0 (k:=Vv (k:=Wq (Zt (k:=?_)))))));exact Anm
theorem AjM {G:Prop} (h:G:=by
    have hn:=Apd hjl (by omega);refine Aa2 () (vs:=[_]) (Cs:=[]) rfl (.tmp rfl .nil) ?_ trivial Aad;rw[decide_eq_false hn];rfl):G:=h
theorem Ant {G:Prop} (h:G:=by
    refine Aa2 () (vs:=[_]) (Cs:=[]) rfl (.tmp rfl .nil) ?_ trivial Aad;show vB _=vB _;congr 1
    first
    | exact(decide_eq_false (fun h=>by have:=(hall.1 h).1;omega)).symm
    | (refine decide_eq_decide.2 (Iff.trans ?_ hall.symm)
       constructor<;>intro h<;>omega)):G:=h
theorem Acj (s:Bs) (hs:s.length≤9223372036854775807):SpF Tryz.prog 124 [vS s] (vB (decide (Acm s))):=by
 refine Sp.body (n:=34) Tryz.call124 Tryz.func124 rfl rfl rfl ?_;refine Qc (k:=Vv (k:=Wq (Za (k:=Qc (k:=Vv (k:=Wq (Zb (k:=?_))))))));refine Aak (fun (i:{ j:Nat // j≤s.length∧∀i,i<j→32<(s.getD i 0).toNat∧(s.getD i 0).toNat≤126∧(s.getD i 0).toNat≠92 })=>[(0,vS s),(3,vI i.1)]) (fun (i:{ j:Nat // j≤s.length∧∀i,i<j→32<(s.getD i 0).toNat∧(s.getD i 0).toNat≤126∧(s.getD i 0).toNat≠92 })=>[]) (fun (i:{ j:Nat // j≤s.length∧∀i,i<j→32<(s.getD i 0).toNat∧(s.getD i 0).toNat≤126∧(s.getD i 0).toNat≠92 })=>s.length-i.1) rfl (⟨0,Nat.zero_le _,fun i h=>by omega⟩) ?_ ?_ (fun i=>?_)
 · exact⟨rfl,rfl,trivial⟩
 ·
  exact Aa0
 obtain⟨j,hj,hin⟩:=i;dsimp only;try dsimp only
 refine Za (k:=Qc (k:=Qv (k:=Qv (k:=Wq (Zi (t:=fun h7=>?_) (f:=fun h7=>?_))))))
 ·
  refine Zk (k:=Ya (Za (k:=Zb (k:=Za (k:=?_)))));have hjl:j<s.length:=by omega
  refine Zr (k:=Qv (k:=Qv (k:=Vv (k:=Gi 4 (t:=fun h14=>?_) (f:=fun h14=>?_)))))
  ·
   refine O1 (k:=O1 (k:=O1 (k:=O1 (k:=P1 (k:=Vv (k:=O1 (k:=O1 (k:=O1 (k:=O1 (k:=P1 (k:=Wq ?_)))))))))));refine Z1 (k:=Qc (k:=Vv (k:=Wq (Zt (k:=Vb (Va (Vi (Vb (Va ?_)))))))));exact AjM
  ·
   refine J0 (k:=J0 (k:=J0 (k:=J0 (k:=P0 (k:=Vv (k:=Gi 10 (t:=fun h20=>?_) (f:=fun h20=>?_)))))))
   ·
    refine O1 (k:=O1 (k:=O1 (k:=O1 (k:=P1 (k:=Wq (Z1 (k:=Qc (k:=Vv (k:=Wq (Zt (k:=?_)))))))))));refine Vb (Va (Vi (Vb (Va ?_))));exact AjM
   ·
    refine J0 (k:=J0 (k:=J0 (k:=J0 (k:=P0 (k:=Wq (Zi (t:=fun h25=>?_) (f:=fun h25=>?_)))))))
    ·
     refine Qc (k:=Vv (k:=Wq (Zt (k:=Vb (Va (Vi (Vb (Va ?_))))))));exact AjM
    ·
     refine Zk (k:=Yb (Ya (Zr (k:=Qv (k:=Vv (k:=Wn ?_))))));refine Aa5 ⟨j+1,by omega,fun i hi=>?_⟩ (by dsimp only;omega) ⟨rfl,rfl,trivial⟩ Aad;by_cases he:i=j
     · subst he;omega
     · exact hin i (by omega)
 ·
  refine Ze (k:=Xa (Xi (Xb (Ya (Za (k:=?_))))));have hall:=Ape (s:=s) fun i hi=>hin i (by omega);refine Zr (k:=Qv (k:=Qv (k:=Gi 3 (t:=fun h29=>?_) (f:=fun h29=>?_))))
  ·
   refine J1 (k:=J1 (k:=J1 (k:=P1 (k:=Vv (k:=Wq (Zt (k:=?_)))))));exact Ant
  ·
   refine O0 (k:=O0 (k:=O0 (k:=P0 (k:=Vv (k:=Wq (Zt (k:=?_)))))));exact Ant
theorem AoY (l:List UInt8) (c:UInt8):SpF Tryz.prog 225 [vS l,vS [c]] (vI (Lib.indexByte l c)) :=
 SpF.of_same Tryz.call225 fun w=>Tryz.stringslite_Index_one ⟨⟨l⟩⟩ c w
theorem Adv (l:List UInt8) (c:UInt8):SpF Tryz.prog 226 [vS l,vS [c]] (vB (decide (c∈l))):=by
 have e:decide (0≤Lib.indexByte l c)=decide (c∈l):=decide_eq_decide.2 ⟨fun h=>Classical.byContradiction fun hn=>by have:=index_neg.2 hn;omega,fun h=>Classical.byContradiction fun hn=>index_neg.1 (by omega) h⟩;rw[←e];exact SpF.of_same Tryz.call226 fun w=>Tryz.strings_Contains_one ⟨⟨l⟩⟩ c w
theorem An2 (l p:List UInt8):SpF Tryz.prog 108 [vS l,vS p] (vS (Lib.trimPrefix l p)) :=
 SpF.of_same Tryz.call108 fun w=>Tryz.strings_TrimPrefix ⟨⟨l⟩⟩ ⟨⟨p⟩⟩ w
def AsT (d:UInt8) (s:Bs):Value:=.tuple #[vS (Afk d s).1,vS (Afk d s).2.1,vB (Afk d s).2.2]
theorem Arm (d:UInt8) (s:Bs):(Lib.indexByte s d<0∧Afk d s=(s,[],false))∨∃i:Nat,Lib.indexByte s d=(i:Int)∧i<s.length∧Afk d s=(s.take i,s.drop (i+1),true):=by
 rw[Ahm];unfold Afk
 cases h:s.findIdx? (· == d) with
 | none=>exact .inl ⟨by decide,rfl⟩
 | some i=>exact .inr ⟨i,rfl,(List.findIdx?_eq_some_iff_getElem.1 h).1,rfl⟩
theorem Arb (s:Bs) (d:UInt8) (hs:s.length≤1099511627776):SpF Tryz.prog 199 [vS s,vS [d]] (AsT d s):=by
 have hx:=index_neg (l:=s) (c:=d);have hc:=Arm d s;have hd1:([d]:Bs).length=1:=rfl;refine Sp.body (n:=23) Tryz.call199 Tryz.func199 rfl rfl rfl ?_;refine Qc (k:=Qv (k:=Vv (k:=Wq (Za (k:=Qc (k:=Qv (k:=?_)))))));refine Aag (AoY s d) rfl rfl rfl ?_;refine Vv (k:=Wq (Qc (k:=Qv (k:=Wq (Zi (t:=fun h12=>?_) (f:=fun h12=>?_))))))
 ·
  obtain⟨i,hi,hil,hcut⟩:=hc.resolve_left (fun h=>by omega);rw[hi];refine Za (k:=Dw [] (k:=?_));refine Dv 0 (k:=Dv 1 (k:=?_));refine Aa1 2 rfl rfl rfl (by kernel_rfl) (by kernel_rfl) (Aat (Acd (m:=i) Tryz.underlying9 rfl rfl rfl (by omega))) ?_;refine Dv 3 (k:=Dv 4 (k:=Dv 5 (k:=Dv 6 (k:=Dv 7 (k:=?_)))));refine Aa1 8 rfl rfl rfl (by kernel_rfl) (by kernel_rfl) (Aat (Ac5 (m:=i+1) Tryz.underlying9 rfl rfl rfl (by omega))) ?_;refine Dv 9 (k:=Dv 10 (k:=Dv 11 (k:=Dd (k:=Ya (Zt (k:=Va ?_))))));refine Aa2 () (vs:=[_,_,_]) (Cs:=[]) rfl (.tmp rfl (.tmp rfl (.tmp rfl .nil))) ?_ trivial Aad;rw[AsT,hcut];rfl
 ·
  refine Zk (k:=Ya (Qc (k:=Qv (k:=Qv (k:=Wq (Zt (k:=?_)))))));refine Aa2 () (vs:=[_,_,_]) (Cs:=[]) rfl (.tmp rfl (.tmp rfl (.tmp rfl .nil))) ?_ trivial Aad;rcases hc with ⟨_,hc⟩ | ⟨i,hi,_,_⟩
  · rw[AsT,hc];rfl
  · omega
theorem AuN (s:Bs) (d:UInt8) (hs:s.length≤1099511627776):SpF Tryz.prog 153 [vS s,vS [d]] (AsT d s):=by
 refine Sp.body (n:=13) Tryz.call153 Tryz.func153 rfl rfl rfl ?_;refine Qc (k:=Qv (k:=Vv (k:=Wq (Qc (k:=Qv (k:=?_))))));refine Aag (Arb s d hs) rfl rfl rfl ?_;refine Aa6 (Aa7 (v:=vS (Afk d s).1) rfl rfl) rfl ?_;refine Qv (k:=Qv (k:=Vv (k:=Wq (Zt (k:=?_)))));exact Aa2 () (vs:=[_,_,_]) (Cs:=[]) rfl (.tmp rfl (.tmp rfl (.tmp rfl .nil))) rfl trivial Aad
theorem AkZ (s:Bs):Sp Tryz.prog 154 [vS s] [] (X:=Nat) (fun b=>.func (.func 200) #[] #[.pointer (some ⟨b,0,none⟩)]) (fun _=>True) (fun b=>[Ce b 9 [vS s]]):=by
 refine Sp.body (n:=4) Tryz.call154 Tryz.func154 rfl rfl rfl ?_;refine Qc (k:=Zx [_] (k:=fun b1=>Vv (k:=Wq (Qc (k:=Qv (k:=Wq (Zt (k:=?_))))))));refine Aa2 b1 (vs:=[_]) (Cs:=[]) rfl (.tmp rfl .nil) rfl trivial ?_;exact Aa0
abbrev okW (s:Bs):List Bs→Bs→Prop:=fun pre w=>∃r,Aaw 32 s=pre++w::r
abbrev Axc (s:Bs):List Bs→Prop:=fun pre=>∃r,Aaw 32 s=pre++r
theorem Ap8 {G:Prop} (h:G:=by
    first
    | (refine Aa2 (some (pre++[w])) (vs:=[]) (Cs:=[]) rfl .nil rfl (fun p e=>by cases e;obtain⟨r,hr⟩:=hc1;exact⟨r,by rw[hpre,hr];simp⟩) ?_
       simp only[Acz];exact Aa0)
    | (have hall:Aaw 32 s=pre++[w]:=by rw[hpre,hc2 (by simpa using h19)]
       refine Aa2 none (vs:=[]) (Cs:=[]) rfl .nil rfl (fun p e=>by cases e) ?_;simp only[Acz];rw[hall];exact Aa0)):G:=h
theorem Al0 (s:Bs) (hs:s.length≤1099511627776) (b:Nat) :
    Iter Tryz.prog 200 [.pointer (some ⟨b,0,none⟩)] (fun w:Bs=>[vS w]) (okW s) (Axc s) [Ce b 9 [vS s]] [] (Aaw 32 s) (fun _=>.tuple #[]):=by
 intro y J Jx ys;refine Sp.body (n:=21) Tryz.call200 Tryz.func200 rfl rfl rfl ?_;refine Zb (k:=?_);refine Aak (fun (i:{ x:List Bs×Bs // Aaw 32 s=x.1++Aaw 32 x.2∧x.2.length≤s.length })=>[(0,y),(1,.pointer (some ⟨b,0,none⟩))]) (fun (i:{ x:List Bs×Bs // Aaw 32 s=x.1++Aaw 32 x.2∧x.2.length≤s.length })=>[J i.1.1,Ce b 9 [vS i.1.2]]) (fun (i:{ x:List Bs×Bs // Aaw 32 s=x.1++Aaw 32 x.2∧x.2.length≤s.length })=>i.1.2.length) rfl (⟨([],s),rfl,Nat.le_refl _⟩) ?_ ?_ (fun i=>?_)
 · exact⟨rfl,rfl,trivial⟩
 ·
  exact Ent.refl _
 obtain⟨⟨pre,t⟩,hpre,htl⟩:=i;dsimp only at hpre htl ⊢;try dsimp only
 refine Zb (k:=Za (k:=?_));have hcc:(∃r,Aaw 32 t=(Afk 32 t).1::r)∧((Afk 32 t).2.2=false→Aaw 32 t=[(Afk 32 t).1])∧((Afk 32 t).2.2=true→Aaw 32 t=(Afk 32 t).1::Aaw 32 (Afk 32 t).2.1∧(Afk 32 t).2.1.length<t.length):=by
  rcases Ami 32 t with ⟨hn,hc⟩ | ⟨x,r,he,hn,hc⟩
  · rw[hc,Ags hn]
    refine⟨⟨[],rfl⟩,fun _=>rfl,?_⟩;intro h;cases h
  · rw [hc,he,AiB hn]
    refine⟨⟨_,rfl⟩,?_,?_⟩
    · intro h;cases h
    · intro _
      refine⟨rfl,?_⟩
      simp;omega
 generalize hw:(Afk 32 t).1=w at hcc;generalize hr:(Afk 32 t).2.1=rest at hcc;generalize hm:(Afk 32 t).2.2=more at hcc;obtain⟨hc1,hc2,hc3⟩:=hcc;refine Zr (k:=Zd (k:=?_));refine Aag (AuN t 32 (by omega)) rfl rfl rfl ?_;rw[AsT];rw[hw,hr,hm];refine Vv (k:=?_);refine Aa6 (Aa7 (v:=vS w) rfl rfl) rfl ?_;refine Aa6 (Aa7 (v:=vS rest) rfl rfl) rfl ?_;refine Aa6 (Aa7 (v:=vB more) rfl rfl) rfl ?_;refine Qv (k:=Vv (k:=Wq (Za (k:=Qc (k:=Qv (k:=?_))))));refine Ajh ys pre w (by obtain⟨r,hr⟩:=hc1;exact⟨r,by rw[hpre,hr]⟩) rfl rfl rfl ?_ ?_
 ·
  refine Qv (k:=J0 (k:=J0 (k:=P0 (k:=Wq (Zi (t:=fun h19=>?_) (f:=fun h19=>?_))))))
  ·
   refine Zt (k:=Va (Vb (Vi (Vb ?_))));exact Ap8
  ·
   refine Zk (k:=Ya (Zr (k:=Vv (k:=Zo (k:=Wn (Yb ?_))))));obtain⟨h1,h2⟩:=hc3 (by simp_all);refine Aa5 ⟨(pre++[w],rest),?_,?_⟩ ?_ ⟨rfl,rfl,trivial⟩ Aa0
   · dsimp only;rw[hpre,h1];simp
   · dsimp only;omega
   · dsimp only;omega
 ·
  refine Qv (k:=O1 (k:=O1 (k:=P1 (k:=Wq (Z1 (k:=Zt (k:=Va (Vb (Vi (Vb ?_))))))))));exact Ap8
end
end Go.Proofs.YtdnoacgopfcpbaaGreat
