/- Texts of this proof, put together: P19G, P19A, PDir, SLinks2, SR17, SR17b, SR17c, PDiff, P17R. -/
import Derived.Test.YtdnoacgopfcpbaaGreatQ30
set_option linter.unusedVariables false
set_option linter.unusedSimpArgs false
namespace Go.Proofs.YtdnoacgopfcpbaaGreat
section
def gwC (i:Nat):Ck:=Ake (if i=0 then [] else [gwX (i-1)]) [] me (i:Int)
def gL (k:Nat):List (Bs×Bs):=(List.range k).map fun i=>(gwX i,ckB (gwC i))
structure GwH (K:Ks) (k:Nat):Prop where
 hk:k≤6
 ck:∀x,x∈AaY K↔∃i,i<k∧x=(gwX i,gwC i)
 nd:((AaY K).map (·.1)).Nodup
theorem Ao2 {C:List (Bs×Ck)} (hn:(C.map (·.1)).Nodup) {n:Bs} {c:Ck}:Ac7 C n=some c↔(n,c)∈C:=by
 induction C with
 | nil=>simp[Ac7]
 | cons a r ih =>
   simp only[List.map_cons,List.nodup_cons] at hn;rw[Ac7,List.mem_cons];by_cases h:a.1=n
   · rw [if_pos h]
     constructor
     · intro e
       left
       exact Prod.ext h.symm (Option.some.inj e).symm
     · rintro(e | e)
       · rw[←e]
       · exact absurd (by rw[h];exact List.mem_map_of_mem (f:=fun p:Bs×Ck=>p.1) e) hn.1
   · rw[if_neg h,ih hn.2]
     exact⟨.inr,fun e=>e.resolve_left (fun e=>h (by rw[←e]))⟩
section
variable {K:Ks} {k:Nat} (h:GwH K k)
include h
end
end
section
theorem Asi {C:List (Bs×Ck)} {l:Ls} {tag name n:Bs} (h:Ac7 C n=none) (k:Nat):Adw C l tag name k n=none:=by
 cases k with
 | zero=>rfl
 | succ k=>rw[Adw,h]
theorem AuE {K:Ks} {n:Bs} (h:Ac7 (AaY K) n=none):brH K n=trB:=Aqq (Asi h _)
section
variable {K:Ks} (h:HdP K)
include h
theorem HdP.held:HeldP K (K.map fun p=>(p.1,Afn p.2)):=by
 refine⟨?_,?_,?_⟩
 · rw [List.map_map]
   have:K=K.map ((fun p:Bs×Bs=>(p.1,vS p.2)) ∘ fun p=>(p.1,Afn p.2)):=by
    refine List.ext_getElem (by simp) fun i h1 h2=>?_;rw[List.getElem_map];obtain⟨s,e,_⟩:=h.ok K[i] (List.getElem_mem h1);rw[e];simp[Afn,vS]
   rw[←this]
 · rw[List.map_map]
   exact h.nd
 · intro p hp
   obtain⟨q,hq,rfl⟩:=List.mem_map.1 hp;obtain⟨s,rfl,hs⟩:=h.ok q hq;simp[Afn,vS];omega
theorem HdP.ck {n:Bs} {c:Ck}:(n,c)∈AaY K↔∃s,(n,vS s)∈K∧AaD s=some c:=by
 rw[h.held.cks];constructor
 · rintro⟨p,hp,rfl,hr⟩
   obtain⟨q,hq,rfl⟩:=List.mem_map.1 hp;obtain⟨s,rfl,hs⟩:=h.ok q hq;refine⟨s,hq,?_⟩;simpa [Afn,vS] using hr
 · rintro⟨s,hs,hr⟩
   exact⟨(n,s),List.mem_map.2 ⟨_,hs,by simp[Afn,vS]⟩,rfl,hr⟩
theorem HdP.n40 {n:Bs} (hn:n.length≠40):n∉(AaY K).map (·.1):=fun hm=>by
 obtain⟨⟨m,c⟩,hx,rfl⟩:=List.mem_map.1 hm;obtain⟨s,hs,_⟩:=h.ck.1 hx;exact hn (h.k40 (List.mem_map_of_mem (f:=fun p:Bs×Value=>p.1) hs))
theorem HdP.nobody {n:Bs} (hn:n.length≠40):brH K n=trB:=by
 refine AuE ?_
 cases e:Ac7 (AaY K) n with
 | none=>rfl
 | some c =>
   have h1:n∈(AaY K).map (·.1):=List.mem_map_of_mem (f:=fun p:Bs×Ck=>p.1) ((Ao2 h.held.cnd).1 e);exact absurd h1 (h.n40 hn)
theorem HdP.cnd:(AgI K).Nodup:=h.held.cnd
theorem HdP.cle:(AgI K).length≤K.length:=by
 have _:=h;have h1:=cksL_len' K;have h2:(AgI K).length=(AaY K).length:=List.length_map ..;omega
end
def Abn (l:List (Bs×List Bs)):List Bs:=l.flatMap (·.2)
theorem Ak9 (l m:List (Bs×List Bs)):Abn (l++m)=Abn l++Abn m:=by simp[Abn]
theorem Ao0 (x:Bs×List Bs):Abn [x]=x.2:=by simp[Abn]
theorem mem_doneN {K:Ks} {n:Bs}:n∈Abn (brL K)↔n∈AgI K:=by
 unfold Abn brL;rw[List.mem_flatMap];constructor
 · rintro⟨x,hx,hn⟩
   obtain⟨b,hb,rfl⟩:=List.mem_map.1 hx;exact(List.mem_filter.1 hn).1
 · intro hn
   refine⟨AjB K (brH K n),List.mem_map_of_mem ?_,List.mem_filter.2 ⟨hn,by simp⟩⟩;rw[AeR,Ahv,(AbB _).mem_iff];exact List.mem_map_of_mem hn
theorem AkF {K:Ks} (h:(AgI K).Nodup):(Abn (brL K)).Nodup:=by
 unfold Abn brL;refine List.pairwise_flatMap.2 ⟨fun x hx=>?_,?_⟩
 · obtain⟨b,hb,rfl⟩:=List.mem_map.1 hx
   exact h.sublist List.filter_sublist
 · rw[List.pairwise_map]
   have hs:(AeR K).Pairwise (· < ·):=Ahu _ (AcF _);refine hs.imp fun {a b} hab x hx y hy e=>?_;have h1:=(List.mem_filter.1 hx).2;have h2:=(List.mem_filter.1 hy).2;rw[decide_eq_true_iff] at h1 h2;rw[←e,h1] at h2;subst h2;exact absurd hab (List.lt_irrefl _)
theorem Au4 {K:Ks} {pre:List BrN} {x:BrN} (h:Ar4 K pre x):∃r,Abn (brL K)=Abn (pre.map Abi)++x.2.2++r:=by
 obtain⟨r,e⟩:=h;refine⟨Abn r,?_⟩;rw[e,show Abi x::r=[Abi x]++r from rfl,Ak9,Ak9,Ao0,List.append_assoc];rfl
theorem ArU {K:Ks} {pre:List BrN} {x:BrN} (h:Ar4 K pre x):x.2.2=(AgI K).filter fun n=>decide (brH K n=x.1):=by
 obtain⟨r,e⟩:=h;have hm:Abi x∈brL K:=by rw[e];simp
 obtain⟨b,hb,e2⟩:=List.mem_map.1 hm;have h1:b=x.1:=congrArg Prod.fst e2;have h2:(AjB K b).2=(Abi x).2:=congrArg Prod.snd e2;rw[←h1];exact h2.symm
end
structure Bst where
 k:Int
 nm:Bs
 tg:Bs
 val:Bs
 d:Int
 src:Bs
 ok:Bool
def Bst.cells (b:Bst):List Value:=[vU b.k,vS b.nm,vS b.tg,vS b.val,vI b.d,vS b.src,.bool b.ok]
def AwV:Bst:=⟨0,[],[],[],0,[],false⟩
def AmZ (a b:Bst):Bool:=!b.ok || decide (b.d<a.d) || (decide (a.d=b.d) && blt b.src a.src)
def sdB (tg:Bs) (s:Sd):Bst:=⟨s.op.kind.toNat,s.op.name,tg,s.op.value,s.date,s.src,true⟩
def Ar8 (s x:Sd):Prop:=s.date<x.date∨(s.date=x.date∧s.src<x.src)
theorem Ar7 {a b c:Sd} (h1:Ar8 a b) (h2:Ar8 b c):Ar8 a c:=by
 unfold Ar8 at *;rcases h1 with h1 | ⟨h1,h1'⟩<;>rcases h2 with h2 | ⟨h2,h2'⟩
 · exact .inl (by omega)
 · exact .inl (by omega)
 · exact .inl (by omega)
 · exact .inr ⟨by omega,List.lt_trans h1' h2'⟩
def BstP (L:List Sd) (b:Bst):Prop:=(b.ok=false∧L=[])∨∃s∈L,(∃tg,b=sdB tg s)∧∀x∈L,¬Ar8 s x
theorem BstP.nil:BstP [] AwV:=.inl ⟨rfl,rfl⟩
theorem Aqr {s x:Sd} {t u:Bs}:AmZ (sdB u x) (sdB t s)=true↔Ar8 s x:=by
 unfold AmZ sdB Ar8;simp[Ach];constructor
 · rintro(h | ⟨h,h2⟩)
   · exact .inl h
   · exact .inr ⟨h.symm,h2⟩
 · rintro(h | ⟨h,h2⟩)
   · exact .inl h
   · exact .inr ⟨h.symm,h2⟩
theorem BstP.step {L:List Sd} {b:Bst} (h:BstP L b) (s:Sd) (u:Bs):BstP (L++[s]) (if AmZ (sdB u s) b then sdB u s else b):=by
 rcases h with ⟨h1,rfl⟩ | ⟨x,hx,⟨t,rfl⟩,hm⟩
 · rw[if_pos (by simp[AmZ,h1])]
   refine .inr ⟨s,by simp,⟨u,rfl⟩,fun y hy=>?_⟩;simp at hy;subst hy;rintro(h | ⟨_,h⟩)
   · omega
   · exact List.lt_irrefl _ h
 · split
   · rename_i hb
     rw[Aqr] at hb;refine .inr ⟨s,by simp,⟨u,rfl⟩,fun y hy hl=>?_⟩;rcases List.mem_append.1 hy with hy | hy
     · exact hm y hy (Ar7 hb hl)
     · rw[List.mem_singleton.1 hy] at hl
       rcases hl with h | ⟨_,h⟩
       · omega
       · exact List.lt_irrefl _ h
   · rename_i hb
     rw[Aqr] at hb;refine .inr ⟨x,by simp[hx],⟨t,rfl⟩,fun y hy=>?_⟩;rcases List.mem_append.1 hy with hy | hy
     · exact hm y hy
     · rw[List.mem_singleton.1 hy];exact hb
def AdV (n:Bs) (d:Int) (t:Tg):Sd:=⟨t,d,n⟩
def Aff (tag name:Bs) (s:Sd):Bool:=decide (s.op.name=tag) && decide (s.op.target=name)
noncomputable def AgV (tag name n tx:Bs):List Sd:=((Ado n tx).1.map (AdV n (Ado n tx).2)).filter (Aff tag name)
def AeI (tag name n:Bs) (d:Int) (l:List Tg) (j:Nat):List Sd:=((l.take j).map (AdV n d)).filter (Aff tag name)
theorem Amm {tag name n:Bs} {d:Int} {l:List Tg} {j:Nat} (h:j<l.length):AeI tag name n d l (j+1)=AeI tag name n d l j++if Aff tag name (AdV n d l[j]) then [AdV n d l[j]] else []:=by
 unfold AeI;rw[List.take_succ_eq_append_getElem h,List.map_append,List.filter_append];simp[List.filter_cons]
theorem Ao5 {tag name n:Bs} {d:Int} {l:List Tg}:AeI tag name n d l l.length=(l.map (AdV n d)).filter (Aff tag name):=by rw[AeI,List.take_length]
theorem AvP {tag name n tx:Bs} {c:Ck} (h:AaD tx=some c):AgV tag name n tx=AeI tag name n c.date (c.tags.map fun t=>{ t with target:=n }) (c.tags.map fun t=>{ t with target:=n }).length:=by
 rw[Ao5,AgV,Ado,h]
theorem AvO {tag name n tx:Bs} {c:Ck} (h:AaD tx=some c) (hn:n≠name):AgV tag name n tx=[]:=by
 rw[AgV,Ado,h,List.filter_eq_nil_iff];intro s hs;obtain⟨t,ht,rfl⟩:=List.mem_map.1 hs;obtain⟨u,hu,rfl⟩:=List.mem_map.1 ht;simp[Aff,AdV,hn]
theorem Asb {tag name n tx:Bs} (h:AaD tx=none):AgV tag name n tx=AeI tag name n ((Ab9 tx).getD ct0).date ((Ab9 tx).getD ct0).tags ((Ab9 tx).getD ct0).tags.length:=by
 rw[Ao5,AgV,Ado,h]
theorem AvN {tag name n tx:Bs} (h:AaD tx=none) (h2:Ab9 tx=none):AgV tag name n tx=[]:=by
 rw[Asb h,h2];rfl
def Asm (a b:Tg):Prop:=a.name<b.name∨(a.name=b.name∧a.target<b.target)
theorem AqG {a b c:Tg} (h1:Asm a b) (h2:Asm b c):Asm a c:=by
 unfold Asm at *;rcases h1 with h1 | ⟨h1,h1'⟩<;>rcases h2 with h2 | ⟨h2,h2'⟩
 · exact .inl (List.lt_trans h1 h2)
 · exact .inl (h2▸h1)
 · exact .inl (h1▸h2)
 · exact .inr ⟨h1.trans h2,List.lt_trans h1' h2'⟩
theorem RightT.pw {own:Bool} {l:List Tg} (h:RightT own l):l.Pairwise Asm:=by
 rw[List.pairwise_iff_getElem];have step:∀(i:Nat) (hi:i+1<l.length),Asm l[i] l[i+1]:=fun i hi=>by
  have hr:=(h.ok (i+1) hi).rise (by omega);have e1:l.getD (i+1-1) tg0=l[i]:=by simp[show i<l.length by omega]
  have e2:l.getD (i+1) tg0=l[i+1]:=by simp[hi]
  rw[e1,e2,Ach] at hr;rcases hr.1 with h1 | h1
  · exact .inl h1
  · exact .inr ⟨h1,(Ach _ _).1 (hr.2 h1)⟩
 intro i j hi hj hij;obtain⟨d,rfl⟩:∃d,j=i+1+d:=⟨j-(i+1),by omega⟩
 clear hij
 induction d with
 | zero=>exact step i hj
 | succ d ih=>exact AqG (ih (by omega)) (step (i+1+d) hj)
theorem AtY {n s:Bs} {t u:Tg} (ht:t∈(Ado n s).1) (hu:u∈(Ado n s).1) (h1:t.name=u.name) (h2:t.target=u.target):t=u:=by
 have key:∀(own:Bool) (l:List Tg),RightT own l→∀t∈l,∀u∈l,t.name=u.name→t.target=u.target→t=u:=by
  intro own l hl t ht u hu h1 h2;obtain⟨i,hi,rfl⟩:=List.getElem_of_mem ht;obtain⟨j,hj,rfl⟩:=List.getElem_of_mem hu;have hp:=List.pairwise_iff_getElem.1 hl.pw;rcases Nat.lt_trichotomy i j with h | h | h
  · rcases hp i j hi hj h with e | ⟨_,e⟩
    · rw[h1] at e;exact absurd e (List.lt_irrefl _)
    · rw[h2] at e;exact absurd e (List.lt_irrefl _)
  · subst h;rfl
  · rcases hp j i hj hi h with e | ⟨_,e⟩
    · rw[h1] at e;exact absurd e (List.lt_irrefl _)
    · rw[h2] at e;exact absurd e (List.lt_irrefl _)
 unfold Ado at ht hu
 cases e:AaD s with
 | some c =>
   rw[e] at ht hu;obtain⟨t',ht',rfl⟩:=List.mem_map.1 ht;obtain⟨u',hu',rfl⟩:=List.mem_map.1 hu;have hr:=(AdI e).tags;have ht2:t'.target=[42]:=by
    obtain⟨i,hi,rfl⟩:=List.getElem_of_mem ht';have:=(hr.ok i hi).tgt.1 rfl;simpa [hi] using this
   have hu2:u'.target=[42]:=by
    obtain⟨i,hi,rfl⟩:=List.getElem_of_mem hu';have:=(hr.ok i hi).tgt.1 rfl;simpa [hi] using this
   rw[key true c.tags hr t' ht' u' hu' h1 (by rw[ht2,hu2])]
 | none =>
   rw[e] at ht hu;dsimp only at ht hu
   cases e2:Ab9 s with
   | none=>rw[e2] at ht;simp[ct0] at ht
   | some c =>
     rw[e2] at ht hu;exact key false c.tags (readCt_iff.1 e2).1.tags t ht u hu h1 h2
theorem sd_in {H:Ks} {s:Sd}:s∈sdL H↔s.src∈Ab6 H∧s.op∈(Ado s.src (Abq H s.src)).1∧s.date=(Ado s.src (Abq H s.src)).2:=by
 unfold sdL sdF;rw[List.mem_flatMap];constructor
 · rintro⟨n,hn,hs⟩
   obtain⟨t,ht,rfl⟩:=List.mem_map.1 hs;exact⟨hn,ht,rfl⟩
 · rintro⟨h1,h2,h3⟩
   refine⟨s.src,h1,List.mem_map.2 ⟨s.op,h2,?_⟩⟩;rw[←h3]
theorem Asp {H:Ks} (hn:(H.map (·.1)).Nodup):(sdL H).Pairwise fun a b=>¬b.src<a.src:=by
 unfold sdL sdF;refine List.pairwise_flatMap.2 ⟨fun n hn=>?_,?_⟩
 · unfold AfX
   rw[List.pairwise_map];exact List.pairwise_iff_getElem.2 fun i j _ _ _=>List.lt_irrefl _
 · refine(Aq8 hn).imp fun {a b} hab x hx y hy=>?_
   obtain⟨_,_,rfl⟩:=List.mem_map.1 hx;obtain⟨_,_,rfl⟩:=List.mem_map.1 hy;exact fun h=>List.lt_irrefl _ (List.lt_trans hab h)
theorem Auv {H:Ks} (hn:(H.map (·.1)).Nodup) {tag name:Bs} {L:List Sd} {b:Bst} (hL:∀s,s∈L↔s∈sdL H∧Abw s=(tag,name)) (h:BstP L b):b.ok=(Ab0 (AbO H) (tag,name)).isSome∧∀s,Ab0 (AbO H) (tag,name)=some s→∃tg,b=sdB tg s:=by
 rcases h with ⟨h1,rfl⟩ | ⟨s,hs,⟨tg,rfl⟩,hm⟩
 · have:Ab0 (AbO H) (tag,name)=none:=Am5 fun s hs e=>by
     have:=(hL s).2 ⟨hs,e⟩
     cases this
   rw[this];exact⟨h1,fun s e=>by cases e⟩
 · obtain ⟨hs1,hk⟩:=(hL s).1 hs
   cases e:Ab0 (AbO H) (tag,name) with
   | none=>exact absurd hk ((Ag5 (sdL H)).2.1 _ e s hs1)
   | some x =>
     refine⟨rfl,fun y hy=>⟨tg,?_⟩⟩
     cases hy;have hlp:=(Ag5 (sdL H)).2.2 _ _ e;obtain⟨hkx,l1,l2,e1,p1,p2⟩:=hlp;have hx1:x∈sdL H:=by rw[e1];simp
     have hnl:=hm x ((hL x).2 ⟨hx1,hkx⟩);have hps:=Asp hn;rw[e1] at hps hs1;have hsx:s=x:=by
      rcases List.mem_append.1 hs1 with hs1 | hs1
      · have hd:=p1 s hs1 hk
        have hsr:¬x.src<s.src:=(List.pairwise_append.1 hps).2.2 s hs1 x (by simp);have hde:s.date=x.date:=by
         rcases Int.lt_or_le s.date x.date with h | h
         · exact absurd (.inl h) hnl
         · omega
        have hse:s.src=x.src:=by
         rcases Classical.em (s.src<x.src) with h | h
         · exact absurd (.inr ⟨hde,h⟩) hnl
         · exact Std.le_antisymm (List.not_lt.1 hsr) (List.not_lt.1 h)
        have hs2:s∈sdL H:=by rw[e1];exact List.mem_append_left _ hs1
        obtain⟨_,a1,_⟩:=sd_in.1 hs2;obtain⟨_,a2,_⟩:=sd_in.1 hx1;rw[hse] at a1;have hkk:Abw s=Abw x:=hk.trans hkx.symm;have ho:=AtY a1 a2 (congrArg Prod.fst hkk) (congrArg Prod.snd hkk);obtain⟨so,sd,ss⟩:=s;obtain⟨xo,xd,xs⟩:=x
        cases ho;cases hde;cases hse;rfl
      · rcases List.mem_cons.1 hs1 with hs1 | hs1
        · exact hs1
        · exact absurd (Or.inl (p2 s hs1 hk)) hnl
     rw[hsx]
section
set_option maxRecDepth 100000
noncomputable def AmN (H:Ks) (name:Bs):Bs:=Abk ((AaD (Abq H name)).getD ck0)
end
section
set_option maxRecDepth 100000
theorem Ap3 {G:Prop} (h:G:=by
    have hnil:ck.parents=[]:=by
     first
     | (have hl:ck.parents.length=0:=by omega
        exact List.eq_nil_of_length_eq_zero hl)
     | (rw[hck]
        cases e:AaD (Abq H name) with
        | none=>rfl
        | some k=>exfalso;simp_all)
    rw[hpr,Abk,hnil];exact Aa2 () (vs:=[_]) (Cs:=[]) rfl (.tmp rfl .nil) rfl trivial Aa0):G:=h
theorem AgL (b:Nat) (H:Ks) (hH:TxtK H) (name:Bs) :
    Sp1 Tryz.prog 76 [.map (some b),vS name] [MapS b H] (vS (AmN H name)) [MapS b H]:=by
 obtain⟨htx,htl⟩:=hH.get name;have hRd:=AbI (Abq H name) htl;refine Sp.body (n:=26) Tryz.call76 Tryz.func76 rfl rfl rfl ?_;refine Qc (k:=Vv (k:=Wq (Qc (k:=Qv (k:=?_)))));refine r_lookup (v:=vS (Abq H name)) Tryz.underlying31 Tryz.underlying9 ti9 rfl rfl rfl htx rfl ?_;refine Aaq hRd rfl rfl rfl (fun x11 hx11=>?_);obtain⟨xa,ck⟩:=x11;obtain⟨hck,hpc⟩:=hx11;dsimp only at hck hpc ⊢;have hpr:AmN H name=Abk ck:=by rw[AmN,←hck]
 refine Vv (k:=?_);refine Aa6 (Aa7 (v:=.agg #[vS ck.base,vS ck.comment,vI ck.date,.slice xa.fa ck.files.length xa.fc,.slice xa.pa ck.parents.length xa.pc,.slice xa.ta ck.tags.length xa.tc,vS ck.user]) rfl rfl) rfl ?_;refine Aa6 (Aa7 (v:=vB (AaD (Abq H name)).isSome) rfl rfl) rfl ?_;refine Zc [vS [],vS [],.int .i64 0,.slice none 0 0,.slice none 0 0,.slice none 0 0,vS []] (k:=fun b5=>Zp (k:=Vv (k:=Wq (Za (k:=Qc (k:=Qv (k:=Vv (k:=Gi 2 (t:=fun h16=>?_) (f:=fun h16=>?_)))))))))
 ·
  refine O1 (k:=O1 (k:=O1 (k:=O1 (k:=P1 (k:=Wq (Z1 (k:=Qc (k:=Vv (k:=Wq (Zt (k:=?_)))))))))));refine Va ?_;exact Ap3
 ·
  refine I0 (k:=Vf 4 27 (k:=I0 (k:=Zd (k:=J0 (k:=J0 (k:=P0 (k:=Wq (Zi (t:=fun h21=>?_) (f:=fun h21=>?_)))))))))
  ·
   refine Qc (k:=Vv (k:=Wq (Zt (k:=Va ?_))));exact Ap3
  ·
   refine Zk (k:=Ya (Za (k:=?_)));have hp0:0<ck.parents.length:=by omega
   have hfb:ck.parents[0]=Abk ck:=AnU hp0;refine Zr (k:=Qx 4 27 (k:=?_));refine AaQ (m:=0) (sz:=1) Tryz.underlying27 ti9 rfl rfl rfl rfl (by omega) (by rw[List.length_map];omega) (Nat.mul_one _) rfl ?_;refine AbS Tryz.underlying9 rfl rfl ((Adg (m:=0) (by omega)).trans (by rw[hfb])) rfl ?_;refine Vv (k:=Wq (Zt (k:=?_)));rw[hpr];exact Aa2 () (vs:=[_]) (Cs:=[]) rfl (.tmp rfl .nil) rfl trivial Aa0
end
section
set_option maxRecDepth 100000
structure CkR where
 done:List Bs
 l:List Bs
 a:Option Addr
 c:Nat
structure CkR.Ok (H:Ks) (x:CkR):Prop where
 so:x.l.Pairwise (· < ·)
 mem:∀n,n∈x.l↔n∈x.done∧(AaD (Abq H n)).isSome=true
 le:x.l.length≤x.done.length
theorem AhK {G:Prop} (h:G:=by
    first
    | (have hcn:(AaD tx).isSome=false:=by simpa using h22
       refine Aa5 ⟨⟨done++[k],l,a,c⟩,⟨so,fun n=>?_,by dsimp only;rw[List.length_append];omega⟩⟩ (by dsimp only;rw[List.length_append,List.length_singleton];omega) ⟨rfl,rfl,trivial⟩ (by dsimp only;exact Aa0);dsimp only;rw[mem n,List.mem_append,List.mem_singleton];constructor
       · exact fun ⟨h1,h2⟩=>⟨.inl h1,h2⟩
       · rintro⟨h1 | h1,h2⟩
         · exact⟨h1,h2⟩
         · rw[h1,hgb,hcn] at h2;cases h2)
    | (have hcy:(AaD tx).isSome=true:=by simpa using h22
       have hpl:(AeP k l).length=j+1+(l.length-j):=by rw[hpb];simp;omega
       refine Aa5 ⟨⟨done++[k],AeP k l,a48,c48⟩,⟨Akz k so,fun n=>?_,by dsimp only;rw[List.length_append];have:=ApO k l;simp;omega⟩⟩ (by dsimp only;rw[List.length_append,List.length_singleton];omega) ⟨Adk hpl.symm,rfl,trivial⟩ ?_
       · dsimp only
         rw[AlT,mem n,List.mem_append,List.mem_singleton];constructor
         · rintro(h1 | ⟨h1,h2⟩)
           · rw[h1,hgb];exact⟨.inr rfl,hcy⟩
           · exact⟨.inl h1,h2⟩
         · rintro⟨h1 | h1,h2⟩
           · exact .inr ⟨h1,h2⟩
           · exact .inl h1
       · dsimp only
         rw[hpl,hpb];exact(AaW (v:=.slice a48 (j+1+(l.length-j)) c48) (xs':=(l.take j++[k]++l.drop j).map vS) (by rfl) (by simp)).trans Aa0)):G:=h
theorem Alh {G:Prop} (h:G:=by exact Aa5 ⟨j,hj,hok,fun h=>by first | assumption | omega⟩ trivial ⟨rfl,rfl,rfl,rfl,trivial⟩ Aa0):G:=h
set_option maxHeartbeats 8000000 in
theorem Ajf (b:Nat) (H:Ks) (hH:TxtK H) (hnd:(H.map (·.1)).Nodup) (hn:H.length≤1000000) :
    Sp Tryz.prog 74 [.map (some b)] [MapS b H] (X:=(Option Addr×Nat)×List Bs) (fun x=>.slice x.1.1 x.2.length x.1.2) (fun x=>x.2.Pairwise (· < ·)∧∀n,n∈x.2↔n∈H.map (·.1)∧(AaD (Abq H n)).isSome=true) (fun x=>[Row 9 1 (.slice x.1.1 x.2.length x.1.2) x.2.length (x.2.map vS),MapS b H]):=by
 refine Sp.body (n:=50) Tryz.call74 Tryz.func74 rfl rfl rfl ?_;refine Qc (k:=Vv (k:=Wq (Qc (k:=Vv (k:=Wq (Za (k:=Qc (k:=Vv (k:=?_)))))))));refine AhX Tryz.underlying31 rfl rfl (fun b10=>?_);refine Wq (Zb (k:=?_));refine Aak (fun (i:{ x:CkR // x.Ok H })=>[(3,.slice i.1.a i.1.l.length i.1.c),(10,.pointer (some ⟨b10,0,none⟩))]) (fun (i:{ x:CkR // x.Ok H })=>[Abj b b10 H i.1.done,Row 9 1 (.slice i.1.a i.1.l.length i.1.c) i.1.l.length (i.1.l.map vS)]) (fun (i:{ x:CkR // x.Ok H })=>H.length-i.1.done.length) rfl (⟨⟨[],[],none,0⟩,⟨List.Pairwise.nil,fun n=>by simp,Nat.le_refl _⟩⟩) ?_ ?_ (fun i=>?_)
 · exact⟨rfl,rfl,trivial⟩
 ·
  dsimp only;simp only[List.length_nil,List.map_nil];exact(AaS (e:=9) (sz:=1)).trans Aa0
 obtain⟨⟨done,l,a,c⟩,ok⟩:=i;obtain⟨so,mem,le⟩:=ok;dsimp only at so mem le ⊢;refine Aca (A:=Abj b b10 H done) .here Af0 (fun hlen=>?_);try dsimp only
 refine Qc (k:=?_);refine AjW rfl rfl (fun o11 ho11=>?_);refine Aa6 (Ak2 rfl) rfl ?_;refine Wq (Za (k:=Zi (t:=fun h12=>?_) (f:=fun h12=>?_)))
 ·
  obtain⟨⟨k,v⟩,rfl⟩:=Option.isSome_iff_exists.1 h12;obtain⟨hm,hk⟩:=ho11;have hk1:k∈H.map (·.1):=List.mem_map_of_mem (f:=fun p:Bs×Value=>p.1) hm;have hl2:done.length<H.length:=by
   have:=Acx (l:=done++[k]) (m:=H.map (·.1)) (by rw[List.nodup_append];exact⟨hlen.2.1,by simp,fun a ha c hc e=>by simp only[List.mem_singleton] at hc;subst hc;subst e;exact hk ha⟩) (fun x hx=>by rcases List.mem_append.1 hx with h | h;exact hlen.2.2 x h;simp only[List.mem_singleton] at h;subst h;exact hk1);rw[List.length_append,List.length_singleton,List.length_map] at this;omega
  dsimp only[nxD];refine Zk (k:=Ya (Zb (k:=Qc (k:=?_))));refine AhY (b:=b) (ks:=H) (done:=done) (k:=k) (v:=v) hm rfl rfl ?_;obtain⟨tx,hv,htl⟩:=hH _ hm;dsimp only at hv htl;subst hv;have hgb:Abq H k=tx:=by unfold Abq;rw[AdN hnd hm];simp[Afn,vS]
  have hRd:=AbI tx htl;refine Qv (k:=Qv (k:=Wq (Za (k:=Qc (k:=Vv (k:=?_))))));refine Aaq hRd rfl rfl rfl (fun x18 hx18=>?_);obtain⟨xa,ck⟩:=x18;obtain⟨hck,hpc⟩:=hx18;dsimp only at hck hpc ⊢;refine Vv (k:=?_);refine Aa6 (Aa7 (v:=.agg #[vS ck.base,vS ck.comment,vI ck.date,.slice xa.fa ck.files.length xa.fc,.slice xa.pa ck.parents.length xa.pc,.slice xa.ta ck.tags.length xa.tc,vS ck.user]) rfl rfl) rfl ?_;refine Aa6 (Aa7 (v:=vB (AaD tx).isSome) rfl rfl) rfl ?_;refine Zc [vS [],vS [],.int .i64 0,.slice none 0 0,.slice none 0 0,.slice none 0 0,vS []] (k:=fun b6=>Zp (k:=Vv (k:=Wq (Qc (k:=Qv (k:=Wq (Zi (t:=fun h22=>?_) (f:=fun h22=>?_))))))))
  ·
   refine Ze (k:=Xa (Xb ?_));exact AhK
  ·
   refine Zk (k:=Ya (Qc (k:=Vv (k:=Wq ?_))));refine Abg (fun (i:{ j:Nat // j≤l.length∧(∀i,i<j→blt (l.getD i []) k=true)∧(j<l.length→blt (l.getD j []) k=false) })=>[(3,.slice a l.length c),(4,vS k),(8,vI i.1),(10,.pointer (some ⟨b10,0,none⟩))]) (fun (i:{ j:Nat // j≤l.length∧(∀i,i<j→blt (l.getD i []) k=true)∧(j<l.length→blt (l.getD j []) k=false) })=>[Abj b b10 H (done++[k]),Row 9 1 (.slice a l.length c) l.length (l.map vS)]) rfl (fun i=>?_) ?_
   ·
    obtain⟨j,hj,hok,hno⟩:=i;have hpb:=ArR k l j hj hok hno;have hkl:k∉l:=fun h=>hk ((mem k).1 h).1;have hne:¬(j<l.length∧l.getD j []=k):=fun ⟨h1,h2⟩=>hkl (by rw[←h2,List.getD_eq_getElem?_getD,List.getElem?_eq_getElem h1];exact List.getElem_mem h1);rw[if_neg hne] at hpb;have htl2:(l.take j).length=j:=by rw[List.length_take];omega
    have hdl:(l.drop j).length=l.length-j:=List.length_drop;refine Aca (A:=Row 9 1 (.slice a l.length c) l.length (l.map vS)) HasC.get AbH (fun hkn=>?_);dsimp only;try dsimp only
    refine Dw [] (k:=?_);refine Dv 1 (k:=Dv 2 (k:=?_));refine Aa1 3 rfl rfl rfl (by kernel_rfl) (by kernel_rfl) (Aat (Ac4 (m:=j) Tryz.underlying27 ti9 rfl rfl rfl (by omega))) ?_;refine Dv 5 (k:=Dv 8 (k:=Dv 9 (k:=?_)));refine Aa1 10 rfl rfl rfl (by kernel_rfl) (by kernel_rfl) (Aat (Acw (m:=j) (kk:=j) Tryz.underlying27 ti9 rfl rfl rfl rfl (Nat.mul_one _) (by omega) hkn.1 hkn.2.2)) ?_;refine Aah 0 6 (by kernel_rfl) rfl rfl ?_ ?_
    ·
     refine Nl [] (cs:=[]) (k:=fun b37=>?_);refine Aah 4 6 (by kernel_rfl) rfl rfl ?_ ?_
     ·
      refine AeC rfl (AbF (k:=0) (cap:=0) (sz:=1) (e:=9) (g:=b37) (xs:=[]) (cur:=[]) (Nat.le_refl _) (by simp[maxLen]) rfl rfl rfl) ?_;refine AbR (AaU (sz:=1) (bytes:=16) Tryz.underlying27 ti9 rfl rfl rfl rfl rfl rfl rfl (Adm (AaC (e:=9) (sz:=1) (k:=l.length) (n:=l.length) (c:=c) (a:=a) (xs:=l.map vS)) j) (by rw[←List.map_take,List.length_map,htl2,Nat.mul_one]) (by rw[←List.map_take];exact AeD _) (by omega) (by simp only[maxLen];omega) (k:=0) (xs:=[])) rfl (fun x41 ⟨a41,c41,h41⟩=>?_);subst h41;rw[Nat.zero_add,List.nil_append,←List.map_take];refine Dn 6 (k:=Nl [_] (cs:=[_]) (k:=fun b43=>Dn 7 (k:=?_)));refine AaT (sz:=1) (bytes:=16) Tryz.underlying27 ti9 rfl rfl rfl rfl rfl rfl rfl (by rfl) (by rfl) (by omega) (by simp only[maxLen];omega) rfl (fun a44 c44=>?_);refine Dn 11 (k:=?_);refine AbR (AaU (sz:=1) (bytes:=16) Tryz.underlying27 ti9 rfl rfl rfl rfl rfl rfl rfl (Adn (e:=9) (sz:=1) (a:=a) (n':=l.length) (c':=c) (m:=j) (kk:=j) (k:=l.length) (xs:=l.map vS) (Nat.mul_one _) hj) (by rw[←List.map_drop,List.length_map,hdl,Nat.mul_one]) (by rw[←List.map_drop];exact AeD _) (by omega) (by simp only[maxLen];omega) (k:=j+1) (xs:=(l.take j).map vS++[vS k])) rfl (fun x48 ⟨a48,c48,h48⟩=>?_);subst h48;rw[←List.map_drop];refine Dv 12 (k:=Dd (k:=Yb ?_));exact AhK
     ·
      refine Nl [_] (cs:=[_]) (k:=fun b43=>Dn 4 (k:=?_));refine AeC rfl (AbF (k:=0) (cap:=0) (sz:=1) (e:=9) (g:=b37) (xs:=[]) (cur:=[]) (Nat.le_refl _) (by simp[maxLen]) rfl rfl rfl) ?_;refine AbR (AaU (sz:=1) (bytes:=16) Tryz.underlying27 ti9 rfl rfl rfl rfl rfl rfl rfl (Adm (AaC (e:=9) (sz:=1) (k:=l.length) (n:=l.length) (c:=c) (a:=a) (xs:=l.map vS)) j) (by rw[←List.map_take,List.length_map,htl2,Nat.mul_one]) (by rw[←List.map_take];exact AeD _) (by omega) (by simp only[maxLen];omega) (k:=0) (xs:=[])) rfl (fun x41 ⟨a41,c41,h41⟩=>?_);subst h41;rw[Nat.zero_add,List.nil_append,←List.map_take];refine Dn 7 (k:=?_);refine AaT (sz:=1) (bytes:=16) Tryz.underlying27 ti9 rfl rfl rfl rfl rfl rfl rfl (by rfl) (by rfl) (by omega) (by simp only[maxLen];omega) rfl (fun a44 c44=>?_);refine Dn 11 (k:=?_);refine AbR (AaU (sz:=1) (bytes:=16) Tryz.underlying27 ti9 rfl rfl rfl rfl rfl rfl rfl (Adn (e:=9) (sz:=1) (a:=a) (n':=l.length) (c':=c) (m:=j) (kk:=j) (k:=l.length) (xs:=l.map vS) (Nat.mul_one _) hj) (by rw[←List.map_drop,List.length_map,hdl,Nat.mul_one]) (by rw[←List.map_drop];exact AeD _) (by omega) (by simp only[maxLen];omega) (k:=j+1) (xs:=(l.take j).map vS++[vS k])) rfl (fun x48 ⟨a48,c48,h48⟩=>?_);subst h48;rw[←List.map_drop];refine Dv 12 (k:=Dd (k:=Yb ?_));exact AhK
    ·
     refine Nl [_] (cs:=[_]) (k:=fun b43=>Dn 0 (k:=Nl [] (cs:=[]) (k:=fun b37=>Dn 4 (k:=?_))));refine AeC rfl (AbF (k:=0) (cap:=0) (sz:=1) (e:=9) (g:=b37) (xs:=[]) (cur:=[]) (Nat.le_refl _) (by simp[maxLen]) rfl rfl rfl) ?_;refine AbR (AaU (sz:=1) (bytes:=16) Tryz.underlying27 ti9 rfl rfl rfl rfl rfl rfl rfl (Adm (AaC (e:=9) (sz:=1) (k:=l.length) (n:=l.length) (c:=c) (a:=a) (xs:=l.map vS)) j) (by rw[←List.map_take,List.length_map,htl2,Nat.mul_one]) (by rw[←List.map_take];exact AeD _) (by omega) (by simp only[maxLen];omega) (k:=0) (xs:=[])) rfl (fun x41 ⟨a41,c41,h41⟩=>?_);subst h41;rw[Nat.zero_add,List.nil_append,←List.map_take];refine Dn 7 (k:=?_);refine AaT (sz:=1) (bytes:=16) Tryz.underlying27 ti9 rfl rfl rfl rfl rfl rfl rfl (by rfl) (by rfl) (by omega) (by simp only[maxLen];omega) rfl (fun a44 c44=>?_);refine Dn 11 (k:=?_);refine AbR (AaU (sz:=1) (bytes:=16) Tryz.underlying27 ti9 rfl rfl rfl rfl rfl rfl rfl (Adn (e:=9) (sz:=1) (a:=a) (n':=l.length) (c':=c) (m:=j) (kk:=j) (k:=l.length) (xs:=l.map vS) (Nat.mul_one _) hj) (by rw[←List.map_drop,List.length_map,hdl,Nat.mul_one]) (by rw[←List.map_drop];exact AeD _) (by omega) (by simp only[maxLen];omega) (k:=j+1) (xs:=(l.take j).map vS++[vS k])) rfl (fun x48 ⟨a48,c48,h48⟩=>?_);subst h48;rw[←List.map_drop];refine Dv 12 (k:=Dd (k:=Yb ?_));exact AhK
   ·
    refine Zb (k:=?_);refine Aak (fun (j:{ j:Nat // j≤l.length∧∀i,i<j→blt (l.getD i []) k=true })=>[(3,.slice a l.length c),(4,vS k),(8,vI j.1),(10,.pointer (some ⟨b10,0,none⟩))]) (fun (j:{ j:Nat // j≤l.length∧∀i,i<j→blt (l.getD i []) k=true })=>[Abj b b10 H (done++[k]),Row 9 1 (.slice a l.length c) l.length (l.map vS)]) (fun (j:{ j:Nat // j≤l.length∧∀i,i<j→blt (l.getD i []) k=true })=>l.length-j.1) rfl (⟨0,Nat.zero_le _,fun i h=>by omega⟩) ?_ ?_ (fun j=>?_)
    · exact⟨rfl,rfl,rfl,rfl,trivial⟩
    ·
     exact Aa0
    obtain⟨j,hj,hok⟩:=j;dsimp only;try dsimp only
    refine Za (k:=Qc (k:=Qv (k:=Qv (k:=Vv (k:=Gi 4 (t:=fun h27=>?_) (f:=fun h27=>?_))))))
    ·
     refine J1 (k:=J1 (k:=I1 (k:=Ye 1 (k:=I1 (k:=Yl (hv:=by exact Aa4 [] (m:=j) (by omega)) (k:=J1 (k:=J1 (k:=?_))))))));refine P1 (k:=Wq (Zi (t:=fun h34=>?_) (f:=fun h34=>?_)))
     ·
      refine Zk (k:=Ya (Zb (k:=Zr (k:=Qv (k:=Vv (k:=Wn (Yb ?_)))))));refine Aa5 ⟨j+1,by omega,fun i hi=>?_⟩ (by dsimp only;omega) ⟨rfl,rfl,rfl,rfl,trivial⟩ Aa0;by_cases e:i=j
      · rw[e];assumption
      · exact hok i (by omega)
     ·
      refine Ze (k:=Xa (Xi (Xb ?_)));exact Alh
    ·
     refine O0 (k:=O0 (k:=O0 (k:=O0 (k:=O0 (k:=O0 (k:=P0 (k:=Wq (Z0 (k:=Ze (k:=Xa (Xi ?_)))))))))));refine Xb ?_;exact Alh
 ·
  have hnone:o11=none:=by cases o11 with
   | none=>rfl
   | some p=>simp at h12
  subst hnone;dsimp only[nxD];refine Aca (A:=Abj b b10 H done) HasC.get (fun x=>Ae7 x ho11) (fun hperm=>?_);refine Ze (k:=Xa (Xi (Xb (Ya (Qc (k:=Qv (k:=Wq (Zt (k:=?_)))))))));refine Aa2 ((a,c),l) (vs:=[_]) (Cs:=[]) rfl (.tmp rfl .nil) rfl ?_ ?_
  · refine⟨so,fun n=>?_⟩
    rw[mem n,hperm.mem_iff]
  · exact Aac (AaW (by rfl) (by rfl)) (AcZ (i:=b10))
end
section
set_option maxRecDepth 100000
theorem AvC (a b:Bs):(!blt a b && !decide (a=b))=blt b a:=by
 rw[Bool.eq_iff_iff];simp only[Bool.and_eq_true,Bool.not_eq_true',decide_eq_false_iff_not,Bool.eq_false_iff,ne_eq,Ach];constructor
 · rintro⟨h1,h2⟩
   exact Std.lt_of_le_of_ne (List.not_lt.1 h1) (Ne.symm (fun e=>h2 (decide_eq_true e)))
 · intro h
   exact⟨fun h1=>List.lt_irrefl _ (List.lt_trans h h1),fun e=>by rw[of_decide_eq_true e] at h;exact List.lt_irrefl _ h⟩
theorem Aj2 {G:Prop} (h:G:=by
    refine Aa2 () (vs:=[_]) (Cs:=[]) rfl (.tmp rfl .nil) ?_ trivial Aad;simp_all [Ajj,AvC]):G:=h
set_option maxHeartbeats 4000000 in
theorem AgM (a b:Bst):SpF Tryz.prog 179 [.agg a.cells.toArray,.agg b.cells.toArray] (vB (AmZ a b)):=by
 obtain⟨ak,an,at_,av,ad,as_,ao⟩:=a;obtain⟨bk,bn,bt,bv,bd,bs,bo⟩:=b;dsimp only[Bst.cells,AmZ];refine Sp.body (n:=29) Tryz.call179 Tryz.func179 rfl rfl rfl ?_;refine Qc (k:=Zx [_,_,_,_,_,_,_] (k:=fun b2=>Zx [_,_,_,_,_,_,_] (k:=fun b3=>Vv (k:=Wq (Qc (k:=Qx 6 4 (k:=Qv (k:=?_))))))));refine Gi 3 (t:=fun h8=>?_) (f:=fun h8=>?_)
 ·
  refine O1 (k:=O1 (k:=O1 (k:=O1 (k:=O1 (k:=P1 (k:=Vv (k:=O1 (k:=O1 (k:=O1 (k:=O1 (k:=O1 (k:=?_))))))))))));refine O1 (k:=Ou (k:=Ou (k:=Ou (k:=Ou (k:=Ou (k:=O1 (k:=P1 (k:=Vv (k:=Wq (Zt (k:=?_)))))))))));exact Aj2
 ·
  refine I0 (k:=Vf 4 3 (k:=I0 (k:=Zd (k:=I0 (k:=Vf 4 3 (k:=I0 (k:=Zd (k:=J0 (k:=P0 (k:=Vv (k:=?_)))))))))));refine Gi 10 (t:=fun h15=>?_) (f:=fun h15=>?_)
  ·
   refine O1 (k:=O1 (k:=O1 (k:=O1 (k:=O1 (k:=O1 (k:=Ou (k:=Ou (k:=Ou (k:=Ou (k:=Ou (k:=O1 (k:=?_))))))))))));refine P1 (k:=Vv (k:=Wq (Zt (k:=?_))));exact Aj2
  ·
   refine I0 (k:=Vf 4 3 (k:=I0 (k:=Zd (k:=I0 (k:=Vf 4 3 (k:=I0 (k:=Zd (k:=J0 (k:=J0 (k:=?_))))))))));refine Gi 16 (t:=fun h21=>?_) (f:=fun h21=>?_)
   ·
    refine I1 (k:=Vf 5 9 (k:=I1 (k:=Zd (k:=I1 (k:=Vf 5 9 (k:=I1 (k:=Zd (k:=J1 (k:=I0 (k:=P1 (k:=?_)))))))))));refine P0 (k:=Vv (k:=Wq (Zt (k:=?_))));exact Aj2
   ·
    refine O0 (k:=O0 (k:=O0 (k:=O0 (k:=O0 (k:=I0 (k:=P0 (k:=P0 (k:=Vv (k:=Wq (Zt (k:=?_)))))))))));exact Aj2
structure DrS where
 done:List Bs
 b:Bst
noncomputable def Afm (H:Ks) (tag name:Bs) (done:List Bs):List Sd:=done.flatMap fun n=>AgV tag name n (Abq H n)
theorem Art (H:Ks) (tag name:Bs) (done:List Bs) (n:Bs):Afm H tag name (done++[n])=Afm H tag name done++AgV tag name n (Abq H n):=by simp[Afm]
theorem Agl {G:Prop} (h:G:=by
    first
    | (have htg:t.name=tag:=by assumption
       have htn:t.target=name:=by assumption
       have hbt:AmZ (sdB t.target (AdV k ct.date t)) bt1=true:=by assumption
       refine Aa5 ⟨(j+1,sdB t.target (AdV k ct.date t)),by dsimp only;omega,?_⟩ (by dsimp only;omega) ⟨rfl,rfl,rfl,rfl,rfl,rfl,rfl,rfl,rfl,rfl,rfl,trivial⟩ ?_
       · dsimp only
         rw[hcj,if_pos (by simp[Aff,AdV,htg,htn]),←List.append_assoc];rw[if_pos hbt] at hbs;exact hbs
       · dsimp only[sdB,AdV]
         exact(AaH (b:=b7) (T:=199) (l':=[vU t.kind.toNat,vS t.name,vS t.target,vS t.value,vI ct.date,vS k,.bool true]) (by rfl) (by rfl)).trans Aa0)
    | (have htg:t.name=tag:=by assumption
       have htn:t.target=name:=by assumption
       have hbt:AmZ (sdB t.target (AdV k ct.date t)) bt1=false:=by assumption
       refine Aa5 ⟨(j+1,bt1),by dsimp only;omega,?_⟩ (by dsimp only;omega) ⟨rfl,rfl,rfl,rfl,rfl,rfl,rfl,rfl,rfl,rfl,rfl,trivial⟩ ?_
       · dsimp only
         rw[hcj,if_pos (by simp[Aff,AdV,htg,htn]),←List.append_assoc];rw[hbt] at hbs;exact hbs
       · exact Aa0)
    | (have htg:Aff tag name (AdV k ct.date t)=false:=by
         first
         | (have h1:¬t.name=tag:=by assumption
            simp[Aff,AdV,h1])
         | (have h1:¬t.target=name:=by assumption
            simp[Aff,AdV,h1])
       refine Aa5 ⟨(j+1,bt1),by dsimp only;omega,?_⟩ (by dsimp only;omega) ⟨rfl,rfl,rfl,rfl,rfl,rfl,rfl,rfl,rfl,rfl,rfl,trivial⟩ ?_
       · dsimp only
         rw[hcj,htg,if_neg (by simp),List.append_nil];exact hb1
       · exact Aa0)):G:=h
theorem Alt {G:Prop} (h:G:=by
    first
    | (have hjn:j=ct.tags.length:=by omega
       subst hjn;refine Aa5 ⟨⟨done++[k],bt1⟩,by dsimp only;rw[hcs,hce];exact hb1⟩ (by dsimp only;rw[List.length_append,List.length_singleton];omega) ⟨rfl,rfl,rfl,rfl,rfl,trivial⟩ ?_;exact Aa0)
    | (have hno:(Ab9 tx).isSome=false:=by assumption
       refine Aa5 ⟨⟨done++[k],bt2⟩,?_⟩ (by dsimp only;rw[List.length_append,List.length_singleton];omega) ⟨rfl,rfl,rfl,rfl,rfl,trivial⟩ ?_
       · dsimp only
         rw[hcs];have hcn:Ab9 tx=none:=by cases e:Ab9 tx with
          | none=>rfl
          | some c=>rw[e] at hno;cases hno
         cases e:AaD tx with
         | some c=>rw[e] at hb2;exact hb2
         | none=>rw[e] at hb2;rw[AvN e hcn];exact hb2
       · exact Aa0)):G:=h
theorem Ais {G:Prop} (h:G:=by
    first
    | (have htg:t.name=tag:=by assumption
       have hbt:AmZ (sdB t.target (AdV k ck.date { t with target:=k })) bt1=true:=by assumption
       refine Aa5 ⟨(j+1,sdB t.target (AdV k ck.date { t with target:=k })),by dsimp only;omega,?_⟩ (by dsimp only;omega) ⟨rfl,rfl,rfl,rfl,rfl,rfl,rfl,rfl,rfl,rfl,rfl,trivial⟩ ?_
       · dsimp only
         rw[hcj,if_pos (by simp[Aff,AdV,htg,hkn]),←List.append_assoc];rw[if_pos hbt] at hbs;exact hbs
       · dsimp only[sdB,AdV]
         exact(AaH (b:=b7) (T:=199) (l':=[vU t.kind.toNat,vS t.name,vS t.target,vS t.value,vI ck.date,vS k,.bool true]) (by rfl) (by rfl)).trans Aa0)
    | (have htg:t.name=tag:=by assumption
       have hbt:AmZ (sdB t.target (AdV k ck.date { t with target:=k })) bt1=false:=by assumption
       refine Aa5 ⟨(j+1,bt1),by dsimp only;omega,?_⟩ (by dsimp only;omega) ⟨rfl,rfl,rfl,rfl,rfl,rfl,rfl,rfl,rfl,rfl,rfl,trivial⟩ ?_
       · dsimp only
         rw[hcj,if_pos (by simp[Aff,AdV,htg,hkn]),←List.append_assoc];rw[hbt] at hbs;exact hbs
       · exact Aa0)
    | (have htg:¬t.name=tag:=by assumption
       refine Aa5 ⟨(j+1,bt1),by dsimp only;omega,?_⟩ (by dsimp only;omega) ⟨rfl,rfl,rfl,rfl,rfl,rfl,rfl,rfl,rfl,rfl,rfl,trivial⟩ ?_
       · dsimp only
         rw[hcj,if_neg (by simp[Aff,AdV,htg]),List.append_nil];exact hb1
       · exact Aa0)):G:=h
theorem AgY {G:Prop} (h:G:=by
    first
    | (have hjn:j=ck.tags.length:=by omega
       subst hjn;refine Aa5 ⟨bt1,by rw[hc2,Option.isSome_some,if_pos rfl,AvP hc2,List.length_map];exact hb1⟩ trivial ⟨rfl,rfl,rfl,rfl,rfl,rfl,rfl,trivial⟩ ?_;exact Aa0)
    | (have hno:(AaD tx).isSome=false:=by assumption
       refine Aa5 ⟨bt,by rw[hno];simpa using hb⟩ trivial ⟨rfl,rfl,rfl,rfl,rfl,rfl,rfl,trivial⟩ ?_;exact Aa0)
    | (obtain⟨c,hc⟩:∃c,AaD tx=some c:=Option.isSome_iff_exists.1 (by assumption)
       have hkn:k≠name:=by assumption
       refine Aa5 ⟨bt,by rw[hc,AvO hc hkn];simpa using hb⟩ trivial ⟨rfl,rfl,rfl,rfl,rfl,rfl,rfl,trivial⟩ ?_;exact Aa0)):G:=h
set_option maxHeartbeats 16000000 in
theorem AkR (b:Nat) (H:Ks) (hH:TxtK H) (hnd:(H.map (·.1)).Nodup) (hn:H.length≤1000000) (tag name:Bs) :
    Sp Tryz.prog 131 [.map (some b),vS tag,vS name] [MapS b H] (X:=Bst) (fun x=>.agg x.cells.toArray) (fun x=>x.ok=(Ab0 (AbO H) (tag,name)).isSome∧∀s,Ab0 (AbO H) (tag,name)=some s→∃tg,x=sdB tg s) (fun x=>[MapS b H]):=by
 refine Sp.body (n:=97) Tryz.call131 Tryz.func131 rfl rfl rfl ?_;refine Qc (k:=Zc [.int .u8 0,vS [],vS [],vS [],.int .i64 0,vS [],.bool false] (k:=fun b6=>Wq (Qc (k:=Zc [.int .u8 0,vS [],vS [],vS [],.int .i64 0,vS [],.bool false] (k:=fun b7=>Wq (Za (k:=Qc (k:=Vv (k:=?_)))))))));refine AhX Tryz.underlying31 rfl rfl (fun b21=>?_);refine Wq (Zb (k:=?_));refine Aak (fun (i:{ x:DrS // BstP (Afm H tag name x.done) x.b })=>[(1,vS tag),(2,vS name),(6,.pointer (some ⟨b6,0,none⟩)),(7,.pointer (some ⟨b7,0,none⟩)),(21,.pointer (some ⟨b21,0,none⟩))]) (fun (i:{ x:DrS // BstP (Afm H tag name x.done) x.b })=>[Abj b b21 H i.1.done,Ce b7 199 [vU i.1.b.k,vS i.1.b.nm,vS i.1.b.tg,vS i.1.b.val,vI i.1.b.d,vS i.1.b.src,.bool i.1.b.ok],Ce b6 199 [.int .u8 0,vS [],vS [],vS [],vI 0,vS [],.bool false]]) (fun (i:{ x:DrS // BstP (Afm H tag name x.done) x.b })=>H.length-i.1.done.length) rfl (⟨⟨[],AwV⟩,BstP.nil⟩) ?_ ?_ (fun i=>?_)
 · exact⟨rfl,rfl,rfl,rfl,rfl,trivial⟩
 ·
  dsimp only[AwV];exact Aa0
 obtain⟨⟨done,bt⟩,hb⟩:=i;dsimp only at hb ⊢;refine Aca (A:=Abj b b21 H done) .here Af0 (fun hlen=>?_);try dsimp only
 refine Qc (k:=?_);refine AjW rfl rfl (fun o22 ho22=>?_);refine Aa6 (Ak2 rfl) rfl ?_;refine Wq (Za (k:=Zi (t:=fun h23=>?_) (f:=fun h23=>?_)))
 ·
  obtain⟨⟨k,v⟩,rfl⟩:=Option.isSome_iff_exists.1 h23;obtain⟨hm,hk⟩:=ho22;have hk1:k∈H.map (·.1):=List.mem_map_of_mem (f:=fun p:Bs×Value=>p.1) hm;have hl2:done.length<H.length:=by
   have:=Acx (l:=done++[k]) (m:=H.map (·.1)) (by rw[List.nodup_append];exact⟨hlen.2.1,by simp,fun a ha c hc e=>by simp only[List.mem_singleton] at hc;subst hc;subst e;exact hk ha⟩) (fun x hx=>by rcases List.mem_append.1 hx with h | h;exact hlen.2.2 x h;simp only[List.mem_singleton] at h;subst h;exact hk1);rw[List.length_append,List.length_singleton,List.length_map] at this;omega
  dsimp only[nxD];obtain⟨tx,hv,htl⟩:=hH _ hm;dsimp only at hv htl;subst hv;have hgb:Abq H k=tx:=by unfold Abq;rw[AdN hnd hm];simp[Afn,vS]
  have hcs:=Art H tag name done k;rw[hgb] at hcs;have hRd:=AbI tx htl;have hRc:=Ahc tx htl;refine Zk (k:=Ya (Zb (k:=Qc (k:=?_))));refine AhY (b:=b) (ks:=H) (done:=done) (k:=k) (v:=vS tx) hm rfl rfl ?_;refine Qv (k:=Qv (k:=Wq ?_));refine Abg (fun (i:{ x:Bst // BstP (Afm H tag name done++if (AaD tx).isSome then AgV tag name k tx else []) x })=>[(1,vS tag),(2,vS name),(6,.pointer (some ⟨b6,0,none⟩)),(7,.pointer (some ⟨b7,0,none⟩)),(8,vS k),(9,vS tx),(21,.pointer (some ⟨b21,0,none⟩))]) (fun (i:{ x:Bst // BstP (Afm H tag name done++if (AaD tx).isSome then AgV tag name k tx else []) x })=>[Abj b b21 H (done++[k]),Ce b7 199 [vU i.1.k,vS i.1.nm,vS i.1.tg,vS i.1.val,vI i.1.d,vS i.1.src,.bool i.1.ok],Ce b6 199 [.int .u8 0,vS [],vS [],vS [],vI 0,vS [],.bool false]]) rfl (fun i=>?_) ?_
  ·
   obtain⟨bt2,hb2⟩:=i;dsimp only;try dsimp only
   refine Qc (k:=Vv (k:=?_));refine Aaq hRc rfl rfl rfl (fun x63 hx63=>?_);obtain⟨⟨ta,tc⟩,ct⟩:=x63;dsimp only at hx63 ⊢;refine Vv (k:=?_);refine Aa6 (Aa7 (v:=.agg #[vI ct.date,.slice ta ct.tags.length tc,vS ct.user]) rfl rfl) rfl ?_;refine Aa6 (Aa7 (v:=vB (Ab9 tx).isSome) rfl rfl) rfl ?_;refine Zc [.int .i64 0,.slice none 0 0,vS []] (k:=fun b15=>Zp (k:=Vv (k:=Wq (Qc (k:=Vv (k:=Wq (Zi (t:=fun h66=>?_) (f:=fun h66=>?_))))))))
   ·
    refine Za (k:=?_);obtain⟨c,hc2⟩:∃c,Ab9 tx=some c:=Option.isSome_iff_exists.1 (by assumption);have hkk:ct=c:=by rw[hx63,hc2];rfl
    subst hkk;have hk0:=Avl hc2;have hce:AgV tag name k tx=AeI tag name k ct.date ct.tags ct.tags.length:=by rw[Asb hk0,hc2];rfl
    rw[hk0] at hb2;have htl:ct.tags.length≤12:=(readCt_iff.1 hc2).1.tags.len;refine Zr (k:=Qx 1 28 (k:=Qv (k:=Wq (Zb (k:=?_)))));refine Aak (fun (i:{ x:Nat×Bst // x.1≤ct.tags.length∧BstP (Afm H tag name done++AeI tag name k ct.date ct.tags x.1) x.2 })=>[(1,vS tag),(2,vS name),(6,.pointer (some ⟨b6,0,none⟩)),(7,.pointer (some ⟨b7,0,none⟩)),(8,vS k),(9,vS tx),(15,.pointer (some ⟨b15,0,none⟩)),(21,.pointer (some ⟨b21,0,none⟩)),(68,.slice ta ct.tags.length tc),(69,vI ct.tags.length),(70,vI i.1.1)]) (fun (i:{ x:Nat×Bst // x.1≤ct.tags.length∧BstP (Afm H tag name done++AeI tag name k ct.date ct.tags x.1) x.2 })=>[Abj b b21 H (done++[k]),Ce b7 199 [vU i.1.2.k,vS i.1.2.nm,vS i.1.2.tg,vS i.1.2.val,vI i.1.2.d,vS i.1.2.src,.bool i.1.2.ok],Ce b6 199 [.int .u8 0,vS [],vS [],vS [],vI 0,vS [],.bool false],Row 60 4 (.slice ta ct.tags.length tc) ct.tags.length (ct.tags.flatMap Aab),Ce b15 70 [vI ct.date,.slice ta ct.tags.length tc,vS ct.user]]) (fun (i:{ x:Nat×Bst // x.1≤ct.tags.length∧BstP (Afm H tag name done++AeI tag name k ct.date ct.tags x.1) x.2 })=>ct.tags.length-i.1.1) rfl (⟨(0,bt2),Nat.zero_le _,by simpa [AeI] using hb2⟩) ?_ ?_ (fun i=>?_)
    · exact⟨rfl,rfl,rfl,rfl,rfl,rfl,rfl,rfl,rfl,rfl,rfl,trivial⟩
    ·
     exact Aa0
    obtain⟨⟨j,bt1⟩,hj,hb1⟩:=i;dsimp only at hj hb1 ⊢;try dsimp only
    refine Qc (k:=Vv (k:=Wq (Za (k:=Zi (t:=fun h71=>?_) (f:=fun h71=>?_)))))
    ·
     refine Zk (k:=Ya (Za (k:=Zb (k:=Za (k:=?_)))));have hjl:j<ct.tags.length:=by omega
     obtain⟨t,ht⟩:∃t,t=ct.tags[j]:=⟨_,rfl⟩
     have hget:((ct.tags.flatMap Aab).drop (j * 4)).take 4=[vU t.kind.toNat,vS t.name,vS t.target,vS t.value]:=by rw[ht];exact Ab1 (f:=Aab) (fun _=>rfl) hjl
     have hcj:=Amm (tag:=tag) (name:=name) (n:=k) (d:=ct.date) (l:=ct.tags) (j:=j) hjl;rw[←ht] at hcj;have hbs:=hb1.step (AdV k ct.date t) t.target;have hBt:=AgM (sdB t.target (AdV k ct.date t)) bt1;refine Zr (k:=?_);refine AaQ (m:=j) (sz:=4) Tryz.underlying28 Adx rfl rfl rfl rfl (by omega) (by rw[Aaj (f:=Aab) (sz:=4) (fun _=>rfl)];omega) rfl rfl ?_;refine Abb (vs:=[vU t.kind.toNat,vS t.name,vS t.target,vS t.value]) (sz:=4) Tryz.underlying60 rfl Adx rfl rfl (by rw[Aaj (f:=Aab) (sz:=4) (fun _=>rfl)];omega) rfl hget rfl ?_;refine Zc [.int .u8 0,vS [],vS [],vS []] (k:=fun b18=>Zp (k:=Wq (Qc (k:=Zm [_,_,_,_] (k:=Qx 0 3 (k:=Vv (k:=Vx (Ps [_,_,_,_,_,_,_]) (k:=Zc [.int .u8 0,vS [],vS [],vS [],.int .i64 0,vS [],.bool false] (k:=fun b19=>Zp (k:=?_))))))))));refine Wq (Qc (k:=Qx 1 9 (k:=Qv (k:=Vv (k:=Gi 4 (t:=fun h83=>?_) (f:=fun h83=>?_))))))
     ·
      refine I1 (k:=Vf 2 9 (k:=I1 (k:=Zd (k:=J1 (k:=J1 (k:=P1 (k:=Vv (k:=Gi 10 (t:=fun h89=>?_) (f:=fun h89=>?_)))))))))
      ·
       refine I1 (k:=Zm [_,_,_,_,_,_,_] (k:=I1 (k:=Zm [_,_,_,_,_,_,_] (k:=I1 (k:=?_)))));refine Aag hBt rfl rfl rfl ?_;refine P1 (k:=Wq (Zi (t:=fun h93=>?_) (f:=fun h93=>?_)))
       ·
        refine Zr (k:=Zm [_,_,_,_,_,_,_] (k:=Zp (k:=Wn (Yb (Ya (Zr (k:=Qv (k:=Wn ?_))))))));exact Agl
       ·
        refine Zk (k:=Yb (Ya (Zr (k:=Qv (k:=Wn ?_)))));exact Agl
      ·
       refine O0 (k:=O0 (k:=O0 (k:=P0 (k:=Wq (Z0 (k:=Zk (k:=Yb (Ya (Zr (k:=Qv (k:=?_)))))))))));refine Wn ?_;exact Agl
     ·
      refine O0 (k:=O0 (k:=O0 (k:=O0 (k:=P0 (k:=Vv (k:=O0 (k:=O0 (k:=O0 (k:=P0 (k:=Wq (Z0 (k:=?_))))))))))));refine Zk (k:=Yb (Ya (Zr (k:=Qv (k:=Wn ?_)))));exact Agl
    ·
     refine Ze (k:=Xa (Xi (Xb (Yb ?_))));exact Alt
   ·
    refine Zk (k:=Yb ?_);exact Alt
  ·
   refine Qc (k:=Vv (k:=?_));refine Aaq hRd rfl rfl rfl (fun x29 hx29=>?_);obtain⟨xa,ck⟩:=x29;obtain⟨hck,hpc⟩:=hx29;dsimp only at hck hpc ⊢;refine Vv (k:=?_);refine Aa6 (Aa7 (v:=.agg #[vS ck.base,vS ck.comment,vI ck.date,.slice xa.fa ck.files.length xa.fc,.slice xa.pa ck.parents.length xa.pc,.slice xa.ta ck.tags.length xa.tc,vS ck.user]) rfl rfl) rfl ?_;refine Aa6 (Aa7 (v:=vB (AaD tx).isSome) rfl rfl) rfl ?_;refine Zc [vS [],vS [],.int .i64 0,.slice none 0 0,.slice none 0 0,.slice none 0 0,vS []] (k:=fun b10=>Zp (k:=Vv (k:=Wq (Qc (k:=Qv (k:=Gi 1 (t:=fun h33=>?_) (f:=fun h33=>?_)))))))
   ·
    refine J1 (k:=J1 (k:=J1 (k:=P1 (k:=Wq (Zi (t:=fun h37=>?_) (f:=fun h37=>?_))))))
    ·
     refine Za (k:=?_);have hkn:k=name:=by assumption
     obtain⟨c,hc2⟩:∃c,AaD tx=some c:=Option.isSome_iff_exists.1 (by assumption);have hkk:ck=c:=by rw[hck,hc2];rfl
     subst hkk;have htl:ck.tags.length≤12:=(AdI hc2).tags.len;refine Zr (k:=Qx 5 28 (k:=Qv (k:=Wq (Zb (k:=?_)))));refine Aak (fun (i:{ x:Nat×Bst // x.1≤ck.tags.length∧BstP (Afm H tag name done++AeI tag name k ck.date (ck.tags.map fun t=>{ t with target:=k }) x.1) x.2 })=>[(1,vS tag),(2,vS name),(6,.pointer (some ⟨b6,0,none⟩)),(7,.pointer (some ⟨b7,0,none⟩)),(8,vS k),(9,vS tx),(10,.pointer (some ⟨b10,0,none⟩)),(21,.pointer (some ⟨b21,0,none⟩)),(39,.slice xa.ta ck.tags.length xa.tc),(40,vI ck.tags.length),(41,vI i.1.1)]) (fun (i:{ x:Nat×Bst // x.1≤ck.tags.length∧BstP (Afm H tag name done++AeI tag name k ck.date (ck.tags.map fun t=>{ t with target:=k }) x.1) x.2 })=>[Abj b b21 H (done++[k]),Ce b7 199 [vU i.1.2.k,vS i.1.2.nm,vS i.1.2.tg,vS i.1.2.val,vI i.1.2.d,vS i.1.2.src,.bool i.1.2.ok],Ce b6 199 [.int .u8 0,vS [],vS [],vS [],vI 0,vS [],.bool false],Row 60 4 (.slice xa.ta ck.tags.length xa.tc) ck.tags.length (ck.tags.flatMap Aab),Ce b10 30 [vS ck.base,vS ck.comment,vI ck.date,.slice xa.fa ck.files.length xa.fc,.slice xa.pa ck.parents.length xa.pc,.slice xa.ta ck.tags.length xa.tc,vS ck.user]]) (fun (i:{ x:Nat×Bst // x.1≤ck.tags.length∧BstP (Afm H tag name done++AeI tag name k ck.date (ck.tags.map fun t=>{ t with target:=k }) x.1) x.2 })=>ck.tags.length-i.1.1) rfl (⟨(0,bt),Nat.zero_le _,by simpa [AeI] using hb⟩) ?_ ?_ (fun i=>?_)
     · exact⟨rfl,rfl,rfl,rfl,rfl,rfl,rfl,rfl,rfl,rfl,rfl,trivial⟩
     ·
      exact Aa0
     obtain⟨⟨j,bt1⟩,hj,hb1⟩:=i;dsimp only at hj hb1 ⊢;try dsimp only
     refine Qc (k:=Vv (k:=Wq (Za (k:=Zi (t:=fun h42=>?_) (f:=fun h42=>?_)))))
     ·
      refine Zk (k:=Ya (Za (k:=Zb (k:=Za (k:=?_)))));have hjl:j<ck.tags.length:=by omega
      obtain⟨t,ht⟩:∃t,t=ck.tags[j]:=⟨_,rfl⟩
      have hget:((ck.tags.flatMap Aab).drop (j * 4)).take 4=[vU t.kind.toNat,vS t.name,vS t.target,vS t.value]:=by rw[ht];exact Ab1 (f:=Aab) (fun _=>rfl) hjl
      have hcj:=Amm (tag:=tag) (name:=name) (n:=k) (d:=ck.date) (l:=ck.tags.map fun t=>{ t with target:=k }) (j:=j) (by rw[List.length_map];exact hjl);rw[List.getElem_map,←ht] at hcj;have hbs:=hb1.step (AdV k ck.date { t with target:=k }) t.target;have hBt:=AgM (sdB t.target (AdV k ck.date { t with target:=k })) bt1;refine Zr (k:=?_);refine AaQ (m:=j) (sz:=4) Tryz.underlying28 Adx rfl rfl rfl rfl (by omega) (by rw[Aaj (f:=Aab) (sz:=4) (fun _=>rfl)];omega) rfl rfl ?_;refine Abb (vs:=[vU t.kind.toNat,vS t.name,vS t.target,vS t.value]) (sz:=4) Tryz.underlying60 rfl Adx rfl rfl (by rw[Aaj (f:=Aab) (sz:=4) (fun _=>rfl)];omega) rfl hget rfl ?_;refine Zc [.int .u8 0,vS [],vS [],vS []] (k:=fun b13=>Zp (k:=Wq (Qc (k:=Zm [_,_,_,_] (k:=Qx 2 3 (k:=Vv (k:=Vx (Ps [_,_,_,_,_,_,_]) (k:=Zc [.int .u8 0,vS [],vS [],vS [],.int .i64 0,vS [],.bool false] (k:=fun b14=>Zp (k:=?_))))))))));refine Wq (Qc (k:=Qx 1 9 (k:=Qv (k:=Vv (k:=Gi 4 (t:=fun h54=>?_) (f:=fun h54=>?_))))))
      ·
       refine I1 (k:=Zm [_,_,_,_,_,_,_] (k:=I1 (k:=Zm [_,_,_,_,_,_,_] (k:=I1 (k:=?_)))));refine Aag hBt rfl rfl rfl ?_;refine P1 (k:=Wq (Zi (t:=fun h58=>?_) (f:=fun h58=>?_)))
       ·
        refine Zr (k:=Zm [_,_,_,_,_,_,_] (k:=Zp (k:=Wn (Yb (Ya (Zr (k:=Qv (k:=Wn ?_))))))));exact Ais
       ·
        refine Zk (k:=Yb (Ya (Zr (k:=Qv (k:=Wn ?_)))));exact Ais
      ·
       refine O0 (k:=O0 (k:=O0 (k:=P0 (k:=Wq (Z0 (k:=Zk (k:=Yb (Ya (Zr (k:=Qv (k:=?_)))))))))));refine Wn ?_;exact Ais
     ·
      refine Ze (k:=Xa (Xi (Xb ?_)));exact AgY
    ·
     refine Zk (k:=?_);exact AgY
   ·
    refine O0 (k:=O0 (k:=O0 (k:=P0 (k:=Wq (Z0 (k:=Zk (k:=?_)))))));exact AgY
 ·
  have hnone:o22=none:=by cases o22 with
   | none=>rfl
   | some p=>simp at h23
  subst hnone;dsimp only[nxD];refine Aca (A:=Abj b b21 H done) HasC.get (fun x=>Ae7 x ho22) (fun hperm=>?_);refine Ze (k:=Xa (Xi (Xb (Ya (Qc (k:=Zm [_,_,_,_,_,_,_] (k:=Zp (k:=Wq (Zt (k:=?_))))))))));refine Aa2 bt (vs:=[_]) (Cs:=[Ce b6 199 [vU bt.k,vS bt.nm,vS bt.tg,vS bt.val,vI bt.d,vS bt.src,.bool bt.ok]]) rfl (.cell (l:=[vU bt.k,vS bt.nm,vS bt.tg,vS bt.val,vI bt.d,vS bt.src,.bool bt.ok]) rfl (Aax (T:=199)) Tryz.underlying199 rfl AvX (by exact Nat.le_of_ble_eq_true rfl) rfl .nil) rfl ?_ ?_
  · refine Auv hnd (fun s=>?_) hb
    unfold Afm;rw[List.mem_flatMap,sd_in];constructor
    · rintro⟨n,hn1,hs⟩
      obtain⟨hs1,hs2⟩:=List.mem_filter.1 hs;obtain⟨t,ht,rfl⟩:=List.mem_map.1 hs1;simp only[Aff,AdV,Bool.and_eq_true,decide_eq_true_iff] at hs2;exact⟨⟨keysS_mem.2 (hperm.mem_iff.1 hn1),ht,rfl⟩,by rw[←of_decide_eq_true hs2.1,←of_decide_eq_true hs2.2];rfl⟩
    · rintro ⟨⟨h1,h2,h3⟩,h4⟩
      refine⟨s.src,hperm.mem_iff.2 (keysS_mem.1 h1),List.mem_filter.2 ⟨List.mem_map.2 ⟨s.op,h2,?_⟩,?_⟩⟩
      · rw[AdV,←h3]
      · have e1:=congrArg Prod.fst h4
        have e2:=congrArg Prod.snd h4;simp only[Aff,Bool.and_eq_true,decide_eq_true_iff];exact⟨e1,e2⟩
  · exact Aac (AcZ (i:=b21)) Aa0
end
abbrev Fs:=List (Bs×Bs)
def hdF (l:Fs):Bs×Bs:=l.headD ([],[])
def dW (ol wl:Fs):Bool:=decide (wl.length=0∨(0<ol.length∧(hdF ol).1≤(hdF wl).1))
def dN (ol wl:Fs):Bs:=if dW ol wl then (hdF ol).1 else []
def dT (ol wl:Fs):Bool:=decide (0<wl.length∧(dW ol wl=false∨dN ol wl=(hdF wl).1))
section
theorem Ast {s:Bs} (h:(90:UInt8)∉s):AaD s=none:=(AtJ (AsE h)).1
theorem AnI:AaD []=none:=Ast (by simp)
theorem AnV {K:Ks} {n:Bs} (h:n∉K.map (·.1)):Abq K n=[]:=by
 unfold Abq;rw[Agz h];rfl
section
variable {x:Bs} (hx:isN x=true)
include hx
end
end
end Go.Proofs.YtdnoacgopfcpbaaGreat
