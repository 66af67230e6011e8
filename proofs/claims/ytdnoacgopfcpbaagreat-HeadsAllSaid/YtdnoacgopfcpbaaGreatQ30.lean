/- Texts of this proof, put together: P19G, P19A, SSameS, SSameLf, MapIns, SChain18, LawHeadsRuns, MapXL, LawHeadsAll, ArtsA. -/
import Derived.Test.YtdnoacgopfcpbaaGreatQ29
set_option linter.unusedVariables false
set_option linter.unusedSimpArgs false
namespace Go.Proofs.YtdnoacgopfcpbaaGreat
section
def gwC (i:Nat):Ck:=Akc (if i=0 then [] else [gwX (i-1)]) [] me (i:Int)
/-- The check-ins that are held are the line's. -/
structure GwH (K:Ks) (k:Nat):Prop where
 hk:k≤6
 ck:∀x,x∈Ab3 K↔∃i,i<k∧x=(gwX i,gwC i)
 nd:((Ab3 K).map (·.1)).Nodup
theorem ArC {C:List (Bs×Ck)} (hn:(C.map (·.1)).Nodup) {n:Bs} {c:Ck}:AcW C n=some c↔(n,c)∈C:=by
 induction C with
 | nil=>simp[AcW]
 | cons a r ih =>
   simp only[List.map_cons,List.nodup_cons] at hn
   rw[AcW,List.mem_cons]
   by_cases h:a.1=n
   · rw [if_pos h]
     constructor
     · intro e
       left
       exact Prod.ext h.symm (Option.some.inj e).symm
     · rintro(e | e)
       · rw[←e]
       · exact absurd (by rw[h];exact List.mem_map_of_mem (f:=fun p:Bs×Ck=>p.1) e) hn.1
   · rw[if_neg h,ih hn.2]
     exact⟨.inr,fun e=>e.resolve_left (fun e=>h (by rw[←e]))⟩
section
variable {K:Ks} {k:Nat} (h:GwH K k)
include h
end
end
section
theorem AqX {C:List (Bs×Ck)} {l:Ls} {tag name n:Bs} (h:AcW C n=none) (k:Nat):Aj1 C l tag name k n=none:=by
 cases k with
 | zero=>rfl
 | succ k=>rw[Aj1,h]
theorem Atg {K:Ks} {n:Bs} (h:AcW (Ab3 K) n=none):brH K n=trB:=Apb (AqX h _)
section
variable {K:Ks} (h:HdP K)
include h
theorem HdP.held:HeldP K (K.map fun p=>(p.1,AgT p.2)):=by
 refine⟨?_,?_,?_⟩
 · rw [List.map_map]
   have:K=K.map ((fun p:Bs×Bs=>(p.1,vS p.2)) ∘ fun p=>(p.1,AgT p.2)):=by
    refine List.ext_getElem (by simp) fun i h1 h2=>?_
    rw[List.getElem_map]
    obtain⟨s,e,_⟩:=h.ok K[i] (List.getElem_mem h1)
    rw[e]
    simp[AgT,vS]
   rw[←this]
 · rw[List.map_map]
   exact h.nd
 · intro p hp
   obtain⟨q,hq,rfl⟩:=List.mem_map.1 hp
   obtain⟨s,rfl,hs⟩:=h.ok q hq
   simp[AgT,vS]
   omega
theorem HdP.ck {n:Bs} {c:Ck}:(n,c)∈Ab3 K↔∃s,(n,vS s)∈K∧Abf s=some c:=by
 rw[h.held.cks]
 constructor
 · rintro⟨p,hp,rfl,hr⟩
   obtain⟨q,hq,rfl⟩:=List.mem_map.1 hp
   obtain⟨s,rfl,hs⟩:=h.ok q hq
   refine⟨s,hq,?_⟩
   simpa [AgT,vS] using hr
 · rintro⟨s,hs,hr⟩
   exact⟨(n,s),List.mem_map.2 ⟨_,hs,by simp[AgT,vS]⟩,rfl,hr⟩
theorem HdP.n40 {n:Bs} (hn:n.length≠40):n∉(Ab3 K).map (·.1):=fun hm=>by
 obtain⟨⟨m,c⟩,hx,rfl⟩:=List.mem_map.1 hm
 obtain⟨s,hs,_⟩:=h.ck.1 hx
 exact hn (h.k40 (List.mem_map_of_mem (f:=fun p:Bs×Value=>p.1) hs))
theorem HdP.nobody {n:Bs} (hn:n.length≠40):brH K n=trB:=by
 refine Atg ?_
 cases e:AcW (Ab3 K) n with
 | none=>rfl
 | some c =>
   have h1:n∈(Ab3 K).map (·.1):=List.mem_map_of_mem (f:=fun p:Bs×Ck=>p.1) ((ArC h.held.cnd).1 e)
   exact absurd h1 (h.n40 hn)
theorem HdP.isck {n s:Bs} (hm:(n,vS s)∈K):n∈Agk K↔(Abf s).isSome=true:=by
 unfold Agk
 constructor
 · intro hn
   obtain⟨⟨m,c⟩,hx,rfl⟩:=List.mem_map.1 hn
   obtain⟨s',hs,hr⟩:=h.ck.1 hx
   have h1:=Aes h.nd hs
   rw[Aes h.nd hm] at h1
   have:s=s':=Agp (Option.some.inj h1)
   rw[this,hr];rfl
 · intro hr
   obtain⟨c,hc⟩:=Option.isSome_iff_exists.1 hr
   exact List.mem_map_of_mem (f:=fun p:Bs×Ck=>p.1) (h.ck.2 ⟨s,hm,hc⟩)
theorem HdP.cnd:(Agk K).Nodup:=h.held.cnd
theorem HdP.cle:(Agk K).length≤K.length:=by
 have _:=h
 have h1:=cksL_len' K
 have h2:(Agk K).length=(Ab3 K).length:=List.length_map ..
 omega
end
/-- The names of some branches. -/
def Adv (l:List (Bs×List Bs)):List Bs:=l.flatMap (·.2)
theorem Ajq (l m:List (Bs×List Bs)):Adv (l++m)=Adv l++Adv m:=by simp[Adv]
theorem AmS (x:Bs×List Bs):Adv [x]=x.2:=by simp[Adv]
theorem Arj {K:Ks} {n:Bs}:n∈Adv (brL K)↔n∈Agk K:=by
 unfold Adv brL
 rw[List.mem_flatMap]
 constructor
 · rintro⟨x,hx,hn⟩
   obtain⟨b,hb,rfl⟩:=List.mem_map.1 hx
   exact(List.mem_filter.1 hn).1
 · intro hn
   refine⟨Akd K (brH K n),List.mem_map_of_mem ?_,List.mem_filter.2 ⟨hn,by simp⟩⟩
   rw[Ag7,AiJ,(Ac0 _).mem_iff]
   exact List.mem_map_of_mem hn
theorem AjQ {K:Ks} (h:(Agk K).Nodup):(Adv (brL K)).Nodup:=by
 unfold Adv brL
 refine List.pairwise_flatMap.2 ⟨fun x hx=>?_,?_⟩
 · obtain⟨b,hb,rfl⟩:=List.mem_map.1 hx
   exact h.sublist List.filter_sublist
 · rw[List.pairwise_map]
   have hs:(Ag7 K).Pairwise (· < ·):=AjR _ (Adp _)
   refine hs.imp fun {a b} hab x hx y hy e=>?_
   have h1:=(List.mem_filter.1 hx).2
   have h2:=(List.mem_filter.1 hy).2
   rw[decide_eq_true_iff] at h1 h2
   rw[←e,h1] at h2
   subst h2
   exact absurd hab (List.lt_irrefl _)
theorem AsK {K:Ks} {pre:List BrN} {x:BrN} (h:Av3 K pre x):∃r,Adv (brL K)=Adv (pre.map AcH)++x.2.2++r:=by
 obtain⟨r,e⟩:=h
 refine⟨Adv r,?_⟩
 rw[e,show AcH x::r=[AcH x]++r from rfl,Ajq,Ajq,AmS,List.append_assoc];rfl
theorem AtX {K:Ks} {pre:List BrN} {x:BrN} (h:Av3 K pre x):x.2.2=(Agk K).filter fun n=>decide (brH K n=x.1):=by
 obtain⟨r,e⟩:=h
 have hm:AcH x∈brL K:=by rw[e];simp
 obtain⟨b,hb,e2⟩:=List.mem_map.1 hm
 have h1:b=x.1:=congrArg Prod.fst e2
 have h2:(Akd K b).2=(AcH x).2:=congrArg Prod.snd e2
 rw[←h1]
 exact h2.symm
/-- How often a name was met. -/
def CntP (m:Ks) (l:List Bs):Prop:=∀n,(mlook m n).getD (vI 0)=vI (l.count n)
theorem CntP.nil:CntP [] []:=fun n=>rfl
theorem CntP.put {m:Ks} {l:List Bs} (h:CntP m l) (n:Bs):CntP (mput m n (vI ((l.count n:Int)+1))) (l++[n]):=fun k=>by
 rw[Al7,List.count_append,List.count_singleton]
 by_cases e:n=k
 · subst e
   rw[if_pos rfl]
   simp
 · rw[if_neg e,h k]
   simp[e]
theorem CntP.fin {K m:Ks} (h:(Agk K).Nodup) (c:CntP m (Adv (brL K))) (n:Bs):(mlook m n).getD (vI 0)=vI (if n∈Agk K then 1 else 0):=by
 rw[c n,(AjQ h).count]
 simp only[Arj]
 split<;>rfl
end
section
set_option maxRecDepth 100000
theorem AmF:∀As:List HP,Picks As As []
 | []=>.nil
 | A::r=>.cons .here (AmF r)
theorem Asa {α:Type} {l l':List α} {j:Nat} (h:j<l.length) (h':j<l'.length) (e:l.take j=l'.take j) (x:l[j]=l'[j]):l.take (j+1)=l'.take (j+1):=by
 rw[List.take_succ_eq_append_getElem h,List.take_succ_eq_append_getElem h',e,x]
end
section
set_option maxRecDepth 100000
theorem Aw2 (a b:Lf):Afb [vS a.branch,vS a.name] [vS b.branch,vS b.name]=decide (a=b):=by
 obtain⟨a0,a1⟩:=a
 obtain⟨b0,b1⟩:=b
 simp only[Afb,At6,Bool.and_true,Lf.mk.injEq,Bool.decide_and]
set_option maxHeartbeats 2000000 in
theorem Alu {As:List HP} {a a':Option Addr} (n n' c c':Nat) (l l':List Lf) [h1:Abm a (l.flatMap AaR) As] [h2:Abm a' (l'.flatMap AaR) As] (hn:l.length=n) (hn':l'.length=n') (hb:n≤140737488355328) :
    Sp1 Tryz.prog 31 [.slice a n c,.slice a' n' c'] As (vB (decide (l=l'))) As:=by
 subst hn;subst hn'
 haveI:AaT As As []:=⟨AmF As⟩
 refine Sp.body (n:=26) Tryz.call31 Tryz.func31 rfl rfl rfl ?_
 refine Qc (k:=Vv (k:=Wq (Za (k:=Qc (k:=Qv (k:=Qv (k:=Vv (k:=?_))))))))
 refine Wq (Zi (t:=fun h10=>?_) (f:=fun h10=>?_))
 ·
  refine Qc (k:=Vv (k:=Wq (Zt (k:=Va ?_))))
  have hn:¬l=l':=fun e=>h10 (by rw[e])
  exact Aa2 () (vs:=[_]) (Cs:=[]) rfl (.tmp rfl .nil) (by rw[decide_eq_false hn];rfl) trivial (by rw[List.append_nil];exact Ent.refl _)
 ·
  refine Zk (k:=Ya (Za (k:=Qc (k:=Vv (k:=Wq (Zb (k:=?_)))))))
  refine Aan (fun (i:{ j:Nat // j≤l.length∧l.take j=l'.take j })=>[(0,.slice a l.length c),(1,.slice a' l'.length c'),(5,vI i.1)]) (fun (i:{ j:Nat // j≤l.length∧l.take j=l'.take j })=>As) (fun (i:{ j:Nat // j≤l.length∧l.take j=l'.take j })=>l.length-i.1) rfl (⟨0,Nat.zero_le _,rfl⟩) ?_ ?_ (fun i=>?_)
  · exact⟨rfl,rfl,rfl,trivial⟩
  ·
   exact Ent.refl _
  obtain⟨j,hj,hw⟩:=i
  try dsimp only
  refine Za (k:=Qc (k:=Qv (k:=Qv (k:=Wq (Zi (t:=fun h14=>?_) (f:=fun h14=>?_))))))
  ·
   refine Zk (k:=Ya (Za (k:=Zb (k:=Za (k:=?_)))))
   have hjl:j<l.length:=by omega
   have hjl':j<l'.length:=by omega
   have hq:=Aw2 l[j] l'[j]
   refine Atb rfl rfl rfl As ?_
   refine Dv 0 (k:=Dv 1 (k:=?_))
   refine Aa1 2 rfl rfl rfl (by kernel_rfl) (by kernel_rfl) (Aaf (sz:=2) Tryz.underlying64 Anb rfl rfl rfl rfl (by omega) (by first | (rw[List.length_map];omega) | (rw[Aal (sz:=2) (fun _=>rfl)];omega) | (simp;omega)) rfl) ?_
   refine Aa1 3 rfl rfl rfl (by kernel_rfl) (by kernel_rfl) (Amw (vs:=[_,_]) (sz:=2) Tryz.underlying63 rfl Anb rfl rfl (by rw[Aal (sz:=2) (fun _=>rfl)];omega) rfl (by refine AaX (fun x=>?_) ?_<;>first | rfl | omega)) ?_
   refine Dv 4 (k:=Dv 5 (k:=?_))
   refine Aa1 6 rfl rfl rfl (by kernel_rfl) (by kernel_rfl) (Aaf (sz:=2) Tryz.underlying64 Anb rfl rfl rfl rfl (by omega) (by first | (rw[List.length_map];omega) | (rw[Aal (sz:=2) (fun _=>rfl)];omega) | (simp;omega)) rfl) ?_
   refine Aa1 7 rfl rfl rfl (by kernel_rfl) (by kernel_rfl) (Amw (vs:=[_,_]) (sz:=2) Tryz.underlying63 rfl Anb rfl rfl (by rw[Aal (sz:=2) (fun _=>rfl)];omega) rfl (by refine AaX (fun x=>?_) ?_<;>first | rfl | omega)) ?_
   refine Aa1 8 rfl rfl rfl (by kernel_rfl) (by kernel_rfl) (Aaq (AtP [.string,.string] Tryz.underlying63 (by kernel_rfl) (by kernel_rfl) (by kernel_rfl) rfl rfl rfl)) ?_
   refine Dd (k:=?_)
   rw[hq]
   refine Ya (Zi (t:=fun h25=>?_) (f:=fun h25=>?_))
   ·
    refine Qc (k:=Vv (k:=Wq (Zt (k:=Vb (Va (Vi (Vb (Va ?_))))))))
    have hn:¬l=l':=fun e=>by subst e;simp at h25
    exact Aa2 () (vs:=[_]) (Cs:=[]) rfl (.tmp rfl .nil) (by rw[decide_eq_false hn];rfl) trivial (by rw[List.append_nil];exact Ent.refl _)
   ·
    refine Zk (k:=Yb (Ya (Zr (k:=Qv (k:=Vv (k:=Wn ?_))))))
    have hx:l[j]=l'[j]:=by simpa using h25
    exact Aa6 ⟨j+1,by omega,Asa hjl hjl' hw hx⟩ (by dsimp only;omega) ⟨rfl,rfl,rfl,trivial⟩ (by rw[List.append_nil];exact Ent.refl _)
  ·
   refine Ze (k:=Xa (Xi (Xb (Ya (Qc (k:=Vv (k:=Wq (Zt (k:=?_)))))))))
   have hjl:j=l.length:=by omega
   subst hjl
   have he:l=l':=by
    have e1:l'.length=l.length:=by omega
    rw[List.take_length,←e1,List.take_length] at hw
    exact hw
   exact Aa2 () (vs:=[_]) (Cs:=[]) rfl (.tmp rfl .nil) (by rw[decide_eq_true he];rfl) trivial (by rw[List.append_nil];exact Ent.refl _)
end
section
section
variable {r:Option Nat} {P:Program} {n:Nat} {ops:Array Oper} {os:List Oper} {A:List HP} {L:Loc} {Hs:List HP} {Q:Out} {ty:TypeId} {d:Nat} {pos:String} {after:Array Edge} {c:Code}
theorem AhT {t kt e:TypeId} {x y z:Operand} {b:Nat} {ks:Ks} {k:List UInt8} {v:Value} (ht:P.underlying t=some (.map kt e)) (hk:P.underlying kt=some .string)
    (hx:ev L x=some (.map (some b))) (hy:ev L y=some (vS k)) (hz:ev L z=some v) :
    OpT r P n ⟨none,.insert t x y z,ty,pos,after,none⟩ A L [MapS b ks] (fun _:Unit=>undef) (fun _=>True) (fun _=>[MapS b (mput ks k v)]) :=
 Ac2 (pos:=pos) (after:=after) (ty:=ty) ht hk hx hy hz
theorem r_insert {os:List Oper} {Q:Out} {t kt e:TypeId} {x y z:Operand} {b:Nat} {ks:Ks} {k:List UInt8} {v:Value} {Rs:List HP} (ht:P.underlying t=some (.map kt e)) (hk:P.underlying kt=some .string)
    (hx:ev L x=some (.map (some b))) (hy:ev L y=some (vS k)) (hz:ev L z=some v) [h:Ady b ks Hs Rs] (K:wo r P n ops os L (MapS b (mput ks k v)::Rs) Q):wo r P n ops (⟨none,.insert t x y z,ty,pos,after,none⟩::os) L Hs Q:=by
 haveI:AaT [MapS b ks] Hs Rs:=⟨.cons h.get .nil⟩
 exact AcA (by intro c;simp) (AhT ht hk hx hy hz (ks:=ks)) rfl (fun _ _=>K)
end
section
variable {α:Type} (a b c:α)
end
end
section
set_option maxRecDepth 100000
/-- ref10.Checkin of a check-in that has no files. -/
theorem Agy {Bt:HP} (pa:Option Addr) (pc:Nat) (ta:Option Addr) (tc:Nat) {ps:List Bs} {ts:List Tg} {u:Bs} {d:Int} (h:Abo (Akc ps ts u d)) (hpc:ps.length≤pc) (sht:SlA Bt ta (ts.flatMap Aae)) :
    Sp1 Tryz.prog 16 [.agg #[vS [],vS [],vI d,.slice none 0 0,.slice pa ps.length pc,.slice ta ts.length tc,vS u]] [SlI none [],SlI pa (ps.map vS),Bt] (vS (ckB (Akc ps ts u d))) [SlI none [],Bt] :=
 AcN (Bf:=SlI none []) ⟨none,0,pa,pc,ta,tc⟩ (Akc ps ts u d) (AtE h) h.date (Nat.le_trans (Ae9 h) (by decide)) Abe sht hpc
end
section
set_option maxRecDepth 100000
def hE:List Lf:=[⟨[98],[98]⟩,⟨trB,[99]⟩]
set_option maxHeartbeats 8000000 in
theorem AnQ:Sp1 Tryz.prog 6 [] [] (vB true) []:=by
 have hCa:=Agy (Bt:=SlI none []) none 0 none 0 AfB (Nat.le_refl _) Abe
 simp only[List.map_nil,List.length_nil] at hCa
 rw[show ckB (Akc [] [] me 0)=ckB hA from rfl] at hCa
 have hS:=Adj (ckB hA) (Nat.le_trans (Ako AfB) (by decide))
 rw[show AcL (ckB hA)=hX from rfl] at hS
 have hCb:∀p t,Sp1 Tryz.prog 16 [.agg #[vS [],vS [],vI 0,.slice none 0 0,.slice (some ⟨p,0,none⟩) 1 1,.slice (some ⟨t,0,none⟩) 1 1,vS me]] [SlI none [],SlI (some ⟨p,0,none⟩) [vS hX],Ce t 60 (hT.flatMap Aae)] (vS (ckB hB)) [SlI none [],Ce t 60 (hT.flatMap Aae)]:=fun p t =>
  Agy (Bt:=Ce t 60 (hT.flatMap Aae)) (some ⟨p,0,none⟩) 1 (some ⟨t,0,none⟩) 1 AgJ (Nat.le_refl _) ApA
 have hCc:∀p,Sp1 Tryz.prog 16 [.agg #[vS [],vS [],vI 0,.slice none 0 0,.slice (some ⟨p,0,none⟩) 1 1,.slice none 0 0,vS me]] [SlI none [],SlI (some ⟨p,0,none⟩) [vS hX],SlI none []] (vS (ckB hC)) [SlI none [],SlI none []]:=fun p =>
  Agy (Bt:=SlI none []) (some ⟨p,0,none⟩) 1 none 0 AgI (Nat.le_refl _) Abe
 have hk:mput (mput (mput [] hX (vS (ckB hA))) [98] (vS (ckB hB))) [99] (vS (ckB hC))=hK:=rfl
 have hlen:hK.length=3:=by rw[h_held.len];rfl
 have hLv:=fun b=>Aeg b hK h_held.txt h_held.knd (by rw[hlen];omega)
 have hBr:=fun b=>Agg b hK h_held.txt h_held.knd (by rw[hlen];omega)
 have hIl:=fun b=>Agf b hK h_held.txt h_held.knd (by rw[hlen];omega) hX
 have hBb:=fun b=>hBr b [98]
 have hBc:=fun b=>hBr b [99]
 rw[Au8] at hBb
 rw[h_bx.2] at hBc
 rw[Avc] at hIl
 have hq:=fun q=>At2 (q:=q)
 rw[show ([⟨[98],[98]⟩,⟨trB,[99]⟩]:List Lf)=hE from rfl] at hq
 have hEc:([vS [98],vS [98],vS [116,114,117,110,107],vS [99]]:List Value)=hE.flatMap AaR:=rfl
 have hEl:hE.length=2:=rfl
 clear hBr
 generalize hK=H at *
 generalize hX=x at *
 generalize ckB hA=ca at *
 generalize ckB hB=cb at *
 generalize ckB hC=cc at *
 generalize hE=E at *
 refine Sp.body (n:=46) Tryz.call6 Tryz.func6 rfl rfl rfl ?_
 refine Qc (k:=Vv (k:=Wq (Qc (k:=Vx (Ps [vS [],vS [],.int .i64 0,.slice none 0 0,.slice none 0 0,.slice none 0 0,_]) (k:=?_)))))
 refine wo_ent' sli_nil ?_
 refine Aad hCa rfl rfl rfl ?_
 refine Vv (k:=Wq (Qc (k:=Vv (k:=?_))))
 refine Aag hS rfl rfl rfl ?_
 refine Vv (k:=Wq (Qc (k:=?_)))
 refine r_mkmap rfl (fun b8=>?_)
 refine Qv (k:=?_)
 refine r_insert Tryz.underlying31 Tryz.underlying9 rfl rfl rfl ?_
 refine Qv (k:=Wq (Qc (k:=Qv (k:=Zv [_] (cs:=[_]) (k:=fun b14=>Vx (Ps [_,_,_,_]) (k:=Zv [_] (cs:=[_,_,_,_]) (k:=fun b16=>Vx (Ps [vS [],vS [],.int .i64 0,.slice none 0 0,_,_,_]) (k:=?_))))))))
 refine AbR b14 ?_
 refine wo_ent' (AaK (b:=b16) (T:=60) (l':=hT.flatMap Aae) (by rfl) (by rfl)) ?_
 refine Aad (hCb b14 b16) rfl rfl rfl ?_
 refine r_mapUpdate Tryz.underlying31 Tryz.underlying9 rfl rfl rfl ?_
 refine Wq (Qc (k:=Qv (k:=Zv [_] (cs:=[_]) (k:=fun b21=>Vx (Ps [vS [],vS [],.int .i64 0,.slice none 0 0,_,.slice none 0 0,_]) (k:=?_)))))
 refine AbR b21 ?_
 refine Aad (hCc b21) rfl rfl rfl ?_
 refine r_mapUpdate Tryz.underlying31 Tryz.underlying9 rfl rfl rfl ?_
 refine Wq (Qc (k:=?_))
 rw[hk]
 refine Vv (k:=?_)
 refine Aar (hLv b8) rfl rfl rfl (fun xp hxp=>?_)
 obtain⟨⟨pa,pc⟩,q⟩:=xp
 dsimp only at hxp ⊢
 obtain rfl:=hq q hxp
 refine Vx (Ps [_,_]) (k:=Vx (Ps [_,_]) (k:=Zv [_,_] (cs:=[_,_,_,_]) (k:=fun b28=>?_)))
 refine wo_ent' (AaK (b:=b28) (T:=63) (l':=q.flatMap AaR) (by rfl) hEc) ?_
 refine Aad (Alu (As:=[Row 63 2 (.slice pa q.length pc) q.length (q.flatMap AaR),Ce b28 63 (q.flatMap AaR)]) q.length 2 pc 2 q q rfl hEl (by omega)) rfl rfl rfl ?_
 refine Vv (k:=Gi 6 (t:=fun h30=>?_) (f:=fun h30=>?_))
 ·
  refine J1 (k:=I1 (k:=?_))
  refine Aad (hBc b8) rfl rfl rfl ?_
  refine J1 (k:=P1 (k:=Vv (k:=Gi 11 (t:=fun h35=>?_) (f:=fun h35=>?_))))
  ·
   refine J1 (k:=I1 (k:=?_))
   refine Aad (hBb b8) rfl rfl rfl ?_
   refine J1 (k:=P1 (k:=Vv (k:=Gi 16 (t:=fun h40=>?_) (f:=fun h40=>?_))))
   ·
    refine J1 (k:=J1 (k:=I1 (k:=?_)))
    refine Aad (hIl b8) rfl rfl rfl ?_
    refine J1 (k:=P1 (k:=Vv (k:=Wq (Zt (k:=?_)))))
    exact Aa2 () (vs:=[_]) (Cs:=[]) rfl (.tmp rfl .nil) rfl trivial Aab
   ·
    exact absurd rfl h40
    --done
  ·
   exact absurd rfl h35
   --done
 ·
  simp at h30
  --done
end
end Go.Proofs.YtdnoacgopfcpbaaGreat
/- Map literals of other keys. -/
namespace Go.Proofs.YtdnoacgopfcpbaaGreat.MX
section
variable {α:Type} {r:Option Nat} {P:Program} {n:Nat} {ops:Array Oper} {os:List Oper} {A:List HP} {L:Loc} {Hs:List HP} {Q:Out} {ty:TypeId} {d:Nat} {pos:String} {after:Array Edge} {c:Code}
theorem AhT [DecidableEq α] {E:Acf α} {t kt e:TypeId} {x y z:Operand} {b:Nat} {ks:Ks α} {k:α} {v:Value} (ht:P.underlying t=some (.map kt e)) (hk:Am9 P kt E)
    (hx:ev L x=some (.map (some b))) (hy:ev L y=some (E.enc k)) (hz:ev L z=some v) :
    OpT r P n ⟨none,.insert t x y z,ty,pos,after,none⟩ A L [MapS E b ks] (fun _:Unit=>undef) (fun _=>True) (fun _=>[MapS E b (mput ks k v)]) :=
 Ac2 (pos:=pos) (after:=after) (ty:=ty) ht hk hx hy hz
theorem r_insert [DecidableEq α] {E:Acf α} {t kt e:TypeId} {x y z:Operand} {b:Nat} {ks:Ks α} {k:α} {v:Value} {Rs:List HP} (ht:P.underlying t=some (.map kt e)) (hk:Am9 P kt E)
    (hx:ev L x=some (.map (some b))) (hy:ev L y=some (E.enc k)) (hz:ev L z=some v) [h:Ady E b ks Hs Rs] (K:wo r P n ops os L (MapS E b (mput ks k v)::Rs) Q):wo r P n ops (⟨none,.insert t x y z,ty,pos,after,none⟩::os) L Hs Q:=by
 haveI:AaT [MapS E b ks] Hs Rs:=⟨.cons h.get .nil⟩
 exact AcA (by intro c;simp) (AhT ht hk hx hy hz (ks:=ks)) rfl (fun _ _=>K)
end
/-- yes and no. -/
abbrev yn (u v:Value):Ks Bool:=mput (mput [] true u) false v
theorem yn_look (u v z:Value) (b:Bool):(mlook (yn u v) b).getD z=if b then u else v:=by cases b<;>rfl
end Go.Proofs.YtdnoacgopfcpbaaGreat.MX
namespace Go.Proofs.YtdnoacgopfcpbaaGreat
section
set_option maxRecDepth 100000
theorem yn3 (b:Bool):(if false=true then Value.tuple #[(MX.mlook (MX.yn (vI 1) (vI 0)) b).getD (vI 0),.bool (MX.mlook (MX.yn (vI 1) (vI 0)) b).isSome] else (MX.mlook (MX.yn (vI 1) (vI 0)) b).getD (vI 0))=vI (if b then 1 else 0):=by
 rw[if_neg (by simp),MX.yn_look]
 split<;>rfl
set_option maxHeartbeats 16000000 in
theorem Apn (la:Option Addr) (lc:Nat) (qs:List KaV) (hq:qs.length≤9223372036854775807) (hz:∀q∈qs,q.Z) :
    Sp1 Tryz.prog 10 [.slice la qs.length lc] [SlI la (qs.flatMap KaV.cells),Apk qs] (vB true) []:=by
 have hHd:=AnG la lc qs hz 9 (by decide) hq
 refine Sp.body (n:=91) Tryz.call10 Tryz.func10 rfl rfl rfl ?_
 refine Qc (k:=Zc [.bool false] (k:=fun b2=>Wq (Qc (k:=Vv (k:=?_)))))
 refine Aar hHd rfl rfl rfl (fun xq hxq=>?_)
 obtain⟨b,K⟩:=xq
 dsimp only at hxq ⊢
 obtain⟨hK,hKl⟩:=hxq
 have hBr:=fun n=>Agg b K hK.txt hK.nd (by omega) n
 have hIs:=fun n=>Agf b K hK.txt hK.nd (by omega) n
 have hLv:=Aeg b K hK.txt hK.nd (by omega)
 have hcl:=hK.cle
 have hcn:=hK.cnd
 have hdn:=AjQ hcn
 refine Zc [.map none] (k:=fun b3=>Zo (k:=Wq (Za (k:=Qc (k:=Zd (k:=?_))))))
 refine Aad (hBr _) rfl rfl rfl ?_
 rw[hK.nobody (by decide)]
 refine Vv (k:=Wq (Zi (t:=fun h19=>?_) (f:=fun h19=>?_)))
 ·
  exact absurd rfl h19
  --done
 ·
  refine Zk (k:=Ya (Qc (k:=?_)))
  refine r_mkmap rfl (fun b20=>?_)
  refine Zc [.map none] (k:=fun b4=>Zo (k:=Wq (Za (k:=Qc (k:=Zd (k:=?_))))))
  refine Aar (AiE (some b)) rfl rfl rfl (fun cb _=>?_)
  refine Wq (Zb (k:=?_))
  refine Adq (fun pre=>[Ex fun m:Ks=>Al [Pu (CntP m (Adv (pre.map AcH))),MapS b20 m],Ce b2 4 [vB false],Ce b3 31 [.map (some b)],Ce b4 75 [.map (some b20)],MapS b K]) (fun j pre=>[Pu False]) (fun pre=>[Ex fun m:Ks=>Al [Pu (CntP m (Adv (pre.map AcH))),MapS b20 m],Ce b2 4 [vB false],Ce b3 31 [.map (some b)],Ce b4 75 [.map (some b20)]]) rfl (AiF cb b K hK.txt hK.nd (by omega)) rfl (fun _=>by rfl) rfl (fun pre=>?_) (fun pre=>?_) ?_ (fun l pre x hok=>?_) (fun all hfin=>?_) (fun j pre hs=>?_)
  · exact Aa0
  · exact Aa0
  · (refine Ae0 ?_;refine Abt ([]:Ks) (AbP (Ad6 CntP.nil ?_));exact Aa0)
  ·
   have hof:=AtX hok
   obtain⟨rs,hrs⟩:=AsK hok
   have hmp:(pre++[x]).map AcH=pre.map AcH++[AcH x]:=by rw[List.map_append,List.map_cons,List.map_nil]
   obtain⟨bb,⟨xa,xc⟩,ns⟩:=x
   dsimp only[BrM] at hof hrs hmp ⊢
   have hmp2:Adv ((pre++[(bb,(xa,xc),ns)]).map AcH)=Adv (pre.map AcH)++ns:=by rw[hmp,Ajq,AmS];rfl
   generalize Adv (pre.map AcH)=pn at hrs hmp2 ⊢
   have hnl:ns.length≤9:=by
    rw[hof]
    exact Nat.le_trans (List.length_filter_le _ _) (by omega)
   have hnb:∀n∈ns,brH K n=bb:=fun n hn=>by
    rw[hof] at hn
    simpa using (List.mem_filter.1 hn).2
   have hnd2:((pn++ns)++rs).Nodup:=by rw[←hrs];exact hdn
   refine wc_ent' (AeB (.there .here)) ?_
   refine AbZ fun m0=>?_
   refine Adc (Afk fun hc0=>?_)
   refine Qc (k:=Vv (k:=Wq (Zr (k:=Vv (k:=Wg (Zb (k:=Qc (k:=Qv (k:=?_)))))))))
   refine Vv (k:=Wq (Zb (k:=?_)))
   refine Aan (fun (i:{ x:Nat×Ks // x.1≤ns.length∧CntP x.2 (pn++ns.take x.1) })=>[(2,.pointer (some ⟨b2,0,none⟩)),(3,.pointer (some ⟨b3,0,none⟩)),(4,.pointer (some ⟨b4,0,none⟩)),(5,vS bb),(25,.slice xa ns.length xc),(26,vI ns.length),(27,vI i.1.1)]) (fun (i:{ x:Nat×Ks // x.1≤ns.length∧CntP x.2 (pn++ns.take x.1) })=>[MapS b20 i.1.2,Ce b2 4 [vB false],Ce b3 31 [.map (some b)],Ce b4 75 [.map (some b20)],MapS b K,SlI xa (ns.map vS)]) (fun (i:{ x:Nat×Ks // x.1≤ns.length∧CntP x.2 (pn++ns.take x.1) })=>ns.length-i.1.1) rfl (⟨(0,m0),Nat.zero_le _,by simpa using hc0⟩) ?_ ?_ (fun i=>?_)
   · exact⟨rfl,rfl,rfl,rfl,rfl,rfl,rfl,trivial⟩
   ·
    exact Aa0
   obtain⟨⟨j,m⟩,hj,hc⟩:=i
   dsimp only at hj hc ⊢
   try dsimp only
   refine Qc (k:=Vv (k:=Wq (Za (k:=Zi (t:=fun h28=>?_) (f:=fun h28=>?_)))))
   ·
    refine Zk (k:=Ya (Za (k:=Zb (k:=Za (k:=?_)))))
    have hjl:j<ns.length:=by omega
    obtain⟨nm,hnm⟩:∃nm,nm=ns[j]:=⟨_,rfl⟩
    have hst:ns.take (j+1)=ns.take j++[nm]:=by rw[hnm];exact List.take_succ_eq_append_getElem hjl
    have hbn:=hnb nm (by rw[hnm];exact List.getElem_mem hjl)
    have hc1:(pn++ns.take j).count nm≤1:=by
     refine List.nodup_iff_count.1 (List.Nodup.sublist ?_ hnd2) nm
     rw[List.append_assoc]
     exact List.Sublist.append_left ((List.take_sublist _ _).trans (List.sublist_append_left _ _)) _
    have hput:=hc.put nm
    rw[List.append_assoc,←hst] at hput
    have hlk:=hc nm
    generalize (pn++ns.take j).count nm=cn at hc1 hput hlk
    refine Zr (k:=?_)
    refine AbB (m:=j) (sz:=1) Tryz.underlying27 ti9 rfl rfl rfl rfl (by omega) (by rw[List.length_map];omega) (Nat.mul_one _) rfl ?_
    refine Aep Tryz.underlying9 rfl rfl ((Ag4 (m:=j) hjl).trans (by rw[←hnm])) rfl ?_
    refine Vv (k:=Wq (Qc (k:=Zd (k:=Vv (k:=?_)))))
    refine r_lookup (v:=vI cn) Tryz.underlying75 Tryz.underlying9 ti3 rfl rfl rfl hlk rfl ?_
    refine Vv (k:=?_)
    refine r_mapUpdate Tryz.underlying75 Tryz.underlying9 rfl rfl rfl ?_
    refine Wq (Qc (k:=Zd (k:=Vv (k:=?_))))
    refine Aad (hBr nm) rfl rfl rfl ?_
    rw[hbn]
    refine Qv (k:=Wq (Zi (t:=fun h39=>?_) (f:=fun h39=>?_)))
    ·
     exact absurd rfl h39
     --done
    ·
     refine Zk (k:=Yb (Ya (Zr (k:=Qv (k:=Wn ?_)))))
     refine Aa6 ⟨(j+1,mput m nm (vI ((cn:Int)+1))),by dsimp only;omega,hput⟩ (by dsimp only;omega) ⟨rfl,rfl,rfl,rfl,rfl,rfl,rfl,trivial⟩ ?_
     exact Aa0
   ·
    refine Ze (k:=Xa (Xi (Xb (Yb ?_))))
    have hjn:j=ns.length:=by omega
    subst hjn
    rw[List.take_length] at hc
    refine Ab4 ?_
    rw[hmp2]
    refine Abt m (AbP (Ad6 hc ?_))
    exact Aa0
  ·
   simp only[List.cons_append,List.nil_append]
   rw[show all.map AcH=brL K from hfin]
   refine Yb (Ya (Za (k:=Za (k:=?_))))
   refine AbZ fun m=>?_
   refine Adc (Afk fun hc=>?_)
   have hcf:=CntP.fin hcn hc
   refine Zr (k:=Zd (k:=?_))
   refine Aki Tryz.underlying31 rfl rfl (fun b42=>?_)
   refine Wq (Zb (k:=?_))
   refine Aan (fun (i:List Bs)=>[(2,.pointer (some ⟨b2,0,none⟩)),(3,.pointer (some ⟨b3,0,none⟩)),(4,.pointer (some ⟨b4,0,none⟩)),(42,.pointer (some ⟨b42,0,none⟩))]) (fun (i:List Bs)=>[Ac6 b b42 K i,MapS b20 m,Ce b2 4 [vB false],Ce b3 31 [.map (some b)],Ce b4 75 [.map (some b20)]]) (fun (i:List Bs)=>K.length-i.length) rfl ([]) ?_ ?_ (fun i=>?_)
   · exact⟨rfl,rfl,rfl,rfl,trivial⟩
   ·
    exact Aa0
   refine Adn (A:=Ac6 b b42 K i) HasC.get Ahc (fun hlen=>?_)
   try dsimp only
   refine Qc (k:=?_)
   refine Anl rfl rfl (fun o43 ho43=>?_)
   refine Aa5 (Ans rfl) rfl ?_
   refine Wq (Za (k:=Zi (t:=fun h44=>?_) (f:=fun h44=>?_)))
   ·
    obtain⟨⟨k,v⟩,rfl⟩:=Option.isSome_iff_exists.1 h44
    obtain⟨hm,hk⟩:=ho43
    have hk1:k∈K.map (·.1):=List.mem_map_of_mem (f:=fun p:Bs×Value=>p.1) hm
    have hl2:i.length<K.length:=by
     have:=Afx (l:=i++[k]) (m:=K.map (·.1)) (by rw[List.nodup_append];exact⟨hlen.2.1,by simp,fun a ha c hc e=>by simp only[List.mem_singleton] at hc;subst hc;subst e;exact hk ha⟩) (fun x hx=>by rcases List.mem_append.1 hx with h | h;exact hlen.2.2 x h;simp only[List.mem_singleton] at h;subst h;exact hk1)
     rw[List.length_append,List.length_singleton,List.length_map] at this
     omega
    dsimp only[nxD]
    obtain⟨s,e,hsl⟩:=hK.ok _ hm
    obtain rfl:v=vS s:=congrArg Prod.snd e
    have hck:=hK.isck hm
    have hRd:=Agz s (by omega)
    have hlk:=hcf k
    refine Zk (k:=Ya (Zb (k:=Qc (k:=?_))))
    refine Akj (b:=b) (ks:=K) (done:=i) (k:=k) (v:=vS s) hm rfl rfl ?_
    refine Qv (k:=Qv (k:=Wq (Qc (k:=Vv (k:=?_)))))
    refine Aar hRd rfl rfl rfl (fun xc hxc=>?_)
    have hcv:(AaN xc.1 xc.2).length=7:=rfl
    refine Vv (k:=?_)
    refine Aa5 (Aa9 (v:=.agg (AaN xc.1 xc.2).toArray) rfl rfl) rfl ?_
    refine Aa5 (Aa9 (v:=vB (Abf s).isSome) rfl rfl) rfl ?_
    refine Zc [vS [],vS [],.int .i64 0,.slice none 0 0,.slice none 0 0,.slice none 0 0,vS []] (k:=fun b11=>Zp (k:=Vv (k:=Wq (Qc (k:=Zd (k:=Vv (k:=?_)))))))
    refine r_lookup (v:=vI (if k∈Agk K then 1 else 0)) Tryz.underlying75 Tryz.underlying9 ti3 rfl rfl rfl hlk rfl ?_
    refine MX.r_mkmap (E:=MX.boolE) rfl (fun b56=>?_)
    refine MX.r_insert (E:=MX.boolE) (k:=true) Tryz.underlying57 (MX.boolP Tryz.underlying4) rfl rfl rfl ?_
    refine MX.r_insert (E:=MX.boolE) (k:=false) Tryz.underlying57 (MX.boolP Tryz.underlying4) rfl rfl rfl ?_
    refine Qv (k:=?_)
    refine MX.r_lookup (E:=MX.boolE) Tryz.underlying57 (MX.boolP Tryz.underlying4) ti3 rfl rfl rfl (yn3 _) rfl ?_
    refine Vv (k:=Wq (Zi (t:=fun h60=>?_) (f:=fun h60=>?_)))
    ·
     exact absurd (by simp only[hck]) h60
     --done
    ·
     refine Zk (k:=Yb ?_)
     refine Aa6 (i++[k]) ?_ ⟨rfl,rfl,rfl,rfl,trivial⟩ ?_
     · rw[List.length_append,List.length_singleton];omega
     · exact Aa0
   ·
    have hnone:o43=none:=by cases o43 with
     | none=>rfl
     | some p=>simp at h44
    subst hnone
    dsimp only[nxD]
    refine Ze (k:=Xa (Xi (Xb (Ya (Za (k:=Za (k:=?_)))))))
    refine wc_ent' (AdI (i:=b42)) ?_
    refine Zr (k:=Zd (k:=?_))
    refine Aar hLv rfl rfl rfl (fun xl hxl=>?_)
    obtain⟨⟨ra,rc⟩,lv⟩:=xl
    dsimp only at hxl ⊢
    have hlm:∀y∈lv,y∈lvL K:=fun y hy=>hxl.1.mem_iff.1 hy
    have hll:lv.length≤9:=by
     rw[hxl.1.length_eq]
     have h1:=Akl (brH K) (Ab3 K) (Ab3 K)
     have h2:=cksL_len' K
     change (lvF (brH K) (Ab3 K) (Ab3 K)).length≤9
     omega
    refine Qv (k:=Wq (Zb (k:=?_)))
    refine Aan (fun (i:{ j:Nat // j≤lv.length })=>[(2,.pointer (some ⟨b2,0,none⟩)),(3,.pointer (some ⟨b3,0,none⟩)),(4,.pointer (some ⟨b4,0,none⟩)),(62,.slice ra lv.length rc),(63,vI lv.length),(64,vI i.1)]) (fun (i:{ j:Nat // j≤lv.length })=>[Row 63 2 (.slice ra lv.length rc) lv.length (lv.flatMap AaR),MapS b K,MapS b20 m,Ce b2 4 [vB false],Ce b3 31 [.map (some b)],Ce b4 75 [.map (some b20)]]) (fun (i:{ j:Nat // j≤lv.length })=>lv.length-i.1) rfl (⟨0,Nat.zero_le _⟩) ?_ ?_ (fun i=>?_)
    · exact⟨rfl,rfl,rfl,rfl,rfl,rfl,trivial⟩
    ·
     exact Aa0
    obtain⟨j,hj⟩:=i
    dsimp only
    try dsimp only
    refine Qc (k:=Vv (k:=Wq (Za (k:=Zi (t:=fun h65=>?_) (f:=fun h65=>?_)))))
    ·
     refine Zk (k:=Ya (Za (k:=Zb (k:=Za (k:=?_)))))
     have hjl:j<lv.length:=by omega
     obtain⟨y,hy⟩:∃y,y=lv[j]:=⟨_,rfl⟩
     have hget:((lv.flatMap AaR).drop (j * 2)).take 2=AaR y:=by rw[hy];exact AaX (f:=AaR) (fun _=>rfl) hjl
     obtain⟨x,hx,hxn,hxe⟩:=mem_lvL.1 (hlm y (by rw[hy];exact List.getElem_mem hjl))
     obtain⟨yb,yn⟩:=y
     have hlc:(AaR ⟨yb,yn⟩).length=2:=rfl
     simp only[Lf.mk.injEq] at hxe
     obtain⟨hyb,hyn⟩:=hxe
     have hb1:=hBr yn
     have hi1:=hIs yn
     rw[hyn] at hb1 hi1
     rw[←hyb] at hb1
     rw[show ApY K x.1=true from isLf_iff.2 ⟨x,hx,rfl,hxn⟩] at hi1
     rw[←hyn] at hb1 hi1
     have hlk:(mlook m yn).getD (vI 0)=vI 1:=by
      rw[hcf yn,if_pos (by rw[hyn];exact List.mem_map_of_mem (f:=fun p:Bs×Ck=>p.1) hx)]
     refine Zr (k:=?_)
     refine AbB (m:=j) (sz:=2) Tryz.underlying64 Anb rfl rfl rfl rfl (by omega) (by rw[Aal (sz:=2) (fun _=>rfl)];omega) rfl rfl ?_
     refine Ab9 (vs:=AaR ⟨yb,yn⟩) (sz:=2) Tryz.underlying63 rfl Anb rfl rfl (by rw[Aal (sz:=2) (fun _=>rfl)];omega) rfl hget rfl ?_
     refine Zc [vS [],vS []] (k:=fun b14=>Zp (k:=Wq (Za (k:=?_))))
     refine wc_ent' (AaK (b:=b14) (T:=63) (l':=[vS yb,vS yn]) (by rfl) (by rfl)) ?_
     refine Dw [Row 63 2 (.slice ra lv.length rc) lv.length (lv.flatMap AaR),Ce b14 63 [vS yb,vS yn],Ce b2 4 [vB false],Ce b3 31 [.map (some b)],Ce b4 75 [.map (some b20)],MapS b20 m] (k:=?_)
     refine Di 0 (t:=Ul) (k:=Di 1 (t:=Uf 1 9) (k:=Di 2 (t:=Ul) (k:=Di 4 (t:=Uf 0 9) (k:=Di 5 (t:=Ul) (k:=Dn 3 (k:=?_))))))
     refine AcI hb1 rfl rfl rfl ?_
     refine Dv 6 (k:=Dv 7 (k:=Gd 7 (t:=fun h75=>?_) (f:=fun h75=>?_)))
     ·
      exact absurd rfl h75
      --done
     ·
      refine Di 8 (t:=U0 (h:=Ul)) (k:=Di 9 (t:=U0 (h:=Uf 1 9)) (k:=Di 10 (t:=U0 (h:=Ul)) (k:=?_)))
      refine Aa1 11 rfl rfl rfl (by kernel_rfl) (by kernel_rfl) (AaA (b:=false) rfl (Ah8 (v:=vI 1) Tryz.underlying75 Tryz.underlying9 ti3 rfl rfl rfl hlk)) ?_
      refine Di 12 (t:=U0 (h:=Uv)) (k:=DP0 13 (k:=Dv 14 (k:=Gd 14 (t:=fun h82=>?_) (f:=fun h82=>?_))))
      ·
       exact absurd rfl h82
       --done
      ·
       refine Di 15 (t:=U0 (h:=Ul)) (k:=Di 16 (t:=U0 (h:=Uf 1 9)) (k:=Di 17 (t:=U0 (h:=Ul)) (k:=Dn 18 (k:=?_))))
       refine AiQ (b:=false) rfl ?_
       refine AcI hi1 rfl rfl rfl ?_
       refine Di 19 (t:=U0 (h:=Uv)) (k:=DP0 20 (k:=Dd (k:=Ya (Zi (t:=fun h88=>?_) (f:=fun h88=>?_)))))
       ·
        cases h88
        --done
       ·
        refine Zk (k:=Yb (Ya (Zr (k:=Qv (k:=Wn ?_)))))
        exact Aa6 ⟨j+1,by omega⟩ (by dsimp only;omega) ⟨rfl,rfl,rfl,rfl,rfl,rfl,trivial⟩ Aa0
    ·
     refine Ze (k:=Xa (Xi (Xb (Ya (Qc (k:=?_))))))
     refine Aad AnQ rfl rfl rfl ?_
     refine Zo (k:=Wq (Zt (k:=?_)))
     exact Aa2 () (vs:=[_]) (Cs:=[Ce b2 4 [vB true]]) rfl (.cell1 (l:=[vB true]) rfl (AaL (T:=4)) Tryz.underlying4 rfl rfl .nil) rfl trivial Aa0
  ·
   exact Agb (fun s=>by obtain⟨_,_,_,_,a,_⟩:=s;exact a)
end
theorem Ae3 {A:HP} {As:List HP} {M:Kn} (h1:A.at_ M Res.emp) (h2:SL As M Res.emp):SL (A::As) M Res.emp:=⟨Res.emp,Res.emp,Res.emp_dj _,(Res.emp_add _).symm,h1,h2⟩
theorem Aun {H:Type} {enc:TypeId×Value→H} {w:World} {spare:Nat→Bool} {held:Bool} {fuel:Nat} {cs:List Value} {x:DataW H×List MemPlace}
    (h:DataW.trod enc Tryz.prog w 0 spare held fuel 44 cs=some x):∃(a:Option Addr) (c:Nat) (qs:List KaV),cs=[.slice a qs.length c]∧qs.length≤9223372036854775807∧At w (SlI a (qs.flatMap KaV.cells))∧At w (Apk qs)∧∀q∈qs,q.Z:=by
 have e16:Tryz.prog.cellsOf 118=16:=by kernel_rfl
 obtain⟨a,c,qs,h1,h2,h3,h4⟩:=AqE KaV.cells (fun q=>q.Z∧SL q.hs (kn w) Res.emp) Tryz.underlying44 (by rw[e16];decide) (fun _ hy=>by
  obtain⟨q,g1,g2,g3,g4,g5,g6,g7,g8,g9,g10⟩:=ApX hy
  exact⟨q,g1,g2,Ae3 g3 (Ae3 g4 (Ae3 g5 (Ae3 g6 (Ae3 g7 (Ae3 g8 (Ae3 g9 (Ae3 g10 trivial)))))))⟩) h
 exact⟨a,c,qs,h1,h2,h3,fun q hq=>(h4 q hq).2,fun q hq=>(h4 q hq).1⟩
end Go.Proofs.YtdnoacgopfcpbaaGreat
