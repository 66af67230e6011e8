/- Texts of this proof, put together: PEsc, Digit, Digit2, LibS, SlFn, SStore0, SStore2, SHash, SHash2, SHash3. -/
import Derived.Test.YtdnoacgopfcpbaaGreatQ07
set_option linter.unusedVariables false
set_option linter.unusedSimpArgs false
namespace Go.Proofs.YtdnoacgopfcpbaaGreat
theorem u8eq {c d:UInt8}:c=d↔c.toNat=d.toNat:=UInt8.toNat_inj.symm
def Ahr (c:UInt8):Bs:=if c.toNat=32 then [92,115] else if c.toNat=10 then [92,110] else if c.toNat=92 then [92,92] else [c]
def Abf (s:Bs):Bs:=s.flatMap Ahr
def unC (c:UInt8):Option UInt8:=if c.toNat=115 then some 32 else if c.toNat=110 then some 10 else if c.toNat=92 then some 92 else none
def AaB : Bs→Option Bs
 | []=>some []
 | c :: r=>if c.toNat=92 then (match r with
     | []=>none
     | d::r'=>match unC d with
       | none=>none
       | some e=>(AaB r').map (e::·))
   else if c.toNat=32∨c.toNat=10 then none else (AaB r).map (c::·)
theorem Ad5 (c:UInt8) (r:Bs):AaB (c::r)=if c.toNat=92 then (match r with
      | []=>none
      | d::r'=>match unC d with
        | none=>none
        | some e=>(AaB r').map (e::·))
    else if c.toNat=32∨c.toNat=10 then none else (AaB r).map (c::·):=by
 cases r<;>simp only[AaB]
theorem AnZ (c:UInt8) (s:Bs):Abf (c::s)=Ahr c++Abf s:=by simp[Abf]
theorem Aqf (s t:Bs):Abf (s++t)=Abf s++Abf t:=by simp[Abf]
theorem AjP (s:Bs):AaB (Abf s)=some s:=by
 induction s with
 | nil=>rfl
 | cons c s ih =>
   rw[AnZ];unfold Ahr;split
   · rename_i h
     have:c=32:=u8eq.2 h;subst this;show AaB (92::115::Abf s)=_;simp[Ad5,unC,ih]
   · split
     · rename_i h
       have:c=10:=u8eq.2 h;subst this;show AaB (92::110::Abf s)=_;simp[Ad5,unC,ih]
     · split
       · rename_i h
         have:c=92:=u8eq.2 h;subst this;show AaB (92::92::Abf s)=_;simp[Ad5,unC,ih]
       · rename_i h1 h2 h3
         show AaB (c::Abf s)=_;simp[Ad5,h1,h2,h3,ih]
theorem As3 (c:UInt8):(∀d∈Ahr c,d.toNat≠32∧d.toNat≠10)∧1≤(Ahr c).length∧(Ahr c).length≤2:=by
 unfold Ahr;split
 · exact⟨by decide,by decide,by decide⟩
 · split
   · exact⟨by decide,by decide,by decide⟩
   · split
     · exact⟨by decide,by decide,by decide⟩
     · rename_i h1 h2 h3
       exact⟨fun d hd=>by rw[List.mem_singleton.1 hd];exact⟨h1,h2⟩,by simp,by simp⟩
theorem As4 (s:Bs):∀d∈Abf s,d.toNat≠32∧d.toNat≠10:=by
 intro d hd;obtain⟨c,_,hc⟩:=List.mem_flatMap.1 hd;exact(As3 c).1 d hc
theorem Aeu (s:Bs):s.length≤(Abf s).length∧(Abf s).length≤2 * s.length:=by
 induction s with
 | nil=>exact⟨Nat.le_refl _,Nat.le_refl _⟩
 | cons c s ih =>
   have:=As3 c;rw[AnZ,List.length_append,List.length_cons];omega
theorem Axl {a:Bs} (h:∀d∈a,d.toNat≠32∧d.toNat≠10):32∉a∧10∉a:=⟨fun e=>(h _ e).1 rfl,fun e=>(h _ e).2 rfl⟩
theorem argOk_iff {a:Bs}:AbZ a↔a.length≠0∧∀d∈a,d.toNat≠32∧d.toNat≠10:=by
 constructor
 · rintro ⟨h1,h2,h3⟩
   refine⟨fun e=>h1 (List.eq_nil_of_length_eq_zero e),fun d hd=>⟨fun e=>h2 ?_,fun e=>h3 ?_⟩⟩
   · have:d=32:=u8eq.2 e
     exact this▸hd
   · have:d=10:=u8eq.2 e
     exact this▸hd
 · rintro⟨h1,h2⟩
   exact⟨fun e=>h1 (by simp[e]),Axl h2⟩
theorem At5 {s:Bs} (h:s≠[]):AbZ (Abf s):=by
 rw[argOk_iff];refine⟨?_,As4 s⟩;have:=(Aeu s).1;have:=List.length_pos_iff.2 h;omega
theorem drop_cons' {s:Bs} {i:Nat} (h:i<s.length):s.drop i=s.getD i 0::s.drop (i+1):=by
 rw[List.drop_eq_getElem_cons h];simp[h]
theorem AlD {s:Bs} {i:Nat} (h:s.length≤i):AaB (s.drop i)=some []:=by rw[List.drop_of_length_le h];rfl
def Acm (s:Bs):Prop:=(∀c∈s,32<c.toNat∧c.toNat≤126∧c.toNat≠92)∧1≤s.length∧s.length≤12
instance (s:Bs):Decidable (Acm s):=inferInstanceAs (Decidable (_∧_∧_))
theorem Aj3 {s:Bs} (h:Acm s):AbZ s:=argOk_iff.2 ⟨by have:=h.2.1;omega,fun d hd=>by have:=h.1 d hd;omega⟩
theorem AwI {s:Bs} (h:s.length=40) (k:∀c∈s,c∈hexD):AbZ s:=argOk_iff.2 ⟨by omega,fun d hd=>by
 have:=k d hd
 revert this;revert d;intro d _ hm
 have key:∀d∈hexD,d.toNat≠32∧d.toNat≠10:=by decide
 exact key d hm⟩
def Afk (d:UInt8) (s:Bs):Bs×Bs×Bool:=match s.findIdx? (· == d) with
 | none=>(s,[],false)
 | some i=>(s.take i,s.drop (i+1),true)
theorem Ami (d:UInt8) (s:Bs):(d∉s∧Afk d s=(s,[],false))∨∃x r,s=x++d::r∧d∉x∧Afk d s=(x,r,true):=by
 unfold Afk
 cases h:s.findIdx? (· == d) with
 | none =>
   rw[List.findIdx?_eq_none_iff] at h;exact .inl ⟨fun e=>by simpa using h d e,rfl⟩
 | some i =>
   obtain⟨h1,h2,h3⟩:=List.findIdx?_eq_some_iff_getElem.1 h;refine .inr ⟨s.take i,s.drop (i+1),?_,?_,rfl⟩
   · have:s[i]=d:=by simpa using h2
     rw[←this,List.getElem_cons_drop,List.take_append_drop]
   · intro hm
     obtain⟨j,hj,e⟩:=List.getElem_of_mem hm;rw[List.length_take] at hj;rw[List.getElem_take] at e;have:=h3 j (by omega);simp[e] at this
section
set_option maxRecDepth 100000
theorem Aju (n:Int):SpF Tryz.prog 206 [vI n] (vB (decide (0≤n∧n≤1073741824))):=by
 refine Sp.body (n:=9) Tryz.call206 Tryz.func206 rfl rfl rfl ?_;refine Qc (k:=Vv (k:=Wq (Qc (k:=Qv (k:=Vv (k:=Gi 2 (t:=fun h5=>?_) (f:=fun h5=>?_)))))))
 ·
  refine J1 (k:=J1 (k:=P1 (k:=Vv (k:=Wq (Zt (k:=?_))))));refine Aa2 () (vs:=[_]) rfl (.tmp rfl .nil) ?_ trivial Aad;simp[Ajj];omega
 ·
  refine O0 (k:=O0 (k:=P0 (k:=Vv (k:=Wq (Zt (k:=?_))))));refine Aa2 () (vs:=[_]) rfl (.tmp rfl .nil) ?_ trivial Aad;simp[Ajj];omega
theorem Apc (m:Nat):IntKind.u8.wrap (48+(m:Int) % 10)=((dgt m).toNat:Int):=by
 rw[Aeb,IntWalk.u8_in _ (by omega)];omega
theorem AgH (n:Nat) (h:n≤1073741824):SpF Tryz.prog 159 [vI n] (vS (AaX n)):=by
 refine Sp.body (n:=28) Tryz.call159 Tryz.func159 rfl rfl rfl ?_;refine Qc (k:=Vv (k:=Wq (Za (k:=Qc (k:=Vv (k:=?_))))));refine Aag (Aju n) rfl rfl rfl ?_;refine Vv (k:=Wq (Zi (t:=fun h6=>?_) (f:=fun h6=>?_)))
 ·
  exfalso;exact h6 ⟨by omega,by omega⟩
  --done
 ·
  refine Zk (k:=Ya (Qc (k:=Qv (k:=Vv (k:=?_)))));refine Aa6 (AcH rfl Tryz.underlying3 Tryz.underlying5) rfl ?_;refine Zv [_] (cs:=[_]) (k:=fun b11=>?_);refine Aji (l:=[dgt n]) Tryz.underlying56 Tryz.underlying9 Tryz.underlying5 rfl (by simp[vUs,Apc]) (by simp) rfl ?_;refine Vv (k:=Wq (Za (k:=Qc (k:=Qv (k:=Vv (k:=Wq (Zb (k:=?_))))))));refine Aak (fun (i:{ p:Nat×List UInt8 // AmO p.1++p.2=AaX n∧p.1≤n })=>[(0,vI i.1.1),(3,vS i.1.2)]) (fun (i:{ p:Nat×List UInt8 // AmO p.1++p.2=AaX n∧p.1≤n })=>[]) (fun (i:{ p:Nat×List UInt8 // AmO p.1++p.2=AaX n∧p.1≤n })=>i.1.1) rfl (⟨(n / 10,[dgt n]),(AiP n).symm,by dsimp only;omega⟩) ?_ ?_ (fun i=>?_)
  · exact⟨rfl,rfl,trivial⟩
  ·
   exact Aa0
  obtain⟨⟨m,out⟩,hi,hm⟩:=i;have hlen:=Amg n;rw[←hi,List.length_append] at hlen;dsimp only at hi hm hlen;try dsimp only
  refine Za (k:=Qc (k:=Qv (k:=Wq (Zi (t:=fun h16=>?_) (f:=fun h16=>?_)))))
  ·
   refine Zk (k:=Ya (Za (k:=Zb (k:=Zr (k:=Qv (k:=Vv (k:=?_)))))));refine Aa6 (AcH rfl Tryz.underlying3 Tryz.underlying5) rfl ?_;refine Zv [_] (cs:=[_]) (k:=fun b23=>?_);refine Aji (l:=[dgt m]) Tryz.underlying56 Tryz.underlying9 Tryz.underlying5 rfl (by simp[vUs,Apc]) (by simp) rfl ?_;refine Qv (k:=Vv (k:=Wn (Yb (Ya (Zr (k:=Qv (k:=Vv (k:=Wn ?_))))))));refine Aa5 ⟨(m / 10,dgt m::out),?_,?_⟩ ?_ ⟨rfl,rfl,trivial⟩ Aad
   · rw[←hi,AtU (n:=m) (by omega)];simp
   · dsimp only;omega
   · dsimp only;omega
  ·
   refine Ze (k:=Xa (Xi (Xb (Ya (Qc (k:=Qv (k:=Wq (Zt (k:=?_)))))))));have hm0:m=0:=by omega
   subst hm0;refine Aa2 () (vs:=[_]) rfl (.tmp rfl .nil) ?_ trivial Aad;rw[←hi];simp[Ajj,AmO]
end
section
set_option maxRecDepth 100000
theorem AmX (n:Nat):SpF Tryz.prog 159 [vI n] (vS (AoV n)):=by
 by_cases h:n≤1073741824
 · rw[AoV,if_pos h];exact AgH n h
 · rw [AoV,if_neg h]
   refine Sp.body (n:=28) Tryz.call159 Tryz.func159 rfl rfl rfl ?_;refine Qc (k:=Vv (k:=Wq (Za (k:=Qc (k:=Vv (k:=?_))))));refine Aag (Aju n) rfl rfl rfl ?_;refine Vv (k:=Wq (Zi (t:=fun h6=>?_) (f:=fun h6=>?_)))
   ·
    refine Qc (k:=Vv (k:=Wq (Zt (k:=Va ?_))));exact Aa2 () (vs:=[_]) rfl (.tmp rfl .nil) rfl trivial Aad
   ·
    exfalso;exact h6 (by omega)
    --done
theorem AjN {G:Prop} (h:G:=by
    have hd:=As5 (s:=s) (i:=j) (by omega) n;rw[hi,if_pos (by omega)] at hd;refine Aa2 () (vs:=[_,_]) rfl (.tmp rfl (.tmp rfl .nil)) ?_ trivial Aad;simp[AbM,hd,Ajj]):G:=h
theorem Aly {G:Prop} (h:G:=by
    have hjs:j=s.length:=by omega
    subst hjs;rw[List.drop_length,dn] at hi;have hc:s=[]∨¬AoV n=s:=by first | exact .inl ‹s=[]› | exact .inr ‹_›
    refine Aa2 () (vs:=[_,_]) rfl (.tmp rfl (.tmp rfl .nil)) ?_ trivial Aad;simp only[AbM,←hi,if_pos hc];rfl):G:=h
theorem Agb (s:List UInt8) (hs:s.length≤140737488355328):SpF Tryz.prog 109 [vS s] (.tuple #[vI ((AbM s).getD 0:Nat),vB (AbM s).isSome]):=by
 refine Sp.body (n:=43) Tryz.call109 Tryz.func109 rfl rfl rfl ?_;refine Qc (k:=Qv (k:=Wq (Qc (k:=Vv (k:=Wq (Za (k:=Qc (k:=?_))))))));refine Qv (k:=Vv (k:=Wq (Zb (k:=?_))));refine Aak (fun (i:{ p:Nat×Nat // dn (s.drop p.1) p.2=dn s 0∧p.1≤s.length∧p.2≤10737418249 })=>[(0,vS s),(7,vI s.length),(8,vI i.1.1),(4,vI i.1.2)]) (fun (i:{ p:Nat×Nat // dn (s.drop p.1) p.2=dn s 0∧p.1≤s.length∧p.2≤10737418249 })=>[]) (fun (i:{ p:Nat×Nat // dn (s.drop p.1) p.2=dn s 0∧p.1≤s.length∧p.2≤10737418249 })=>s.length-i.1.1) rfl (⟨(0,0),rfl,Nat.zero_le _,by omega⟩) ?_ ?_ (fun i=>?_)
 · exact⟨rfl,rfl,rfl,rfl,trivial⟩
 ·
  exact Aa0
 obtain⟨⟨j,n⟩,hi,hj,hn⟩:=i;dsimp only at hi hj hn;try dsimp only
 refine Qc (k:=Vv (k:=Wq (Za (k:=Zi (t:=fun h9=>?_) (f:=fun h9=>?_)))))
 ·
  refine Zk (k:=Ya (Za (k:=Zb (k:=Qc (k:=Qv (k:=Wq (Za (k:=Qc (k:=?_)))))))));refine Qv (k:=Qv (k:=Vv (k:=Gi 4 (t:=fun h15=>?_) (f:=fun h15=>?_))))
  ·
   refine O1 (k:=O1 (k:=O1 (k:=O1 (k:=P1 (k:=Vv (k:=O1 (k:=O1 (k:=P1 (k:=Wq (Z1 (k:=Za (k:=?_))))))))))));refine Zr (k:=Qv (k:=Wq (Zt (k:=Va (Vb (Va (Vi (Vb (Va ?_)))))))));exact AjN
  ·
   refine J0 (k:=J0 (k:=J0 (k:=J0 (k:=P0 (k:=Vv (k:=Gi 10 (t:=fun h21=>?_) (f:=fun h21=>?_)))))))
   ·
    refine O1 (k:=O1 (k:=P1 (k:=Wq (Z1 (k:=Qc (k:=Qv (k:=Wq (Zt (k:=Va ?_)))))))));refine Vb (Va (Vi (Vb (Va ?_))));exact AjN
   ·
    refine J0 (k:=J0 (k:=P0 (k:=Wq (Zi (t:=fun h24=>?_) (f:=fun h24=>?_)))))
    ·
     refine Qc (k:=Qv (k:=Wq (Zt (k:=Va (Vb (Va (Vi (Vb (Va ?_)))))))));exact AjN
    ·
     refine Zk (k:=Ya (Zr (k:=Qv (k:=Qv (k:=Vv (k:=?_))))));refine Aa6 (by first | exact ArO rfl rfl (by omega) | exact AeN rfl rfl) rfl ?_;refine Aa6 (Agx rfl Tryz.underlying5 Tryz.underlying3 (by first | exact Anw _ | exact wrap_u8 _ | exact i64_in' (by omega))) rfl ?_;refine Qv (k:=Wn (Yb (Ya (Zr (k:=Qv (k:=Wn ?_))))));have hd:=As5 (s:=s) (i:=j) (by omega) n;rw[hi,if_neg (by omega)] at hd;refine Aa5 ⟨(j+1,10 * n+((s.getD j 0).toNat-48)),hd.symm,?_,?_⟩ ?_ ⟨rfl,rfl,rfl,?_,trivial⟩ Aad
     · dsimp only;omega
     · dsimp only;omega
     · dsimp only;omega
     · have e:(((10 * n+((s.getD j 0).toNat-48):Nat)):Int)=10 * (n:Int)+(((s.getD j 0).toNat:Int)-48):=by omega
       dsimp only;rw[e];rfl
 ·
  refine Ze (k:=Xa (Xi (Xb (Ya (Za (k:=Qc (k:=Qv (k:=Vv (k:=Gi 2 (t:=fun h36=>?_) (f:=fun h36=>?_))))))))))
  ·
   refine O1 (k:=O1 (k:=O1 (k:=O1 (k:=P1 (k:=Wq (Z1 (k:=Qc (k:=Qv (k:=Wq ?_)))))))));refine Zt (k:=Va ?_);exact Aly
  ·
   refine J0 (k:=I0 (k:=?_));refine Aag (AmX n) rfl rfl rfl ?_;refine J0 (k:=J0 (k:=P0 (k:=Wq (Zi (t:=fun h41=>?_) (f:=fun h41=>?_)))))
   ·
    refine Qc (k:=Qv (k:=Wq (Zt (k:=Va ?_))));exact Aly
   ·
    refine Zk (k:=Ya (Qc (k:=Qv (k:=Vv (k:=Wq (Zt (k:=?_)))))));have hjs:j=s.length:=by omega
    subst hjs;rw[List.drop_length,dn] at hi;refine Aa2 () (vs:=[_,_]) rfl (.tmp rfl (.tmp rfl .nil)) ?_ trivial Aad;simp_all [AbM,Ajj,←hi]
end
section
set_option maxRecDepth 100000
def IsB (p:Nat) (l:List UInt8):HP:=Ex fun q1:Value=>Ex fun q2:Value=>Al [Pu ((q1=.pointer none∨q1=.pointer (some ⟨p,0,none⟩))∧(l.length=0→q2=.slice none 0 0)),Ce p 225 [q1,q2],Row 5 1 q2 l.length (vUs l)]
theorem Aim (p:Nat) (v:Value):Sp1 Tryz.prog 204 [.pointer (some ⟨p,0,none⟩)] [Ce p 225 [.pointer none,v]] (.tuple #[]) [Ce p 225 [.pointer (some ⟨p,0,none⟩),v]]:=by
 refine Sp.body (n:=20) Tryz.call204 Tryz.func204 rfl rfl rfl ?_;refine Qc (k:=Qv (k:=Qx 0 223 (k:=?_)));refine Aa6 (Aky Tryz.underlying223 rfl rfl) rfl ?_;refine Wq (Zi (t:=fun h6=>?_) (f:=fun h6=>?_))
 ·
  refine Zr (k:=Qv (k:=?_));refine AqT Tryz.underlying223 Tryz.underlying280 ArK rfl rfl .here rfl rfl ?_;refine Aa6 (Asv Tryz.func228 (by kernel_rfl) (by kernel_rfl) (by kernel_rfl) (e:=Extern.AbiNoEscape.same) (by kernel_rfl) rfl (fun w=>rfl)) rfl ?_;refine Aoy Tryz.underlying280 Tryz.underlying223 ArK rfl (by kernel_rfl) rfl .here rfl ?_;refine Vv (k:=Vf 0 223 (k:=Zo (k:=Wn ?_)));refine Acr () (vs:=[]) (Cs:=[]) rfl .nil rfl trivial ?_;exact Aa0
 ·
  simp at h6
  --done
theorem Ail (p:Nat) (v:Value):Sp1 Tryz.prog 204 [.pointer (some ⟨p,0,none⟩)] [Ce p 225 [.pointer (some ⟨p,0,none⟩),v]] (.tuple #[]) [Ce p 225 [.pointer (some ⟨p,0,none⟩),v]]:=by
 refine Sp.body (n:=20) Tryz.call204 Tryz.func204 rfl rfl rfl ?_;refine Qc (k:=Qv (k:=Qx 0 223 (k:=?_)));refine Aa6 (Aky Tryz.underlying223 rfl rfl) rfl ?_;refine Wq (Zi (t:=fun h6=>?_) (f:=fun h6=>?_))
 ·
  simp at h6
  --done
 ·
  refine Qc (k:=Qv (k:=Qx 0 223 (k:=Vv (k:=?_))));refine Aa6 (AoC Tryz.underlying223 ArK rfl rfl) rfl ?_;refine Wq (Zi (t:=fun h19=>?_) (f:=fun h19=>?_))
  ·
   cases h19
   --done
  ·
   refine Zk (k:=?_);refine Acr () (vs:=[]) (Cs:=[]) rfl .nil rfl trivial ?_;exact Aa0
theorem Ajv (p:Nat) (q v:Value) (hq:q=.pointer none∨q=.pointer (some ⟨p,0,none⟩)):Sp1 Tryz.prog 204 [.pointer (some ⟨p,0,none⟩)] [Ce p 225 [q,v]] (.tuple #[]) [Ce p 225 [.pointer (some ⟨p,0,none⟩),v]]:=by
 rcases hq with rfl | rfl
 · exact Aim p v
 · exact Ail p v
theorem AcB (p:Nat) (l s:List UInt8) (h:l.length+s.length≤140737488355328):Sp1 Tryz.prog 202 [.pointer (some ⟨p,0,none⟩),vS s] [IsB p l] (.tuple #[vI s.length,.nilIface]) [IsB p (l++s)]:=by
 refine Sp.body (n:=19) Tryz.call202 Tryz.func202 rfl rfl rfl ?_;refine AcE fun q1=>AcE fun q2=>AdW (AfR fun hq=>?_);refine Qc (k:=Qv (k:=Wq (Qc (k:=Vv (k:=?_)))));refine Aaa (Ajv p q1 q2 hq.1) rfl rfl rfl ?_;refine Wq (Qc (k:=Qv (k:=Vv (k:=Qx 1 56 (k:=Vv (k:=?_))))));refine AcW (by intro c;simp) (AkA Tryz.underlying56 Tryz.underlying9 ti5 rfl rfl rfl rfl rfl h (xs:=vUs l)) rfl (fun x14 hx14=>?_);obtain⟨⟨a14,c14,rfl⟩,hx14⟩:=hx14;refine Vv (k:=Vf 1 56 (k:=?_));refine Agw Atr rfl rfl rfl rfl (by simp) ?_;refine Wq (Qc (k:=Qv (k:=Qv (k:=Wq (Zt (k:=?_))))));refine Aa2 () (vs:=[_,_]) (Cs:=[]) rfl (.tmp rfl (.tmp rfl .nil)) rfl trivial ?_;refine AbV (.pointer (some ⟨p,0,none⟩)) ?_;refine AbV (.slice a14 (l.length+s.length) c14) ?_;refine Acl ?_;have e1:(l++s).length=l.length+s.length:=List.length_append;have e2:vUs (l++s)=vUs l++vUs s:=by simp[vUs]
 rw[e1,e2];refine Adl ⟨.inr rfl,fun e=>hx14 e (hq.2 (by omega))⟩ Aa0
theorem Ary (p:Nat) (q1:Value):wc none Tryz.prog 14 (AoW Tryz.f157) (Aq6 0 [.pointer (some ⟨p,0,none⟩)]) [Ce p 225 [q1,.slice none 0 0]] (AsR Tryz.prog Tryz.f157 (fun _:Unit=>vS []) (fun _=>True) (fun _=>[])):=by
 refine Qc (k:=Vv (k:=Wq (Za (k:=Dw [Ce p 225 [q1,.slice none 0 0]] (k:=?_)))));refine Dv 0 (k:=Dv 1 (k:=Di 2 (t:=Uf 1 56) (k:=Di 3 (t:=Ul) (k:=?_))));refine Aa1 4 rfl rfl rfl (by kernel_rfl) (by kernel_rfl) (Aat (AqW rfl)) ?_;refine Dv 5 (k:=Dv 6 (k:=Di 7 (t:=Uf 1 56) (k:=Di 8 (t:=Ul) (k:=Dv 9 (k:=?_)))));refine Aa1 10 rfl rfl rfl (by kernel_rfl) (by kernel_rfl) (Aat (AqX rfl rfl)) ?_;refine Dv 11 (k:=Dd (k:=Ya (Zt (k:=?_))));exact Aa2 () (vs:=[_]) (Cs:=[]) rfl (.tmp rfl .nil) rfl trivial Aad
theorem Arx (p:Nat) (q1:Value) (g cap:Nat) (cur:List Value) (l:List UInt8) (h0:l≠[]) (hc:l.length≤cap) (hcur:cur.take l.length=vUs l) (h:l.length≤140737488355328) :
    wc none Tryz.prog 14 (AoW Tryz.f157) (Aq6 0 [.pointer (some ⟨p,0,none⟩)]) [Ce g 5 cur,Ce p 225 [q1,.slice (some ⟨g,0,none⟩) l.length cap]] (AsR Tryz.prog Tryz.f157 (fun _:Unit=>vS l) (fun _=>True) (fun _=>[])):=by
 have hl0:l.length≠0:=by simpa using h0
 refine Qc (k:=Vv (k:=Wq (Za (k:=Dw [Ce p 225 [q1,.slice (some ⟨g,0,none⟩) l.length cap]] (k:=?_)))));refine Dv 0 (k:=Dv 1 (k:=Di 2 (t:=Uf 1 56) (k:=Di 3 (t:=Ul) (k:=?_))));refine Aa1 4 rfl rfl rfl (by kernel_rfl) (by kernel_rfl) (Aat (AqV rfl (by omega))) ?_;refine Dv 5 (k:=Dv 6 (k:=Di 7 (t:=Uf 1 56) (k:=Di 8 (t:=Ul) (k:=Dv 9 (k:=Dn 10 (k:=?_))))));refine AbR (Ar3 Tryz.underlying263 (by kernel_rfl) rfl rfl h0 (by omega) hcur) rfl (fun _ _=>?_);refine Dv 11 (k:=Dd (k:=Ya (Zt (k:=?_))));exact Aa2 () (vs:=[_]) (Cs:=[]) rfl (.tmp rfl .nil) rfl trivial Aad
theorem Ai4 (p:Nat) (l:List UInt8) (h:l.length≤140737488355328):Sp1 Tryz.prog 157 [.pointer (some ⟨p,0,none⟩)] [IsB p l] (vS l) []:=by
 refine Sp.body (n:=14) Tryz.call157 Tryz.func157 rfl rfl rfl ?_;refine AcE fun q1=>AcE fun q2=>AdW (AfR fun hq=>?_);refine AdM (Row 5 1 q2 l.length (vUs l)) (Awc (fun e1 e2 e3=>?_) (fun g cap cur e1 e2 e3 e4 e5 e6=>?_))
 · subst e1
   have e4:l=[]:=List.eq_nil_of_length_eq_zero e2;subst e4;exact Ary p q1
 · subst e1
   have h0:l≠[]:=fun x=>by have:=hq.2 (by rw[x];rfl);cases this
   exact Arx p q1 g cap cur l h0 e2 (by simpa using e6) h
end
section
set_option maxRecDepth 100000
section
variable {r:Option Nat} {P:Program} {n:Nat} {ops:Array Oper} {os:List Oper} {A:List HP} {L:Loc} {Hs:List HP} {Q:Out} {c:Code}
end
theorem Aa4 {α:Type} {f:α→Value} {l:List α} {m:Nat} (d:α) (h:m<l.length):(l.map f)[m]?=some (f (l.getD m d)):=by simp[h]
end
section
set_option maxRecDepth 100000
theorem Ahm (l : List UInt8) (c:UInt8):Lib.indexByte l c=(match l.findIdx? (· == c) with | none=>-1 | some i=>(i:Int)):=by
 induction l with
 | nil=>rfl
 | cons b l ih =>
   simp only[Lib.indexByte,List.findIdx?_cons,ih];by_cases h:b == c
   · simp[h]
   · simp only [h]
     cases l.findIdx? (· == c) with
     | none=>rfl
     | some i => have h1:¬((i:Int) = -1):=by omega
                 simp[h1]
end
section
set_option maxRecDepth 100000
theorem Ak8 {p T:Nat} {v0 v1:Value} {Hs Rs:List HP} [q:AhJ p T [v0,v1] Hs Rs] (hT:T=225) (h0:v0=.pointer none) (h1:v1=.slice none 0 0):Ent Hs (IsB p []::Rs):=by
 subst hT;subst h0;subst h1;refine AbV (.pointer none) ?_;refine AbV (.slice none 0 0) ?_;refine Acl (Adl ⟨.inl rfl,fun _=>rfl⟩ ?_);exact Aac (Af2 q.get) AaS
end
section
set_option maxRecDepth 100000
theorem AeE (x:UInt32) (k:Nat) (hk:k=1∨k=5∨k=30):SpF Tryz.prog 236 [vW x,vI k] (vW (AtE x k)):=by
 rcases hk with rfl | rfl | rfl
 · skip
   refine Sp.body (n:=17) Tryz.call236 Tryz.func236 rfl rfl rfl ?_;refine Qc (k:=Vv (k:=Wq (Qc (k:=Vv (k:=?_)))));refine Aa6 (AcH rfl Tryz.underlying3 Tryz.underlying97) rfl ?_;refine Aa6 (AlS rfl rfl) rfl ?_;refine Vv (k:=Wq (Qc (k:=Qv (k:=?_))));refine Aa6 (Adt (m:=1) rfl rfl (by decide) (by omega)) rfl ?_;refine Qv (k:=?_);refine Aa6 (AeN rfl rfl) rfl ?_;refine Aa6 (Afz (m:=31) rfl rfl (by decide) (by omega)) rfl ?_;refine Aa6 (AcP rfl rfl) rfl ?_;refine Vv (k:=Wq (Zt (k:=?_)));exact Aa2 () (vs:=[_]) (Cs:=[]) rfl (.tmp rfl .nil) rfl trivial Aad
 · skip
   refine Sp.body (n:=17) Tryz.call236 Tryz.func236 rfl rfl rfl ?_;refine Qc (k:=Vv (k:=Wq (Qc (k:=Vv (k:=?_)))));refine Aa6 (AcH rfl Tryz.underlying3 Tryz.underlying97) rfl ?_;refine Aa6 (AlS rfl rfl) rfl ?_;refine Vv (k:=Wq (Qc (k:=Qv (k:=?_))));refine Aa6 (Adt (m:=5) rfl rfl (by decide) (by omega)) rfl ?_;refine Qv (k:=?_);refine Aa6 (AeN rfl rfl) rfl ?_;refine Aa6 (Afz (m:=27) rfl rfl (by decide) (by omega)) rfl ?_;refine Aa6 (AcP rfl rfl) rfl ?_;refine Vv (k:=Wq (Zt (k:=?_)));exact Aa2 () (vs:=[_]) (Cs:=[]) rfl (.tmp rfl .nil) rfl trivial Aad
 · skip
   refine Sp.body (n:=17) Tryz.call236 Tryz.func236 rfl rfl rfl ?_;refine Qc (k:=Vv (k:=Wq (Qc (k:=Vv (k:=?_)))));refine Aa6 (AcH rfl Tryz.underlying3 Tryz.underlying97) rfl ?_;refine Aa6 (AlS rfl rfl) rfl ?_;refine Vv (k:=Wq (Qc (k:=Qv (k:=?_))));refine Aa6 (Adt (m:=30) rfl rfl (by decide) (by omega)) rfl ?_;refine Qv (k:=?_);refine Aa6 (AeN rfl rfl) rfl ?_;refine Aa6 (Afz (m:=2) rfl rfl (by decide) (by omega)) rfl ?_;refine Aa6 (AcP rfl rfl) rfl ?_;refine Vv (k:=Wq (Zt (k:=?_)));exact Aa2 () (vs:=[_]) (Cs:=[]) rfl (.tmp rfl .nil) rfl trivial Aad
theorem AmU (i:Nat) (b c d:UInt32) (hi:i<80):SpF Tryz.prog 235 [vI i,vW b,vW c,vW d] (.tuple #[vW (Aq4 i b c d).1,vW (Aq4 i b c d).2]):=by
 have hm:Aq4 i b c d=if i / 20=0 then ((b &&& c) ||| (~~~b &&& d),0x5a827999) else if i / 20=1 then (b ^^^ c ^^^ d,0x6ed9eba1) else if i / 20=2 then ((b &&& c) ||| (b &&& d) ||| (c &&& d),0x8f1bbcdc) else (b ^^^ c ^^^ d,0xca62c1d6):=rfl
 refine Sp.body (n:=47) Tryz.call235 Tryz.func235 rfl rfl rfl ?_;refine Qc (k:=Qv (k:=Wq (Za (k:=Qc (k:=Qv (k:=Wq (Zb (k:=?_))))))));refine Qc (k:=Qv (k:=Wq (Zi (t:=fun h12=>?_) (f:=fun h12=>?_))))
 ·
  refine Qc (k:=Qv (k:=?_));refine Aa6 (Adu rfl rfl) rfl ?_;refine Vv (k:=?_);refine Aa6 (ArP rfl) rfl ?_;refine Vv (k:=?_);refine Aa6 (Adu rfl rfl) rfl ?_;refine Aa6 (AcP rfl rfl) rfl ?_;refine Qv (k:=Wq (Zt (k:=Vb (Va ?_))));rw[if_pos (by omega)] at hm;rw[hm];exact Aa2 () (vs:=[_,_]) (Cs:=[]) rfl (.tmp rfl (.tmp rfl .nil)) rfl trivial Aad
 ·
  refine Qc (k:=Qv (k:=Wq (Zi (t:=fun h22=>?_) (f:=fun h22=>?_))))
  ·
   refine Qc (k:=Qv (k:=?_));refine Aa6 (AcQ rfl rfl) rfl ?_;refine Vv (k:=?_);refine Aa6 (AcQ rfl rfl) rfl ?_;refine Qv (k:=Wq (Zt (k:=Vb (Va ?_))));rw[if_neg (by omega),if_pos (by omega)] at hm;rw[hm];exact Aa2 () (vs:=[_,_]) (Cs:=[]) rfl (.tmp rfl (.tmp rfl .nil)) rfl trivial Aad
  ·
   refine Qc (k:=Qv (k:=Wq (Zi (t:=fun h29=>?_) (f:=fun h29=>?_))))
   ·
    refine Qc (k:=Qv (k:=?_));refine Aa6 (Adu rfl rfl) rfl ?_;refine Qv (k:=?_);refine Aa6 (Adu rfl rfl) rfl ?_;refine Aa6 (AcP rfl rfl) rfl ?_;refine Qv (k:=?_);refine Aa6 (Adu rfl rfl) rfl ?_;refine Aa6 (AcP rfl rfl) rfl ?_;refine Qv (k:=Wq (Zt (k:=Vb (Va ?_))));rw[if_neg (by omega),if_neg (by omega),if_pos (by omega)] at hm;rw[hm];exact Aa2 () (vs:=[_,_]) (Cs:=[]) rfl (.tmp rfl (.tmp rfl .nil)) rfl trivial Aad
   ·
    refine Zk (k:=Yb (Ya (Qc (k:=Qv (k:=?_)))));refine Aa6 (AcQ rfl rfl) rfl ?_;refine Vv (k:=?_);refine Aa6 (AcQ rfl rfl) rfl ?_;refine Qv (k:=Wq (Zt (k:=?_)));rw[if_neg (by omega),if_neg (by omega),if_neg (by omega)] at hm;rw[hm];exact Aa2 () (vs:=[_,_]) (Cs:=[]) rfl (.tmp rfl (.tmp rfl .nil)) rfl trivial Aad
theorem Acp {l:List UInt32} {m:Nat} (h:m<l.length):(l.map vW)[m]?=some (vW (l.getD m 0)):=by simp[h]
theorem Aoo {b:Bs} {j:Nat} (hj:j<80) (x:UInt32) (hx:x=if j<16 then AvS b j else ArY (Ab7 b j) j):(Ab7 b j++List.replicate (80-j) 0).set j x=Ab7 b (j+1)++List.replicate (80-(j+1)) 0:=by
 have e:List.replicate (80-j) (0:UInt32)=0::List.replicate (80-(j+1)) 0:=by
  rw[←List.replicate_succ];congr 1;omega
 rw[e,List.set_append_right _ _ (by rw[AbX];omega),AbX,Nat.sub_self,List.set_cons_zero,Ab7,hx]
 simp
theorem Ah7 {b:Bs} {j m:Nat} (h:m<j) (hj:j≤80):(Ab7 b j++List.replicate (80-j) (0:UInt32)).getD m 0=(Ab7 b j).getD m 0:=by
 have:=AbX b j;simp[List.getD_eq_getElem?_getD,List.getElem?_append_left,this,h]
theorem Afv {l:Bs} {m:Nat} (h:m<l.length):(vUs l)[m]?=some (vU (l.getD m 0).toNat):=by simp[vUs,h]
theorem Am8 {B:HP} {a:Option Addr} (c:Nat) (b:Bs) (hb:b.length=64) (sh:SlA B a (vUs b)):Sp1 Tryz.prog 234 [.slice a 64 c] [B] (.agg ((Ab7 b 80).map vW).toArray) [B]:=by
 haveI:Abu a (vUs b) [B]:=⟨⟨B,sh,.here⟩⟩
 have hvl:(vUs b).length=64:=by simp[vUs,hb]
 refine Sp.body (n:=72) Tryz.call234 Tryz.func234 rfl rfl rfl ?_
 refine Qc (k:=Zc [.int .u32 0,.int .u32 0,.int .u32 0,.int .u32 0,.int .u32 0,.int .u32 0,.int .u32 0,.int .u32 0,.int .u32 0,.int .u32 0,.int .u32 0,.int .u32 0,.int .u32 0,.int .u32 0,.int .u32 0,.int .u32 0,.int .u32 0,.int .u32 0,.int .u32 0,.int .u32 0,.int .u32 0,.int .u32 0,.int .u32 0,.int .u32 0,.int .u32 0,.int .u32 0,.int .u32 0,.int .u32 0,.int .u32 0,.int .u32 0,.int .u32 0,.int .u32 0,.int .u32 0,.int .u32 0,.int .u32 0,.int .u32 0,.int .u32 0,.int .u32 0,.int .u32 0,.int .u32 0,.int .u32 0,.int .u32 0,.int .u32 0,.int .u32 0,.int .u32 0,.int .u32 0,.int .u32 0,.int .u32 0,.int .u32 0,.int .u32 0,.int .u32 0,.int .u32 0,.int .u32 0,.int .u32 0,.int .u32 0,.int .u32 0,.int .u32 0,.int .u32 0,.int .u32 0,.int .u32 0,.int .u32 0,.int .u32 0,.int .u32 0,.int .u32 0,.int .u32 0,.int .u32 0,.int .u32 0,.int .u32 0,.int .u32 0,.int .u32 0,.int .u32 0,.int .u32 0,.int .u32 0,.int .u32 0,.int .u32 0,.int .u32 0,.int .u32 0,.int .u32 0,.int .u32 0,.int .u32 0] (k:=fun b2=>Wq (Qc (k:=Zc [.int .u32 0,.int .u32 0,.int .u32 0,.int .u32 0,.int .u32 0,.int .u32 0,.int .u32 0,.int .u32 0,.int .u32 0,.int .u32 0,.int .u32 0,.int .u32 0,.int .u32 0,.int .u32 0,.int .u32 0,.int .u32 0,.int .u32 0,.int .u32 0,.int .u32 0,.int .u32 0,.int .u32 0,.int .u32 0,.int .u32 0,.int .u32 0,.int .u32 0,.int .u32 0,.int .u32 0,.int .u32 0,.int .u32 0,.int .u32 0,.int .u32 0,.int .u32 0,.int .u32 0,.int .u32 0,.int .u32 0,.int .u32 0,.int .u32 0,.int .u32 0,.int .u32 0,.int .u32 0,.int .u32 0,.int .u32 0,.int .u32 0,.int .u32 0,.int .u32 0,.int .u32 0,.int .u32 0,.int .u32 0,.int .u32 0,.int .u32 0,.int .u32 0,.int .u32 0,.int .u32 0,.int .u32 0,.int .u32 0,.int .u32 0,.int .u32 0,.int .u32 0,.int .u32 0,.int .u32 0,.int .u32 0,.int .u32 0,.int .u32 0,.int .u32 0,.int .u32 0,.int .u32 0,.int .u32 0,.int .u32 0,.int .u32 0,.int .u32 0,.int .u32 0,.int .u32 0,.int .u32 0,.int .u32 0,.int .u32 0,.int .u32 0,.int .u32 0,.int .u32 0,.int .u32 0,.int .u32 0] (k:=fun b3=>Wq (Za (k:=Qc (k:=Vv (k:=?_)))))))))
 refine Wq (Zb (k:=?_));refine Aak (fun (i:{ j:Nat // j≤16 })=>[(0,.slice a 64 c),(2,.pointer (some ⟨b2,0,none⟩)),(3,.pointer (some ⟨b3,0,none⟩)),(6,vI i.1)]) (fun (i:{ j:Nat // j≤16 })=>[Ce b3 162 ((Ab7 b i.1++List.replicate (80-i.1) 0).map vW),Ce b2 162 ((List.replicate 80 (0:UInt32)).map vW),B]) (fun (i:{ j:Nat // j≤16 })=>16-i.1) rfl (⟨0,Nat.zero_le _⟩) ?_ ?_ (fun i=>?_)
 · exact⟨rfl,rfl,rfl,rfl,trivial⟩
 ·
  exact Aac (AaH (by rfl) (by rfl)) (Aac (AaH (by rfl) (by rfl)) Aa0)
 obtain⟨j,hj⟩:=i;dsimp only;have hsp:=AbX b j;try dsimp only
 refine Qc (k:=Vv (k:=Wq (Za (k:=Zi (t:=fun h7=>?_) (f:=fun h7=>?_)))))
 ·
  refine Zk (k:=Ya (Za (k:=Zb (k:=Qc (k:=Qv (k:=Wq (Dw [B] (k:=?_))))))));refine Dv 0 (k:=Dv 1 (k:=Dv 2 (k:=Dv 3 (k:=?_))));refine Aa1 4 rfl rfl rfl (by kernel_rfl) (by kernel_rfl) (Aae (sz:=1) (m:=4 * j) Tryz.underlying56 ti5 rfl rfl rfl (by omega) (by omega) (by omega) (Nat.mul_one _)) ?_;refine Aa1 5 rfl rfl rfl (by kernel_rfl) (by kernel_rfl) (Aas Tryz.underlying5 rfl rfl (Afv (by omega))) ?_;refine Aa1 6 rfl rfl rfl (by kernel_rfl) (by kernel_rfl) (Aat (Aer rfl Tryz.underlying5 Tryz.underlying94)) ?_;refine Aa1 7 rfl rfl rfl (by kernel_rfl) (by kernel_rfl) (Aat (Adt (m:=24) rfl rfl rfl (by omega))) ?_;refine Dv 8 (k:=Dv 9 (k:=Dv 10 (k:=Dv 11 (k:=?_))));refine Aa1 12 rfl rfl rfl (by kernel_rfl) (by kernel_rfl) (Aae (sz:=1) (m:=4 * j+1) Tryz.underlying56 ti5 rfl rfl rfl (by omega) (by omega) (by omega) (Nat.mul_one _)) ?_;refine Aa1 13 rfl rfl rfl (by kernel_rfl) (by kernel_rfl) (Aas Tryz.underlying5 rfl rfl (Afv (by omega))) ?_;refine Aa1 14 rfl rfl rfl (by kernel_rfl) (by kernel_rfl) (Aat (Aer rfl Tryz.underlying5 Tryz.underlying94)) ?_;refine Aa1 15 rfl rfl rfl (by kernel_rfl) (by kernel_rfl) (Aat (Adt (m:=16) rfl rfl rfl (by omega))) ?_;refine Aa1 16 rfl rfl rfl (by kernel_rfl) (by kernel_rfl) (Aat (AcP rfl rfl)) ?_;refine Dv 17 (k:=Dv 18 (k:=Dv 19 (k:=Dv 20 (k:=?_))));refine Aa1 21 rfl rfl rfl (by kernel_rfl) (by kernel_rfl) (Aae (sz:=1) (m:=4 * j+2) Tryz.underlying56 ti5 rfl rfl rfl (by omega) (by omega) (by omega) (Nat.mul_one _)) ?_
  refine Aa1 22 rfl rfl rfl (by kernel_rfl) (by kernel_rfl) (Aas Tryz.underlying5 rfl rfl (Afv (by omega))) ?_;refine Aa1 23 rfl rfl rfl (by kernel_rfl) (by kernel_rfl) (Aat (Aer rfl Tryz.underlying5 Tryz.underlying94)) ?_;refine Aa1 24 rfl rfl rfl (by kernel_rfl) (by kernel_rfl) (Aat (Adt (m:=8) rfl rfl rfl (by omega))) ?_;refine Aa1 25 rfl rfl rfl (by kernel_rfl) (by kernel_rfl) (Aat (AcP rfl rfl)) ?_;refine Dv 26 (k:=Dv 27 (k:=Dv 28 (k:=Dv 29 (k:=?_))));refine Aa1 30 rfl rfl rfl (by kernel_rfl) (by kernel_rfl) (Aae (sz:=1) (m:=4 * j+3) Tryz.underlying56 ti5 rfl rfl rfl (by omega) (by omega) (by omega) (Nat.mul_one _)) ?_;refine Aa1 31 rfl rfl rfl (by kernel_rfl) (by kernel_rfl) (Aas Tryz.underlying5 rfl rfl (Afv (by omega))) ?_;refine Aa1 32 rfl rfl rfl (by kernel_rfl) (by kernel_rfl) (Aat (Aer rfl Tryz.underlying5 Tryz.underlying94)) ?_;refine Aa1 33 rfl rfl rfl (by kernel_rfl) (by kernel_rfl) (Aat (AcP rfl rfl)) ?_;refine Aa1 34 rfl rfl rfl (by kernel_rfl) (by kernel_rfl) (Aat (Aan Tryz.underlying162 AbE rfl rfl rfl (by first | rfl | omega) (by omega))) ?_;refine Dn 35 (k:=No (k:=Dd (k:=Yb (Ya (Zr (k:=Qv (k:=Wn ?_)))))));refine Aa5 ⟨j+1,by omega⟩ (by dsimp only;omega) ⟨rfl,rfl,rfl,rfl,trivial⟩ ?_;dsimp only;rw[←Aoo (b:=b) (j:=j) (by omega) (AvS b j) (by rw[if_pos (by omega)])];exact Aac (AaH (by rfl) (by rw[List.map_set];rfl)) Aa0
 ·
  refine Ze (k:=Xa (Xi (Xb (Ya (Za (k:=Qc (k:=Vv (k:=Wq (Zb (k:=?_))))))))));refine Aak (fun (i:{ j:Nat // 16≤j∧j≤80 })=>[(2,.pointer (some ⟨b2,0,none⟩)),(3,.pointer (some ⟨b3,0,none⟩)),(5,vI i.1)]) (fun (i:{ j:Nat // 16≤j∧j≤80 })=>[Ce b3 162 ((Ab7 b i.1++List.replicate (80-i.1) 0).map vW),Ce b2 162 ((List.replicate 80 (0:UInt32)).map vW),B]) (fun (i:{ j:Nat // 16≤j∧j≤80 })=>80-i.1) rfl (⟨16,by omega,by omega⟩) ?_ ?_ (fun i=>?_)
  · exact⟨rfl,rfl,rfl,trivial⟩
  ·
   have hj16:j=16:=by omega
   subst hj16;exact Aa0
  obtain⟨m,hm1,hm2⟩:=i;dsimp only;have hsl:(Ab7 b m++List.replicate (80-m) (0:UInt32)).length=80:=by rw[List.length_append,AbX,List.length_replicate];omega
  have hsp:=AbX b m;try dsimp only
  refine Za (k:=Qc (k:=Qv (k:=Wq (Zi (t:=fun h46=>?_) (f:=fun h46=>?_)))))
  ·
   refine Zk (k:=Ya (Za (k:=Zb (k:=Dw [Ce b3 162 ((Ab7 b m++List.replicate (80-m) 0).map vW)] (k:=?_)))));refine Dv 0 (k:=Dv 1 (k:=Dv 2 (k:=?_)));refine Aa1 3 rfl rfl rfl (by kernel_rfl) (by kernel_rfl) (Aat (Aan (m:=m-3) Tryz.underlying162 AbE rfl rfl rfl (by omega) (by omega))) ?_;refine Aa1 4 rfl rfl rfl (by kernel_rfl) (by kernel_rfl) (Ads Tryz.underlying94 rfl rfl ((Acp (m:=m-3) (by omega)).trans (by rw[Ah7 (by omega) (by omega)]))) ?_;refine Dv 5 (k:=Dv 6 (k:=?_));refine Aa1 7 rfl rfl rfl (by kernel_rfl) (by kernel_rfl) (Aat (Aan (m:=m-8) Tryz.underlying162 AbE rfl rfl rfl (by omega) (by omega))) ?_;refine Aa1 8 rfl rfl rfl (by kernel_rfl) (by kernel_rfl) (Ads Tryz.underlying94 rfl rfl ((Acp (m:=m-8) (by omega)).trans (by rw[Ah7 (by omega) (by omega)]))) ?_;refine Aa1 9 rfl rfl rfl (by kernel_rfl) (by kernel_rfl) (Aat (AcQ rfl rfl)) ?_;refine Dv 10 (k:=Dv 11 (k:=?_));refine Aa1 12 rfl rfl rfl (by kernel_rfl) (by kernel_rfl) (Aat (Aan (m:=m-14) Tryz.underlying162 AbE rfl rfl rfl (by omega) (by omega))) ?_;refine Aa1 13 rfl rfl rfl (by kernel_rfl) (by kernel_rfl) (Ads Tryz.underlying94 rfl rfl ((Acp (m:=m-14) (by omega)).trans (by rw[Ah7 (by omega) (by omega)]))) ?_;refine Aa1 14 rfl rfl rfl (by kernel_rfl) (by kernel_rfl) (Aat (AcQ rfl rfl)) ?_;refine Dv 15 (k:=Dv 16 (k:=?_));refine Aa1 17 rfl rfl rfl (by kernel_rfl) (by kernel_rfl) (Aat (Aan (m:=m-16) Tryz.underlying162 AbE rfl rfl rfl (by omega) (by omega))) ?_
   refine Aa1 18 rfl rfl rfl (by kernel_rfl) (by kernel_rfl) (Ads Tryz.underlying94 rfl rfl ((Acp (m:=m-16) (by omega)).trans (by rw[Ah7 (by omega) (by omega)]))) ?_;refine Aa1 19 rfl rfl rfl (by kernel_rfl) (by kernel_rfl) (Aat (AcQ rfl rfl)) ?_;refine Dn 20 (k:=?_);refine Aal (AeE _ 1 (.inl rfl)) rfl rfl rfl ?_;refine Aa1 21 rfl rfl rfl (by kernel_rfl) (by kernel_rfl) (Aat (Aan Tryz.underlying162 AbE rfl rfl rfl (by first | rfl | omega) (by omega))) ?_;refine AiQ 22 (by kernel_rfl) rfl (by kernel_rfl) (by kernel_rfl) ?_;refine No (k:=Yb (Ya (Zr (k:=Qv (k:=Vv (k:=Wn ?_))))));refine Aa5 ⟨m+1,by omega,by omega⟩ (by dsimp only;omega) ⟨rfl,rfl,rfl,trivial⟩ ?_;dsimp only;rw[←Aoo (b:=b) (j:=m) (by omega) (ArY (Ab7 b m) m) (by rw[if_neg (by omega)])];exact Aac (AaH (by rfl) (by rw[List.map_set];rfl)) Aa0
  ·
   refine Ze (k:=Xa (Xi (Xb (Ya (Za (k:=?_))))));have hm80:m=80:=by omega
   subst hm80;rw[Nat.sub_self,List.replicate_zero,List.append_nil];have hsl2:((Ab7 b 80).map vW).length=80:=by rw[List.length_map,hsp]
   have hoc:((Ab7 b 80).map vW).all Aay=true:=by simp[Aay]
   generalize (Ab7 b 80).map vW=ws at hsl2 hoc ⊢;refine Zr (k:=?_);refine Aox (vs:=ws) Tryz.underlying162 rfl Apk rfl (show 0+80≤_ by omega) (show (ws.drop 0).take 80=ws by rw[List.drop_zero];exact List.take_of_length_le (by omega)) rfl ?_;refine AlO (vs:=ws) Apk (show Nat.beq 80 ws.length=true by rw[hsl2];rfl) rfl rfl hoc (show 0+ws.length≤_ by rw[hsl2];simp) ?_;refine Wq (Zt (k:=?_));have hfull:AbL ((List.replicate 80 (0:UInt32)).map vW) 0 ws=ws:=by
    have:=AfW ws [] ((List.replicate 80 (0:UInt32)).map vW) [] (by rw[hsl2];simp);simpa using this
   rw[hfull];refine Aa2 () (vs:=[_]) (Cs:=[Ce b2 162 ws]) rfl (.cell (l:=ws) (us:=ws) rfl (Aax (T:=162)) Tryz.underlying162 rfl Apk (show 80≤ws.length by omega) (show ws.take 80=ws from List.take_of_length_le (by omega)) .nil) rfl trivial ?_;exact Aa0
end
section
set_option maxRecDepth 100000
theorem AqP {l vs:List Value} (h:l.length=vs.length):AbL l 0 vs=vs:=by
 have:=AfW vs [] l [] (by rw[h]);simpa using this
def An1 (h s:List UInt32) (i:Nat):List UInt32:=(List.zipWith (·+·) h s).take i++h.drop i
theorem Aqv {h s:List UInt32} (e:h.length=s.length) {i:Nat} (hi:i≤h.length):(An1 h s i).length=h.length:=by
 simp[An1,List.length_zipWith,←e];omega
theorem Aqw {h s:List UInt32} (e:h.length=s.length) {i:Nat} (hi:i<h.length):(An1 h s i).getD i 0=h.getD i 0:=by
 have hl:((List.zipWith (·+·) h s).take i).length=i:=by simp[List.length_zipWith,←e];omega
 simp only[An1,List.getD_eq_getElem?_getD];rw[List.getElem?_append_right (by omega),hl,Nat.sub_self,List.getElem?_drop,Nat.add_zero]
theorem Aqu {h s:List UInt32} (e:h.length=s.length) {i:Nat} (hi:i<h.length):(An1 h s i).set i (h.getD i 0+s.getD i 0)=An1 h s (i+1):=by
 have hl:((List.zipWith (·+·) h s).take i).length=i:=by simp[List.length_zipWith,←e];omega
 have hz:i<(List.zipWith (·+·) h s).length:=by simp[List.length_zipWith,←e];omega
 have hd:h.drop i=h[i]::h.drop (i+1):=List.drop_eq_getElem_cons hi;unfold An1;rw[hd,List.set_append_right _ _ (by omega),hl,Nat.sub_self,List.set_cons_zero,List.take_succ_eq_append_getElem hz];have h1:h.getD i 0=h[i]:=by simp[hi]
 have h2:s.getD i 0=s[i]:=by simp[←e,hi]
 simp[List.getElem_zipWith,hi,←e]
theorem AoT {B:HP} {a:Option Addr} (p c:Nat) (h:W5) (b:Bs) (hb:b.length=64) (sh:SlA B a (vUs b)):Sp1 Tryz.prog 224 [.pointer (some ⟨p,0,none⟩),.slice a 64 c] [Ce p 95 (h.list.map vW),B] (.tuple #[]) [Ce p 95 ((Aig h b).list.map vW),B]:=by
 have hwl:(Ab7 b 80).length=80:=AbX b 80;have htk:Aig h b=(let s:=Acq (Ab7 b 80) h 80;⟨h.a+s.a,h.b+s.b,h.c+s.c,h.d+s.d,h.e+s.e⟩):=rfl;have hsp:=Am8 c b hb sh;generalize Ab7 b 80=ws at hwl htk hsp;have hwm:(ws.map vW).length=80:=by rw[List.length_map,hwl]
 refine Sp.body (n:=88) Tryz.call224 Tryz.func224 rfl rfl rfl ?_;refine Qc (k:=Vv (k:=?_));refine Aaa hsp rfl rfl rfl ?_;refine Zc [.int .u32 0,.int .u32 0,.int .u32 0,.int .u32 0,.int .u32 0,.int .u32 0,.int .u32 0,.int .u32 0,.int .u32 0,.int .u32 0,.int .u32 0,.int .u32 0,.int .u32 0,.int .u32 0,.int .u32 0,.int .u32 0,.int .u32 0,.int .u32 0,.int .u32 0,.int .u32 0,.int .u32 0,.int .u32 0,.int .u32 0,.int .u32 0,.int .u32 0,.int .u32 0,.int .u32 0,.int .u32 0,.int .u32 0,.int .u32 0,.int .u32 0,.int .u32 0,.int .u32 0,.int .u32 0,.int .u32 0,.int .u32 0,.int .u32 0,.int .u32 0,.int .u32 0,.int .u32 0,.int .u32 0,.int .u32 0,.int .u32 0,.int .u32 0,.int .u32 0,.int .u32 0,.int .u32 0,.int .u32 0,.int .u32 0,.int .u32 0,.int .u32 0,.int .u32 0,.int .u32 0,.int .u32 0,.int .u32 0,.int .u32 0,.int .u32 0,.int .u32 0,.int .u32 0,.int .u32 0,.int .u32 0,.int .u32 0,.int .u32 0,.int .u32 0,.int .u32 0,.int .u32 0,.int .u32 0,.int .u32 0,.int .u32 0,.int .u32 0,.int .u32 0,.int .u32 0,.int .u32 0,.int .u32 0,.int .u32 0,.int .u32 0,.int .u32 0,.int .u32 0,.int .u32 0,.int .u32 0] (k:=fun b4=>?_);refine AlO (vs:=ws.map vW) Apk (show Nat.beq 80 (ws.map vW).length=true by rw[hwm];rfl) rfl rfl (by simp[Aay]) (show 0+(ws.map vW).length≤_ by rw[hwm];exact Nat.le_refl 80) ?_;rw[AqP (by rw[hwm];rfl)];refine Wq (Za (k:=Dw [Ce p 95 (h.list.map vW)] (k:=?_)));refine Dv 0 (k:=Dv 1 (k:=?_))
 refine Aa1 2 rfl rfl rfl (by kernel_rfl) (by kernel_rfl) (Aat (Aan (m:=0) Tryz.underlying95 AbE rfl rfl rfl (by first | rfl | omega) (by omega))) ?_;refine Di 3 (t:=Ul) (k:=Dv 4 (k:=Dv 5 (k:=?_)));refine Aa1 6 rfl rfl rfl (by kernel_rfl) (by kernel_rfl) (Aat (Aan (m:=1) Tryz.underlying95 AbE rfl rfl rfl (by first | rfl | omega) (by omega))) ?_;refine Di 7 (t:=Ul) (k:=Dv 8 (k:=Dv 9 (k:=?_)));refine Aa1 10 rfl rfl rfl (by kernel_rfl) (by kernel_rfl) (Aat (Aan (m:=2) Tryz.underlying95 AbE rfl rfl rfl (by first | rfl | omega) (by omega))) ?_;refine Di 11 (t:=Ul) (k:=Dv 12 (k:=Dv 13 (k:=?_)));refine Aa1 14 rfl rfl rfl (by kernel_rfl) (by kernel_rfl) (Aat (Aan (m:=3) Tryz.underlying95 AbE rfl rfl rfl (by first | rfl | omega) (by omega))) ?_;refine Di 15 (t:=Ul) (k:=Dv 16 (k:=Dv 17 (k:=?_)));refine Aa1 18 rfl rfl rfl (by kernel_rfl) (by kernel_rfl) (Aat (Aan (m:=4) Tryz.underlying95 AbE rfl rfl rfl (by first | rfl | omega) (by omega))) ?_;refine Di 19 (t:=Ul) (k:=Dv 20 (k:=Dv 21 (k:=Dv 22 (k:=Dv 23 (k:=Dv 24 (k:=Dd (k:=Ya (Za (k:=Qc (k:=Vv (k:=?_)))))))))));refine Wq (Zb (k:=?_));refine Aak (fun (i:{ j:Nat // j≤80 })=>[(0,.pointer (some ⟨p,0,none⟩)),(4,.pointer (some ⟨b4,0,none⟩)),(5,vW (Acq ws h i.1).a),(6,vW (Acq ws h i.1).b),(7,vW (Acq ws h i.1).c),(8,vW (Acq ws h i.1).d),(9,vW (Acq ws h i.1).e),(38,vI i.1)]) (fun (i:{ j:Nat // j≤80 })=>[Ce p 95 (h.list.map vW),Ce b4 162 (ws.map vW),B]) (fun (i:{ j:Nat // j≤80 })=>80-i.1) rfl (⟨0,Nat.zero_le _⟩) ?_ ?_ (fun i=>?_)
 · exact⟨rfl,rfl,rfl,rfl,rfl,rfl,rfl,rfl,trivial⟩
 ·
  exact Aa0
 obtain⟨j,hj⟩:=i;dsimp only;try dsimp only
 refine Qc (k:=Vv (k:=Wq (Za (k:=Zi (t:=fun h39=>?_) (f:=fun h39=>?_)))))
 ·
  refine Zk (k:=Ya (Za (k:=Zb (k:=Za (k:=?_)))));obtain⟨s,hs⟩:∃s,s=Acq ws h j:=⟨_,rfl⟩
  have hs2:Acq ws h (j+1)=AqQ ws j s:=by rw[hs];rfl
  rw[←hs];refine Zr (k:=Qv (k:=Wq (Qc (k:=Qv (k:=Qv (k:=?_))))));refine Aag (AmU j s.b s.c s.d (by omega)) rfl rfl rfl ?_;refine Qv (k:=Qv (k:=Vv (k:=Wq (Za (k:=Dw [Ce b4 162 (ws.map vW)] (k:=?_))))));refine Dv 0 (k:=Dv 2 (k:=Dv 4 (k:=Dv 6 (k:=Dv 8 (k:=?_)))));refine Aa1 9 rfl rfl rfl (by kernel_rfl) (by kernel_rfl) (Aat (Aan Tryz.underlying162 AbE rfl rfl rfl (by first | rfl | omega) (by omega))) ?_;refine Aa1 10 rfl rfl rfl (by kernel_rfl) (by kernel_rfl) (Ads Tryz.underlying94 rfl rfl (Acp (m:=j) (by omega))) ?_;refine Dn 1 (k:=?_);refine Aal (AeE _ 5 (.inr (.inl rfl))) rfl rfl rfl ?_;refine Aa1 3 rfl rfl rfl (by kernel_rfl) (by kernel_rfl) (Aat (Ael rfl rfl)) ?_;refine Aa1 5 rfl rfl rfl (by kernel_rfl) (by kernel_rfl) (Aat (Ael rfl rfl)) ?_;refine Aa1 7 rfl rfl rfl (by kernel_rfl) (by kernel_rfl) (Aat (Ael rfl rfl)) ?_;refine Aa1 11 rfl rfl rfl (by kernel_rfl) (by kernel_rfl) (Aat (Ael rfl rfl)) ?_;refine Dv 12 (k:=Dd (k:=Ya (Zr (k:=Qv (k:=Vv (k:=?_))))));refine Aag (AeE _ 30 (.inr (.inr rfl))) rfl rfl rfl ?_;refine Qv (k:=Qv (k:=Qv (k:=Vv (k:=Wn (Yb (Ya (Zr (k:=Vv (k:=?_)))))))));refine Vv (k:=Wn ?_);refine Aa5 ⟨j+1,by omega⟩ (by dsimp only;omega) ?_ Aa0;dsimp only;rw[hs2];exact⟨rfl,rfl,rfl,rfl,rfl,rfl,rfl,rfl,trivial⟩
 ·
  refine Ze (k:=Xa (Xi (Xb (Ya (Za (k:=?_))))));have hj80:j=80:=by omega
  subst hj80;obtain⟨s,hs⟩:∃s,s=Acq ws h 80:=⟨_,rfl⟩
  dsimp only at htk;rw[←hs] at htk ⊢;have hh5:h.list.length=5:=rfl;have hs5:s.list.length=5:=rfl;refine Zr (k:=Qv (k:=Qv (k:=Vv (k:=?_))));refine Aa6 (AeY (vs:=[_,_,_,_,_]) Tryz.underlying95 AbE rfl rfl rfl Aoj rfl rfl) rfl ?_;refine Vv (k:=Wq (Zb (k:=?_)));refine Aak (fun (i:{ m:Nat // m≤5 })=>[(0,.pointer (some ⟨p,0,none⟩)),(73,.agg (s.list.map vW).toArray),(74,vI i.1)]) (fun (i:{ m:Nat // m≤5 })=>[Ce p 95 ((An1 h.list s.list i.1).map vW),B]) (fun (i:{ m:Nat // m≤5 })=>5-i.1) rfl (⟨0,Nat.zero_le _⟩) ?_ ?_ (fun i=>?_)
  · exact⟨rfl,rfl,rfl,trivial⟩
  ·
   exact Aac (AaH (by rfl) (by rfl)) Aa0
  obtain⟨m,hm⟩:=i;dsimp only;have hal:=Aqv (h:=h.list) (s:=s.list) (i:=m) rfl hm;try dsimp only
  refine Qc (k:=Vv (k:=Wq (Za (k:=Zi (t:=fun h75=>?_) (f:=fun h75=>?_)))))
  ·
   refine Zk (k:=Ya (Za (k:=Zb (k:=Qc (k:=Vv (k:=?_))))));refine Aa6 (AoE Tryz.underlying95 Tryz.underlying94 AbE rfl rfl rfl rfl rfl (by omega) (Acp (m:=m) (by omega))) rfl ?_;refine Qv (k:=Wq (Dw [] (k:=?_)));refine Dv 0 (k:=Dv 1 (k:=Dv 2 (k:=?_)));refine Aa1 3 rfl rfl rfl (by kernel_rfl) (by kernel_rfl) (Aat (Aan Tryz.underlying95 AbE rfl rfl rfl (by first | rfl | omega) (by omega))) ?_;refine Dv 5 (k:=Dv 7 (k:=Dn 4 (k:=?_)));refine Acs Tryz.underlying94 rfl rfl ((Acp (m:=m) (by omega)).trans (by rw[Aqw (hh5.trans hs5.symm) (by omega)])) rfl ?_;refine Aa1 6 rfl rfl rfl (by kernel_rfl) (by kernel_rfl) (Aat (Ael rfl rfl)) ?_;refine Aa1 8 rfl rfl rfl (by kernel_rfl) (by kernel_rfl) (Aat (Aan Tryz.underlying95 AbE rfl rfl rfl (by first | rfl | omega) (by omega))) ?_;refine Dn 9 (k:=No (k:=Dd (k:=Yb (Ya (Zr (k:=Qv (k:=Wn ?_)))))));refine Aa5 ⟨m+1,by omega⟩ (by dsimp only;omega) ⟨rfl,rfl,rfl,trivial⟩ ?_;dsimp only;rw[←Aqu (hh5.trans hs5.symm) (by omega)];exact Aac (AaH (by rfl) (by rw[List.map_set])) Aa0
  ·
   refine Ze (k:=Xa (Xi (Xb ?_)));have hm5:m=5:=by omega
   subst hm5;refine Acr () (vs:=[]) (Cs:=[]) rfl .nil rfl trivial ?_;rw[htk];exact Aac (AaH (by rfl) (by rfl)) Aa0
end
section
set_option maxRecDepth 100000
section
variable {r:Option Nat} {P:Program} {n:Nat} {A:List HP} {L:Loc} {ty:TypeId} {pos:String} {after:Array Edge}
theorem AsC {dst:Option Tmp} {x y:Operand} {dT sT e:TypeId} {g dLen dCap T:Nat} {cur:List Value} {s:Bs} (hu:P.underlying dT=some (.slice e)) (hs:(P.info? e).map (·.size)=some 1)
    (hx:ev L x=some (.slice (some ⟨g,0,none⟩) dLen dCap)) (hy:ev L y=some (vS s)) (hq:s.length≤dLen) (hl:s.length≤cur.length) :
    OpT r P n ⟨dst,.call ⟨.builtin .copy,#[x,y],#[dT,sT]⟩,ty,pos,after,none⟩ A L [Ce g T cur] (fun _:Unit=>vI s.length) (fun _=>True) (fun _=>[Ce g T (AbL cur 0 (vUs s))]):=by
 refine Ajk (fun ac f w M h1 hf dj tt hr=>?_);have hr':h1=Res.one g _:=hr;subst hr';have hb:w.heap[g]?=some (.cells cur.toArray T (0,0)):=tt.ow _ _ (by simp[Res.add,Res.one]);obtain⟨w',hrun,hb',ho',he'⟩:=Acc (P:=P) (vUs s) w cur 0 0 hb (by simp[vUs,Aay]) (by simp[vUs];omega);refine⟨w',Res.one g (.cells (AbL cur 0 (vUs s)).toArray T (0,0)),AaE dj,Sat.setBlk dj tt (by simpa using hb') ho' he',rfl,.inl ?_⟩
 cases hq2:P.info? e with
 | none=>simp[hq2] at hs
 | some i =>
   have hi:i.size=1:=by simpa [hq2] using hs
   have hsz:(Builtin.lenOf (vS s)).run P w=.ok s.length w:=rfl;have hc:(Builtin.firstCells 1 s.length (vS s)).run P w=.ok (vUs s).toArray w:=by
    show Result.ok _ w=Result.ok _ w;congr 1;apply Array.ext';simp[vUs,ByteArray.data_extract]
   have hm:Nat.min s.length dLen=s.length:=Nat.min_eq_left hq;simp only[execOp,resolve,Array.map,f.ev hx,f.ev hy,invoke,builtin];simp[execOp,resolve,f.ev hx,f.ev hy,invoke,builtin,Builtin.copy_,run_underlying hu,sizeOf,typeInfo,program,Sem.run,hq2,hi,hsz,hm,hc,hrun];rfl
end
def AlV (s:Bs) (i:Nat):Bs:=s++[0x80]++AcU (64 * Aaz s-9-s.length)++(AcU (8-i)++((List.range 8).map (Ak7 s)).drop (8-i))
theorem AtW (s:Bs) {i:Nat} (h:i≤8):(AlV s i).length=64 * Aaz s:=by
 simp only[AlV,Aaz,AcU,List.length_append,List.length_replicate,List.length_drop,List.length_map,List.length_range,List.length_singleton];omega
theorem Awv (s:Bs):AlV s 8=AmP s:=by simp[AlV,AmP,AcU]
theorem Aww (s:Bs):((vUs s++List.replicate (64 * Aaz s-s.length) (vU 0)).set s.length (vU 128))=vUs (AlV s 0):=by
 have hb:64 * Aaz s-s.length=(64 * Aaz s-9-s.length)+8+1:=by unfold Aaz;omega
 have hl:(vUs s).length=s.length:=by simp[vUs]
 rw[List.set_append_right _ _ (by omega),hl,Nat.sub_self,hb,List.replicate_succ,List.set_cons_zero,←List.replicate_append_replicate];simp[AlV,vUs,AcU]
theorem AtV (s:Bs) {i:Nat} (h:i<8):(AlV s i).set (64 * Aaz s-1-i) (Ak7 s (7-i))=AlV s (i+1):=by
 have hp:(s++[0x80]++AcU (64 * Aaz s-9-s.length)).length=64 * Aaz s-8:=by
  simp only[Aaz,AcU,List.length_append,List.length_replicate,List.length_singleton];omega
 have hb:64≤64 * Aaz s:=by unfold Aaz;omega
 unfold AlV;rw[List.set_append_right _ _ (by omega),hp,show 64 * Aaz s-1-i-(64 * Aaz s-8)=7-i from by omega];congr 1;have hz:AcU (8-i)=AcU (7-i)++[0]:=by
  have:8-i=(7-i)+1:=by omega
  rw[this,AcU,AcU,List.replicate_succ']
 have hzl:(AcU (7-i)).length=7-i:=by simp[AcU]
 have hm:7-i<((List.range 8).map (Ak7 s)).length:=by simp;omega
 have hd:((List.range 8).map (Ak7 s)).drop (7-i)=Ak7 s (7-i)::((List.range 8).map (Ak7 s)).drop (8-i):=by
  rw[List.drop_eq_getElem_cons hm];have:7-i+1=8-i:=by omega
  rw[this];simp
 rw[hz,List.append_assoc,List.set_append_right _ _ (by omega),hzl,Nat.sub_self,List.singleton_append,List.set_cons_zero,show 8-(i+1)=7-i from by omega,hd]
theorem AuZ {l:Bs} {m:Nat} {c:UInt8}:(vUs l).set m (vU c.toNat)=vUs (l.set m c):=by simp[vUs,List.map_set]
theorem AnP {s:Bs} (hs:s.length≤1099511627776) {j:Nat} (hj:j<8):IntKind.u8.wrap (Int.fdiv (IntKind.u64.wrap (IntKind.u64.wrap (s.length:Int) * 8)) (2 ^ (min (8 * j) IntKind.u64.bits)))=((Ak7 s (7-j)).toNat:Int):=by
 have w64:∀n:Int,IntKind.u64.wrap n=n % 18446744073709551616:=fun n=>by simp[IntKind.wrap,IntKind.signed,IntKind.bits]
 have w8:∀n:Int,IntKind.u8.wrap n=n % 256:=fun n=>by simp[IntKind.wrap,IntKind.signed,IntKind.bits]
 have h1:IntKind.u64.wrap (IntKind.u64.wrap (s.length:Int) * 8)=((8 * s.length:Nat):Int):=by rw[w64,w64];omega
 have h2:min (8 * j) IntKind.u64.bits=8 * j:=Nat.min_eq_left (by simp only[IntKind.bits];omega);rw[h1,h2,Aoh,Int.fdiv_eq_ediv_of_nonneg _ (Int.natCast_nonneg _),w8,←Int.natCast_ediv];have h3:7-(7-j)=j:=by omega
 simp only[Ak7,h3,UInt8.toNat_ofNat'];generalize 8 * s.length / 2 ^ (8 * j)=q;omega
theorem Am9 (s:Bs) (hs:s.length≤1099511627776):Sp Tryz.prog 223 [vS s] [] (X:=Nat) (fun g=>.slice (some ⟨g,0,none⟩) (64 * Aaz s) (64 * Aaz s)) (fun _=>True) (fun g=>[Ce g 5 (vUs (AmP s))]):=by
 have hbn:64 * Aaz s=((s.length+8) / 64+1) * 64:=by unfold Aaz;omega
 have hbl:s.length+9≤64 * Aaz s:=by unfold Aaz;omega
 have hbu:64 * Aaz s≤s.length+72:=by unfold Aaz;omega
 refine Sp.body (n:=43) Tryz.call223 Tryz.func223 rfl rfl rfl ?_;refine Qc (k:=Vv (k:=Wq (Qc (k:=Qv (k:=Qv (k:=Qv (k:=?_)))))));refine Wq (Qc (k:=Qv (k:=?_)));refine ApG (m:=64 * Aaz s) (z:=.int .u8 0) Tryz.underlying56 ti5 rfl rfl rfl (AeF (by omega)) (AeF (by omega)) (by omega) (by rw[show Tryz.t5.bytes=1 from rfl];omega) rfl (fun b14=>?_);refine Vv (k:=Wq (Qc (k:=Qv (k:=?_))));refine AcW (by intro c;simp) (AsC Tryz.underlying56 rfl rfl rfl (by omega) (by rw[List.length_replicate];omega) (cur:=List.replicate (64 * Aaz s) (vU 0)) (T:=5)) rfl (fun _ _=>?_);have hsa:AbL (List.replicate (64 * Aaz s) (vU 0)) 0 (vUs s)=vUs s++List.replicate (64 * Aaz s-s.length) (vU 0):=by
  have h1:List.replicate (64 * Aaz s) (vU 0)=List.replicate s.length (vU 0)++List.replicate (64 * Aaz s-s.length) (vU 0):=by rw[List.replicate_append_replicate];congr 1;omega
  have:=AfW (vUs s) [] (List.replicate s.length (vU 0)) (List.replicate (64 * Aaz s-s.length) (vU 0)) (by simp[vUs]);rw[h1];simpa using this
 rw[hsa];have hl0:(vUs s++List.replicate (64 * Aaz s-s.length) (vU 0)).length=64 * Aaz s:=by simp[vUs];omega
 refine Wq (Qc (k:=Qv (k:=Vv (k:=?_))));refine AaQ (sz:=1) (m:=s.length) (kk:=s.length) Tryz.underlying56 ti5 rfl rfl rfl rfl (by omega) (by omega) (Nat.mul_one _) rfl ?_;refine Agw ti5 rfl rfl rfl rfl (show 0+s.length<_ by omega) ?_;rw[Nat.zero_add,Aww];refine Wq (Qc (k:=Qv (k:=?_)));refine Aa6 (AcH rfl Tryz.underlying3 Tryz.underlying96) rfl ?_;refine Aa6 (Avd rfl rfl) rfl ?_;refine Vv (k:=Wq (Za (k:=Qc (k:=Vv (k:=Wq (Zb (k:=?_)))))));refine Aak (fun (i:{ j:Nat // j≤8 })=>[(4,.slice (some ⟨b14,0,none⟩) (64 * Aaz s) (64 * Aaz s)),(5,.int .u64 (IntKind.u64.wrap (IntKind.u64.wrap (s.length:Int) * 8))),(26,vI i.1)]) (fun (i:{ j:Nat // j≤8 })=>[Ce b14 5 (vUs (AlV s i.1))]) (fun (i:{ j:Nat // j≤8 })=>8-i.1) rfl (⟨0,Nat.zero_le _⟩) ?_ ?_ (fun i=>?_)
 · exact⟨rfl,rfl,rfl,trivial⟩
 ·
  exact Aa0
 obtain⟨j,hj⟩:=i;dsimp only;have hpl:=AtW s hj;have hpv:(vUs (AlV s j)).length=64 * Aaz s:=by simp[vUs,hpl]
 try dsimp only
 refine Qc (k:=Vv (k:=Wq (Za (k:=Zi (t:=fun h27=>?_) (f:=fun h27=>?_)))))
 ·
  refine Zk (k:=Ya (Za (k:=Zb (k:=Qc (k:=Qv (k:=Wq (Zr (k:=Qv (k:=?_)))))))));refine Qv (k:=Qv (k:=Qv (k:=Vv (k:=?_))));refine Aa6 (AqY (m:=8 * j) rfl (AeF (by omega))) rfl ?_;refine Aa6 (AcH rfl Tryz.underlying96 Tryz.underlying5) rfl ?_;refine AaQ (sz:=1) (m:=64 * Aaz s-1-j) (kk:=64 * Aaz s-1-j) Tryz.underlying56 ti5 rfl rfl rfl (by omega) (by omega) (by omega) (Nat.mul_one _) rfl ?_;refine Agw ti5 rfl rfl rfl rfl (show 0+(64 * Aaz s-1-j)<_ by omega) ?_;rw[Nat.zero_add,AnP hs (by omega),AuZ,AtV s (by omega)];refine Wn (Yb (Ya (Zr (k:=Qv (k:=Wn ?_)))));exact Aa5 ⟨j+1,by omega⟩ (by dsimp only;omega) ⟨rfl,rfl,rfl,trivial⟩ Aa0
 ·
  refine Ze (k:=Xa (Xi (Xb (Ya (Qc (k:=Qv (k:=Wq (Zt (k:=?_)))))))));have hj8:j=8:=by omega
  subst hj8;rw[Awv];refine Aa2 b14 (vs:=[_]) (Cs:=[]) rfl (.tmp rfl .nil) rfl trivial ?_;exact Aa0
end
end Go.Proofs.YtdnoacgopfcpbaaGreat
