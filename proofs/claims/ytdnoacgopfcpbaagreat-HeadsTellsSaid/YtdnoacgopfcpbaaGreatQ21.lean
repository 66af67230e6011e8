/- Texts of this proof, put together: SR10h. -/
import Derived.Test.YtdnoacgopfcpbaaGreatQ20
set_option linter.unusedVariables false
set_option linter.unusedSimpArgs false
namespace Go.Proofs.YtdnoacgopfcpbaaGreat
section
set_option maxRecDepth 100000
theorem Av3 (c:Ck) (ql:UInt8) (xs:List Bs):AdG c ⟨ql,xs⟩ =
    if ql.toNat=66∧xs.length=1 then some { c with base:=xs.getD 0 [] }
    else if ql.toNat=67∧xs.length=1∧((xs.getD 0 []).getD 0 0).toNat=46 then (AaB ((xs.getD 0 []).drop 1)).map (fun t=>{ c with comment:=t })
    else if ql.toNat=68∧xs.length=1 then some { c with date:=rdI (xs.getD 0 []) }
    else if ql.toNat=70∧xs.length=1 then some { c with files:=c.files++[(xs.getD 0 [],[])] }
    else if ql.toNat=70∧xs.length=2 then some { c with files:=c.files++[(xs.getD 0 [],xs.getD 1 [])] }
    else if ql.toNat=80 then some { c with parents:=xs }
    else if ql.toNat=84 then some c
    else if ql.toNat=85∧xs.length=1 then some { c with user:=xs.getD 0 [] }
    else none:=by
 simp only[AdG,←UInt8.toNat_inj];rfl
theorem Age {p q:Prop} [Decidable p] [Decidable q] (h:p↔q):some (Value.bool (decide p))=some (Value.bool (decide q)):=by rw[decide_eq_decide.2 h]
theorem Ai3 {q:Prop} [Decidable q] (h:¬q):some (Value.bool false)=some (Value.bool (decide q)):=by rw[decide_eq_false h]
theorem AcM {G:Prop} (h:G:=by
    have hql2:∀f:Bs×Bs,(c.files++[f]).length=c.files.length+1:=fun f=>by simp
    first
    | exact Aa5 ⟨(((fa,fc),pa,pc),_,j+1),by dsimp only;omega,hft,hpc,hys _ rfl⟩ (by dsimp only;omega) ⟨rfl,rfl,rfl,rfl,rfl,rfl,trivial⟩ Aa0
    | exact Aa5 ⟨(((fa,fc),qa,qc),_,j+1),by dsimp only;omega,hft,hcdm,hys _ rfl⟩ (by dsimp only;omega) ⟨rfl,rfl,rfl,rfl,rfl,rfl,trivial⟩ Aa0
    | (refine Aa5 ⟨(((a112,c112),pa,pc),_,j+1),by dsimp only;omega,hft,hpc,hys _ rfl⟩ (by dsimp only;omega) ⟨rfl,rfl,rfl,rfl,rfl,rfl,trivial⟩ ?_
       dsimp only;rw[hql2];exact Aac (AaW (by rfl) (by rw[AbU];rfl)) Aa0)
    | (refine Aa5 ⟨(((a134,c134),pa,pc),_,j+1),by dsimp only;omega,hft,hpc,hys _ rfl⟩ (by dsimp only;omega) ⟨rfl,rfl,rfl,rfl,rfl,rfl,trivial⟩ ?_
       dsimp only;rw[hql2];exact Aac (AaW (by rfl) (by rw[AbU];rfl)) Aa0)):G:=h
theorem Aid {G:Prop} (h:G:=by
    refine Aa5 () trivial ⟨rfl,rfl,rfl,rfl,rfl,rfl,rfl,rfl,?_,trivial⟩ Aa0
    first
    | exact Ai3 (by omega)
    | exact Age (by omega)):G:=h
theorem Aie {G:Prop} (h:G:=by
    refine Aa5 () trivial ⟨rfl,rfl,rfl,rfl,rfl,rfl,rfl,rfl,?_,trivial⟩ Aa0
    first
    | exact Ai3 (by omega)
    | exact Age (by omega)):G:=h
theorem AiZ {G:Prop} (h:G:=by
    refine Aa5 () trivial ⟨rfl,rfl,rfl,rfl,rfl,rfl,rfl,rfl,?_,trivial⟩ Aa0
    first
    | exact Ai3 (by omega)
    | exact Age (by omega)):G:=h
theorem Aj0 {G:Prop} (h:G:=by
    refine Aa5 () trivial ⟨rfl,rfl,rfl,rfl,rfl,rfl,rfl,rfl,?_,trivial⟩ Aa0
    first
    | exact Ai3 (by omega)
    | exact Age (by omega)):G:=h
theorem Agi {G:Prop} (h:G:=by
    refine Aa5 () trivial ⟨rfl,rfl,rfl,rfl,rfl,rfl,rfl,rfl,?_,trivial⟩ Aa0
    first
    | exact Ai3 (by omega)
    | exact Age (by omega)):G:=h
theorem Aj1 {G:Prop} (h:G:=by
    refine Aa5 () trivial ⟨rfl,rfl,rfl,rfl,rfl,rfl,rfl,rfl,?_,trivial⟩ Aa0
    first
    | exact Ai3 (by omega)
    | exact Age (by omega)):G:=h
theorem Anj {G:Prop} (h:G:=by
    have hn:AaD s=none:=Av5 hl hrk (fun h=>by
     first
     | exact h164 h.1
     | exact h169 h.2)
    rw[hn];refine Aa2 (ka0,ck0) (vs:=[_,_]) (Cs:=[Ce b2 30 (AaZ ka0 ck0)]) rfl (.cell (l:=AaZ ka0 ck0) (us:=AaZ ka0 ck0) rfl (Aax (T:=30)) Tryz.underlying30 rfl AjQ (by exact Nat.le_of_ble_eq_true rfl) rfl (.tmp rfl .nil)) rfl ⟨rfl,Nat.le_refl _⟩ ?_;exact ent_noCk.trans (show Ent _ [Row 25 2 (.slice none 0 0) 0 [],SlI none [],Row 60 4 (.slice none 0 0) 0 [],Ce b2 30 [vS [],vS [],vI 0,.slice none 0 0,.slice none 0 0,.slice none 0 0,vS []]] from Aa0)):G:=h
set_option maxHeartbeats 4000000 in
theorem AbI (s : Bs) (hs:s.length≤1073741824):Sp Tryz.prog 24 [vS s] [] (X:=CkA×Ck) (fun x=>.tuple #[.agg (AaZ x.1 x.2).toArray,vB (AaD s).isSome]) (fun x=>x.2=(AaD s).getD ck0∧x.2.parents.length≤x.1.pc) ckH:=by
 refine Sp.body (n:=172) Tryz.call24 Tryz.func24 rfl rfl rfl ?_;refine Qc (k:=Zc [vS [],vS [],.int .i64 0,.slice none 0 0,.slice none 0 0,.slice none 0 0,vS []] (k:=fun b2=>Vv (k:=Wq (Qc (k:=Vv (k:=?_))))));refine Aaq (Ahd s hs) rfl rfl rfl (fun x14 hx14=>?_);obtain⟨⟨ca,cc⟩,qs⟩:=x14;dsimp only[Ae0,Aow] at hx14 ⊢;refine Vv (k:=?_);refine Aa6 (Aa7 (v:=.slice ca qs.length cc) rfl rfl) rfl ?_;refine Aa6 (Aa7 (v:=vB (Abv s).isSome) rfl rfl) rfl ?_;refine Qv (k:=Wq (Za (k:=Qc (k:=Qv (k:=Wq (Zi (t:=fun h18=>?_) (f:=fun h18=>?_)))))))
 ·
  refine Qc (k:=Vx (Ps [vS [],vS [],.int .i64 0,.slice none 0 0,.slice none 0 0,.slice none 0 0,vS []]) (k:=Zp (k:=Vv (k:=Wq (Zt (k:=Va ?_))))));have hn:AaD s=none:=Acb fun c h=>by
   rw[readC_iff.2 h.reads] at h18;simp at h18
  rw[hn];refine Aa2 (ka0,ck0) (vs:=[_,_]) (Cs:=[Ce b2 30 (AaZ ka0 ck0)]) rfl (.cell (l:=AaZ ka0 ck0) (us:=AaZ ka0 ck0) rfl (Aax (T:=30)) Tryz.underlying30 rfl AjQ (by exact Nat.le_of_ble_eq_true rfl) rfl (.tmp rfl .nil)) rfl ⟨rfl,Nat.le_refl _⟩ ?_;exact ent_noCk.trans (show Ent _ [Row 25 2 (.slice none 0 0) 0 [],SlI none [],Row 60 4 (.slice none 0 0) 0 [],Ce b2 30 [vS [],vS [],vI 0,.slice none 0 0,.slice none 0 0,.slice none 0 0,vS []]] from Aa0)
 ·
  have hl:Abv s=some (Aa3 qs):=by cases e:Abv s with
   | none=>rw[e] at h18;simp at h18
   | some l=>rw[e] at hx14;rw[hx14];rfl
  have hrd:=readC_iff.1 hl;have hne:=Akx hl;have hbz:(Aav (Aa3 qs)).length≤1073741824:=by
   have h1:=congrArg List.length hrd.2;rw[AcI,Ac1] at h1;omega
  obtain⟨hqn,hqz⟩:=AcO hbz;have hz:=fun x=>AdT hbz x;refine Zk (k:=Ya (Qc (k:=Zc [vS [],vS [],.int .i64 0,.slice none 0 0,.slice none 0 0,.slice none 0 0,vS []] (k:=fun b6=>Wq (Qc (k:=Vv (k:=?_)))))));refine Aaq (Ag0 (B:=Row 101 2 (.slice ca qs.length cc) qs.length (qs.flatMap CdV.cells)) (a:=ca) qs.length cc qs AaC rfl hbz) rfl rfl rfl (fun x22 hx22=>?_);obtain⟨⟨ta,tc⟩,ts⟩:=x22;dsimp only[Aom,Aon] at hx22 ⊢;refine Vv (k:=?_);refine Aa6 (Aa7 (v:=.slice ta ts.length tc) rfl rfl) rfl ?_;refine Aa6 (Aa7 (v:=vB (AaK (Aa8 84 (Aa3 qs))).isSome) rfl rfl) rfl ?_;refine Vf 5 28 (k:=Zo (k:=Vv (k:=Wq (Za (k:=Qc (k:=Qv (k:=Wq (Zi (t:=fun h27=>?_) (f:=fun h27=>?_)))))))))
  ·
   refine Qc (k:=Vx (Ps [vS [],vS [],.int .i64 0,.slice none 0 0,.slice none 0 0,.slice none 0 0,vS []]) (k:=Zp (k:=Vv (k:=Wq (Zt (k:=Va ?_))))));have hn:AaD s=none:=AqS hl (by
    rw[AlN]
    cases e:AaK (Aa8 84 (Aa3 qs)) with
    | none=>rfl
    | some ts=>rw[e] at h27;simp at h27)
   rw[hn];refine Aa2 (ka0,ck0) (vs:=[_,_]) (Cs:=[Ce b2 30 (AaZ ka0 ck0)]) rfl (.cell (l:=AaZ ka0 ck0) (us:=AaZ ka0 ck0) rfl (Aax (T:=30)) Tryz.underlying30 rfl AjQ (by exact Nat.le_of_ble_eq_true rfl) rfl (.tmp rfl .nil)) rfl ⟨rfl,Nat.le_refl _⟩ ?_;exact ent_noCk.trans (show Ent _ [Row 25 2 (.slice none 0 0) 0 [],SlI none [],Row 60 4 (.slice none 0 0) 0 [],Ce b2 30 [vS [],vS [],vI 0,.slice none 0 0,.slice none 0 0,.slice none 0 0,vS []]] from Aa0)
  ·
   refine Zk (k:=Ya (Za (k:=Za (k:=?_))));have hts:AaK (Aa8 84 (Aa3 qs))=some ts:=by cases e:AaK (Aa8 84 (Aa3 qs)) with
    | none=>rw[e] at h27;simp at h27
    | some us=>rw[e] at hx22;rw[hx22];rfl
   have hrc:AlN (Aa3 qs)=Ab5 (Aa3 qs) { ck0 with tags:=ts }:=by rw[AlN,hts]
   have htz:TgZ ts:=by
    obtain⟨h1,h2⟩:=Ag1 (N:=1073741824) (fun xs hx a ha=>((hz 84).2 xs hx).2 a ha) hts;have h3:=(hz 84).1;exact⟨by omega,fun t ht=>by have:=h2 t ht;omega⟩
   refine Aca (A:=CdM qs) HasC.get Asa (fun hcap=>?_);refine Zr (k:=Qv (k:=Vv (k:=Wq (Zb (k:=?_)))))
   refine Aak (fun (i:{ x:((Option Addr×Nat)×(Option Addr×Nat))×Ck×Nat // x.2.2≤qs.length∧Ab5 (Aa3 (qs.take x.2.2)) { ck0 with tags:=ts }=some x.2.1∧x.2.1.parents.length≤x.1.2.2∧CkY x.2.2 x.2.1 })=>[(0,vS s),(2,.pointer (some ⟨b2,0,none⟩)),(6,.pointer (some ⟨b6,0,none⟩)),(29,.slice ca qs.length cc),(30,vI qs.length),(31,vI i.1.2.2)]) (fun (i:{ x:((Option Addr×Nat)×(Option Addr×Nat))×Ck×Nat // x.2.2≤qs.length∧Ab5 (Aa3 (qs.take x.2.2)) { ck0 with tags:=ts }=some x.2.1∧x.2.1.parents.length≤x.1.2.2∧CkY x.2.2 x.2.1 })=>[Row 25 2 (.slice i.1.1.1.1 i.1.2.1.files.length i.1.1.1.2) i.1.2.1.files.length (i.1.2.1.files.flatMap AaN),Ce b6 30 [vS i.1.2.1.base,vS i.1.2.1.comment,vI i.1.2.1.date,.slice i.1.1.1.1 i.1.2.1.files.length i.1.1.1.2,.slice i.1.1.2.1 i.1.2.1.parents.length i.1.1.2.2,.slice ta i.1.2.1.tags.length tc,vS i.1.2.1.user],SlI i.1.1.2.1 (i.1.2.1.parents.map vS),Row 60 4 (.slice ta i.1.2.1.tags.length tc) i.1.2.1.tags.length (i.1.2.1.tags.flatMap Aab),Row 101 2 (.slice ca qs.length cc) qs.length (qs.flatMap CdV.cells),CdM qs,Ce b2 30 [vS [],vS [],vI 0,.slice none 0 0,.slice none 0 0,.slice none 0 0,vS []]]) (fun (i:{ x:((Option Addr×Nat)×(Option Addr×Nat))×Ck×Nat // x.2.2≤qs.length∧Ab5 (Aa3 (qs.take x.2.2)) { ck0 with tags:=ts }=some x.2.1∧x.2.1.parents.length≤x.1.2.2∧CkY x.2.2 x.2.1 })=>qs.length-i.1.2.2) rfl (⟨(((none,0),(none,0)),{ ck0 with tags:=ts },0),Nat.zero_le _,rfl,Nat.le_refl _,⟨Nat.zero_le _,Nat.zero_le _,Nat.zero_le _,Nat.zero_le _,(fun _ h=>by simp[ck0] at h),Nat.zero_le _,(fun _ h=>by simp[ck0] at h),htz⟩⟩) ?_ ?_ (fun i=>?_)
   · exact⟨rfl,rfl,rfl,rfl,rfl,rfl,trivial⟩
   ·
    exact(AaS (e:=25) (sz:=2)).trans (sli_nil.trans (show Ent _ [Row 25 2 (.slice none 0 0) 0 [],Ce b6 30 [vS [],vS [],vI 0,.slice none 0 0,.slice none 0 0,.slice ta ts.length tc,vS []],SlI none [],Row 60 4 (.slice ta ts.length tc) ts.length (ts.flatMap Aab),Row 101 2 (.slice ca qs.length cc) qs.length (qs.flatMap CdV.cells),CdM qs,Ce b2 30 [vS [],vS [],vI 0,.slice none 0 0,.slice none 0 0,.slice none 0 0,vS []]] from Aa0))
   obtain⟨⟨⟨⟨fa,fc⟩,pa,pc⟩,c,j⟩,hj,hf,hpc,hy⟩:=i;dsimp only at hj hf hpc hy ⊢;try dsimp only
   refine Qc (k:=Vv (k:=Wq (Za (k:=Zi (t:=fun h32=>?_) (f:=fun h32=>?_)))))
   ·
    refine Zk (k:=Ya (Za (k:=Zb (k:=Za (k:=?_)))));have hjl:j<qs.length:=by omega
    have hft:=Aje qs hjl { ck0 with tags:=ts };rw[hf,Option.bind_some] at hft;have hbd:AdG c qs[j].cd=none→Ab5 (Aa3 qs) { ck0 with tags:=ts }=none:=fun h=>ApC qs hjl hf h;obtain⟨q,hq⟩:∃q,q=qs[j]:=⟨_,rfl⟩
    have hqm:q∈qs:=by rw[hq];exact List.getElem_mem _
    have hqzz:=hqz q hqm;have hnq:=hne q hqm;rw[←hq] at hft hbd;refine wc_ent' (Aea hqm HasC.get) ?_;refine Zr (k:=Ye 2 (k:=?_));refine Abb (vs:=[_,_]) (sz:=2) Tryz.underlying101 rfl Abm rfl rfl (by rw[Aaj (sz:=2) (fun _=>rfl)];omega) rfl (by refine Ab1 (fun x=>?_) ?_<;>first | rfl | omega) rfl ?_;refine Zc [.int .u8 0,.slice none 0 0] (k:=fun b8=>Zp (k:=?_));rw[←hq];obtain⟨ql,qa,qc,xs⟩:=q;have hst:=Av3 c ql xs;have hcdm:=hcap _ hqm;have hcf:=hy.fn;dsimp only[CdV.cd] at hqzz hnq hqm hft hbd hcdm ⊢;rw[hst] at hft hbd;have hx0:∀i,i<xs.length→(xs.getD i []).length≤1073741824:=by
     intro i hi;have h1:=AdL xs;have h2:=AeX (l:=xs) hi;have h3:=Agr (l:=xs) (j:=i+1);omega
    have hxz:∀a∈xs,a.length≤1073741824:=fun a ha=>by
     obtain⟨i,hi,rfl⟩:=List.getElem_of_mem ha;have:=hx0 i hi;simpa [hi] using this
    have hx1:∀i,i<xs.length→0<(xs.getD i []).length:=fun i hi=>by
     have h1:xs.getD i []=xs[i]:=by simp[hi]
     rw[h1];exact List.length_pos_iff.2 (hnq _ (List.getElem_mem hi))
    have hys:∀c',AdG c ⟨ql,xs⟩=some c'→CkY (j+1) c':=fun c' h=>hy.step hqzz.2 hxz h;rw[hst] at hys;refine Wq (Qc (k:=Qx 1 27 (k:=Qv (k:=Wq (Zb (k:=?_))))));refine Abg (fun (u:Unit)=>[(0,vS s),(2,.pointer (some ⟨b2,0,none⟩)),(6,.pointer (some ⟨b6,0,none⟩)),(8,.pointer (some ⟨b8,0,none⟩)),(9,vI xs.length),(29,.slice ca qs.length cc),(30,vI qs.length),(31,vI j),(39,.bool (decide (ql.toNat=66∧xs.length=1)))]) (fun (u:Unit)=>[Ce b8 101 [vU (ql.toNat:Int),.slice qa xs.length qc],SlI qa (xs.map vS),Row 25 2 (.slice fa c.files.length fc) c.files.length (c.files.flatMap AaN),Ce b6 30 [vS c.base,vS c.comment,vI c.date,.slice fa c.files.length fc,.slice pa c.parents.length pc,.slice ta c.tags.length tc,vS c.user],SlI pa (c.parents.map vS),Row 60 4 (.slice ta c.tags.length tc) c.tags.length (c.tags.flatMap Aab),Row 101 2 (.slice ca qs.length cc) qs.length (qs.flatMap CdV.cells),CdM qs,Ce b2 30 [vS [],vS [],vI 0,.slice none 0 0,.slice none 0 0,.slice none 0 0,vS []]]) rfl (fun u=>?_) ?_
    ·
     try dsimp only
     refine Zi (t:=fun h39=>?_) (f:=fun h39=>?_)
     ·
      rw[if_pos h39] at hft hbd hys;refine Zr (k:=Qx 1 27 (k:=Ye 1 (m:=0) (k:=Yl (hv:=by exact Aa4 [] (m:=0) (by omega)) (k:=Vf 0 9 (k:=Zo (k:=Wn (Yb (Yb (Ya (Zr (k:=?_)))))))))));refine Qv (k:=Wn ?_);exact AcM
     ·
      rw[if_neg h39] at hft hbd hys;refine Abg (fun (u:Unit)=>[(0,vS s),(2,.pointer (some ⟨b2,0,none⟩)),(6,.pointer (some ⟨b6,0,none⟩)),(8,.pointer (some ⟨b8,0,none⟩)),(9,vI xs.length),(29,.slice ca qs.length cc),(30,vI qs.length),(31,vI j),(52,.bool (decide (ql.toNat=67∧xs.length=1∧((xs.getD 0 []).getD 0 0).toNat=46)))]) (fun (u:Unit)=>[Ce b8 101 [vU (ql.toNat:Int),.slice qa xs.length qc],SlI qa (xs.map vS),Row 25 2 (.slice fa c.files.length fc) c.files.length (c.files.flatMap AaN),Ce b6 30 [vS c.base,vS c.comment,vI c.date,.slice fa c.files.length fc,.slice pa c.parents.length pc,.slice ta c.tags.length tc,vS c.user],SlI pa (c.parents.map vS),Row 60 4 (.slice ta c.tags.length tc) c.tags.length (c.tags.flatMap Aab),Row 101 2 (.slice ca qs.length cc) qs.length (qs.flatMap CdV.cells),CdM qs,Ce b2 30 [vS [],vS [],vI 0,.slice none 0 0,.slice none 0 0,.slice none 0 0,vS []]]) rfl (fun u=>?_) ?_
      ·
       try dsimp only
       refine Zi (t:=fun h52=>?_) (f:=fun h52=>?_)
       ·
        rw[if_pos h52] at hft hbd hys;refine Qc (k:=Qx 1 27 (k:=Ye 1 (m:=0) (k:=Yl (hv:=by exact Aa4 [] (m:=0) (by omega)) (k:=?_))));have hx10:=hx1 0 (by omega);refine Aa6 (Ac5 (m:=1) Tryz.underlying9 rfl rfl rfl (by omega)) rfl ?_;refine Aag (Afy ((xs.getD 0 []).drop 1) (by rw[List.length_drop];have:=hx0 0 (by omega);omega)) rfl rfl rfl ?_;refine Vv (k:=?_);refine Aa6 (Aa7 (v:=vS ((AaB ((xs.getD 0 []).drop 1)).getD [])) rfl rfl) rfl ?_;refine Aa6 (Aa7 (v:=vB (AaB ((xs.getD 0 []).drop 1)).isSome) rfl rfl) rfl ?_;refine Qv (k:=Wq (Za (k:=Qc (k:=Qv (k:=Wq (Zi (t:=fun h78=>?_) (f:=fun h78=>?_)))))))
        ·
         refine Qc (k:=Vx (Ps [vS [],vS [],.int .i64 0,.slice none 0 0,.slice none 0 0,.slice none 0 0,vS []]) (k:=Zp (k:=Vv (k:=Wq (Zt (k:=Va (Vb (Vb (Va (Vi ?_))))))))));refine Vb (Va ?_);have hu:AaB ((xs.getD 0 []).drop 1)=none:=by cases e:AaB ((xs.getD 0 []).drop 1) with
          | none=>rfl
          | some v=>rw[e] at h78;simp at h78
         have hn:AaD s=none:=AqS hl (hrc.trans (hbd (by rw[hu];rfl)));rw[hn];refine Aa2 (ka0,ck0) (vs:=[_,_]) (Cs:=[Ce b2 30 (AaZ ka0 ck0)]) rfl (.cell (l:=AaZ ka0 ck0) (us:=AaZ ka0 ck0) rfl (Aax (T:=30)) Tryz.underlying30 rfl AjQ (by exact Nat.le_of_ble_eq_true rfl) rfl (.tmp rfl .nil)) rfl ⟨rfl,Nat.le_refl _⟩ ?_;exact ent_noCk.trans (show Ent _ [Row 25 2 (.slice none 0 0) 0 [],SlI none [],Row 60 4 (.slice none 0 0) 0 [],Ce b2 30 [vS [],vS [],vI 0,.slice none 0 0,.slice none 0 0,.slice none 0 0,vS []]] from Aa0)
        ·
         refine Zk (k:=Ya ?_);obtain⟨v,hv⟩:∃v,AaB ((xs.getD 0 []).drop 1)=some v:=by cases e:AaB ((xs.getD 0 []).drop 1) with
          | none=>rw[e] at h78;simp at h78
          | some v=>exact⟨v,rfl⟩
         rw[hv,Option.map_some] at hft hys;rw[hv,Option.getD_some];refine Zr (k:=Vv (k:=Vf 1 9 (k:=Zo (k:=Wn (Yb (Yb (Ya (Zr (k:=Qv (k:=Wn ?_))))))))));exact AcM
       ·
        rw[if_neg h52] at hft hbd hys;refine Abg (fun (u:Unit)=>[(0,vS s),(2,.pointer (some ⟨b2,0,none⟩)),(6,.pointer (some ⟨b6,0,none⟩)),(8,.pointer (some ⟨b8,0,none⟩)),(9,vI xs.length),(29,.slice ca qs.length cc),(30,vI qs.length),(31,vI j),(82,.bool (decide (ql.toNat=68∧xs.length=1)))]) (fun (u:Unit)=>[Ce b8 101 [vU (ql.toNat:Int),.slice qa xs.length qc],SlI qa (xs.map vS),Row 25 2 (.slice fa c.files.length fc) c.files.length (c.files.flatMap AaN),Ce b6 30 [vS c.base,vS c.comment,vI c.date,.slice fa c.files.length fc,.slice pa c.parents.length pc,.slice ta c.tags.length tc,vS c.user],SlI pa (c.parents.map vS),Row 60 4 (.slice ta c.tags.length tc) c.tags.length (c.tags.flatMap Aab),Row 101 2 (.slice ca qs.length cc) qs.length (qs.flatMap CdV.cells),CdM qs,Ce b2 30 [vS [],vS [],vI 0,.slice none 0 0,.slice none 0 0,.slice none 0 0,vS []]]) rfl (fun u=>?_) ?_
        ·
         try dsimp only
         refine Zi (t:=fun h82=>?_) (f:=fun h82=>?_)
         ·
          rw[if_pos h82] at hft hbd hys;refine Zr (k:=Qx 1 27 (k:=Ye 1 (m:=0) (k:=Yl (hv:=by exact Aa4 [] (m:=0) (by omega)) (k:=?_))));refine Aag (Aex (xs.getD 0 []) (by have:=hx0 0 (by omega);omega)) rfl rfl rfl ?_;refine Vf 2 3 (k:=Zo (k:=Wn (Yb (Yb (Ya (Zr (k:=Qv (k:=Wn ?_))))))));exact AcM
         ·
          rw[if_neg h82] at hft hbd hys;refine Abg (fun (u:Unit)=>[(0,vS s),(2,.pointer (some ⟨b2,0,none⟩)),(6,.pointer (some ⟨b6,0,none⟩)),(8,.pointer (some ⟨b8,0,none⟩)),(9,vI xs.length),(29,.slice ca qs.length cc),(30,vI qs.length),(31,vI j),(96,.bool (decide (ql.toNat=70∧xs.length=1)))]) (fun (u:Unit)=>[Ce b8 101 [vU (ql.toNat:Int),.slice qa xs.length qc],SlI qa (xs.map vS),Row 25 2 (.slice fa c.files.length fc) c.files.length (c.files.flatMap AaN),Ce b6 30 [vS c.base,vS c.comment,vI c.date,.slice fa c.files.length fc,.slice pa c.parents.length pc,.slice ta c.tags.length tc,vS c.user],SlI pa (c.parents.map vS),Row 60 4 (.slice ta c.tags.length tc) c.tags.length (c.tags.flatMap Aab),Row 101 2 (.slice ca qs.length cc) qs.length (qs.flatMap CdV.cells),CdM qs,Ce b2 30 [vS [],vS [],vI 0,.slice none 0 0,.slice none 0 0,.slice none 0 0,vS []]]) rfl (fun u=>?_) ?_
          ·
           try dsimp only
           refine Zi (t:=fun h96=>?_) (f:=fun h96=>?_)
           ·
            rw[if_pos h96] at hft hbd hys;refine Dw [Ce b8 101 [vU (ql.toNat:Int),.slice qa xs.length qc],SlI qa (xs.map vS)] (k:=?_);refine Di 0 (t:=Uf 3 26) (k:=Di 2 (t:=Uf 1 27) (k:=Di 3 (t:=Ul) (k:=?_)));refine Aa1 4 rfl rfl rfl (by kernel_rfl) (by kernel_rfl) (Aae (m:=0) (sz:=1) Tryz.underlying27 ti9 rfl rfl rfl rfl (by omega) (by first | (rw[List.length_map];omega) | (rw[Aaj (sz:=1) (fun _=>rfl)];omega) | (simp;omega)) (Nat.mul_one _)) ?_;refine Aa1 5 rfl rfl rfl (by kernel_rfl) (by kernel_rfl) (Aas Tryz.underlying9 rfl rfl (Aa4 [] (m:=0) (by omega))) ?_;refine Di 6 (t:=Ux (Ps [_,vS []])) (k:=?_);refine Aah 1 7 (by kernel_rfl) rfl rfl ?_ ?_
            ·
             refine Acs Tryz.underlying26 rfl rfl rfl rfl ?_;refine Dn 7 (k:=Nl [_] (cs:=[_,_]) (k:=fun b111=>Dn 8 (k:=?_)));refine AaT (sz:=2) (bytes:=32) Tryz.underlying26 AfU rfl rfl rfl rfl rfl rfl rfl (by rfl) (by rfl) (by omega) (by simp only[maxLen];omega) rfl (fun a112 c112=>?_);refine Di 9 (t:=Uf 3 26) (k:=Dn 10 (k:=No (k:=Dd (k:=Yb (Yb (Ya (Zr (k:=Qv (k:=Wn ?_)))))))));exact AcM
            ·
             refine Nl [_] (cs:=[_,_]) (k:=fun b111=>Dn 1 (k:=?_));refine Acs Tryz.underlying26 rfl rfl rfl rfl ?_;refine Dn 8 (k:=?_);refine AaT (sz:=2) (bytes:=32) Tryz.underlying26 AfU rfl rfl rfl rfl rfl rfl rfl (by rfl) (by rfl) (by omega) (by simp only[maxLen];omega) rfl (fun a112 c112=>?_);refine Di 9 (t:=Uf 3 26) (k:=Dn 10 (k:=No (k:=Dd (k:=Yb (Yb (Ya (Zr (k:=Qv (k:=Wn ?_)))))))));exact AcM
           ·
            rw[if_neg h96] at hft hbd hys;refine Abg (fun (u:Unit)=>[(0,vS s),(2,.pointer (some ⟨b2,0,none⟩)),(6,.pointer (some ⟨b6,0,none⟩)),(8,.pointer (some ⟨b8,0,none⟩)),(9,vI xs.length),(29,.slice ca qs.length cc),(30,vI qs.length),(31,vI j),(114,.bool (decide (ql.toNat=70∧xs.length=2)))]) (fun (u:Unit)=>[Ce b8 101 [vU (ql.toNat:Int),.slice qa xs.length qc],SlI qa (xs.map vS),Row 25 2 (.slice fa c.files.length fc) c.files.length (c.files.flatMap AaN),Ce b6 30 [vS c.base,vS c.comment,vI c.date,.slice fa c.files.length fc,.slice pa c.parents.length pc,.slice ta c.tags.length tc,vS c.user],SlI pa (c.parents.map vS),Row 60 4 (.slice ta c.tags.length tc) c.tags.length (c.tags.flatMap Aab),Row 101 2 (.slice ca qs.length cc) qs.length (qs.flatMap CdV.cells),CdM qs,Ce b2 30 [vS [],vS [],vI 0,.slice none 0 0,.slice none 0 0,.slice none 0 0,vS []]]) rfl (fun u=>?_) ?_
            ·
             try dsimp only
             refine Zi (t:=fun h114=>?_) (f:=fun h114=>?_)
             ·
              rw[if_pos h114] at hft hbd hys;refine Dw [Ce b8 101 [vU (ql.toNat:Int),.slice qa xs.length qc],SlI qa (xs.map vS)] (k:=?_);refine Di 0 (t:=Uf 3 26) (k:=Di 2 (t:=Uf 1 27) (k:=Di 3 (t:=Ul) (k:=?_)));refine Aa1 4 rfl rfl rfl (by kernel_rfl) (by kernel_rfl) (Aae (m:=0) (sz:=1) Tryz.underlying27 ti9 rfl rfl rfl rfl (by omega) (by first | (rw[List.length_map];omega) | (rw[Aaj (sz:=1) (fun _=>rfl)];omega) | (simp;omega)) (Nat.mul_one _)) ?_;refine Aa1 5 rfl rfl rfl (by kernel_rfl) (by kernel_rfl) (Aas Tryz.underlying9 rfl rfl (Aa4 [] (m:=0) (by omega))) ?_;refine Di 6 (t:=Uf 1 27) (k:=Di 7 (t:=Ul) (k:=?_));refine Aa1 8 rfl rfl rfl (by kernel_rfl) (by kernel_rfl) (Aae (m:=1) (sz:=1) Tryz.underlying27 ti9 rfl rfl rfl rfl (by omega) (by first | (rw[List.length_map];omega) | (rw[Aaj (sz:=1) (fun _=>rfl)];omega) | (simp;omega)) (Nat.mul_one _)) ?_;refine Aa1 9 rfl rfl rfl (by kernel_rfl) (by kernel_rfl) (Aas Tryz.underlying9 rfl rfl (Aa4 [] (m:=1) (by omega))) ?_;refine Di 10 (t:=Ux (Ps [_,_])) (k:=?_);refine Aah 1 11 (by kernel_rfl) rfl rfl ?_ ?_
              ·
               refine Acs Tryz.underlying26 rfl rfl rfl rfl ?_;refine Dn 11 (k:=Nl [_] (cs:=[_,_]) (k:=fun b133=>Dn 12 (k:=?_)));refine AaT (sz:=2) (bytes:=32) Tryz.underlying26 AfU rfl rfl rfl rfl rfl rfl rfl (by rfl) (by rfl) (by omega) (by simp only[maxLen];omega) rfl (fun a134 c134=>?_);refine Di 13 (t:=Uf 3 26) (k:=Dn 14 (k:=No (k:=Dd (k:=Yb (Yb (Ya (Zr (k:=Qv (k:=Wn ?_)))))))));exact AcM
              ·
               refine Nl [_] (cs:=[_,_]) (k:=fun b133=>Dn 1 (k:=?_));refine Acs Tryz.underlying26 rfl rfl rfl rfl ?_;refine Dn 12 (k:=?_);refine AaT (sz:=2) (bytes:=32) Tryz.underlying26 AfU rfl rfl rfl rfl rfl rfl rfl (by rfl) (by rfl) (by omega) (by simp only[maxLen];omega) rfl (fun a134 c134=>?_);refine Di 13 (t:=Uf 3 26) (k:=Dn 14 (k:=No (k:=Dd (k:=Yb (Yb (Ya (Zr (k:=Qv (k:=Wn ?_)))))))));exact AcM
             ·
              rw[if_neg h114] at hft hbd hys;refine Qc (k:=Qx 0 5 (k:=Qv (k:=Wq (Zi (t:=fun h136=>?_) (f:=fun h136=>?_)))))
              ·
               rw[if_pos (by omega)] at hft hbd hys;refine Zr (k:=Qx 1 27 (k:=Vf 4 27 (k:=Zo (k:=Wn (Yb (Yb (Ya (Zr (k:=Qv (k:=?_))))))))));refine Wn ?_;exact AcM
              ·
               rw[if_neg (by omega)] at hft hbd hys;refine Qc (k:=Qx 0 5 (k:=Qv (k:=Wq (Zi (t:=fun h143=>?_) (f:=fun h143=>?_)))))
               ·
                rw[if_pos (by omega)] at hft hbd hys;refine Zk (k:=Yb (Yb (Ya (Zr (k:=Qv (k:=Wn ?_))))));exact AcM
               ·
                rw[if_neg (by omega)] at hft hbd hys;refine Abg (fun (u:Unit)=>[(0,vS s),(2,.pointer (some ⟨b2,0,none⟩)),(6,.pointer (some ⟨b6,0,none⟩)),(8,.pointer (some ⟨b8,0,none⟩)),(9,vI xs.length),(29,.slice ca qs.length cc),(30,vI qs.length),(31,vI j),(147,.bool (decide (ql.toNat=85∧xs.length=1)))]) (fun (u:Unit)=>[Ce b8 101 [vU (ql.toNat:Int),.slice qa xs.length qc],SlI qa (xs.map vS),Row 25 2 (.slice fa c.files.length fc) c.files.length (c.files.flatMap AaN),Ce b6 30 [vS c.base,vS c.comment,vI c.date,.slice fa c.files.length fc,.slice pa c.parents.length pc,.slice ta c.tags.length tc,vS c.user],SlI pa (c.parents.map vS),Row 60 4 (.slice ta c.tags.length tc) c.tags.length (c.tags.flatMap Aab),Row 101 2 (.slice ca qs.length cc) qs.length (qs.flatMap CdV.cells),CdM qs,Ce b2 30 [vS [],vS [],vI 0,.slice none 0 0,.slice none 0 0,.slice none 0 0,vS []]]) rfl (fun u=>?_) ?_
                ·
                 try dsimp only
                 refine Zi (t:=fun h147=>?_) (f:=fun h147=>?_)
                 ·
                  rw[if_pos h147] at hft hbd hys;refine Zr (k:=Qx 1 27 (k:=Ye 1 (m:=0) (k:=Yl (hv:=by exact Aa4 [] (m:=0) (by omega)) (k:=Vf 6 9 (k:=Zo (k:=Wn (Yb (Yb (Ya (Zr (k:=?_)))))))))));refine Qv (k:=Wn ?_);exact AcM
                 ·
                  rw[if_neg h147] at hft hbd hys;refine Qc (k:=Vx (Ps [vS [],vS [],.int .i64 0,.slice none 0 0,.slice none 0 0,.slice none 0 0,vS []]) (k:=Zp (k:=Vv (k:=Wq (Zt (k:=Vb (Vb (Va (Vi (Vb ?_))))))))));refine Va ?_;have hn:AaD s=none:=AqS hl (hrc.trans (hbd rfl));rw[hn];refine Aa2 (ka0,ck0) (vs:=[_,_]) (Cs:=[Ce b2 30 (AaZ ka0 ck0)]) rfl (.cell (l:=AaZ ka0 ck0) (us:=AaZ ka0 ck0) rfl (Aax (T:=30)) Tryz.underlying30 rfl AjQ (by exact Nat.le_of_ble_eq_true rfl) rfl (.tmp rfl .nil)) rfl ⟨rfl,Nat.le_refl _⟩ ?_;exact ent_noCk.trans (show Ent _ [Row 25 2 (.slice none 0 0) 0 [],SlI none [],Row 60 4 (.slice none 0 0) 0 [],Ce b2 30 [vS [],vS [],vI 0,.slice none 0 0,.slice none 0 0,.slice none 0 0,vS []]] from Aa0)
                ·
                 refine Zr (k:=Qx 0 5 (k:=Qv (k:=Gi 3 (t:=fun h151=>?_) (f:=fun h151=>?_))))
                 ·
                  refine J1 (k:=J1 (k:=P1 (k:=Vv (k:=Wn ?_))));exact Aid
                 ·
                  refine O0 (k:=O0 (k:=P0 (k:=Vv (k:=Wn ?_))));exact Aid
            ·
             refine Zr (k:=Qx 0 5 (k:=Qv (k:=Gi 3 (t:=fun h118=>?_) (f:=fun h118=>?_))))
             ·
              refine J1 (k:=J1 (k:=P1 (k:=Vv (k:=Wn ?_))));exact Aie
             ·
              refine O0 (k:=O0 (k:=P0 (k:=Vv (k:=Wn ?_))));exact Aie
          ·
           refine Zr (k:=Qx 0 5 (k:=Qv (k:=Gi 3 (t:=fun h100=>?_) (f:=fun h100=>?_))))
           ·
            refine J1 (k:=J1 (k:=P1 (k:=Vv (k:=Wn ?_))));exact AiZ
           ·
            refine O0 (k:=O0 (k:=P0 (k:=Vv (k:=Wn ?_))));exact AiZ
        ·
         refine Zr (k:=Qx 0 5 (k:=Qv (k:=Gi 3 (t:=fun h86=>?_) (f:=fun h86=>?_))))
         ·
          refine J1 (k:=J1 (k:=P1 (k:=Vv (k:=Wn ?_))));exact Aj0
         ·
          refine O0 (k:=O0 (k:=P0 (k:=Vv (k:=Wn ?_))));exact Aj0
      ·
       refine Zr (k:=Qx 0 5 (k:=Qv (k:=Gi 3 (t:=fun h56=>?_) (f:=fun h56=>?_))))
       ·
        refine J1 (k:=J1 (k:=P1 (k:=Vv (k:=Gi 7 (t:=fun h60=>?_) (f:=fun h60=>?_)))))
        ·
         refine I1 (k:=Vf 1 27 (k:=I1 (k:=Zd (k:=I1 (k:=Ye 1 (m:=0) (k:=I1 (k:=Yl (hv:=by exact Aa4 [] (m:=0) (by omega)) (k:=I1 (k:=?_)))))))));have hx10:=hx1 0 (by omega);refine Aa6 (Abt (m:=0) Tryz.underlying9 rfl rfl rfl (by omega)) rfl ?_;refine J1 (k:=P1 (k:=Vv (k:=Wn ?_)));exact Agi
        ·
         refine O0 (k:=O0 (k:=O0 (k:=O0 (k:=O0 (k:=O0 (k:=P0 (k:=Vv (k:=Wn ?_))))))));exact Agi
       ·
        refine O0 (k:=O0 (k:=P0 (k:=Vv (k:=O0 (k:=O0 (k:=O0 (k:=O0 (k:=O0 (k:=O0 (k:=P0 (k:=Vv (k:=?_))))))))))));refine Wn ?_;exact Agi
    ·
     refine Zr (k:=Qx 0 5 (k:=Qv (k:=Gi 3 (t:=fun h43=>?_) (f:=fun h43=>?_))))
     ·
      refine J1 (k:=J1 (k:=P1 (k:=Vv (k:=Wn ?_))));exact Aj1
     ·
      refine O0 (k:=O0 (k:=P0 (k:=Vv (k:=Wn ?_))));exact Aj1
   ·
    refine Ze (k:=Xa (Xi (Xb (Ya (Za (k:=Za (k:=?_)))))));have hjl:j=qs.length:=by omega
    subst hjl;rw[List.take_length] at hf;have hrk:=hrc.trans hf;have hz:=hy.ckZ (by omega);have hRt:=AgW (Bf:=Row 25 2 (.slice fa c.files.length fc) c.files.length (c.files.flatMap AaN)) (Bt:=Row 60 4 (.slice ta c.tags.length tc) c.tags.length (c.tags.flatMap Aab)) ⟨fa,fc,pa,pc,ta,tc⟩ c hz AaC AaC hpc;refine Zr (k:=Zm [_,_,_,_,_,_,_] (k:=?_));refine Aaa hRt rfl rfl rfl ?_;refine Qv (k:=Gi 3 (t:=fun h164=>?_) (f:=fun h164=>?_))
    ·
     refine O1 (k:=O1 (k:=O1 (k:=O1 (k:=P1 (k:=Wq (Z1 (k:=Qc (k:=Vx (Ps [vS [],vS [],.int .i64 0,.slice none 0 0,.slice none 0 0,.slice none 0 0,vS []]) (k:=Zp (k:=Vv (k:=?_)))))))))));refine Wq (Zt (k:=Va ?_));exact Anj
    ·
     have hR:AbD c:=Classical.not_not.1 h164;have hCk:=Ad8 (Bf:=Row 25 2 (.slice fa c.files.length fc) c.files.length (c.files.flatMap AaN)) (Bt:=Row 60 4 (.slice ta c.tags.length tc) c.tags.length (c.tags.flatMap Aab)) ⟨fa,fc,pa,pc,ta,tc⟩ c hz hR.date (Nat.le_trans (Aev hR) (by omega)) AaC AaC hpc;refine I0 (k:=Zm [_,_,_,_,_,_,_] (k:=I0 (k:=?_)));refine Aaa hCk rfl rfl rfl ?_;refine J0 (k:=J0 (k:=P0 (k:=Wq (Zi (t:=fun h169=>?_) (f:=fun h169=>?_)))))
     ·
      refine Qc (k:=Vx (Ps [vS [],vS [],.int .i64 0,.slice none 0 0,.slice none 0 0,.slice none 0 0,vS []]) (k:=Zp (k:=Vv (k:=Wq (Zt (k:=Va ?_))))));exact Anj
     ·
      refine Zk (k:=Ya (Qc (k:=Zm [_,_,_,_,_,_,_] (k:=Zp (k:=Vv (k:=Wq (Zt (k:=?_))))))));have hk:AaD s=some c:=readK_iff.2 ⟨hR,Classical.not_not.1 h169⟩;rw[hk];refine Aa2 (⟨fa,fc,pa,pc,ta,tc⟩,c) (vs:=[_,_]) (Cs:=[Ce b2 30 (AaZ ⟨fa,fc,pa,pc,ta,tc⟩ c)]) rfl (.cell (l:=AaZ ⟨fa,fc,pa,pc,ta,tc⟩ c) (us:=AaZ ⟨fa,fc,pa,pc,ta,tc⟩ c) rfl (Aax (T:=30)) Tryz.underlying30 rfl AjQ (by exact Nat.le_of_ble_eq_true rfl) rfl (.tmp rfl .nil)) rfl ⟨rfl,hpc⟩ ?_;exact(show Ent _ [Row 25 2 (.slice fa c.files.length fc) c.files.length (c.files.flatMap AaN),SlI pa (c.parents.map vS),Row 60 4 (.slice ta c.tags.length tc) c.tags.length (c.tags.flatMap Aab),Ce b2 30 [vS c.base,vS c.comment,vI c.date,.slice fa c.files.length fc,.slice pa c.parents.length pc,.slice ta c.tags.length tc,vS c.user]] from Aa0)
end
end Go.Proofs.YtdnoacgopfcpbaaGreat
