/- Texts of this proof, put together: SR10h, SR10i, SR10j, SR10k, PNames, PLinks. -/
import Derived.Test.YtdnoacgopfcpbaaGreatQ20
set_option linter.unusedVariables false
set_option linter.unusedSimpArgs false
namespace Go.Proofs.YtdnoacgopfcpbaaGreat
section
set_option maxRecDepth 100000
theorem AtD (c:Ck) (ql:UInt8) (xs:List Bs):Adh c ⟨ql,xs⟩ =
    if ql.toNat=66∧xs.length=1 then some { c with base:=xs.getD 0 [] }
    else if ql.toNat=67∧xs.length=1∧((xs.getD 0 []).getD 0 0).toNat=46 then (Aax ((xs.getD 0 []).drop 1)).map (fun t=>{ c with comment:=t })
    else if ql.toNat=68∧xs.length=1 then some { c with date:=rdI (xs.getD 0 []) }
    else if ql.toNat=70∧xs.length=1 then some { c with files:=c.files++[(xs.getD 0 [],[])] }
    else if ql.toNat=70∧xs.length=2 then some { c with files:=c.files++[(xs.getD 0 [],xs.getD 1 [])] }
    else if ql.toNat=80 then some { c with parents:=xs }
    else if ql.toNat=84 then some c
    else if ql.toNat=85∧xs.length=1 then some { c with user:=xs.getD 0 [] }
    else none:=by
 simp only[Adh,←UInt8.toNat_inj];rfl
theorem AfF {p q:Prop} [Decidable p] [Decidable q] (h:p↔q):some (Value.bool (decide p))=some (Value.bool (decide q)):=by rw[decide_eq_decide.2 h]
theorem Ahg {q:Prop} [Decidable q] (h:¬q):some (Value.bool false)=some (Value.bool (decide q)):=by rw[decide_eq_false h]
theorem Acp {G:Prop} (h:G:=by
    have hql2:∀f:Bs×Bs,(c.files++[f]).length=c.files.length+1:=fun f=>by simp
    first
    | exact Aa6 ⟨(((fa,fc),pa,pc),_,j+1),by dsimp only;omega,hft,hpc,hys _ rfl⟩ (by dsimp only;omega) ⟨rfl,rfl,rfl,rfl,rfl,rfl,trivial⟩ Aa0
    | exact Aa6 ⟨(((fa,fc),qa,qc),_,j+1),by dsimp only;omega,hft,hcdm,hys _ rfl⟩ (by dsimp only;omega) ⟨rfl,rfl,rfl,rfl,rfl,rfl,trivial⟩ Aa0
    | (refine Aa6 ⟨(((a112,c112),pa,pc),_,j+1),by dsimp only;omega,hft,hpc,hys _ rfl⟩ (by dsimp only;omega) ⟨rfl,rfl,rfl,rfl,rfl,rfl,trivial⟩ ?_
       dsimp only
       rw[hql2]
       exact Aaa (AaS (by rfl) (by rw[AbF];rfl)) Aa0)
    | (refine Aa6 ⟨(((a134,c134),pa,pc),_,j+1),by dsimp only;omega,hft,hpc,hys _ rfl⟩ (by dsimp only;omega) ⟨rfl,rfl,rfl,rfl,rfl,rfl,trivial⟩ ?_
       dsimp only
       rw[hql2]
       exact Aaa (AaS (by rfl) (by rw[AbF];rfl)) Aa0)):G:=h
theorem Ahp {G:Prop} (h:G:=by
    refine Aa6 () trivial ⟨rfl,rfl,rfl,rfl,rfl,rfl,rfl,rfl,?_,trivial⟩ Aa0
    first
    | exact Ahg (by omega)
    | exact AfF (by omega)):G:=h
theorem Ahq {G:Prop} (h:G:=by
    refine Aa6 () trivial ⟨rfl,rfl,rfl,rfl,rfl,rfl,rfl,rfl,?_,trivial⟩ Aa0
    first
    | exact Ahg (by omega)
    | exact AfF (by omega)):G:=h
theorem Ai9 {G:Prop} (h:G:=by
    refine Aa6 () trivial ⟨rfl,rfl,rfl,rfl,rfl,rfl,rfl,rfl,?_,trivial⟩ Aa0
    first
    | exact Ahg (by omega)
    | exact AfF (by omega)):G:=h
theorem Aia {G:Prop} (h:G:=by
    refine Aa6 () trivial ⟨rfl,rfl,rfl,rfl,rfl,rfl,rfl,rfl,?_,trivial⟩ Aa0
    first
    | exact Ahg (by omega)
    | exact AfF (by omega)):G:=h
theorem AfJ {G:Prop} (h:G:=by
    refine Aa6 () trivial ⟨rfl,rfl,rfl,rfl,rfl,rfl,rfl,rfl,?_,trivial⟩ Aa0
    first
    | exact Ahg (by omega)
    | exact AfF (by omega)):G:=h
theorem Aib {G:Prop} (h:G:=by
    refine Aa6 () trivial ⟨rfl,rfl,rfl,rfl,rfl,rfl,rfl,rfl,?_,trivial⟩ Aa0
    first
    | exact Ahg (by omega)
    | exact AfF (by omega)):G:=h
theorem Amj {G:Prop} (h:G:=by
    have hn:Abf s=none:=AtF hl hrk (fun h=>by
     first
     | exact h164 h.1
     | exact h169 h.2)
    rw[hn]
    refine Aa2 (ka0,ck0) (vs:=[_,_]) (Cs:=[Ce b2 30 (AaN ka0 ck0)]) rfl (.cell (l:=AaN ka0 ck0) (us:=AaN ka0 ck0) rfl (AaL (T:=30)) Tryz.underlying30 rfl Aj4 (by exact Nat.le_of_ble_eq_true rfl) rfl (.tmp rfl .nil)) rfl ⟨rfl,Nat.le_refl _⟩ ?_
    exact ent_noCk.trans (show Ent _ [Row 25 2 (.slice none 0 0) 0 [],SlI none [],Row 60 4 (.slice none 0 0) 0 [],Ce b2 30 [vS [],vS [],vI 0,.slice none 0 0,.slice none 0 0,.slice none 0 0,vS []]] from Aa0)):G:=h
set_option maxHeartbeats 4000000 in
theorem Agz (s : Bs) (hs:s.length≤1073741824):Sp Tryz.prog 24 [vS s] [] (X:=CkA×Ck) (fun x=>.tuple #[.agg (AaN x.1 x.2).toArray,vB (Abf s).isSome]) (fun x=>x.2=(Abf s).getD ck0∧x.2.parents.length≤x.1.pc) ckH:=by
 refine Sp.body (n:=172) Tryz.call24 Tryz.func24 rfl rfl rfl ?_
 refine Qc (k:=Zc [vS [],vS [],.int .i64 0,.slice none 0 0,.slice none 0 0,.slice none 0 0,vS []] (k:=fun b2=>Vv (k:=Wq (Qc (k:=Vv (k:=?_))))))
 refine Aar (AkV s hs) rfl rfl rfl (fun x14 hx14=>?_)
 obtain⟨⟨ca,cc⟩,qs⟩:=x14
 dsimp only[Aec,ApG] at hx14 ⊢
 refine Vv (k:=?_)
 refine Aa5 (Aa9 (v:=.slice ca qs.length cc) rfl rfl) rfl ?_
 refine Aa5 (Aa9 (v:=vB (AbS s).isSome) rfl rfl) rfl ?_
 refine Qv (k:=Wq (Za (k:=Qc (k:=Qv (k:=Wq (Zi (t:=fun h18=>?_) (f:=fun h18=>?_)))))))
 ·
  refine Qc (k:=Vx (Ps [vS [],vS [],.int .i64 0,.slice none 0 0,.slice none 0 0,.slice none 0 0,vS []]) (k:=Zp (k:=Vv (k:=Wq (Zt (k:=Va ?_))))))
  have hn:Abf s=none:=AeG fun c h=>by
   rw[readC_iff.2 h.reads] at h18;simp at h18
  rw[hn]
  refine Aa2 (ka0,ck0) (vs:=[_,_]) (Cs:=[Ce b2 30 (AaN ka0 ck0)]) rfl (.cell (l:=AaN ka0 ck0) (us:=AaN ka0 ck0) rfl (AaL (T:=30)) Tryz.underlying30 rfl Aj4 (by exact Nat.le_of_ble_eq_true rfl) rfl (.tmp rfl .nil)) rfl ⟨rfl,Nat.le_refl _⟩ ?_
  exact ent_noCk.trans (show Ent _ [Row 25 2 (.slice none 0 0) 0 [],SlI none [],Row 60 4 (.slice none 0 0) 0 [],Ce b2 30 [vS [],vS [],vI 0,.slice none 0 0,.slice none 0 0,.slice none 0 0,vS []]] from Aa0)
 ·
  have hl:AbS s=some (Aa3 qs):=by cases e:AbS s with
   | none=>rw[e] at h18;simp at h18
   | some l=>rw[e] at hx14;rw[hx14];rfl
  have hrd:=readC_iff.1 hl
  have hne:=Aos hl
  have hbz:(Aau (Aa3 qs)).length≤1073741824:=by
   have h1:=congrArg List.length hrd.2
   rw[AcD,AbT] at h1;omega
  obtain⟨hqn,hqz⟩:=AcT hbz
  have hz:=fun x=>Aev hbz x
  refine Zk (k:=Ya (Qc (k:=Zc [vS [],vS [],.int .i64 0,.slice none 0 0,.slice none 0 0,.slice none 0 0,vS []] (k:=fun b6=>Wq (Qc (k:=Vv (k:=?_)))))))
  refine Aar (Aja (B:=Row 101 2 (.slice ca qs.length cc) qs.length (qs.flatMap CdV.cells)) (a:=ca) qs.length cc qs AaJ rfl hbz) rfl rfl rfl (fun x22 hx22=>?_)
  obtain⟨⟨ta,tc⟩,ts⟩:=x22
  dsimp only[Aof,Aog] at hx22 ⊢
  refine Vv (k:=?_)
  refine Aa5 (Aa9 (v:=.slice ta ts.length tc) rfl rfl) rfl ?_
  refine Aa5 (Aa9 (v:=vB (AaM (Aa7 84 (Aa3 qs))).isSome) rfl rfl) rfl ?_
  refine Vf 5 28 (k:=Zo (k:=Vv (k:=Wq (Za (k:=Qc (k:=Qv (k:=Wq (Zi (t:=fun h27=>?_) (f:=fun h27=>?_)))))))))
  ·
   refine Qc (k:=Vx (Ps [vS [],vS [],.int .i64 0,.slice none 0 0,.slice none 0 0,.slice none 0 0,vS []]) (k:=Zp (k:=Vv (k:=Wq (Zt (k:=Va ?_))))))
   have hn:Abf s=none:=ApF hl (by
    rw[AkU]
    cases e:AaM (Aa7 84 (Aa3 qs)) with
    | none=>rfl
    | some ts=>rw[e] at h27;simp at h27)
   rw[hn]
   refine Aa2 (ka0,ck0) (vs:=[_,_]) (Cs:=[Ce b2 30 (AaN ka0 ck0)]) rfl (.cell (l:=AaN ka0 ck0) (us:=AaN ka0 ck0) rfl (AaL (T:=30)) Tryz.underlying30 rfl Aj4 (by exact Nat.le_of_ble_eq_true rfl) rfl (.tmp rfl .nil)) rfl ⟨rfl,Nat.le_refl _⟩ ?_
   exact ent_noCk.trans (show Ent _ [Row 25 2 (.slice none 0 0) 0 [],SlI none [],Row 60 4 (.slice none 0 0) 0 [],Ce b2 30 [vS [],vS [],vI 0,.slice none 0 0,.slice none 0 0,.slice none 0 0,vS []]] from Aa0)
  ·
   refine Zk (k:=Ya (Za (k:=Za (k:=?_))))
   have hts:AaM (Aa7 84 (Aa3 qs))=some ts:=by cases e:AaM (Aa7 84 (Aa3 qs)) with
    | none=>rw[e] at h27;simp at h27
    | some us=>rw[e] at hx22;rw[hx22];rfl
   have hrc:AkU (Aa3 qs)=AaW (Aa3 qs) { ck0 with tags:=ts }:=by rw[AkU,hts]
   have htz:TgZ ts:=by
    obtain⟨h1,h2⟩:=Ait (N:=1073741824) (fun xs hx a ha=>((hz 84).2 xs hx).2 a ha) hts
    have h3:=(hz 84).1
    exact⟨by omega,fun t ht=>by have:=h2 t ht;omega⟩
   refine Adn (A:=CdM qs) HasC.get AqR (fun hcap=>?_)
   refine Zr (k:=Qv (k:=Vv (k:=Wq (Zb (k:=?_)))))
   refine Aan (fun (i:{ x:((Option Addr×Nat)×(Option Addr×Nat))×Ck×Nat // x.2.2≤qs.length∧AaW (Aa3 (qs.take x.2.2)) { ck0 with tags:=ts }=some x.2.1∧x.2.1.parents.length≤x.1.2.2∧CkY x.2.2 x.2.1 })=>[(0,vS s),(2,.pointer (some ⟨b2,0,none⟩)),(6,.pointer (some ⟨b6,0,none⟩)),(29,.slice ca qs.length cc),(30,vI qs.length),(31,vI i.1.2.2)]) (fun (i:{ x:((Option Addr×Nat)×(Option Addr×Nat))×Ck×Nat // x.2.2≤qs.length∧AaW (Aa3 (qs.take x.2.2)) { ck0 with tags:=ts }=some x.2.1∧x.2.1.parents.length≤x.1.2.2∧CkY x.2.2 x.2.1 })=>[Row 25 2 (.slice i.1.1.1.1 i.1.2.1.files.length i.1.1.1.2) i.1.2.1.files.length (i.1.2.1.files.flatMap AaG),Ce b6 30 [vS i.1.2.1.base,vS i.1.2.1.comment,vI i.1.2.1.date,.slice i.1.1.1.1 i.1.2.1.files.length i.1.1.1.2,.slice i.1.1.2.1 i.1.2.1.parents.length i.1.1.2.2,.slice ta i.1.2.1.tags.length tc,vS i.1.2.1.user],SlI i.1.1.2.1 (i.1.2.1.parents.map vS),Row 60 4 (.slice ta i.1.2.1.tags.length tc) i.1.2.1.tags.length (i.1.2.1.tags.flatMap Aae),Row 101 2 (.slice ca qs.length cc) qs.length (qs.flatMap CdV.cells),CdM qs,Ce b2 30 [vS [],vS [],vI 0,.slice none 0 0,.slice none 0 0,.slice none 0 0,vS []]]) (fun (i:{ x:((Option Addr×Nat)×(Option Addr×Nat))×Ck×Nat // x.2.2≤qs.length∧AaW (Aa3 (qs.take x.2.2)) { ck0 with tags:=ts }=some x.2.1∧x.2.1.parents.length≤x.1.2.2∧CkY x.2.2 x.2.1 })=>qs.length-i.1.2.2) rfl (⟨(((none,0),(none,0)),{ ck0 with tags:=ts },0),Nat.zero_le _,rfl,Nat.le_refl _,⟨Nat.zero_le _,Nat.zero_le _,Nat.zero_le _,Nat.zero_le _,(fun _ h=>by simp[ck0] at h),Nat.zero_le _,(fun _ h=>by simp[ck0] at h),htz⟩⟩) ?_ ?_ (fun i=>?_)
   · exact⟨rfl,rfl,rfl,rfl,rfl,rfl,trivial⟩
   ·
    exact(AaV (e:=25) (sz:=2)).trans (sli_nil.trans (show Ent _ [Row 25 2 (.slice none 0 0) 0 [],Ce b6 30 [vS [],vS [],vI 0,.slice none 0 0,.slice none 0 0,.slice ta ts.length tc,vS []],SlI none [],Row 60 4 (.slice ta ts.length tc) ts.length (ts.flatMap Aae),Row 101 2 (.slice ca qs.length cc) qs.length (qs.flatMap CdV.cells),CdM qs,Ce b2 30 [vS [],vS [],vI 0,.slice none 0 0,.slice none 0 0,.slice none 0 0,vS []]] from Aa0))
   obtain⟨⟨⟨⟨fa,fc⟩,pa,pc⟩,c,j⟩,hj,hf,hpc,hy⟩:=i
   dsimp only at hj hf hpc hy ⊢
   try dsimp only
   refine Qc (k:=Vv (k:=Wq (Za (k:=Zi (t:=fun h32=>?_) (f:=fun h32=>?_)))))
   ·
    refine Zk (k:=Ya (Za (k:=Zb (k:=Za (k:=?_)))))
    have hjl:j<qs.length:=by omega
    have hft:=Aiq qs hjl { ck0 with tags:=ts }
    rw[hf,Option.bind_some] at hft
    have hbd:Adh c qs[j].cd=none→AaW (Aa3 qs) { ck0 with tags:=ts }=none:=fun h=>Aoq qs hjl hf h
    obtain⟨q,hq⟩:∃q,q=qs[j]:=⟨_,rfl⟩
    have hqm:q∈qs:=by rw[hq];exact List.getElem_mem _
    have hqzz:=hqz q hqm
    have hnq:=hne q hqm
    rw[←hq] at hft hbd
    refine wc_ent' (AeT hqm HasC.get) ?_
    refine Zr (k:=Ye 2 (k:=?_))
    refine Ab9 (vs:=[_,_]) (sz:=2) Tryz.underlying101 rfl Abv rfl rfl (by rw[Aal (sz:=2) (fun _=>rfl)];omega) rfl (by refine AaX (fun x=>?_) ?_<;>first | rfl | omega) rfl ?_
    refine Zc [.int .u8 0,.slice none 0 0] (k:=fun b8=>Zp (k:=?_))
    rw[←hq]
    obtain⟨ql,qa,qc,xs⟩:=q
    have hst:=AtD c ql xs
    have hcdm:=hcap _ hqm
    have hcf:=hy.fn
    dsimp only[CdV.cd] at hqzz hnq hqm hft hbd hcdm ⊢
    rw[hst] at hft hbd
    have hx0:∀i,i<xs.length→(xs.getD i []).length≤1073741824:=by
     intro i hi
     have h1:=AdQ xs
     have h2:=Afm (l:=xs) hi
     have h3:=Ah9 (l:=xs) (j:=i+1)
     omega
    have hxz:∀a∈xs,a.length≤1073741824:=fun a ha=>by
     obtain⟨i,hi,rfl⟩:=List.getElem_of_mem ha
     have:=hx0 i hi
     simpa [hi] using this
    have hx1:∀i,i<xs.length→0<(xs.getD i []).length:=fun i hi=>by
     have h1:xs.getD i []=xs[i]:=by simp[hi]
     rw[h1]
     exact List.length_pos_iff.2 (hnq _ (List.getElem_mem hi))
    have hys:∀c',Adh c ⟨ql,xs⟩=some c'→CkY (j+1) c':=fun c' h=>hy.step hqzz.2 hxz h
    rw[hst] at hys
    refine Wq (Qc (k:=Qx 1 27 (k:=Qv (k:=Wq (Zb (k:=?_))))))
    refine Abd (fun (u:Unit)=>[(0,vS s),(2,.pointer (some ⟨b2,0,none⟩)),(6,.pointer (some ⟨b6,0,none⟩)),(8,.pointer (some ⟨b8,0,none⟩)),(9,vI xs.length),(29,.slice ca qs.length cc),(30,vI qs.length),(31,vI j),(39,.bool (decide (ql.toNat=66∧xs.length=1)))]) (fun (u:Unit)=>[Ce b8 101 [vU (ql.toNat:Int),.slice qa xs.length qc],SlI qa (xs.map vS),Row 25 2 (.slice fa c.files.length fc) c.files.length (c.files.flatMap AaG),Ce b6 30 [vS c.base,vS c.comment,vI c.date,.slice fa c.files.length fc,.slice pa c.parents.length pc,.slice ta c.tags.length tc,vS c.user],SlI pa (c.parents.map vS),Row 60 4 (.slice ta c.tags.length tc) c.tags.length (c.tags.flatMap Aae),Row 101 2 (.slice ca qs.length cc) qs.length (qs.flatMap CdV.cells),CdM qs,Ce b2 30 [vS [],vS [],vI 0,.slice none 0 0,.slice none 0 0,.slice none 0 0,vS []]]) rfl (fun u=>?_) ?_
    ·
     try dsimp only
     refine Zi (t:=fun h39=>?_) (f:=fun h39=>?_)
     ·
      rw[if_pos h39] at hft hbd hys
      refine Zr (k:=Qx 1 27 (k:=Ye 1 (m:=0) (k:=Yl (hv:=by exact Aa4 [] (m:=0) (by omega)) (k:=Vf 0 9 (k:=Zo (k:=Wn (Yb (Yb (Ya (Zr (k:=?_)))))))))))
      refine Qv (k:=Wn ?_)
      exact Acp
     ·
      rw[if_neg h39] at hft hbd hys
      refine Abd (fun (u:Unit)=>[(0,vS s),(2,.pointer (some ⟨b2,0,none⟩)),(6,.pointer (some ⟨b6,0,none⟩)),(8,.pointer (some ⟨b8,0,none⟩)),(9,vI xs.length),(29,.slice ca qs.length cc),(30,vI qs.length),(31,vI j),(52,.bool (decide (ql.toNat=67∧xs.length=1∧((xs.getD 0 []).getD 0 0).toNat=46)))]) (fun (u:Unit)=>[Ce b8 101 [vU (ql.toNat:Int),.slice qa xs.length qc],SlI qa (xs.map vS),Row 25 2 (.slice fa c.files.length fc) c.files.length (c.files.flatMap AaG),Ce b6 30 [vS c.base,vS c.comment,vI c.date,.slice fa c.files.length fc,.slice pa c.parents.length pc,.slice ta c.tags.length tc,vS c.user],SlI pa (c.parents.map vS),Row 60 4 (.slice ta c.tags.length tc) c.tags.length (c.tags.flatMap Aae),Row 101 2 (.slice ca qs.length cc) qs.length (qs.flatMap CdV.cells),CdM qs,Ce b2 30 [vS [],vS [],vI 0,.slice none 0 0,.slice none 0 0,.slice none 0 0,vS []]]) rfl (fun u=>?_) ?_
      ·
       try dsimp only
       refine Zi (t:=fun h52=>?_) (f:=fun h52=>?_)
       ·
        rw[if_pos h52] at hft hbd hys
        refine Qc (k:=Qx 1 27 (k:=Ye 1 (m:=0) (k:=Yl (hv:=by exact Aa4 [] (m:=0) (by omega)) (k:=?_))))
        have hx10:=hx1 0 (by omega)
        refine Aa5 (AbM (m:=1) Tryz.underlying9 rfl rfl rfl (by omega)) rfl ?_
        refine Aag (Af5 ((xs.getD 0 []).drop 1) (by rw[List.length_drop];have:=hx0 0 (by omega);omega)) rfl rfl rfl ?_
        refine Vv (k:=?_)
        refine Aa5 (Aa9 (v:=vS ((Aax ((xs.getD 0 []).drop 1)).getD [])) rfl rfl) rfl ?_
        refine Aa5 (Aa9 (v:=vB (Aax ((xs.getD 0 []).drop 1)).isSome) rfl rfl) rfl ?_
        refine Qv (k:=Wq (Za (k:=Qc (k:=Qv (k:=Wq (Zi (t:=fun h78=>?_) (f:=fun h78=>?_)))))))
        ·
         refine Qc (k:=Vx (Ps [vS [],vS [],.int .i64 0,.slice none 0 0,.slice none 0 0,.slice none 0 0,vS []]) (k:=Zp (k:=Vv (k:=Wq (Zt (k:=Va (Vb (Vb (Va (Vi ?_))))))))))
         refine Vb (Va ?_)
         have hu:Aax ((xs.getD 0 []).drop 1)=none:=by cases e:Aax ((xs.getD 0 []).drop 1) with
          | none=>rfl
          | some v=>rw[e] at h78;simp at h78
         have hn:Abf s=none:=ApF hl (hrc.trans (hbd (by rw[hu];rfl)))
         rw[hn]
         refine Aa2 (ka0,ck0) (vs:=[_,_]) (Cs:=[Ce b2 30 (AaN ka0 ck0)]) rfl (.cell (l:=AaN ka0 ck0) (us:=AaN ka0 ck0) rfl (AaL (T:=30)) Tryz.underlying30 rfl Aj4 (by exact Nat.le_of_ble_eq_true rfl) rfl (.tmp rfl .nil)) rfl ⟨rfl,Nat.le_refl _⟩ ?_
         exact ent_noCk.trans (show Ent _ [Row 25 2 (.slice none 0 0) 0 [],SlI none [],Row 60 4 (.slice none 0 0) 0 [],Ce b2 30 [vS [],vS [],vI 0,.slice none 0 0,.slice none 0 0,.slice none 0 0,vS []]] from Aa0)
        ·
         refine Zk (k:=Ya ?_)
         obtain⟨v,hv⟩:∃v,Aax ((xs.getD 0 []).drop 1)=some v:=by cases e:Aax ((xs.getD 0 []).drop 1) with
          | none=>rw[e] at h78;simp at h78
          | some v=>exact⟨v,rfl⟩
         rw[hv,Option.map_some] at hft hys
         rw[hv,Option.getD_some]
         refine Zr (k:=Vv (k:=Vf 1 9 (k:=Zo (k:=Wn (Yb (Yb (Ya (Zr (k:=Qv (k:=Wn ?_))))))))))
         exact Acp
       ·
        rw[if_neg h52] at hft hbd hys
        refine Abd (fun (u:Unit)=>[(0,vS s),(2,.pointer (some ⟨b2,0,none⟩)),(6,.pointer (some ⟨b6,0,none⟩)),(8,.pointer (some ⟨b8,0,none⟩)),(9,vI xs.length),(29,.slice ca qs.length cc),(30,vI qs.length),(31,vI j),(82,.bool (decide (ql.toNat=68∧xs.length=1)))]) (fun (u:Unit)=>[Ce b8 101 [vU (ql.toNat:Int),.slice qa xs.length qc],SlI qa (xs.map vS),Row 25 2 (.slice fa c.files.length fc) c.files.length (c.files.flatMap AaG),Ce b6 30 [vS c.base,vS c.comment,vI c.date,.slice fa c.files.length fc,.slice pa c.parents.length pc,.slice ta c.tags.length tc,vS c.user],SlI pa (c.parents.map vS),Row 60 4 (.slice ta c.tags.length tc) c.tags.length (c.tags.flatMap Aae),Row 101 2 (.slice ca qs.length cc) qs.length (qs.flatMap CdV.cells),CdM qs,Ce b2 30 [vS [],vS [],vI 0,.slice none 0 0,.slice none 0 0,.slice none 0 0,vS []]]) rfl (fun u=>?_) ?_
        ·
         try dsimp only
         refine Zi (t:=fun h82=>?_) (f:=fun h82=>?_)
         ·
          rw[if_pos h82] at hft hbd hys
          refine Zr (k:=Qx 1 27 (k:=Ye 1 (m:=0) (k:=Yl (hv:=by exact Aa4 [] (m:=0) (by omega)) (k:=?_))))
          refine Aag (Ak0 (xs.getD 0 []) (by have:=hx0 0 (by omega);omega)) rfl rfl rfl ?_
          refine Vf 2 3 (k:=Zo (k:=Wn (Yb (Yb (Ya (Zr (k:=Qv (k:=Wn ?_))))))))
          exact Acp
         ·
          rw[if_neg h82] at hft hbd hys
          refine Abd (fun (u:Unit)=>[(0,vS s),(2,.pointer (some ⟨b2,0,none⟩)),(6,.pointer (some ⟨b6,0,none⟩)),(8,.pointer (some ⟨b8,0,none⟩)),(9,vI xs.length),(29,.slice ca qs.length cc),(30,vI qs.length),(31,vI j),(96,.bool (decide (ql.toNat=70∧xs.length=1)))]) (fun (u:Unit)=>[Ce b8 101 [vU (ql.toNat:Int),.slice qa xs.length qc],SlI qa (xs.map vS),Row 25 2 (.slice fa c.files.length fc) c.files.length (c.files.flatMap AaG),Ce b6 30 [vS c.base,vS c.comment,vI c.date,.slice fa c.files.length fc,.slice pa c.parents.length pc,.slice ta c.tags.length tc,vS c.user],SlI pa (c.parents.map vS),Row 60 4 (.slice ta c.tags.length tc) c.tags.length (c.tags.flatMap Aae),Row 101 2 (.slice ca qs.length cc) qs.length (qs.flatMap CdV.cells),CdM qs,Ce b2 30 [vS [],vS [],vI 0,.slice none 0 0,.slice none 0 0,.slice none 0 0,vS []]]) rfl (fun u=>?_) ?_
          ·
           try dsimp only
           refine Zi (t:=fun h96=>?_) (f:=fun h96=>?_)
           ·
            rw[if_pos h96] at hft hbd hys
            refine Dw [Ce b8 101 [vU (ql.toNat:Int),.slice qa xs.length qc],SlI qa (xs.map vS)] (k:=?_)
            refine Di 0 (t:=Uf 3 26) (k:=Di 2 (t:=Uf 1 27) (k:=Di 3 (t:=Ul) (k:=?_)))
            refine Aa1 4 rfl rfl rfl (by kernel_rfl) (by kernel_rfl) (Aaf (m:=0) (sz:=1) Tryz.underlying27 ti9 rfl rfl rfl rfl (by omega) (by first | (rw[List.length_map];omega) | (rw[Aal (sz:=1) (fun _=>rfl)];omega) | (simp;omega)) (Nat.mul_one _)) ?_
            refine Aa1 5 rfl rfl rfl (by kernel_rfl) (by kernel_rfl) (Aas Tryz.underlying9 rfl rfl (Aa4 [] (m:=0) (by omega))) ?_
            refine Di 6 (t:=Ux (Ps [_,vS []])) (k:=?_)
            refine Aaj 1 7 (by kernel_rfl) rfl rfl ?_ ?_
            ·
             refine Ahh Tryz.underlying26 rfl rfl rfl rfl ?_
             refine Dn 7 (k:=Nl [_] (cs:=[_,_]) (k:=fun b111=>Dn 8 (k:=?_)))
             refine Ab8 (sz:=2) (bytes:=32) Tryz.underlying26 Afl rfl rfl rfl rfl rfl rfl rfl (by rfl) (by rfl) (by omega) (by simp only[maxLen];omega) rfl (fun a112 c112=>?_)
             refine Di 9 (t:=Uf 3 26) (k:=Dn 10 (k:=No (k:=Dd (k:=Yb (Yb (Ya (Zr (k:=Qv (k:=Wn ?_)))))))))
             exact Acp
            ·
             refine Nl [_] (cs:=[_,_]) (k:=fun b111=>Dn 1 (k:=?_))
             refine Ahh Tryz.underlying26 rfl rfl rfl rfl ?_
             refine Dn 8 (k:=?_)
             refine Ab8 (sz:=2) (bytes:=32) Tryz.underlying26 Afl rfl rfl rfl rfl rfl rfl rfl (by rfl) (by rfl) (by omega) (by simp only[maxLen];omega) rfl (fun a112 c112=>?_)
             refine Di 9 (t:=Uf 3 26) (k:=Dn 10 (k:=No (k:=Dd (k:=Yb (Yb (Ya (Zr (k:=Qv (k:=Wn ?_)))))))))
             exact Acp
           ·
            rw[if_neg h96] at hft hbd hys
            refine Abd (fun (u:Unit)=>[(0,vS s),(2,.pointer (some ⟨b2,0,none⟩)),(6,.pointer (some ⟨b6,0,none⟩)),(8,.pointer (some ⟨b8,0,none⟩)),(9,vI xs.length),(29,.slice ca qs.length cc),(30,vI qs.length),(31,vI j),(114,.bool (decide (ql.toNat=70∧xs.length=2)))]) (fun (u:Unit)=>[Ce b8 101 [vU (ql.toNat:Int),.slice qa xs.length qc],SlI qa (xs.map vS),Row 25 2 (.slice fa c.files.length fc) c.files.length (c.files.flatMap AaG),Ce b6 30 [vS c.base,vS c.comment,vI c.date,.slice fa c.files.length fc,.slice pa c.parents.length pc,.slice ta c.tags.length tc,vS c.user],SlI pa (c.parents.map vS),Row 60 4 (.slice ta c.tags.length tc) c.tags.length (c.tags.flatMap Aae),Row 101 2 (.slice ca qs.length cc) qs.length (qs.flatMap CdV.cells),CdM qs,Ce b2 30 [vS [],vS [],vI 0,.slice none 0 0,.slice none 0 0,.slice none 0 0,vS []]]) rfl (fun u=>?_) ?_
            ·
             try dsimp only
             refine Zi (t:=fun h114=>?_) (f:=fun h114=>?_)
             ·
              rw[if_pos h114] at hft hbd hys
              refine Dw [Ce b8 101 [vU (ql.toNat:Int),.slice qa xs.length qc],SlI qa (xs.map vS)] (k:=?_)
              refine Di 0 (t:=Uf 3 26) (k:=Di 2 (t:=Uf 1 27) (k:=Di 3 (t:=Ul) (k:=?_)))
              refine Aa1 4 rfl rfl rfl (by kernel_rfl) (by kernel_rfl) (Aaf (m:=0) (sz:=1) Tryz.underlying27 ti9 rfl rfl rfl rfl (by omega) (by first | (rw[List.length_map];omega) | (rw[Aal (sz:=1) (fun _=>rfl)];omega) | (simp;omega)) (Nat.mul_one _)) ?_
              refine Aa1 5 rfl rfl rfl (by kernel_rfl) (by kernel_rfl) (Aas Tryz.underlying9 rfl rfl (Aa4 [] (m:=0) (by omega))) ?_
              refine Di 6 (t:=Uf 1 27) (k:=Di 7 (t:=Ul) (k:=?_))
              refine Aa1 8 rfl rfl rfl (by kernel_rfl) (by kernel_rfl) (Aaf (m:=1) (sz:=1) Tryz.underlying27 ti9 rfl rfl rfl rfl (by omega) (by first | (rw[List.length_map];omega) | (rw[Aal (sz:=1) (fun _=>rfl)];omega) | (simp;omega)) (Nat.mul_one _)) ?_
              refine Aa1 9 rfl rfl rfl (by kernel_rfl) (by kernel_rfl) (Aas Tryz.underlying9 rfl rfl (Aa4 [] (m:=1) (by omega))) ?_
              refine Di 10 (t:=Ux (Ps [_,_])) (k:=?_)
              refine Aaj 1 11 (by kernel_rfl) rfl rfl ?_ ?_
              ·
               refine Ahh Tryz.underlying26 rfl rfl rfl rfl ?_
               refine Dn 11 (k:=Nl [_] (cs:=[_,_]) (k:=fun b133=>Dn 12 (k:=?_)))
               refine Ab8 (sz:=2) (bytes:=32) Tryz.underlying26 Afl rfl rfl rfl rfl rfl rfl rfl (by rfl) (by rfl) (by omega) (by simp only[maxLen];omega) rfl (fun a134 c134=>?_)
               refine Di 13 (t:=Uf 3 26) (k:=Dn 14 (k:=No (k:=Dd (k:=Yb (Yb (Ya (Zr (k:=Qv (k:=Wn ?_)))))))))
               exact Acp
              ·
               refine Nl [_] (cs:=[_,_]) (k:=fun b133=>Dn 1 (k:=?_))
               refine Ahh Tryz.underlying26 rfl rfl rfl rfl ?_
               refine Dn 12 (k:=?_)
               refine Ab8 (sz:=2) (bytes:=32) Tryz.underlying26 Afl rfl rfl rfl rfl rfl rfl rfl (by rfl) (by rfl) (by omega) (by simp only[maxLen];omega) rfl (fun a134 c134=>?_)
               refine Di 13 (t:=Uf 3 26) (k:=Dn 14 (k:=No (k:=Dd (k:=Yb (Yb (Ya (Zr (k:=Qv (k:=Wn ?_)))))))))
               exact Acp
             ·
              rw[if_neg h114] at hft hbd hys
              refine Qc (k:=Qx 0 5 (k:=Qv (k:=Wq (Zi (t:=fun h136=>?_) (f:=fun h136=>?_)))))
              ·
               rw[if_pos (by omega)] at hft hbd hys
               refine Zr (k:=Qx 1 27 (k:=Vf 4 27 (k:=Zo (k:=Wn (Yb (Yb (Ya (Zr (k:=Qv (k:=?_))))))))))
               refine Wn ?_
               exact Acp
              ·
               rw[if_neg (by omega)] at hft hbd hys
               refine Qc (k:=Qx 0 5 (k:=Qv (k:=Wq (Zi (t:=fun h143=>?_) (f:=fun h143=>?_)))))
               ·
                rw[if_pos (by omega)] at hft hbd hys
                refine Zk (k:=Yb (Yb (Ya (Zr (k:=Qv (k:=Wn ?_))))))
                exact Acp
               ·
                rw[if_neg (by omega)] at hft hbd hys
                refine Abd (fun (u:Unit)=>[(0,vS s),(2,.pointer (some ⟨b2,0,none⟩)),(6,.pointer (some ⟨b6,0,none⟩)),(8,.pointer (some ⟨b8,0,none⟩)),(9,vI xs.length),(29,.slice ca qs.length cc),(30,vI qs.length),(31,vI j),(147,.bool (decide (ql.toNat=85∧xs.length=1)))]) (fun (u:Unit)=>[Ce b8 101 [vU (ql.toNat:Int),.slice qa xs.length qc],SlI qa (xs.map vS),Row 25 2 (.slice fa c.files.length fc) c.files.length (c.files.flatMap AaG),Ce b6 30 [vS c.base,vS c.comment,vI c.date,.slice fa c.files.length fc,.slice pa c.parents.length pc,.slice ta c.tags.length tc,vS c.user],SlI pa (c.parents.map vS),Row 60 4 (.slice ta c.tags.length tc) c.tags.length (c.tags.flatMap Aae),Row 101 2 (.slice ca qs.length cc) qs.length (qs.flatMap CdV.cells),CdM qs,Ce b2 30 [vS [],vS [],vI 0,.slice none 0 0,.slice none 0 0,.slice none 0 0,vS []]]) rfl (fun u=>?_) ?_
                ·
                 try dsimp only
                 refine Zi (t:=fun h147=>?_) (f:=fun h147=>?_)
                 ·
                  rw[if_pos h147] at hft hbd hys
                  refine Zr (k:=Qx 1 27 (k:=Ye 1 (m:=0) (k:=Yl (hv:=by exact Aa4 [] (m:=0) (by omega)) (k:=Vf 6 9 (k:=Zo (k:=Wn (Yb (Yb (Ya (Zr (k:=?_)))))))))))
                  refine Qv (k:=Wn ?_)
                  exact Acp
                 ·
                  rw[if_neg h147] at hft hbd hys
                  refine Qc (k:=Vx (Ps [vS [],vS [],.int .i64 0,.slice none 0 0,.slice none 0 0,.slice none 0 0,vS []]) (k:=Zp (k:=Vv (k:=Wq (Zt (k:=Vb (Vb (Va (Vi (Vb ?_))))))))))
                  refine Va ?_
                  have hn:Abf s=none:=ApF hl (hrc.trans (hbd rfl))
                  rw[hn]
                  refine Aa2 (ka0,ck0) (vs:=[_,_]) (Cs:=[Ce b2 30 (AaN ka0 ck0)]) rfl (.cell (l:=AaN ka0 ck0) (us:=AaN ka0 ck0) rfl (AaL (T:=30)) Tryz.underlying30 rfl Aj4 (by exact Nat.le_of_ble_eq_true rfl) rfl (.tmp rfl .nil)) rfl ⟨rfl,Nat.le_refl _⟩ ?_
                  exact ent_noCk.trans (show Ent _ [Row 25 2 (.slice none 0 0) 0 [],SlI none [],Row 60 4 (.slice none 0 0) 0 [],Ce b2 30 [vS [],vS [],vI 0,.slice none 0 0,.slice none 0 0,.slice none 0 0,vS []]] from Aa0)
                ·
                 refine Zr (k:=Qx 0 5 (k:=Qv (k:=Gi 3 (t:=fun h151=>?_) (f:=fun h151=>?_))))
                 ·
                  refine J1 (k:=J1 (k:=P1 (k:=Vv (k:=Wn ?_))))
                  exact Ahp
                 ·
                  refine O0 (k:=O0 (k:=P0 (k:=Vv (k:=Wn ?_))))
                  exact Ahp
            ·
             refine Zr (k:=Qx 0 5 (k:=Qv (k:=Gi 3 (t:=fun h118=>?_) (f:=fun h118=>?_))))
             ·
              refine J1 (k:=J1 (k:=P1 (k:=Vv (k:=Wn ?_))))
              exact Ahq
             ·
              refine O0 (k:=O0 (k:=P0 (k:=Vv (k:=Wn ?_))))
              exact Ahq
          ·
           refine Zr (k:=Qx 0 5 (k:=Qv (k:=Gi 3 (t:=fun h100=>?_) (f:=fun h100=>?_))))
           ·
            refine J1 (k:=J1 (k:=P1 (k:=Vv (k:=Wn ?_))))
            exact Ai9
           ·
            refine O0 (k:=O0 (k:=P0 (k:=Vv (k:=Wn ?_))))
            exact Ai9
        ·
         refine Zr (k:=Qx 0 5 (k:=Qv (k:=Gi 3 (t:=fun h86=>?_) (f:=fun h86=>?_))))
         ·
          refine J1 (k:=J1 (k:=P1 (k:=Vv (k:=Wn ?_))))
          exact Aia
         ·
          refine O0 (k:=O0 (k:=P0 (k:=Vv (k:=Wn ?_))))
          exact Aia
      ·
       refine Zr (k:=Qx 0 5 (k:=Qv (k:=Gi 3 (t:=fun h56=>?_) (f:=fun h56=>?_))))
       ·
        refine J1 (k:=J1 (k:=P1 (k:=Vv (k:=Gi 7 (t:=fun h60=>?_) (f:=fun h60=>?_)))))
        ·
         refine I1 (k:=Vf 1 27 (k:=I1 (k:=Zd (k:=I1 (k:=Ye 1 (m:=0) (k:=I1 (k:=Yl (hv:=by exact Aa4 [] (m:=0) (by omega)) (k:=I1 (k:=?_)))))))))
         have hx10:=hx1 0 (by omega)
         refine Aa5 (Abj (m:=0) Tryz.underlying9 rfl rfl rfl (by omega)) rfl ?_
         refine J1 (k:=P1 (k:=Vv (k:=Wn ?_)))
         exact AfJ
        ·
         refine O0 (k:=O0 (k:=O0 (k:=O0 (k:=O0 (k:=O0 (k:=P0 (k:=Vv (k:=Wn ?_))))))))
         exact AfJ
       ·
        refine O0 (k:=O0 (k:=P0 (k:=Vv (k:=O0 (k:=O0 (k:=O0 (k:=O0 (k:=O0 (k:=O0 (k:=P0 (k:=Vv (k:=?_))))))))))))
        refine Wn ?_
        exact AfJ
    ·
     refine Zr (k:=Qx 0 5 (k:=Qv (k:=Gi 3 (t:=fun h43=>?_) (f:=fun h43=>?_))))
     ·
      refine J1 (k:=J1 (k:=P1 (k:=Vv (k:=Wn ?_))))
      exact Aib
     ·
      refine O0 (k:=O0 (k:=P0 (k:=Vv (k:=Wn ?_))))
      exact Aib
   ·
    refine Ze (k:=Xa (Xi (Xb (Ya (Za (k:=Za (k:=?_)))))))
    have hjl:j=qs.length:=by omega
    subst hjl
    rw[List.take_length] at hf
    have hrk:=hrc.trans hf
    have hz:=hy.ckZ (by omega)
    have hRt:=Agj (Bf:=Row 25 2 (.slice fa c.files.length fc) c.files.length (c.files.flatMap AaG)) (Bt:=Row 60 4 (.slice ta c.tags.length tc) c.tags.length (c.tags.flatMap Aae)) ⟨fa,fc,pa,pc,ta,tc⟩ c hz AaJ AaJ hpc
    refine Zr (k:=Zm [_,_,_,_,_,_,_] (k:=?_))
    refine Aad hRt rfl rfl rfl ?_
    refine Qv (k:=Gi 3 (t:=fun h164=>?_) (f:=fun h164=>?_))
    ·
     refine O1 (k:=O1 (k:=O1 (k:=O1 (k:=P1 (k:=Wq (Z1 (k:=Qc (k:=Vx (Ps [vS [],vS [],.int .i64 0,.slice none 0 0,.slice none 0 0,.slice none 0 0,vS []]) (k:=Zp (k:=Vv (k:=?_)))))))))))
     refine Wq (Zt (k:=Va ?_))
     exact Amj
    ·
     have hR:Abo c:=Classical.not_not.1 h164
     have hCk:=AcN (Bf:=Row 25 2 (.slice fa c.files.length fc) c.files.length (c.files.flatMap AaG)) (Bt:=Row 60 4 (.slice ta c.tags.length tc) c.tags.length (c.tags.flatMap Aae)) ⟨fa,fc,pa,pc,ta,tc⟩ c hz hR.date (Nat.le_trans (Ae9 hR) (by omega)) AaJ AaJ hpc
     refine I0 (k:=Zm [_,_,_,_,_,_,_] (k:=I0 (k:=?_)))
     refine Aad hCk rfl rfl rfl ?_
     refine J0 (k:=J0 (k:=P0 (k:=Wq (Zi (t:=fun h169=>?_) (f:=fun h169=>?_)))))
     ·
      refine Qc (k:=Vx (Ps [vS [],vS [],.int .i64 0,.slice none 0 0,.slice none 0 0,.slice none 0 0,vS []]) (k:=Zp (k:=Vv (k:=Wq (Zt (k:=Va ?_))))))
      exact Amj
     ·
      refine Zk (k:=Ya (Qc (k:=Zm [_,_,_,_,_,_,_] (k:=Zp (k:=Vv (k:=Wq (Zt (k:=?_))))))))
      have hk:Abf s=some c:=readK_iff.2 ⟨hR,Classical.not_not.1 h169⟩
      rw[hk]
      refine Aa2 (⟨fa,fc,pa,pc,ta,tc⟩,c) (vs:=[_,_]) (Cs:=[Ce b2 30 (AaN ⟨fa,fc,pa,pc,ta,tc⟩ c)]) rfl (.cell (l:=AaN ⟨fa,fc,pa,pc,ta,tc⟩ c) (us:=AaN ⟨fa,fc,pa,pc,ta,tc⟩ c) rfl (AaL (T:=30)) Tryz.underlying30 rfl Aj4 (by exact Nat.le_of_ble_eq_true rfl) rfl (.tmp rfl .nil)) rfl ⟨rfl,hpc⟩ ?_
      exact(show Ent _ [Row 25 2 (.slice fa c.files.length fc) c.files.length (c.files.flatMap AaG),SlI pa (c.parents.map vS),Row 60 4 (.slice ta c.tags.length tc) c.tags.length (c.tags.flatMap Aae),Ce b2 30 [vS c.base,vS c.comment,vI c.date,.slice fa c.files.length fc,.slice pa c.parents.length pc,.slice ta c.tags.length tc,vS c.user]] from Aa0)
end
section
set_option maxRecDepth 100000
section
variable {r:Option Nat} {P:Program} {n:Nat} {ops:Array Oper} {A:List HP} {L:Loc} {Hs:List HP}
theorem Ajy {K:Loc→List HP→Prop} {o:Oper} {Gs:List HP} (hg:o.guard=none) (e:Ent Hs Gs) (k:AnOp r P n ops A o K L Gs):AnOp r P n ops A o K L Hs:=by
 obtain⟨h,⟨j,w,u,e1,_⟩ | ⟨g,X,val,φ,As,Rs,Bs,e2,t,k2⟩⟩:=k
 · rw[hg] at e1;cases e1
 · exact⟨h,.inr ⟨g,X,val,φ,As,Rs,Bs,e.trans e2,t,k2⟩⟩
end
theorem Akv {G:Prop} (h:G:=by exact Aa2 () (vs:=[_]) (Cs:=[]) rfl (.tmp rfl .nil) rfl trivial Aa0):G:=h
set_option maxHeartbeats 2000000 in
theorem Afs {Bt:HP} (ta:Option Addr) (tc:Nat) (c:Ct) (zt:TgZ c.tags) (hd:0≤c.date∧c.date≤1073741824) (hz:(Aau (AaY c)).length≤1073741824) (sht:SlA Bt ta (c.tags.flatMap Aae)) :
    Sp1 Tryz.prog 35 [.agg (Ad7 ta tc c).toArray] [Bt] (vS (ctB c)) [Bt]:=by
 have hTC:=Ais c.tags.length tc c.tags sht rfl zt
 have hcl:=(AgU (AaY c)).1
 have hcn:(AaY c).length=c.tags.length+2:=by simp[AaY]
 have hDec:SpF Tryz.prog 51 [vI c.date] (vS (AaP c.date.toNat)):=by
  have:=AjJ c.date.toNat (by omega)
  rwa [Int.toNat_of_nonneg hd.1] at this
 refine Sp.body (n:=22) Tryz.call35 Tryz.func35 rfl rfl rfl ?_
 refine Qc (k:=Zx [_,_,_] (k:=fun b1=>Vv (k:=Wq (Za (k:=Dw [Ce b1 70 [vI c.date,.slice ta c.tags.length tc,vS c.user]] (k:=?_))))))
 refine Di 0 (t:=Uf 0 3) (k:=Di 1 (t:=Ul) (k:=Di 6 (t:=Uf 1 28) (k:=Di 7 (t:=Ul) (k:=Dn 2 (k:=?_)))))
 refine Aai hDec rfl rfl rfl ?_
 refine Aaj 3 8 (by kernel_rfl) rfl rfl ?_ ?_
 ·
  refine Nl [_] (cs:=[_]) (k:=fun b7=>Di 4 (t:=Ux (Ps [_,_])) (k:=?_))
  refine Aaj 5 8 (by kernel_rfl) rfl rfl ?_ ?_
  ·
   refine Nl [_] (cs:=[_,_]) (k:=fun b9=>Dn 8 (k:=?_))
   refine Aah hTC rfl rfl rfl (fun x12 hx12=>?_)
   refine Dn 9 (k:=?_)
   obtain⟨⟨oa,oc⟩,tqs⟩:=x12
   dsimp only[Aec] at hx12 ⊢
   have htq:=Acd hx12
   rw[List.length_map] at htq
   obtain⟨ds,hds⟩:∃ds:List CdV,ds=[⟨68,some ⟨b7,0,none⟩,1,[AaP c.date.toNat]⟩]:=⟨_,rfl⟩
   have hdf:[vU 68,.slice (some ⟨b7,0,none⟩) 1 1]=ds.flatMap CdV.cells:=by rw[hds];rfl
   refine Ajy rfl (Acm (k:=1) (cap:=1) (sz:=2) (e:=101) (g:=b9) (xs:=ds.flatMap CdV.cells) (cur:=[vU 68,.slice (some ⟨b7,0,none⟩) 1 1]) (Nat.le_refl _) (by simp[maxLen]) rfl (by rw[←hdf];rfl) (by rw[←hdf];rfl)) ?_
   refine AdS (sz:=2) (bytes:=32) Tryz.underlying99 Abv rfl rfl rfl rfl rfl rfl rfl (AbU tqs) (Acr tqs) (by omega) (by simp only[maxLen];omega) rfl (fun a13 c13=>?_)
   refine Dv 10 (k:=Dd (k:=Ya (Qc (k:=Vv (k:=Qx 2 9 (k:=Zv [_] (cs:=[_]) (k:=fun b17=>Vx (Ps [_,_]) (k:=Zv [_] (cs:=[_,_]) (k:=fun b19=>?_)))))))))
   refine Aam (sz:=2) (bytes:=32) Tryz.underlying99 Abv rfl rfl rfl rfl rfl rfl rfl (by rfl) (by rfl) (by omega) (by simp only[maxLen];omega) rfl (fun a20 c20=>?_)
   refine AbR b7 ?_
   refine AbR b17 ?_
   obtain⟨al,hal⟩:∃al:List CdV,al=ds++tqs++[⟨85,some ⟨b17,0,none⟩,1,[c.user]⟩]:=⟨_,rfl⟩
   have halc:Aa3 al=AaY c:=by rw[hal,AaC,AaC,hx12,hds,AaY];simp[Aa3,CdV.cd]
   have hall:al.length=1+tqs.length+1:=by rw[hal,hds];simp;omega
   have hxx:ds.flatMap CdV.cells++tqs.flatMap CdV.cells++[vU 85,.slice (some ⟨b17,0,none⟩) 1 1]=al.flatMap CdV.cells:=by rw[hal];simp[CdV.cells]
   have hPr:=AbL (B:=Row 101 2 (.slice a20 (1+tqs.length+1) c20) (1+tqs.length+1) (ds.flatMap CdV.cells++tqs.flatMap CdV.cells++[vU 85,.slice (some ⟨b17,0,none⟩) 1 1])) (a:=a20) (1+tqs.length+1) c20 al (by rw[←hxx];exact AaJ) hall (by rw[halc];omega)
   rw[halc] at hPr
   refine wo_ent' (Adl (a:=some ⟨b7,0,none⟩) (c:=1) 68 [AaP c.date.toNat] [vS (AaP c.date.toNat)] HasC.get rfl (Nat.le_refl _)) ?_
   rw[←hds]
   refine wo_ent' (AbH (qs:=ds) (rs:=tqs) HasC.get HasC.get) ?_
   refine wo_ent' (AaO (qs:=ds++tqs) (a:=some ⟨b17,0,none⟩) (c:=1) 85 [c.user] [vS c.user] HasC.get HasC.get rfl (Nat.le_refl _)) ?_
   rw[←hal]
   refine Aad hPr rfl rfl rfl ?_
   refine Vv (k:=Wq (Zt (k:=?_)))
   exact Akv
  ·
   refine Aah hTC rfl rfl rfl (fun x12 hx12=>?_)
   refine Dn 5 (k:=Nl [_] (cs:=[_,_]) (k:=fun b9=>Dn 9 (k:=?_)))
   obtain⟨⟨oa,oc⟩,tqs⟩:=x12
   dsimp only[Aec] at hx12 ⊢
   have htq:=Acd hx12
   rw[List.length_map] at htq
   obtain⟨ds,hds⟩:∃ds:List CdV,ds=[⟨68,some ⟨b7,0,none⟩,1,[AaP c.date.toNat]⟩]:=⟨_,rfl⟩
   have hdf:[vU 68,.slice (some ⟨b7,0,none⟩) 1 1]=ds.flatMap CdV.cells:=by rw[hds];rfl
   refine Ajy rfl (Acm (k:=1) (cap:=1) (sz:=2) (e:=101) (g:=b9) (xs:=ds.flatMap CdV.cells) (cur:=[vU 68,.slice (some ⟨b7,0,none⟩) 1 1]) (Nat.le_refl _) (by simp[maxLen]) rfl (by rw[←hdf];rfl) (by rw[←hdf];rfl)) ?_
   refine AdS (sz:=2) (bytes:=32) Tryz.underlying99 Abv rfl rfl rfl rfl rfl rfl rfl (AbU tqs) (Acr tqs) (by omega) (by simp only[maxLen];omega) rfl (fun a13 c13=>?_)
   refine Dv 10 (k:=Dd (k:=Ya (Qc (k:=Vv (k:=Qx 2 9 (k:=Zv [_] (cs:=[_]) (k:=fun b17=>Vx (Ps [_,_]) (k:=Zv [_] (cs:=[_,_]) (k:=fun b19=>?_)))))))))
   refine Aam (sz:=2) (bytes:=32) Tryz.underlying99 Abv rfl rfl rfl rfl rfl rfl rfl (by rfl) (by rfl) (by omega) (by simp only[maxLen];omega) rfl (fun a20 c20=>?_)
   refine AbR b7 ?_
   refine AbR b17 ?_
   obtain⟨al,hal⟩:∃al:List CdV,al=ds++tqs++[⟨85,some ⟨b17,0,none⟩,1,[c.user]⟩]:=⟨_,rfl⟩
   have halc:Aa3 al=AaY c:=by rw[hal,AaC,AaC,hx12,hds,AaY];simp[Aa3,CdV.cd]
   have hall:al.length=1+tqs.length+1:=by rw[hal,hds];simp;omega
   have hxx:ds.flatMap CdV.cells++tqs.flatMap CdV.cells++[vU 85,.slice (some ⟨b17,0,none⟩) 1 1]=al.flatMap CdV.cells:=by rw[hal];simp[CdV.cells]
   have hPr:=AbL (B:=Row 101 2 (.slice a20 (1+tqs.length+1) c20) (1+tqs.length+1) (ds.flatMap CdV.cells++tqs.flatMap CdV.cells++[vU 85,.slice (some ⟨b17,0,none⟩) 1 1])) (a:=a20) (1+tqs.length+1) c20 al (by rw[←hxx];exact AaJ) hall (by rw[halc];omega)
   rw[halc] at hPr
   refine wo_ent' (Adl (a:=some ⟨b7,0,none⟩) (c:=1) 68 [AaP c.date.toNat] [vS (AaP c.date.toNat)] HasC.get rfl (Nat.le_refl _)) ?_
   rw[←hds]
   refine wo_ent' (AbH (qs:=ds) (rs:=tqs) HasC.get HasC.get) ?_
   refine wo_ent' (AaO (qs:=ds++tqs) (a:=some ⟨b17,0,none⟩) (c:=1) 85 [c.user] [vS c.user] HasC.get HasC.get rfl (Nat.le_refl _)) ?_
   rw[←hal]
   refine Aad hPr rfl rfl rfl ?_
   refine Vv (k:=Wq (Zt (k:=?_)))
   exact Akv
 ·
  refine Aah hTC rfl rfl rfl (fun x12 hx12=>?_)
  refine Dn 3 (k:=Nl [_] (cs:=[_]) (k:=fun b7=>Di 4 (t:=Ux (Ps [_,_])) (k:=Dn 5 (k:=Nl [_] (cs:=[_,_]) (k:=fun b9=>Dn 9 (k:=?_))))))
  obtain⟨⟨oa,oc⟩,tqs⟩:=x12
  dsimp only[Aec] at hx12 ⊢
  have htq:=Acd hx12
  rw[List.length_map] at htq
  obtain⟨ds,hds⟩:∃ds:List CdV,ds=[⟨68,some ⟨b7,0,none⟩,1,[AaP c.date.toNat]⟩]:=⟨_,rfl⟩
  have hdf:[vU 68,.slice (some ⟨b7,0,none⟩) 1 1]=ds.flatMap CdV.cells:=by rw[hds];rfl
  refine Ajy rfl (Acm (k:=1) (cap:=1) (sz:=2) (e:=101) (g:=b9) (xs:=ds.flatMap CdV.cells) (cur:=[vU 68,.slice (some ⟨b7,0,none⟩) 1 1]) (Nat.le_refl _) (by simp[maxLen]) rfl (by rw[←hdf];rfl) (by rw[←hdf];rfl)) ?_
  refine AdS (sz:=2) (bytes:=32) Tryz.underlying99 Abv rfl rfl rfl rfl rfl rfl rfl (AbU tqs) (Acr tqs) (by omega) (by simp only[maxLen];omega) rfl (fun a13 c13=>?_)
  refine Dv 10 (k:=Dd (k:=Ya (Qc (k:=Vv (k:=Qx 2 9 (k:=Zv [_] (cs:=[_]) (k:=fun b17=>Vx (Ps [_,_]) (k:=Zv [_] (cs:=[_,_]) (k:=fun b19=>?_)))))))))
  refine Aam (sz:=2) (bytes:=32) Tryz.underlying99 Abv rfl rfl rfl rfl rfl rfl rfl (by rfl) (by rfl) (by omega) (by simp only[maxLen];omega) rfl (fun a20 c20=>?_)
  refine AbR b7 ?_
  refine AbR b17 ?_
  obtain⟨al,hal⟩:∃al:List CdV,al=ds++tqs++[⟨85,some ⟨b17,0,none⟩,1,[c.user]⟩]:=⟨_,rfl⟩
  have halc:Aa3 al=AaY c:=by rw[hal,AaC,AaC,hx12,hds,AaY];simp[Aa3,CdV.cd]
  have hall:al.length=1+tqs.length+1:=by rw[hal,hds];simp;omega
  have hxx:ds.flatMap CdV.cells++tqs.flatMap CdV.cells++[vU 85,.slice (some ⟨b17,0,none⟩) 1 1]=al.flatMap CdV.cells:=by rw[hal];simp[CdV.cells]
  have hPr:=AbL (B:=Row 101 2 (.slice a20 (1+tqs.length+1) c20) (1+tqs.length+1) (ds.flatMap CdV.cells++tqs.flatMap CdV.cells++[vU 85,.slice (some ⟨b17,0,none⟩) 1 1])) (a:=a20) (1+tqs.length+1) c20 al (by rw[←hxx];exact AaJ) hall (by rw[halc];omega)
  rw[halc] at hPr
  refine wo_ent' (Adl (a:=some ⟨b7,0,none⟩) (c:=1) 68 [AaP c.date.toNat] [vS (AaP c.date.toNat)] HasC.get rfl (Nat.le_refl _)) ?_
  rw[←hds]
  refine wo_ent' (AbH (qs:=ds) (rs:=tqs) HasC.get HasC.get) ?_
  refine wo_ent' (AaO (qs:=ds++tqs) (a:=some ⟨b17,0,none⟩) (c:=1) 85 [c.user] [vS c.user] HasC.get HasC.get rfl (Nat.le_refl _)) ?_
  rw[←hal]
  refine Aad hPr rfl rfl rfl ?_
  refine Vv (k:=Wq (Zt (k:=?_)))
  exact Akv
end
section
set_option maxRecDepth 100000
set_option maxHeartbeats 1000000 in
theorem Ajb {B:HP} {a:Option Addr} (n cap:Nat) (l:List Bs) (sh:SlA B a (l.map vS)) (hn:l.length=n) (hz:(Aau (Acn l)).length≤1073741824) :
    Sp1 Tryz.prog 117 [.slice a n cap] [B] (vS (clB l)) [B]:=by
 subst hn
 haveI:Abm a (l.map vS) [B]:=⟨⟨B,sh,.here⟩⟩
 have hcl:=(AgU (Acn l)).1
 have hcn:(Acn l).length=l.length:=by simp[Acn]
 refine Sp.body (n:=21) Tryz.call117 Tryz.func117 rfl rfl rfl ?_
 refine Qc (k:=Vv (k:=Wq (Qc (k:=Vv (k:=Wq (Za (k:=Qc (k:=Vv (k:=?_)))))))))
 refine Qv (k:=Wq (Zb (k:=?_)))
 refine Aan (fun (i:{ x:(Option Addr×Nat)×List CdV // x.2.length≤l.length∧Aa3 x.2=Acn (l.take x.2.length) })=>[(3,.slice i.1.1.1 i.1.2.length i.1.1.2),(6,.slice a l.length cap),(7,vI l.length),(8,vI i.1.2.length)]) (fun (i:{ x:(Option Addr×Nat)×List CdV // x.2.length≤l.length∧Aa3 x.2=Acn (l.take x.2.length) })=>[Row 101 2 (.slice i.1.1.1 i.1.2.length i.1.1.2) i.1.2.length (i.1.2.flatMap CdV.cells),CdM i.1.2,B]) (fun (i:{ x:(Option Addr×Nat)×List CdV // x.2.length≤l.length∧Aa3 x.2=Acn (l.take x.2.length) })=>l.length-i.1.2.length) rfl (⟨((none,0),[]),Nat.zero_le _,rfl⟩) ?_ ?_ (fun i=>?_)
 · exact⟨rfl,rfl,rfl,rfl,trivial⟩
 ·
  exact(AaV (e:=101) (sz:=2)).trans (ent_cdm_nil.trans (show Ent _ [Row 101 2 (.slice none 0 0) 0 [],CdM [],B] from Aa0))
 obtain⟨⟨⟨oa,oc⟩,qs⟩,hj,hcd⟩:=i
 dsimp only at hj hcd ⊢
 try dsimp only
 refine Qc (k:=Vv (k:=Wq (Za (k:=Zi (t:=fun h9=>?_) (f:=fun h9=>?_)))))
 ·
  refine Zk (k:=Ya (Za (k:=Zb (k:=Za (k:=?_)))))
  have hjl:qs.length<l.length:=by omega
  have htk:Acn (l.take (qs.length+1))=Aa3 qs++[AnK (l.getD qs.length [])]:=by rw[List.take_succ_eq_append_getElem hjl,Acn,List.map_append,hcd];simp[Acn,hjl]
  refine Zr (k:=Ye 1 (k:=Yl (hv:=by exact Aa4 [] hjl) (k:=?_)))
  obtain⟨x,hx⟩:∃x,x=l.getD qs.length []:=⟨_,rfl⟩
  rw[←hx] at htk ⊢
  refine Vv (k:=Wq (Zr (k:=Qv (k:=Zv [_] (cs:=[_]) (k:=fun b14=>Vx (Ps [_,_]) (k:=Zv [_] (cs:=[_,_]) (k:=fun b16=>?_)))))))
  refine Aam (sz:=2) (bytes:=32) Tryz.underlying99 Abv rfl rfl rfl rfl rfl rfl rfl (by rfl) (by rfl) (by omega) (by simp only[maxLen];omega) rfl (fun a17 c17=>?_)
  refine AbR b14 ?_
  refine Vv (k:=Wn (Yb (Ya (Zr (k:=Qv (k:=Wn ?_))))))
  obtain⟨q,hqq⟩:∃q:CdV,q=⟨77,some ⟨b14,0,none⟩,1,[x]⟩:=⟨_,rfl⟩
  have hqc:q.cd=AnK x:=by rw[hqq];rfl
  have hql:(qs++[q]).length=qs.length+1:=by simp
  refine Aa6 ⟨((a17,c17),qs++[q]),?_,?_⟩ ?_ ⟨Adi hql.symm,rfl,rfl,Aei (by dsimp only;omega),trivial⟩ ?_
  · dsimp only;omega
  · dsimp only;rw[hql,htk,AcG,hqc]
  · dsimp only;omega
  · dsimp only
    rw[hql]
    refine(AaO (qs:=qs) (a:=some ⟨b14,0,none⟩) (c:=1) 77 [x] [vS x] HasC.get HasC.get rfl (Nat.le_refl _)).trans ?_
    rw[←hqq]
    exact Aaa (AaS (by rfl) (by rw[AbF,hqq];rfl)) Aa0
 ·
  refine Ze (k:=Xa (Xi (Xb (Ya (Za (k:=?_))))))
  have hjl:qs.length=l.length:=by omega
  rw[hjl,List.take_length] at hcd
  have hPr:=AbL (B:=Row 101 2 (.slice oa qs.length oc) qs.length (qs.flatMap CdV.cells)) (a:=oa) qs.length oc qs AaJ rfl (by rw[hcd];omega)
  rw[hcd] at hPr
  refine Zr (k:=Vv (k:=?_))
  refine Aad hPr rfl rfl rfl ?_
  refine Vv (k:=Wq (Zt (k:=?_)))
  exact Aa2 () (vs:=[_]) (Cs:=[]) rfl (.tmp rfl .nil) rfl trivial Aa0
end
section
set_option maxRecDepth 100000
def Af0 (n:Bs):List Bs→List Bs
 | []=>[n]
 | x::r=>if blt x n=true then x::Af0 n r else if x=n then x::r else n::x::r
theorem AtQ (n:Bs):∀(l:List Bs) (j:Nat),j≤l.length→(∀i,i<j→blt (l.getD i []) n=true)→(j<l.length→blt (l.getD j []) n=false)→Af0 n l=if j<l.length∧l.getD j []=n then l else l.take j++[n]++l.drop j:=by
 intro l
 induction l with
 | nil=>intro j hj _ _;simp[Af0]
 | cons x r ih =>
   intro j hj h1 h2
   cases j with
   | zero =>
     have h3:=h2 (by simp)
     simp only[List.getD_cons_zero] at h3
     simp only[Af0,h3]
     by_cases e:x=n
     · simp[e]
     · simp[e]
   | succ j =>
     have h3:=h1 0 (by omega)
     simp only[List.getD_cons_zero] at h3
     have h4:=ih j (by simpa using hj) (fun i hi=>by have:=h1 (i+1) (by omega);simpa using this) (fun h=>by have:=h2 (by simp;omega);simpa using this)
     simp only[Af0,h3,if_true,h4,List.getD_cons_succ,List.length_cons,Nat.add_lt_add_iff_right]
     split<;>simp
theorem AoC (n:Bs) (l:List Bs) (x:Bs):x∈Af0 n l↔x=n∨x∈l:=by
 induction l with
 | nil=>simp[Af0]
 | cons y r ih =>
   simp only[Af0]
   split
   · simp only[List.mem_cons,ih]
     constructor
     · rintro(h | h | h)<;>simp[h]
     · rintro(h | h | h)<;>simp[h]
   · split
     · rename_i _ e;subst e;simp
     · simp
theorem AoB (n:Bs) {l:List Bs} (h:l.Pairwise (· < ·)):(Af0 n l).Pairwise (· < ·):=by
 induction l with
 | nil=>simp[Af0]
 | cons y r ih =>
   rw[List.pairwise_cons] at h
   simp only[Af0]
   split
   · rename_i hb
     rw[List.pairwise_cons]
     refine⟨fun x hx=>?_,ih h.2⟩
     rcases (AoC n r x).1 hx with e | e
     · rw[e];exact(Ag8 y n).1 hb
     · exact h.1 x e
   · split
     · exact List.pairwise_cons.2 h
     · rename_i hb hne
       have hlt:n<y:=by
        have h1:¬y<n:=fun e=>hb ((Ag8 y n).2 e)
        rcases Std.lt_trichotomy n y with e | e | e
        · exact e
        · exact absurd e.symm hne
        · exact absurd e h1
       rw[List.pairwise_cons,List.pairwise_cons]
       refine⟨fun x hx=>?_,h.1,h.2⟩
       rcases List.mem_cons.1 hx with e | e
       · rw[e];exact hlt
       · exact List.lt_trans hlt (h.1 x e)
theorem Asy (n:Bs) (l:List Bs):(Af0 n l).length≤l.length+1:=by
 induction l with
 | nil=>simp[Af0]
 | cons y r ih =>
   simp only[Af0]
   split
   · simp;omega
   · split<;>simp
theorem Ajz (l:List Bs):(l.map vS).all Aaz=true:=by simp[Aaz]
end
def Ak1 (l ns:List Bs):List Bs:=ns.foldl (fun l n=>Af0 n l) l
theorem Arc (l ns:List Bs) (n:Bs):Ak1 l (ns++[n])=Af0 n (Ak1 l ns):=by simp[Ak1]
theorem Asz (ns:List Bs):∀(l:List Bs) (x:Bs),x∈Ak1 l ns↔x∈l∨x∈ns:=by
 induction ns with
 | nil=>intro l x;simp[Ak1]
 | cons n ns ih =>
   intro l x
   have h:=ih (Af0 n l) x
   have e:Ak1 l (n::ns)=Ak1 (Af0 n l) ns:=rfl
   rw[e,h,AoC,List.mem_cons]
   constructor
   · rintro((h | h) | h)<;>simp[h]
   · rintro(h | h | h)<;>simp[h]
theorem AoD (ns:List Bs):∀(l:List Bs),l.Pairwise (· < ·)→(Ak1 l ns).Pairwise (· < ·):=by
 induction ns with
 | nil=>intro l h;exact h
 | cons n ns ih=>intro l h;exact ih _ (AoB n h)
theorem AsA (ns:List Bs):∀(l:List Bs),(Ak1 l ns).length≤l.length+ns.length:=by
 induction ns with
 | nil=>intro l;exact Nat.le_refl _
 | cons n ns ih =>
   intro l
   have h:=ih (Af0 n l)
   have h2:=Asy n l
   have e:Ak1 l (n::ns)=Ak1 (Af0 n l) ns:=rfl
   rw[e,List.length_cons];omega
theorem AiJ (l:List Bs) (x:Bs):x∈Alo l↔x∈l:=by
 induction l using Aht with
 | h0=>exact Iff.rfl
 | h1 l y ih =>
   rw[AmT]
   split
   · rename_i h
     rw[ih,List.mem_append,List.mem_singleton]
     refine⟨.inl,fun h2=>h2.elim id fun e=>?_⟩
     exact ih.1 (by rw[e];exact List.mem_of_getLast? h)
   · rw[List.mem_append,List.mem_append,ih]
theorem AjR (l:List Bs) (h:l.Pairwise (fun x y=>x≤y)):(Alo l).Pairwise (· < ·):=by
 induction l using Aht with
 | h0=>exact List.Pairwise.nil
 | h1 l y ih =>
   rw[List.pairwise_append] at h
   obtain⟨h1,_,h3⟩:=h
   have hl:=ih h1
   rw[AmT]
   split
   · exact hl
   · rename_i hne
     rw[List.pairwise_append]
     refine⟨hl,by simp,fun a ha b hb=>?_⟩
     rw[List.mem_singleton.1 hb]
     have hab:a≤y:=h3 a ((AiJ l a).1 ha) y (by simp)
     rcases Std.lt_trichotomy a y with e | e | e
     · exact e
     · exfalso
       subst e
       -- a is the last: all before the last are less than it,and it is no greater than a
       rcases hg:(Alo l).getLast? with _ | z
       · rw[List.getLast?_eq_none_iff.1 hg] at ha;cases ha
       · have hz:z∈Alo l:=List.mem_of_getLast? hg
         have hza:z≤a:=h3 z ((AiJ l z).1 hz) a (by simp)
         by_cases ez:z=a
         · rw[ez] at hg;exact hne hg
         · obtain ⟨ys,hys⟩:∃ys,Alo l=ys++[z]:=List.getLast?_eq_some_iff.1 hg
           rw[hys] at ha hl
           rw[List.pairwise_append] at hl
           rcases List.mem_append.1 ha with h4 | h4
           · have:=hl.2.2 a h4 z (by simp)
             exact absurd this (List.not_lt.2 hza)
           · exact ez (List.mem_singleton.1 h4).symm
     · exact absurd e (List.not_lt.2 hab)
/-- The check-ins that are held, by their names, rising. -/
noncomputable def Akb (H:Ks) (n:Bs):List (Bs×Ck):=match Abf (Af2 H n) with
 | none=>[]
 | some c=>[(n,c)]
noncomputable def Ahl (H:Ks) (l:List Bs):List (Bs×Ck):=l.flatMap (Akb H)
noncomputable def Ab3 (H:Ks):List (Bs×Ck):=Ahl H (Ab0 H)
def Acl (c:Ck):Bs:=c.parents.headD []
/-- What an artifact says of tags, when. -/
noncomputable def Afw (n s:Bs):List Tg×Int:=match Abf s with
 | some c=>(c.tags.map fun t=>{ t with target:=n },c.date)
 | none=>(((Ad4 s).getD ct0).tags,((Ad4 s).getD ct0).date)
structure Sd where
 op:Tg
 date:Int
 src:Bs
def Asi (s:Sd):List Value:=[vU s.op.kind.toNat,vS s.op.name,vS s.op.target,vS s.op.value,vI s.date,vS s.src]
noncomputable def AfR (H:Ks) (n:Bs):List Sd:=(Afw n (Af2 H n)).1.map fun t=>⟨t,(Afw n (Af2 H n)).2,n⟩
noncomputable def sdF (H:Ks) (l:List Bs):List Sd:=l.flatMap (AfR H)
noncomputable def sdL (H:Ks):List Sd:=sdF H (Ab0 H)
/-- What is said last of a tag and a target. -/
abbrev Ls:=List ((Bs×Bs)×Sd)
def Abb:Ls→Bs×Bs→Option Sd
 | [],_=>none
 | p::r,k=>if p.1=k then some p.2 else Abb r k
def AfZ:Ls→Bs×Bs→Sd→Ls
 | [],k,v=>[(k,v)]
 | p::r,k,v=>if p.1=k then (k,v)::r else p::AfZ r k v
def AgD (l:Ls) (s:Sd):Ls:=match Abb l (s.op.name,s.op.target) with
 | none=>AfZ l (s.op.name,s.op.target) s
 | some old=>if old.date≤s.date then AfZ l (s.op.name,s.op.target) s else l
def AbY (l:List Sd):Ls:=l.foldl AgD []
noncomputable def AeN (H:Ks):Ls:=AbY (sdL H)
/-- Has a check-in a tag? -/
structure Tgd where
 tag:Bs
 target:Bs
 value:Bs
 source:Bs
 spread:Bool
 own:Bool
 deriving DecidableEq
def AtC (t:Tgd):List Value:=[vS t.tag,vS t.target,vS t.value,vS t.source,.bool t.spread,.bool t.own]
def Apt:Tgd:=⟨[],[],[],[],false,false⟩
def AcW:List (Bs×Ck)→Bs→Option Ck
 | [],_=>none
 | p::r,k=>if p.1=k then some p.2 else AcW r k
def Aj1 (C:List (Bs×Ck)) (l:Ls) (tag name:Bs):Nat→Bs→Option Tgd
 | 0,_=>none
 | k + 1,n=>match AcW C n with
   | none=>none
   | some c=>match Abb l (tag,n) with
     | none=>Aj1 C l tag name k (Acl c)
     | some s=>if s.op.kind=45∨(s.op.kind=43∧n≠name) then none
       else some ⟨tag,name,s.op.value,s.src,decide (s.op.kind=42),decide (n=name)⟩
def ofT (C:List (Bs×Ck)) (l:Ls) (tag name:Bs):Option Tgd:=Aj1 C l tag name C.length name
end Go.Proofs.YtdnoacgopfcpbaaGreat
