/- Texts of this proof, put together: SR10i, SR10j, SR10k, PNames, PLinks. -/
import Derived.Test.YtdnoacgopfcpbaaGreatQ21
set_option linter.unusedVariables false
set_option linter.unusedSimpArgs false
namespace Go.Proofs.YtdnoacgopfcpbaaGreat
section
set_option maxRecDepth 100000
section
variable {r:Option Nat} {P:Program} {n:Nat} {ops:Array Oper} {A:List HP} {L:Loc} {Hs:List HP}
theorem AeC {K:Loc→List HP→Prop} {o:Oper} {Gs:List HP} (hg:o.guard=none) (e:Ent Hs Gs) (k:AnOp r P n ops A o K L Gs):AnOp r P n ops A o K L Hs:=by
 obtain⟨h,⟨j,w,u,e1,_⟩ | ⟨g,X,val,φ,As,Rs,Bs,e2,t,k2⟩⟩:=k
 · rw[hg] at e1;cases e1
 · exact⟨h,.inr ⟨g,X,val,φ,As,Rs,Bs,e.trans e2,t,k2⟩⟩
end
theorem AfQ {G:Prop} (h:G:=by
    refine Aa2 () (vs:=[_]) (Cs:=[]) rfl (.tmp rfl .nil) ?_ trivial Aa0;show vB _=vB _;congr 1
    first
    | exact(decide_eq_false (fun h=>by have:=h.some;have:=h.date;omega)).symm
    | exact(decide_eq_false (fun h=>h16 h.user)).symm
    | exact decide_eq_decide.2 ⟨fun h=>⟨by omega,by omega,h,h16⟩,fun h=>h.tags⟩):G:=h
set_option maxHeartbeats 1000000 in
theorem AdY {Bt:HP} (ta:Option Addr) (tc:Nat) (c:Ct) (zu:c.user.length≤1099511627) (zt:TgZ c.tags) (sht:SlA Bt ta (c.tags.flatMap Aab)) :
    Sp1 Tryz.prog 217 [.agg (Abh ta tc c).toArray] [Bt] (vB (decide (Acu c))) [Bt]:=by
 have hT:=Afx false c.tags.length tc c.tags sht rfl zt.n (fun t ht=>by have:=zt.z t ht;omega);refine Sp.body (n:=27) Tryz.call217 Tryz.func217 rfl rfl rfl ?_;refine Qc (k:=Zx [_,_,_] (k:=fun b1=>Vv (k:=Wq (Qc (k:=Qx 0 3 (k:=Qv (k:=Gi 3 (t:=fun h6=>?_) (f:=fun h6=>?_))))))))
 ·
  refine I1 (k:=Vf 0 3 (k:=I1 (k:=Zd (k:=J1 (k:=P1 (k:=Vv (k:=Gi 8 (t:=fun h11=>?_) (f:=fun h11=>?_))))))))
  ·
   refine I1 (k:=Vf 2 9 (k:=I1 (k:=Zd (k:=I1 (k:=?_)))));refine Aag (Acj c.user (by omega)) rfl rfl rfl ?_;refine P1 (k:=Vv (k:=Gi 13 (t:=fun h16=>?_) (f:=fun h16=>?_)))
   ·
    refine I1 (k:=Vf 1 28 (k:=I1 (k:=Zd (k:=J1 (k:=J1 (k:=P1 (k:=Vv (k:=Gi 19 (t:=fun h22=>?_) (f:=fun h22=>?_)))))))))
    ·
     refine I1 (k:=Vf 1 28 (k:=I1 (k:=Zd (k:=I1 (k:=?_)))));refine Aaa hT rfl rfl rfl ?_;refine P1 (k:=Vv (k:=Wq (Zt (k:=?_))));exact AfQ
    ·
     refine O0 (k:=O0 (k:=O0 (k:=P0 (k:=Vv (k:=Wq (Zt (k:=?_)))))));exact AfQ
   ·
    refine O0 (k:=O0 (k:=O0 (k:=O0 (k:=P0 (k:=Vv (k:=O0 (k:=O0 (k:=O0 (k:=P0 (k:=Vv (k:=Wq ?_)))))))))));refine Zt (k:=?_);exact AfQ
  ·
   refine O0 (k:=O0 (k:=O0 (k:=P0 (k:=Vv (k:=O0 (k:=O0 (k:=O0 (k:=O0 (k:=P0 (k:=Vv (k:=O0 (k:=?_))))))))))));refine O0 (k:=O0 (k:=P0 (k:=Vv (k:=Wq (Zt (k:=?_))))));exact AfQ
 ·
  refine O0 (k:=O0 (k:=O0 (k:=P0 (k:=Vv (k:=O0 (k:=O0 (k:=O0 (k:=P0 (k:=Vv (k:=O0 (k:=O0 (k:=?_))))))))))));refine O0 (k:=O0 (k:=P0 (k:=Vv (k:=O0 (k:=O0 (k:=O0 (k:=P0 (k:=Vv (k:=Wq (Zt (k:=?_)))))))))));exact AfQ
theorem Alm {G:Prop} (h:G:=by exact Aa2 () (vs:=[_]) (Cs:=[]) rfl (.tmp rfl .nil) rfl trivial Aa0):G:=h
set_option maxHeartbeats 2000000 in
theorem Ad7 {Bt:HP} (ta:Option Addr) (tc:Nat) (c:Ct) (zt:TgZ c.tags) (hd:0≤c.date∧c.date≤1073741824) (hz:(Aav (AaR c)).length≤1073741824) (sht:SlA Bt ta (c.tags.flatMap Aab)) :
    Sp1 Tryz.prog 35 [.agg (Abh ta tc c).toArray] [Bt] (vS (ctB c)) [Bt]:=by
 have hTC:=Ajg c.tags.length tc c.tags sht rfl zt;have hcl:=(AhC (AaR c)).1;have hcn:(AaR c).length=c.tags.length+2:=by simp[AaR]
 have hDec:SpF Tryz.prog 51 [vI c.date] (vS (AaX c.date.toNat)):=by
  have:=Akv c.date.toNat (by omega);rwa [Int.toNat_of_nonneg hd.1] at this
 refine Sp.body (n:=22) Tryz.call35 Tryz.func35 rfl rfl rfl ?_;refine Qc (k:=Zx [_,_,_] (k:=fun b1=>Vv (k:=Wq (Za (k:=Dw [Ce b1 70 [vI c.date,.slice ta c.tags.length tc,vS c.user]] (k:=?_))))));refine Di 0 (t:=Uf 0 3) (k:=Di 1 (t:=Ul) (k:=Di 6 (t:=Uf 1 28) (k:=Di 7 (t:=Ul) (k:=Dn 2 (k:=?_)))));refine Aal hDec rfl rfl rfl ?_;refine Aah 3 8 (by kernel_rfl) rfl rfl ?_ ?_
 ·
  refine Nl [_] (cs:=[_]) (k:=fun b7=>Di 4 (t:=Ux (Ps [_,_])) (k:=?_));refine Aah 5 8 (by kernel_rfl) rfl rfl ?_ ?_
  ·
   refine Nl [_] (cs:=[_,_]) (k:=fun b9=>Dn 8 (k:=?_));refine Aam hTC rfl rfl rfl (fun x12 hx12=>?_);refine Dn 9 (k:=?_);obtain⟨⟨oa,oc⟩,tqs⟩:=x12;dsimp only[Ae0] at hx12 ⊢;have htq:=AcA hx12;rw[List.length_map] at htq;obtain⟨ds,hds⟩:∃ds:List CdV,ds=[⟨68,some ⟨b7,0,none⟩,1,[AaX c.date.toNat]⟩]:=⟨_,rfl⟩
   have hdf:[vU 68,.slice (some ⟨b7,0,none⟩) 1 1]=ds.flatMap CdV.cells:=by rw[hds];rfl
   refine AeC rfl (AbF (k:=1) (cap:=1) (sz:=2) (e:=101) (g:=b9) (xs:=ds.flatMap CdV.cells) (cur:=[vU 68,.slice (some ⟨b7,0,none⟩) 1 1]) (Nat.le_refl _) (by simp[maxLen]) rfl (by rw[←hdf];rfl) (by rw[←hdf];rfl)) ?_;refine Aeg (sz:=2) (bytes:=32) Tryz.underlying99 Abm rfl rfl rfl rfl rfl rfl rfl (Ac2 tqs) (AcN tqs) (by omega) (by simp only[maxLen];omega) rfl (fun a13 c13=>?_);refine Dv 10 (k:=Dd (k:=Ya (Qc (k:=Vv (k:=Qx 2 9 (k:=Zv [_] (cs:=[_]) (k:=fun b17=>Vx (Ps [_,_]) (k:=Zv [_] (cs:=[_,_]) (k:=fun b19=>?_)))))))));refine Aao (sz:=2) (bytes:=32) Tryz.underlying99 Abm rfl rfl rfl rfl rfl rfl rfl (by rfl) (by rfl) (by omega) (by simp only[maxLen];omega) rfl (fun a20 c20=>?_);refine Ac9 b7 ?_;refine Ac9 b17 ?_;obtain⟨al,hal⟩:∃al:List CdV,al=ds++tqs++[⟨85,some ⟨b17,0,none⟩,1,[c.user]⟩]:=⟨_,rfl⟩
   have halc:Aa3 al=AaR c:=by rw[hal,AaI,AaI,hx12,hds,AaR];simp[Aa3,CdV.cd]
   have hall:al.length=1+tqs.length+1:=by rw[hal,hds];simp;omega
   have hxx:ds.flatMap CdV.cells++tqs.flatMap CdV.cells++[vU 85,.slice (some ⟨b17,0,none⟩) 1 1]=al.flatMap CdV.cells:=by rw[hal];simp[CdV.cells]
   have hPr:=Ac3 (B:=Row 101 2 (.slice a20 (1+tqs.length+1) c20) (1+tqs.length+1) (ds.flatMap CdV.cells++tqs.flatMap CdV.cells++[vU 85,.slice (some ⟨b17,0,none⟩) 1 1])) (a:=a20) (1+tqs.length+1) c20 al (by rw[←hxx];exact AaC) hall (by rw[halc];omega);rw[halc] at hPr;refine wo_ent' (AdJ (a:=some ⟨b7,0,none⟩) (c:=1) 68 [AaX c.date.toNat] [vS (AaX c.date.toNat)] HasC.get rfl (Nat.le_refl _)) ?_;rw[←hds];refine wo_ent' (AbY (qs:=ds) (rs:=tqs) HasC.get HasC.get) ?_;refine wo_ent' (Ab2 (qs:=ds++tqs) (a:=some ⟨b17,0,none⟩) (c:=1) 85 [c.user] [vS c.user] HasC.get HasC.get rfl (Nat.le_refl _)) ?_;rw[←hal];refine Aaa hPr rfl rfl rfl ?_;refine Vv (k:=Wq (Zt (k:=?_)));exact Alm
  ·
   refine Aam hTC rfl rfl rfl (fun x12 hx12=>?_);refine Dn 5 (k:=Nl [_] (cs:=[_,_]) (k:=fun b9=>Dn 9 (k:=?_)));obtain⟨⟨oa,oc⟩,tqs⟩:=x12;dsimp only[Ae0] at hx12 ⊢;have htq:=AcA hx12;rw[List.length_map] at htq;obtain⟨ds,hds⟩:∃ds:List CdV,ds=[⟨68,some ⟨b7,0,none⟩,1,[AaX c.date.toNat]⟩]:=⟨_,rfl⟩
   have hdf:[vU 68,.slice (some ⟨b7,0,none⟩) 1 1]=ds.flatMap CdV.cells:=by rw[hds];rfl
   refine AeC rfl (AbF (k:=1) (cap:=1) (sz:=2) (e:=101) (g:=b9) (xs:=ds.flatMap CdV.cells) (cur:=[vU 68,.slice (some ⟨b7,0,none⟩) 1 1]) (Nat.le_refl _) (by simp[maxLen]) rfl (by rw[←hdf];rfl) (by rw[←hdf];rfl)) ?_;refine Aeg (sz:=2) (bytes:=32) Tryz.underlying99 Abm rfl rfl rfl rfl rfl rfl rfl (Ac2 tqs) (AcN tqs) (by omega) (by simp only[maxLen];omega) rfl (fun a13 c13=>?_);refine Dv 10 (k:=Dd (k:=Ya (Qc (k:=Vv (k:=Qx 2 9 (k:=Zv [_] (cs:=[_]) (k:=fun b17=>Vx (Ps [_,_]) (k:=Zv [_] (cs:=[_,_]) (k:=fun b19=>?_)))))))));refine Aao (sz:=2) (bytes:=32) Tryz.underlying99 Abm rfl rfl rfl rfl rfl rfl rfl (by rfl) (by rfl) (by omega) (by simp only[maxLen];omega) rfl (fun a20 c20=>?_);refine Ac9 b7 ?_;refine Ac9 b17 ?_;obtain⟨al,hal⟩:∃al:List CdV,al=ds++tqs++[⟨85,some ⟨b17,0,none⟩,1,[c.user]⟩]:=⟨_,rfl⟩
   have halc:Aa3 al=AaR c:=by rw[hal,AaI,AaI,hx12,hds,AaR];simp[Aa3,CdV.cd]
   have hall:al.length=1+tqs.length+1:=by rw[hal,hds];simp;omega
   have hxx:ds.flatMap CdV.cells++tqs.flatMap CdV.cells++[vU 85,.slice (some ⟨b17,0,none⟩) 1 1]=al.flatMap CdV.cells:=by rw[hal];simp[CdV.cells]
   have hPr:=Ac3 (B:=Row 101 2 (.slice a20 (1+tqs.length+1) c20) (1+tqs.length+1) (ds.flatMap CdV.cells++tqs.flatMap CdV.cells++[vU 85,.slice (some ⟨b17,0,none⟩) 1 1])) (a:=a20) (1+tqs.length+1) c20 al (by rw[←hxx];exact AaC) hall (by rw[halc];omega);rw[halc] at hPr;refine wo_ent' (AdJ (a:=some ⟨b7,0,none⟩) (c:=1) 68 [AaX c.date.toNat] [vS (AaX c.date.toNat)] HasC.get rfl (Nat.le_refl _)) ?_;rw[←hds];refine wo_ent' (AbY (qs:=ds) (rs:=tqs) HasC.get HasC.get) ?_;refine wo_ent' (Ab2 (qs:=ds++tqs) (a:=some ⟨b17,0,none⟩) (c:=1) 85 [c.user] [vS c.user] HasC.get HasC.get rfl (Nat.le_refl _)) ?_;rw[←hal];refine Aaa hPr rfl rfl rfl ?_;refine Vv (k:=Wq (Zt (k:=?_)));exact Alm
 ·
  refine Aam hTC rfl rfl rfl (fun x12 hx12=>?_);refine Dn 3 (k:=Nl [_] (cs:=[_]) (k:=fun b7=>Di 4 (t:=Ux (Ps [_,_])) (k:=Dn 5 (k:=Nl [_] (cs:=[_,_]) (k:=fun b9=>Dn 9 (k:=?_))))));obtain⟨⟨oa,oc⟩,tqs⟩:=x12;dsimp only[Ae0] at hx12 ⊢;have htq:=AcA hx12;rw[List.length_map] at htq;obtain⟨ds,hds⟩:∃ds:List CdV,ds=[⟨68,some ⟨b7,0,none⟩,1,[AaX c.date.toNat]⟩]:=⟨_,rfl⟩
  have hdf:[vU 68,.slice (some ⟨b7,0,none⟩) 1 1]=ds.flatMap CdV.cells:=by rw[hds];rfl
  refine AeC rfl (AbF (k:=1) (cap:=1) (sz:=2) (e:=101) (g:=b9) (xs:=ds.flatMap CdV.cells) (cur:=[vU 68,.slice (some ⟨b7,0,none⟩) 1 1]) (Nat.le_refl _) (by simp[maxLen]) rfl (by rw[←hdf];rfl) (by rw[←hdf];rfl)) ?_;refine Aeg (sz:=2) (bytes:=32) Tryz.underlying99 Abm rfl rfl rfl rfl rfl rfl rfl (Ac2 tqs) (AcN tqs) (by omega) (by simp only[maxLen];omega) rfl (fun a13 c13=>?_);refine Dv 10 (k:=Dd (k:=Ya (Qc (k:=Vv (k:=Qx 2 9 (k:=Zv [_] (cs:=[_]) (k:=fun b17=>Vx (Ps [_,_]) (k:=Zv [_] (cs:=[_,_]) (k:=fun b19=>?_)))))))));refine Aao (sz:=2) (bytes:=32) Tryz.underlying99 Abm rfl rfl rfl rfl rfl rfl rfl (by rfl) (by rfl) (by omega) (by simp only[maxLen];omega) rfl (fun a20 c20=>?_);refine Ac9 b7 ?_;refine Ac9 b17 ?_;obtain⟨al,hal⟩:∃al:List CdV,al=ds++tqs++[⟨85,some ⟨b17,0,none⟩,1,[c.user]⟩]:=⟨_,rfl⟩
  have halc:Aa3 al=AaR c:=by rw[hal,AaI,AaI,hx12,hds,AaR];simp[Aa3,CdV.cd]
  have hall:al.length=1+tqs.length+1:=by rw[hal,hds];simp;omega
  have hxx:ds.flatMap CdV.cells++tqs.flatMap CdV.cells++[vU 85,.slice (some ⟨b17,0,none⟩) 1 1]=al.flatMap CdV.cells:=by rw[hal];simp[CdV.cells]
  have hPr:=Ac3 (B:=Row 101 2 (.slice a20 (1+tqs.length+1) c20) (1+tqs.length+1) (ds.flatMap CdV.cells++tqs.flatMap CdV.cells++[vU 85,.slice (some ⟨b17,0,none⟩) 1 1])) (a:=a20) (1+tqs.length+1) c20 al (by rw[←hxx];exact AaC) hall (by rw[halc];omega);rw[halc] at hPr;refine wo_ent' (AdJ (a:=some ⟨b7,0,none⟩) (c:=1) 68 [AaX c.date.toNat] [vS (AaX c.date.toNat)] HasC.get rfl (Nat.le_refl _)) ?_;rw[←hds];refine wo_ent' (AbY (qs:=ds) (rs:=tqs) HasC.get HasC.get) ?_;refine wo_ent' (Ab2 (qs:=ds++tqs) (a:=some ⟨b17,0,none⟩) (c:=1) 85 [c.user] [vS c.user] HasC.get HasC.get rfl (Nat.le_refl _)) ?_;rw[←hal];refine Aaa hPr rfl rfl rfl ?_;refine Vv (k:=Wq (Zt (k:=?_)));exact Alm
theorem AlM {s:Bs} {l:List Cd} (h:Abv s=some l) (h2:Akt l=none):Ab9 s=none:=Acb fun c hc=>by
 have e:=hc.reads.uniq (readC_iff.1 h);rw[←e,Aks hc.1] at h2;cases h2
theorem AnE {s:Bs} {l:List Cd} {c:Ct} (h:Abv s=some l) (h2:Akt l=some c) (h3:¬(Acu c∧ctB c=s)):Ab9 s=none:=Acb fun k hc=>by
 have e:=hc.reads.uniq (readC_iff.1 h);rw[←e,Aks hc.1] at h2;cases h2;exact h3 hc
theorem AeW {G:Prop} (h:G:=by
    first
    | (have h16':(!(Abv s).isSome)=true:=h16
       have hn:Ab9 s=none:=Acb fun c h=>by rw[readC_iff.2 h.reads] at h16';simp at h16'
       rw[hn];refine Aa2 ((none,0),ct0) (vs:=[_,_]) (Cs:=[Ce b2 70 (Abh none 0 ct0)]) rfl (.cell (l:=Abh none 0 ct0) (us:=Abh none 0 ct0) rfl (Aax (T:=70)) Tryz.underlying70 rfl AkN (by exact Nat.le_of_ble_eq_true rfl) rfl (.tmp rfl .nil)) rfl rfl ?_;exact(AaS (e:=60) (sz:=4)).trans (show Ent _ [Row 60 4 (.slice none 0 0) 0 [],Ce b2 70 [vI 0,.slice none 0 0,vS []]] from Aa0))
    | (have hn:Ab9 s=none:=AlM hl (hrc.trans (if_pos (by omega)))
       rw[hn];refine Aa2 ((none,0),ct0) (vs:=[_,_]) (Cs:=[Ce b2 70 (Abh none 0 ct0)]) rfl (.cell (l:=Abh none 0 ct0) (us:=Abh none 0 ct0) rfl (Aax (T:=70)) Tryz.underlying70 rfl AkN (by exact Nat.le_of_ble_eq_true rfl) rfl (.tmp rfl .nil)) rfl rfl ?_;exact(AaS (e:=60) (sz:=4)).trans (show Ent _ [Row 60 4 (.slice none 0 0) 0 [],Ce b2 70 [vI 0,.slice none 0 0,vS []]] from Aa0))
    | (have hn:Ab9 s=none:=AlM hl (by unfold Akt;rw[hll];exact if_pos (.inl (by omega)))
       rw[hn];refine Aa2 ((none,0),ct0) (vs:=[_,_]) (Cs:=[Ce b2 70 (Abh none 0 ct0)]) rfl (.cell (l:=Abh none 0 ct0) (us:=Abh none 0 ct0) rfl (Aax (T:=70)) Tryz.underlying70 rfl AkN (by exact Nat.le_of_ble_eq_true rfl) rfl (.tmp rfl .nil)) rfl rfl ?_;exact(AaS (e:=60) (sz:=4)).trans (show Ent _ [Row 60 4 (.slice none 0 0) 0 [],Ce b2 70 [vI 0,.slice none 0 0,vS []]] from Aa0))):G:=h
theorem AeV {G:Prop} (h:G:=by
    have hn:Ab9 s=none:=by
     first
     | (have h83':(!(AaK (Aa8 84 (Aa3 qs))).isSome)=true:=h83
        refine AlM hl ?_;rw[hrc]
        cases e:AaK (Aa8 84 (Aa3 qs)) with
        | none=>rfl
        | some us=>rw[e] at h83';simp at h83')
     | exact AnE hl hrk (fun h=>h88 h.1)
     | exact AnE hl hrk (fun h=>h93 h.2)
    rw[hn];refine Aa2 ((none,0),ct0) (vs:=[_,_]) (Cs:=[Ce b2 70 (Abh none 0 ct0)]) rfl (.cell (l:=Abh none 0 ct0) (us:=Abh none 0 ct0) rfl (Aax (T:=70)) Tryz.underlying70 rfl AkN (by exact Nat.le_of_ble_eq_true rfl) rfl (.tmp rfl .nil)) rfl rfl ?_;exact(AaS (e:=60) (sz:=4)).trans (show Ent _ [Row 60 4 (.slice none 0 0) 0 [],Ce b2 70 [vI 0,.slice none 0 0,vS []]] from Aa0)):G:=h
theorem Anp {G:Prop} (h:G:=by
    have hk:Ab9 s=some c:=readCt_iff.2 ⟨hR,Classical.not_not.1 h93⟩;rw[hk];refine Aa2 ((ta,tc),c) (vs:=[_,_]) (Cs:=[Ce b2 70 (Abh ta tc c)]) rfl (.cell (l:=Abh ta tc c) (us:=Abh ta tc c) rfl (Aax (T:=70)) Tryz.underlying70 rfl AkN (by exact Nat.le_of_ble_eq_true rfl) rfl (.tmp rfl .nil)) rfl rfl ?_;exact(show Ent _ [Row 60 4 (.slice ta c.tags.length tc) c.tags.length (c.tags.flatMap Aab),Ce b2 70 [vI c.date,.slice ta c.tags.length tc,vS c.user]] from Aa0)):G:=h
set_option maxHeartbeats 4000000 in
theorem Ahc (s:Bs) (hs:s.length≤1073741824):Sp Tryz.prog 180 [vS s] [] (X:=(Option Addr×Nat)×Ct) (fun x=>.tuple #[.agg (Abh x.1.1 x.1.2 x.2).toArray,vB (Ab9 s).isSome]) (fun x=>x.2=(Ab9 s).getD ct0) ctH:=by
 refine Sp.body (n:=96) Tryz.call180 Tryz.func180 rfl rfl rfl ?_;refine Qc (k:=Zc [.int .i64 0,.slice none 0 0,vS []] (k:=fun b2=>Vv (k:=Wq (Qc (k:=Vv (k:=?_))))));refine Aaq (Ahd s hs) rfl rfl rfl (fun x11 hx11=>?_);obtain⟨⟨ca,cc⟩,qs⟩:=x11;dsimp only[Ae0,Aow] at hx11 ⊢;refine Vv (k:=?_);refine Aa6 (Aa7 (v:=.slice ca qs.length cc) rfl rfl) rfl ?_;refine Aa6 (Aa7 (v:=vB (Abv s).isSome) rfl rfl) rfl ?_;refine Qv (k:=Wq (Za (k:=Qc (k:=Qv (k:=Vv (k:=Gi 2 (t:=fun h16=>?_) (f:=fun h16=>?_)))))))
 ·
  refine O1 (k:=O1 (k:=O1 (k:=P1 (k:=Vv (k:=O1 (k:=O1 (k:=O1 (k:=O1 (k:=O1 (k:=P1 (k:=Vv (k:=?_))))))))))));refine O1 (k:=O1 (k:=O1 (k:=O1 (k:=O1 (k:=O1 (k:=P1 (k:=Vv (k:=O1 (k:=O1 (k:=O1 (k:=O1 (k:=?_))))))))))));refine O1 (k:=O1 (k:=O1 (k:=O1 (k:=P1 (k:=Vv (k:=O1 (k:=O1 (k:=O1 (k:=O1 (k:=O1 (k:=O1 (k:=?_))))))))))));refine O1 (k:=O1 (k:=O1 (k:=P1 (k:=Wq (Z1 (k:=Qc (k:=Vx (Ps [.int .i64 0,.slice none 0 0,vS []]) (k:=Zp (k:=Vv (k:=Wq ?_))))))))));refine Zt (k:=Va ?_);exact AeW
 ·
  have hl:Abv s=some (Aa3 qs):=by cases e:Abv s with
   | none=>rw[e] at h16;simp at h16
   | some l=>rw[e] at hx11;rw[hx11];rfl
  have hrd:=readC_iff.1 hl;have hne:=Akx hl;have hbz:(Aav (Aa3 qs)).length≤1073741824:=by
   have h1:=congrArg List.length hrd.2;rw[AcI,Ac1] at h1;omega
  obtain⟨hqn,hqz⟩:=AcO hbz;have hz:=fun x=>AdT hbz x;have hll:(Aa3 qs).length=qs.length:=by simp[Aa3]
  have hrc:Akt (Aa3 qs)=if (Aa3 qs).length<3∨((Aa3 qs).getD 0 cd0).l.toNat≠68∨((Aa3 qs).getD 0 cd0).args.length≠1∨((Aa3 qs).getD ((Aa3 qs).length-1) cd0).l.toNat≠85∨((Aa3 qs).getD ((Aa3 qs).length-1) cd0).args.length≠1 then none
   else (AaK (Aa8 84 (Aa3 qs))).map fun t=>⟨rdI (((Aa3 qs).getD 0 cd0).args.getD 0 []),t,((Aa3 qs).getD ((Aa3 qs).length-1) cd0).args.getD 0 []⟩:=rfl
  rw[hll] at hrc;refine J0 (k:=J0 (k:=J0 (k:=P0 (k:=Vv (k:=Gi 7 (t:=fun h21=>?_) (f:=fun h21=>?_))))))
  ·
   refine O1 (k:=O1 (k:=O1 (k:=O1 (k:=O1 (k:=P1 (k:=Vv (k:=O1 (k:=O1 (k:=O1 (k:=O1 (k:=O1 (k:=?_))))))))))));refine O1 (k:=P1 (k:=Vv (k:=O1 (k:=O1 (k:=O1 (k:=O1 (k:=O1 (k:=O1 (k:=O1 (k:=O1 (k:=P1 (k:=?_))))))))))));refine Vv (k:=O1 (k:=O1 (k:=O1 (k:=O1 (k:=O1 (k:=O1 (k:=O1 (k:=O1 (k:=O1 (k:=P1 (k:=Wq ?_)))))))))));refine Z1 (k:=Qc (k:=Vx (Ps [.int .i64 0,.slice none 0 0,vS []]) (k:=Zp (k:=Vv (k:=Wq (Zt (k:=Va ?_)))))));exact AeW
  ·
   have hfl:=Ac2 qs;have h0l:0<qs.length:=by omega
   have hel:qs.length-1<qs.length:=by omega
   rw[Adq h0l,Adq hel] at hrc;dsimp only[CdV.cd] at hrc;refine J0 (k:=I0 (k:=?_));refine AaQ (sz:=2) (m:=0) (kk:=2 * (0)) Tryz.underlying99 Abm rfl rfl rfl (by omega) (by omega) (by omega) (Nat.mul_comm _ _) rfl ?_;refine I0 (k:=?_);refine Ahe (kk:=2 * (0)) Tryz.underlying101 rfl ti5 rfl rfl rfl rfl (by omega) rfl ?_;refine I0 (k:=?_);refine AbS Tryz.underlying5 rfl rfl (Ajz h0l).1 rfl ?_;refine J0 (k:=P0 (k:=Vv (k:=Gi 14 (t:=fun h28=>?_) (f:=fun h28=>?_))))
   ·
    refine O1 (k:=O1 (k:=O1 (k:=O1 (k:=O1 (k:=O1 (k:=P1 (k:=Vv (k:=O1 (k:=O1 (k:=O1 (k:=O1 (k:=?_))))))))))));refine O1 (k:=O1 (k:=O1 (k:=O1 (k:=P1 (k:=Vv (k:=O1 (k:=O1 (k:=O1 (k:=O1 (k:=O1 (k:=O1 (k:=?_))))))))))));refine O1 (k:=O1 (k:=O1 (k:=P1 (k:=Wq (Z1 (k:=Qc (k:=Vx (Ps [.int .i64 0,.slice none 0 0,vS []]) (k:=Zp (k:=Vv (k:=Wq ?_))))))))));refine Zt (k:=Va ?_);exact AeW
   ·
    refine J0 (k:=I0 (k:=?_));refine AaQ (sz:=2) (m:=0) (kk:=2 * (0)) Tryz.underlying99 Abm rfl rfl rfl (by omega) (by omega) (by omega) (Nat.mul_comm _ _) rfl ?_;refine I0 (k:=?_);refine Ahe (kk:=2 * (0)+1) Tryz.underlying101 rfl Aok rfl rfl rfl rfl (by omega) rfl ?_;refine I0 (k:=?_);refine AbS Tryz.underlying27 rfl rfl (Ajz h0l).2 rfl ?_;refine J0 (k:=J0 (k:=P0 (k:=Vv (k:=Gi 22 (t:=fun h36=>?_) (f:=fun h36=>?_)))))
    ·
     refine O1 (k:=O1 (k:=O1 (k:=O1 (k:=O1 (k:=O1 (k:=O1 (k:=O1 (k:=P1 (k:=Vv (k:=O1 (k:=O1 (k:=?_))))))))))));refine O1 (k:=O1 (k:=O1 (k:=O1 (k:=O1 (k:=O1 (k:=O1 (k:=P1 (k:=Wq (Z1 (k:=Qc (k:=?_)))))))))));refine Vx (Ps [.int .i64 0,.slice none 0 0,vS []]) (k:=Zp (k:=Vv (k:=Wq (Zt (k:=Va ?_)))));exact AeW
    ·
     refine J0 (k:=J0 (k:=J0 (k:=J0 (k:=I0 (k:=?_)))));refine AaQ (sz:=2) (m:=qs.length-1) (kk:=2 * (qs.length-1)) Tryz.underlying99 Abm rfl rfl rfl (by omega) (by omega) (by omega) (Nat.mul_comm _ _) rfl ?_;refine I0 (k:=?_);refine Ahe (kk:=2 * (qs.length-1)) Tryz.underlying101 rfl ti5 rfl rfl rfl rfl (by omega) rfl ?_;refine I0 (k:=?_);refine AbS Tryz.underlying5 rfl rfl (Ajz hel).1 rfl ?_;refine J0 (k:=P0 (k:=Vv (k:=Gi 32 (t:=fun h46=>?_) (f:=fun h46=>?_))))
     ·
      refine O1 (k:=O1 (k:=O1 (k:=O1 (k:=O1 (k:=O1 (k:=O1 (k:=O1 (k:=O1 (k:=P1 (k:=Wq (Z1 (k:=?_))))))))))));refine Qc (k:=Vx (Ps [.int .i64 0,.slice none 0 0,vS []]) (k:=Zp (k:=Vv (k:=Wq (Zt (k:=Va ?_))))));exact AeW
     ·
      refine J0 (k:=J0 (k:=J0 (k:=J0 (k:=I0 (k:=?_)))));refine AaQ (sz:=2) (m:=qs.length-1) (kk:=2 * (qs.length-1)) Tryz.underlying99 Abm rfl rfl rfl (by omega) (by omega) (by omega) (Nat.mul_comm _ _) rfl ?_;refine I0 (k:=?_);refine Ahe (kk:=2 * (qs.length-1)+1) Tryz.underlying101 rfl Aok rfl rfl rfl rfl (by omega) rfl ?_;refine I0 (k:=?_);refine AbS Tryz.underlying27 rfl rfl (Ajz hel).2 rfl ?_;refine J0 (k:=J0 (k:=P0 (k:=Wq (Zi (t:=fun h56=>?_) (f:=fun h56=>?_)))))
      ·
       refine Qc (k:=Vx (Ps [.int .i64 0,.slice none 0 0,vS []]) (k:=Zp (k:=Vv (k:=Wq (Zt (k:=Va ?_))))));exact AeW
      ·
       refine Zk (k:=Ya (Za (k:=?_)));replace hrc:=hrc.trans (if_neg (by omega));have hq0z:=hqz qs[0] (List.getElem_mem h0l);have hqez:=hqz qs[qs.length-1] (List.getElem_mem hel);refine Zr (k:=Vv (k:=?_));refine Aaq (Ag0 (B:=Row 101 2 (.slice ca qs.length cc) qs.length (qs.flatMap CdV.cells)) (a:=ca) qs.length cc qs AaC rfl hbz) rfl rfl rfl (fun x60 hx60=>?_);obtain⟨⟨ta,tc⟩,ts⟩:=x60;dsimp only[Aom,Aon] at hx60 ⊢;refine Vv (k:=?_);refine Aa6 (Aa7 (v:=.slice ta ts.length tc) rfl rfl) rfl ?_;refine Aa6 (Aa7 (v:=vB (AaK (Aa8 84 (Aa3 qs))).isSome) rfl rfl) rfl ?_;refine Qv (k:=Wq (Za (k:=?_)));refine wc_ent' (Aea (List.getElem_mem h0l) HasC.get) ?_;refine wc_ent' (Aea (List.getElem_mem hel) HasC.get) ?_;have hgz:∀q:CdV,(AaM q.args).length≤1073741824→(q.args.getD 0 []).length≤1073741824:=by
        intro q hq;by_cases hi:0<q.args.length
        · have h1:=AdL q.args
          have h2:=AeX (l:=q.args) hi;have h3:=Agr (l:=q.args) (j:=0+1);omega
        · simp[List.eq_nil_of_length_eq_zero (show q.args.length=0 by omega)]
       have hg0:=hgz _ hq0z.1;have hge:=hgz _ hqez.1;refine Dw [Row 101 2 (.slice ca qs.length cc) qs.length (qs.flatMap CdV.cells),SlI (qs[0]'h0l).a ((qs[0]'h0l).args.map vS),SlI (qs[qs.length-1]'hel).a ((qs[qs.length-1]'hel).args.map vS)] (k:=?_);refine Dv 0 (k:=?_);refine Aa1 1 rfl rfl rfl (by kernel_rfl) (by kernel_rfl) (Aae (sz:=2) (m:=0) (kk:=2 * (0)) Tryz.underlying99 Abm rfl rfl rfl (by omega) (by omega) (by omega) (Nat.mul_comm _ _)) ?_;refine Aa1 2 rfl rfl rfl (by kernel_rfl) (by kernel_rfl) (AaO (kk:=2 * (0)+1) Tryz.underlying101 rfl Aok rfl rfl rfl rfl (by omega)) ?_;refine Aa1 3 rfl rfl rfl (by kernel_rfl) (by kernel_rfl) (Aas Tryz.underlying27 rfl rfl (Ajz h0l).2) ?_;refine Aa1 4 rfl rfl rfl (by kernel_rfl) (by kernel_rfl) (Aae (m:=0) (sz:=1) Tryz.underlying27 ti9 rfl rfl rfl rfl (by omega) (by first | (rw[List.length_map];omega) | (rw[Aaj (sz:=1) (fun _=>rfl)];omega) | (simp;omega)) (Nat.mul_one _)) ?_;refine Aa1 5 rfl rfl rfl (by kernel_rfl) (by kernel_rfl) (Aas Tryz.underlying9 rfl rfl (Aa4 [] (m:=0) (by omega))) ?_;refine Dv 7 (k:=Dv 8 (k:=Dv 9 (k:=Dv 10 (k:=Dv 11 (k:=?_)))));refine Aa1 12 rfl rfl rfl (by kernel_rfl) (by kernel_rfl) (Aae (sz:=2) (m:=qs.length-1) (kk:=2 * (qs.length-1)) Tryz.underlying99 Abm rfl rfl rfl (by omega) (by omega) (by omega) (Nat.mul_comm _ _)) ?_;refine Aa1 13 rfl rfl rfl (by kernel_rfl) (by kernel_rfl) (AaO (kk:=2 * (qs.length-1)+1) Tryz.underlying101 rfl Aok rfl rfl rfl rfl (by omega)) ?_
       refine Aa1 14 rfl rfl rfl (by kernel_rfl) (by kernel_rfl) (Aas Tryz.underlying27 rfl rfl (Ajz hel).2) ?_;refine Aa1 15 rfl rfl rfl (by kernel_rfl) (by kernel_rfl) (Aae (m:=0) (sz:=1) Tryz.underlying27 ti9 rfl rfl rfl rfl (by omega) (by first | (rw[List.length_map];omega) | (rw[Aaj (sz:=1) (fun _=>rfl)];omega) | (simp;omega)) (Nat.mul_one _)) ?_;refine Aa1 16 rfl rfl rfl (by kernel_rfl) (by kernel_rfl) (Aas Tryz.underlying9 rfl rfl (Aa4 [] (m:=0) (by omega))) ?_;refine Aah 6 18 (by kernel_rfl) rfl rfl ?_ ?_
       ·
        refine Aal (Aex ((qs[0]'h0l).args.getD 0 []) (by omega)) rfl rfl rfl ?_;refine Di 17 (t:=Ux (Ps [_,_,_])) (k:=Dn 18 (k:=Nc [.int .i64 0,.slice none 0 0,vS []] (k:=fun b8=>Dn 19 (k:=Na (k:=Dd (k:=Ya (Za (k:=Za (k:=?_)))))))));have hz84:=fun e=>Ag1 (N:=1073741824) (l:=Aa8 84 (Aa3 qs)) (ts:=ts) (fun xs hx a ha=>((hz 84).2 xs hx).2 a ha) e;have htz:TgZ ts:=by
         cases e:AaK (Aa8 84 (Aa3 qs)) with
         | none=>rw[e] at hx60;rw[hx60];exact⟨Nat.zero_le _,(fun _ h=>by simp at h)⟩
         | some us =>
           rw[e] at hx60;obtain⟨h1,h2⟩:=hz84 (by rw[e,hx60];rfl);have h3:=(hz 84).1;exact⟨by omega,fun t ht=>by have:=h2 t ht;omega⟩
        obtain⟨c,hc⟩:∃c:Ct,c=⟨rdI ((qs[0]'h0l).args.getD 0 []),ts,(qs[qs.length-1]'hel).args.getD 0 []⟩:=⟨_,rfl⟩
        have hc1:c.date=rdI ((qs[0]'h0l).args.getD 0 []):=by rw[hc]
        have hc2:c.tags=ts:=by rw[hc]
        have hc3:c.user=(qs[qs.length-1]'hel).args.getD 0 []:=by rw[hc]
        rw[←hc1,←hc2,←hc3];rw[←hc2] at htz hx60;rw[←hc1,←hc3] at hrc;have hRt:=AdY (Bt:=Row 60 4 (.slice ta c.tags.length tc) c.tags.length (c.tags.flatMap Aab)) ta tc c (by rw[hc3];omega) htz AaC;refine Zr (k:=Qv (k:=Vv (k:=Gi 2 (t:=fun h83=>?_) (f:=fun h83=>?_))))
        ·
         refine O1 (k:=O1 (k:=O1 (k:=P1 (k:=Vv (k:=O1 (k:=O1 (k:=O1 (k:=O1 (k:=P1 (k:=Wq (Z1 (k:=?_))))))))))));refine Qc (k:=Vx (Ps [.int .i64 0,.slice none 0 0,vS []]) (k:=Zp (k:=Vv (k:=Wq (Zt (k:=Va ?_))))));exact AeV
        ·
         have hrk:Akt (Aa3 qs)=some c:=by
          rw[hrc]
          cases e:AaK (Aa8 84 (Aa3 qs)) with
          | none=>rw[e] at h83;simp at h83
          | some us=>rw[e] at hx60;rw[Option.map_some,show us=c.tags from hx60.symm]
         refine I0 (k:=Zm [_,_,_] (k:=I0 (k:=?_)));refine Aaa hRt rfl rfl rfl ?_;refine J0 (k:=P0 (k:=Vv (k:=Gi 7 (t:=fun h88=>?_) (f:=fun h88=>?_))))
         ·
          refine O1 (k:=O1 (k:=O1 (k:=O1 (k:=P1 (k:=Wq (Z1 (k:=Qc (k:=Vx (Ps [.int .i64 0,.slice none 0 0,vS []]) (k:=Zp (k:=Vv (k:=?_)))))))))));refine Wq (Zt (k:=Va ?_));exact AeV
         ·
          have hR:Acu c:=Classical.not_not.1 h88;have hCk:=Ad7 (Bt:=Row 60 4 (.slice ta c.tags.length tc) c.tags.length (c.tags.flatMap Aab)) ta tc c htz hR.date (Nat.le_trans (Agc hR) (by omega)) AaC;refine I0 (k:=Zm [_,_,_] (k:=I0 (k:=?_)));refine Aaa hCk rfl rfl rfl ?_;refine J0 (k:=J0 (k:=P0 (k:=Wq (Zi (t:=fun h93=>?_) (f:=fun h93=>?_)))))
          ·
           refine Qc (k:=Vx (Ps [.int .i64 0,.slice none 0 0,vS []]) (k:=Zp (k:=Vv (k:=Wq (Zt (k:=Va ?_))))));exact AeV
          ·
           refine Zk (k:=Ya (Qc (k:=Zm [_,_,_] (k:=Zp (k:=Vv (k:=Wq (Zt (k:=?_))))))));exact Anp
       ·
        refine Nc [.int .i64 0,.slice none 0 0,vS []] (k:=fun b8=>Dn 6 (k:=?_));refine Aal (Aex ((qs[0]'h0l).args.getD 0 []) (by omega)) rfl rfl rfl ?_;refine Di 17 (t:=Ux (Ps [_,_,_])) (k:=Dn 19 (k:=Na (k:=Dd (k:=Ya (Za (k:=Za (k:=?_)))))));have hz84:=fun e=>Ag1 (N:=1073741824) (l:=Aa8 84 (Aa3 qs)) (ts:=ts) (fun xs hx a ha=>((hz 84).2 xs hx).2 a ha) e;have htz:TgZ ts:=by
         cases e:AaK (Aa8 84 (Aa3 qs)) with
         | none=>rw[e] at hx60;rw[hx60];exact⟨Nat.zero_le _,(fun _ h=>by simp at h)⟩
         | some us =>
           rw[e] at hx60;obtain⟨h1,h2⟩:=hz84 (by rw[e,hx60];rfl);have h3:=(hz 84).1;exact⟨by omega,fun t ht=>by have:=h2 t ht;omega⟩
        obtain⟨c,hc⟩:∃c:Ct,c=⟨rdI ((qs[0]'h0l).args.getD 0 []),ts,(qs[qs.length-1]'hel).args.getD 0 []⟩:=⟨_,rfl⟩
        have hc1:c.date=rdI ((qs[0]'h0l).args.getD 0 []):=by rw[hc]
        have hc2:c.tags=ts:=by rw[hc]
        have hc3:c.user=(qs[qs.length-1]'hel).args.getD 0 []:=by rw[hc]
        rw[←hc1,←hc2,←hc3];rw[←hc2] at htz hx60;rw[←hc1,←hc3] at hrc;have hRt:=AdY (Bt:=Row 60 4 (.slice ta c.tags.length tc) c.tags.length (c.tags.flatMap Aab)) ta tc c (by rw[hc3];omega) htz AaC;refine Zr (k:=Qv (k:=Vv (k:=Gi 2 (t:=fun h83=>?_) (f:=fun h83=>?_))))
        ·
         refine O1 (k:=O1 (k:=O1 (k:=P1 (k:=Vv (k:=O1 (k:=O1 (k:=O1 (k:=O1 (k:=P1 (k:=Wq (Z1 (k:=?_))))))))))));refine Qc (k:=Vx (Ps [.int .i64 0,.slice none 0 0,vS []]) (k:=Zp (k:=Vv (k:=Wq (Zt (k:=Va ?_))))));exact AeV
        ·
         have hrk:Akt (Aa3 qs)=some c:=by
          rw[hrc]
          cases e:AaK (Aa8 84 (Aa3 qs)) with
          | none=>rw[e] at h83;simp at h83
          | some us=>rw[e] at hx60;rw[Option.map_some,show us=c.tags from hx60.symm]
         refine I0 (k:=Zm [_,_,_] (k:=I0 (k:=?_)));refine Aaa hRt rfl rfl rfl ?_;refine J0 (k:=P0 (k:=Vv (k:=Gi 7 (t:=fun h88=>?_) (f:=fun h88=>?_))))
         ·
          refine O1 (k:=O1 (k:=O1 (k:=O1 (k:=P1 (k:=Wq (Z1 (k:=Qc (k:=Vx (Ps [.int .i64 0,.slice none 0 0,vS []]) (k:=Zp (k:=Vv (k:=?_)))))))))));refine Wq (Zt (k:=Va ?_));exact AeV
         ·
          have hR:Acu c:=Classical.not_not.1 h88;have hCk:=Ad7 (Bt:=Row 60 4 (.slice ta c.tags.length tc) c.tags.length (c.tags.flatMap Aab)) ta tc c htz hR.date (Nat.le_trans (Agc hR) (by omega)) AaC;refine I0 (k:=Zm [_,_,_] (k:=I0 (k:=?_)));refine Aaa hCk rfl rfl rfl ?_;refine J0 (k:=J0 (k:=P0 (k:=Wq (Zi (t:=fun h93=>?_) (f:=fun h93=>?_)))))
          ·
           refine Qc (k:=Vx (Ps [.int .i64 0,.slice none 0 0,vS []]) (k:=Zp (k:=Vv (k:=Wq (Zt (k:=Va ?_))))));exact AeV
          ·
           refine Zk (k:=Ya (Qc (k:=Zm [_,_,_] (k:=Zp (k:=Vv (k:=Wq (Zt (k:=?_))))))));exact Anp
end
section
set_option maxRecDepth 100000
set_option maxHeartbeats 1000000 in
theorem AjU {B:HP} {a:Option Addr} (n cap:Nat) (l:List Bs) (sh:SlA B a (l.map vS)) (hn:l.length=n) (hz:(Aav (AbW l)).length≤1073741824) :
    Sp1 Tryz.prog 117 [.slice a n cap] [B] (vS (clB l)) [B]:=by
 subst hn;haveI:Abu a (l.map vS) [B]:=⟨⟨B,sh,.here⟩⟩
 have hcl:=(AhC (AbW l)).1;have hcn:(AbW l).length=l.length:=by simp[AbW]
 refine Sp.body (n:=21) Tryz.call117 Tryz.func117 rfl rfl rfl ?_;refine Qc (k:=Vv (k:=Wq (Qc (k:=Vv (k:=Wq (Za (k:=Qc (k:=Vv (k:=?_)))))))));refine Qv (k:=Wq (Zb (k:=?_)));refine Aak (fun (i:{ x:(Option Addr×Nat)×List CdV // x.2.length≤l.length∧Aa3 x.2=AbW (l.take x.2.length) })=>[(3,.slice i.1.1.1 i.1.2.length i.1.1.2),(6,.slice a l.length cap),(7,vI l.length),(8,vI i.1.2.length)]) (fun (i:{ x:(Option Addr×Nat)×List CdV // x.2.length≤l.length∧Aa3 x.2=AbW (l.take x.2.length) })=>[Row 101 2 (.slice i.1.1.1 i.1.2.length i.1.1.2) i.1.2.length (i.1.2.flatMap CdV.cells),CdM i.1.2,B]) (fun (i:{ x:(Option Addr×Nat)×List CdV // x.2.length≤l.length∧Aa3 x.2=AbW (l.take x.2.length) })=>l.length-i.1.2.length) rfl (⟨((none,0),[]),Nat.zero_le _,rfl⟩) ?_ ?_ (fun i=>?_)
 · exact⟨rfl,rfl,rfl,rfl,trivial⟩
 ·
  exact(AaS (e:=101) (sz:=2)).trans (ent_cdm_nil.trans (show Ent _ [Row 101 2 (.slice none 0 0) 0 [],CdM [],B] from Aa0))
 obtain⟨⟨⟨oa,oc⟩,qs⟩,hj,hcd⟩:=i;dsimp only at hj hcd ⊢;try dsimp only
 refine Qc (k:=Vv (k:=Wq (Za (k:=Zi (t:=fun h9=>?_) (f:=fun h9=>?_)))))
 ·
  refine Zk (k:=Ya (Za (k:=Zb (k:=Za (k:=?_)))));have hjl:qs.length<l.length:=by omega
  have htk:AbW (l.take (qs.length+1))=Aa3 qs++[Amk (l.getD qs.length [])]:=by rw[List.take_succ_eq_append_getElem hjl,AbW,List.map_append,hcd];simp[AbW,hjl]
  refine Zr (k:=Ye 1 (k:=Yl (hv:=by exact Aa4 [] hjl) (k:=?_)));obtain⟨x,hx⟩:∃x,x=l.getD qs.length []:=⟨_,rfl⟩
  rw[←hx] at htk ⊢;refine Vv (k:=Wq (Zr (k:=Qv (k:=Zv [_] (cs:=[_]) (k:=fun b14=>Vx (Ps [_,_]) (k:=Zv [_] (cs:=[_,_]) (k:=fun b16=>?_)))))));refine Aao (sz:=2) (bytes:=32) Tryz.underlying99 Abm rfl rfl rfl rfl rfl rfl rfl (by rfl) (by rfl) (by omega) (by simp only[maxLen];omega) rfl (fun a17 c17=>?_);refine Ac9 b14 ?_;refine Vv (k:=Wn (Yb (Ya (Zr (k:=Qv (k:=Wn ?_))))));obtain⟨q,hqq⟩:∃q:CdV,q=⟨77,some ⟨b14,0,none⟩,1,[x]⟩:=⟨_,rfl⟩
  have hqc:q.cd=Amk x:=by rw[hqq];rfl
  have hql:(qs++[q]).length=qs.length+1:=by simp
  refine Aa5 ⟨((a17,c17),qs++[q]),?_,?_⟩ ?_ ⟨Adk hql.symm,rfl,rfl,AeF (by dsimp only;omega),trivial⟩ ?_
  · dsimp only;omega
  · dsimp only;rw[hql,htk,Ad3,hqc]
  · dsimp only;omega
  · dsimp only
    rw[hql];refine(Ab2 (qs:=qs) (a:=some ⟨b14,0,none⟩) (c:=1) 77 [x] [vS x] HasC.get HasC.get rfl (Nat.le_refl _)).trans ?_;rw[←hqq];exact Aac (AaW (by rfl) (by rw[AbU,hqq];rfl)) Aa0
 ·
  refine Ze (k:=Xa (Xi (Xb (Ya (Za (k:=?_))))));have hjl:qs.length=l.length:=by omega
  rw[hjl,List.take_length] at hcd;have hPr:=Ac3 (B:=Row 101 2 (.slice oa qs.length oc) qs.length (qs.flatMap CdV.cells)) (a:=oa) qs.length oc qs AaC rfl (by rw[hcd];omega);rw[hcd] at hPr;refine Zr (k:=Vv (k:=?_));refine Aaa hPr rfl rfl rfl ?_;refine Vv (k:=Wq (Zt (k:=?_)));exact Aa2 () (vs:=[_]) (Cs:=[]) rfl (.tmp rfl .nil) rfl trivial Aa0
end
section
set_option maxRecDepth 100000
def AeP (n:Bs):List Bs→List Bs
 | []=>[n]
 | x::r=>if blt x n=true then x::AeP n r else if x=n then x::r else n::x::r
theorem ArR (n:Bs):∀(l:List Bs) (j:Nat),j≤l.length→(∀i,i<j→blt (l.getD i []) n=true)→(j<l.length→blt (l.getD j []) n=false)→AeP n l=if j<l.length∧l.getD j []=n then l else l.take j++[n]++l.drop j:=by
 intro l
 induction l with
 | nil=>intro j hj _ _;simp[AeP]
 | cons x r ih =>
   intro j hj h1 h2
   cases j with
   | zero =>
     have h3:=h2 (by simp);simp only[List.getD_cons_zero] at h3;simp only[AeP,h3];by_cases e:x=n
     · simp[e]
     · simp[e]
   | succ j =>
     have h3:=h1 0 (by omega);simp only[List.getD_cons_zero] at h3;have h4:=ih j (by simpa using hj) (fun i hi=>by have:=h1 (i+1) (by omega);simpa using this) (fun h=>by have:=h2 (by simp;omega);simpa using this);simp only[AeP,h3,if_true,h4,List.getD_cons_succ,List.length_cons,Nat.add_lt_add_iff_right];split<;>simp
theorem AlT (n:Bs) (l:List Bs) (x:Bs):x∈AeP n l↔x=n∨x∈l:=by
 induction l with
 | nil=>simp[AeP]
 | cons y r ih =>
   simp only[AeP];split
   · simp only[List.mem_cons,ih]
     constructor
     · rintro(h | h | h)<;>simp[h]
     · rintro(h | h | h)<;>simp[h]
   · split
     · rename_i _ e;subst e;simp
     · simp
theorem Akz (n:Bs) {l:List Bs} (h:l.Pairwise (· < ·)):(AeP n l).Pairwise (· < ·):=by
 induction l with
 | nil=>simp[AeP]
 | cons y r ih =>
   rw[List.pairwise_cons] at h;simp only[AeP];split
   · rename_i hb
     rw[List.pairwise_cons];refine⟨fun x hx=>?_,ih h.2⟩;rcases (AlT n r x).1 hx with e | e
     · rw[e];exact(Ach y n).1 hb
     · exact h.1 x e
   · split
     · exact List.pairwise_cons.2 h
     · rename_i hb hne
       have hlt:n<y:=by
        have h1:¬y<n:=fun e=>hb ((Ach y n).2 e);rcases Std.lt_trichotomy n y with e | e | e
        · exact e
        · exact absurd e.symm hne
        · exact absurd e h1
       rw[List.pairwise_cons,List.pairwise_cons];refine⟨fun x hx=>?_,h.1,h.2⟩;rcases List.mem_cons.1 hx with e | e
       · rw[e];exact hlt
       · exact List.lt_trans hlt (h.1 x e)
theorem ApO (n:Bs) (l:List Bs):(AeP n l).length≤l.length+1:=by
 induction l with
 | nil=>simp[AeP]
 | cons y r ih =>
   simp only[AeP];split
   · simp;omega
   · split<;>simp
theorem AeD (l:List Bs):(l.map vS).all Aay=true:=by simp[Aay]
end
def AkT (l ns:List Bs):List Bs:=ns.foldl (fun l n=>AeP n l) l
theorem Asz (l ns:List Bs) (n:Bs):AkT l (ns++[n])=AeP n (AkT l ns):=by simp[AkT]
theorem AtR (ns:List Bs):∀(l:List Bs) (x:Bs),x∈AkT l ns↔x∈l∨x∈ns:=by
 induction ns with
 | nil=>intro l x;simp[AkT]
 | cons n ns ih =>
   intro l x;have h:=ih (AeP n l) x;have e:AkT l (n::ns)=AkT (AeP n l) ns:=rfl;rw[e,h,AlT,List.mem_cons];constructor
   · rintro((h | h) | h)<;>simp[h]
   · rintro(h | h | h)<;>simp[h]
theorem ApP (ns:List Bs):∀(l:List Bs),l.Pairwise (· < ·)→(AkT l ns).Pairwise (· < ·):=by
 induction ns with
 | nil=>intro l h;exact h
 | cons n ns ih=>intro l h;exact ih _ (Akz n h)
theorem AtS (ns:List Bs):∀(l:List Bs),(AkT l ns).length≤l.length+ns.length:=by
 induction ns with
 | nil=>intro l;exact Nat.le_refl _
 | cons n ns ih =>
   intro l;have h:=ih (AeP n l);have h2:=ApO n l;have e:AkT l (n::ns)=AkT (AeP n l) ns:=rfl;rw[e,List.length_cons];omega
theorem Ahv (l:List Bs) (x:Bs):x∈Al1 l↔x∈l:=by
 induction l using AfM with
 | h0=>exact Iff.rfl
 | h1 l y ih =>
   rw[Aka];split
   · rename_i h
     rw[ih,List.mem_append,List.mem_singleton];refine⟨.inl,fun h2=>h2.elim id fun e=>?_⟩;exact ih.1 (by rw[e];exact List.mem_of_getLast? h)
   · rw[List.mem_append,List.mem_append,ih]
theorem Ahu (l:List Bs) (h:l.Pairwise (fun x y=>x≤y)):(Al1 l).Pairwise (· < ·):=by
 induction l using AfM with
 | h0=>exact List.Pairwise.nil
 | h1 l y ih =>
   rw[List.pairwise_append] at h;obtain⟨h1,_,h3⟩:=h;have hl:=ih h1;rw[Aka];split
   · exact hl
   · rename_i hne
     rw[List.pairwise_append];refine⟨hl,by simp,fun a ha b hb=>?_⟩;rw[List.mem_singleton.1 hb];have hab:a≤y:=h3 a ((Ahv l a).1 ha) y (by simp);rcases Std.lt_trichotomy a y with e | e | e
     · exact e
     · exfalso
       subst e
       -- a is the last: all before the last are less than it,and it is no greater than a
       rcases hg:(Al1 l).getLast? with _ | z
       · rw[List.getLast?_eq_none_iff.1 hg] at ha;cases ha
       · have hz:z∈Al1 l:=List.mem_of_getLast? hg
         have hza:z≤a:=h3 z ((Ahv l z).1 hz) a (by simp);by_cases ez:z=a
         · rw[ez] at hg;exact hne hg
         · obtain ⟨ys,hys⟩:∃ys,Al1 l=ys++[z]:=List.getLast?_eq_some_iff.1 hg
           rw[hys] at ha hl;rw[List.pairwise_append] at hl;rcases List.mem_append.1 ha with h4 | h4
           · have:=hl.2.2 a h4 z (by simp)
             exact absurd this (List.not_lt.2 hza)
           · exact ez (List.mem_singleton.1 h4).symm
     · exact absurd e (List.not_lt.2 hab)
theorem Avl {s:Bs} {c:Ct} (h:Ab9 s=some c):AaD s=none:=Acb fun k hk=>by
 have e:=hk.reads.uniq (readCt_iff.1 h).reads;have h1:(⟨67,[46::Abf k.comment]⟩:Cd)∈AaG k:=by simp[AaG]
 rw[e] at h1;simp only[AaR,List.mem_cons,List.mem_append,List.mem_map,List.mem_singleton] at h1;rcases h1 with h1 | ⟨t,_,h1⟩ | h1 | h1
 · have:=congrArg Cd.l h1;simp at this
 · have:=congrArg Cd.l h1;simp[AaF] at this
 · have:=congrArg Cd.l h1;simp at this
 · cases h1
noncomputable def Al4 (H:Ks) (n:Bs):List (Bs×Ck):=match AaD (Abq H n) with
 | none=>[]
 | some c=>[(n,c)]
noncomputable def Ai9 (H:Ks) (l:List Bs):List (Bs×Ck):=l.flatMap (Al4 H)
noncomputable def AaY (H:Ks):List (Bs×Ck):=Ai9 H (Ab6 H)
def Abk (c:Ck):Bs:=c.parents.headD []
noncomputable def Ado (n s:Bs):List Tg×Int:=match AaD s with
 | some c=>(c.tags.map fun t=>{ t with target:=n },c.date)
 | none=>(((Ab9 s).getD ct0).tags,((Ab9 s).getD ct0).date)
structure Sd where
 op:Tg
 date:Int
 src:Bs
def AtC (s:Sd):List Value:=[vU s.op.kind.toNat,vS s.op.name,vS s.op.target,vS s.op.value,vI s.date,vS s.src]
noncomputable def AfX (H:Ks) (n:Bs):List Sd:=(Ado n (Abq H n)).1.map fun t=>⟨t,(Ado n (Abq H n)).2,n⟩
noncomputable def sdF (H:Ks) (l:List Bs):List Sd:=l.flatMap (AfX H)
noncomputable def sdL (H:Ks):List Sd:=sdF H (Ab6 H)
abbrev Ls:=List ((Bs×Bs)×Sd)
def Ab0:Ls→Bs×Bs→Option Sd
 | [],_=>none
 | p::r,k=>if p.1=k then some p.2 else Ab0 r k
def AgB:Ls→Bs×Bs→Sd→Ls
 | [],k,v=>[(k,v)]
 | p::r,k,v=>if p.1=k then (k,v)::r else p::AgB r k v
def Ahh (l:Ls) (s:Sd):Ls:=match Ab0 l (s.op.name,s.op.target) with
 | none=>AgB l (s.op.name,s.op.target) s
 | some old=>if old.date≤s.date then AgB l (s.op.name,s.op.target) s else l
def Acg (l:List Sd):Ls:=l.foldl Ahh []
noncomputable def AbO (H:Ks):Ls:=Acg (sdL H)
structure Tgd where
 tag:Bs
 target:Bs
 value:Bs
 source:Bs
 spread:Bool
 own:Bool
 deriving DecidableEq
def ArM (t:Tgd):List Value:=[vS t.tag,vS t.target,vS t.value,vS t.source,.bool t.spread,.bool t.own]
def Ai5:Tgd:=⟨[],[],[],[],false,false⟩
def Ac7:List (Bs×Ck)→Bs→Option Ck
 | [],_=>none
 | p::r,k=>if p.1=k then some p.2 else Ac7 r k
def Adw (C:List (Bs×Ck)) (l:Ls) (tag name:Bs):Nat→Bs→Option Tgd
 | 0,_=>none
 | k + 1,n=>match Ac7 C n with
   | none=>none
   | some c=>match Ab0 l (tag,n) with
     | none=>Adw C l tag name k (Abk c)
     | some s=>if s.op.kind=45∨(s.op.kind=43∧n≠name) then none
       else some ⟨tag,name,s.op.value,s.src,decide (s.op.kind=42),decide (n=name)⟩
def ofT (C:List (Bs×Ck)) (l:Ls) (tag name:Bs):Option Tgd:=Adw C l tag name C.length name
end Go.Proofs.YtdnoacgopfcpbaaGreat
