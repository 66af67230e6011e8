/- Texts of this proof, put together: STags3, STags4, P18, P18R, Cmps, SortK, SHeads, Sorts. -/
import Derived.Shelf.SlSortCmp.WholeK
import Derived.Ground.SlsfProg
import Derived.Test.YtdnoacgopfcpbaaGreatQ24
set_option linter.unusedVariables false
set_option linter.unusedSimpArgs false
namespace Go.Proofs.YtdnoacgopfcpbaaGreat
section
set_option maxRecDepth 100000
theorem AuO (c b:Nat) (ks:Ks):AkM Tryz.prog 191 [.pointer (some ⟨c,0,none⟩)] (fun k:Bs=>[vS k]) (okK ks) (fun _=>True)
    [Ce c 138 [.map (some b)],MapS b ks] [Ce c 138 [.map (some b)],MapS b ks] (fun l=>l.Perm (ks.map (·.1))) (fun _=>.tuple #[]):=by
 intro y J Jx ys;refine Sp.body (n:=14) Tryz.call191 Tryz.func191 rfl rfl rfl ?_;refine Qc (k:=Zd (k:=?_));refine AhX Tryz.underlying138 rfl rfl (fun b5=>?_);refine Wq (Zb (k:=?_));refine Aak (fun (i:List Bs)=>[(0,y),(5,.pointer (some ⟨b5,0,none⟩))]) (fun (i:List Bs)=>[J i,Ce c 138 [.map (some b)],Abj b b5 ks i]) (fun (i:List Bs)=>ks.length-i.length) rfl ([]) ?_ ?_ (fun i=>?_)
 · exact⟨rfl,rfl,trivial⟩
 ·
  exact Aa0
 refine Aca (A:=Abj b b5 ks i) (.there (.there .here)) Af0 (fun hlen=>?_);try dsimp only
 refine Qc (k:=?_);refine AjW rfl rfl (fun o6 ho6=>?_);refine Aa6 (Ak2 rfl) rfl ?_;refine Wq (Za (k:=Zi (t:=fun h7=>?_) (f:=fun h7=>?_)))
 ·
  obtain⟨⟨k,v⟩,rfl⟩:=Option.isSome_iff_exists.1 h7;obtain⟨hm,hk⟩:=ho6;have hk1:k∈ks.map (·.1):=List.mem_map_of_mem (f:=fun p:Bs×Value=>p.1) hm;have hl2:i.length<ks.length:=by
   have:=Acx (l:=i++[k]) (m:=ks.map (·.1)) (by rw[List.nodup_append];exact⟨hlen.2.1,by simp,fun a ha c hc e=>by simp only[List.mem_singleton] at hc;subst hc;subst e;exact hk ha⟩) (fun x hx=>by rcases List.mem_append.1 hx with h | h;exact hlen.2.2 x h;simp only[List.mem_singleton] at h;subst h;exact hk1);rw[List.length_append,List.length_singleton,List.length_map] at this;omega
  dsimp only[nxD];refine Zk (k:=Ya (Zb (k:=Qc (k:=?_))));refine AhY (b:=b) (ks:=ks) (done:=i) (k:=k) (v:=v) hm rfl rfl ?_;refine Qv (k:=Wq (Qc (k:=Qv (k:=?_))));refine Ajh ys i k ⟨hk1,hk,hl2⟩ rfl rfl rfl ?_ ?_
  ·
   refine Vv (k:=Wq (Z0 (k:=Zk (k:=Yb ?_))));refine Aa5 (i++[k]) ?_ ⟨rfl,rfl,trivial⟩ ?_
   · rw[List.length_append,List.length_singleton];omega
   · exact Aa0
  ·
   refine Vv (k:=Wq (Z1 (k:=Zt (k:=Vb (Vi (Vb ?_))))));refine Aa2 (some (i++[k]),[]) (vs:=[]) (Cs:=[]) rfl .nil rfl ⟨fun pre e=>trivial,fun e=>by cases e⟩ ?_;simp only[Acz];refine AaA (AaA ?_);refine(AcZ (i:=b5)).trans ?_;exact Aa0
 ·
  have hnone:o6=none:=by cases o6 with
   | none=>rfl
   | some p=>simp at h7
  subst hnone;dsimp only[nxD];refine Ze (k:=Xa (Xi (Xb ?_)));refine Agp (A:=Abj b b5 ks i) .here (fun x=>Ae7 x ho6) (fun hperm=>?_);refine Acr (none,i) (vs:=[]) (Cs:=[]) rfl .nil rfl ⟨(fun pre e=>by cases e),fun _=>hperm⟩ ?_;simp only[Acz];refine AaA (AaA ?_);refine(AcZ (i:=b5)).trans ?_;exact Aa0
def Ao4 (all:List CkN) (n:Bs):Option CkN:=all.find? fun x=>decide (x.1=n)
theorem Aqo (all:List CkN) (n:Bs):Ac7 (all.map Abc) n=(Ao4 all n).map (fun x=>x.2.2):=by
 induction all with
 | nil=>rfl
 | cons a r ih =>
   simp only[List.map_cons,Ac7,Ao4,List.find?_cons] at ih ⊢;by_cases h:a.1=n
   · have h':(Abc a).1=n:=h
     rw[if_pos h'];simp[h,Abc]
   · have h':¬(Abc a).1=n:=h
     rw[if_neg h'];simp only[h,decide_false];exact ih
theorem As9 {all:List CkN} (h:(all.map (·.1)).Nodup):ckK all=all.map fun x=>(x.1,ckV x):=by
 revert h
 refine Apu (P:=fun l:List CkN=>(l.map (·.1)).Nodup→ckK l=l.map fun x=>(x.1,ckV x)) (fun _=>rfl) (fun l a ih h=>?_) all;rw[List.map_append,List.nodup_append] at h;rw[Aqm,ih h.1];have:a.1∉(l.map fun x=>(x.1,ckV x)).map (·.1):=fun hm=>by
  rw[List.map_map] at hm;obtain⟨y,hy,e⟩:=List.mem_map.1 hm;exact h.2.2 y.1 (List.mem_map_of_mem (f:=fun x:CkN=>x.1) hy) a.1 (by simp) e
 have hp:∀(ks:Ks),a.1∉ks.map (·.1)→mput ks a.1 (ckV a)=ks++[(a.1,ckV a)]:=by
  intro ks
  induction ks with
  | nil=>intro _;rfl
  | cons p r ih2 =>
    intro hn;simp only[List.map_cons,List.mem_cons,not_or] at hn;rw[mput,if_neg (fun e=>hn.1 e.symm),ih2 hn.2];rfl
 rw[hp _ this];simp
theorem Aqn {all:List CkN} (h:(all.map (·.1)).Nodup) (n:Bs):mlook (ckK all) n=(Ao4 all n).map ckV:=by
 rw[As9 h];clear h
 induction all with
 | nil=>rfl
 | cons a r ih =>
   simp only[List.map_cons,mlook,Ao4,List.find?_cons] at ih ⊢;by_cases h:a.1=n
   · rw[if_pos h];simp[h]
   · rw[if_neg h];simp only[h,decide_false];exact ih
def AvM:CkN:=([],ka0,ck0)
theorem Aru (c:UInt8) (k:Nat) (hk:k<256):((c.toNat:Int)=(k:Int))↔c=UInt8.ofNat k:=by
 constructor
 · intro h
   apply UInt8.toNat_inj.1
   simp
   omega
 · intro h
   rw[h];simp;omega
theorem Agm {G:Prop} (h:G:=by
    have hyn:y=none:=by
     first
     | assumption
     | (rw[hw,show all.length-j=0 by omega];rfl)
     | (rw[if_pos (.inl ((e45 ok).1 (by assumption)))] at hw;exact hw)
     | (rw[if_pos (.inr ⟨(e43 ok).1 (by assumption),by assumption⟩)] at hw;exact hw)
    rw[hyn];exact Aa2 () (vs:=[_,_]) (Cs:=[Ce b6 90 [vS [],vS [],vS [],vS [],.bool false,.bool false]]) rfl (.cell (l:=[vS [],vS [],vS [],vS [],.bool false,.bool false]) rfl (Aax (T:=90)) Tryz.underlying90 rfl Apj (Nat.le_of_ble_eq_true rfl) rfl (.tmp rfl .nil)) rfl trivial Aa0):G:=h
theorem Ait {G:Prop} (h:G:=by
    rw [if_neg (by
     rintro(h | ⟨h,h2⟩)
     · first
       | contradiction
       | exact absurd ((e45 ok).2 h) (by assumption)
     · first
       | contradiction
       | exact absurd ((e43 ok).2 h) (by assumption)
       | exact absurd h2 (by assumption))] at hw
    rw[hw,show (decide (ok=42))=decide ((ok.toNat:Int)=42) from decide_eq_decide.2 (e42 ok).symm];refine Aa2 () (vs:=[_,_]) (Cs:=[Ce b6 90 [vS tag,vS name,vS ov,vS os,.bool (decide ((ok.toNat:Int)=42)),.bool (decide (n=name))]]) rfl (.cell (l:=[vS tag,vS name,vS ov,vS os,.bool (decide ((ok.toNat:Int)=42)),.bool (decide (n=name))]) rfl (Aax (T:=90)) Tryz.underlying90 rfl Apj (Nat.le_of_ble_eq_true rfl) rfl (.tmp rfl .nil)) rfl trivial Aa0):G:=h
set_option maxHeartbeats 4000000 in
theorem Apr (m1 m2:Nat) (all:List CkN) (l:Ls) (tag name:Bs) (hnd:(all.map (·.1)).Nodup) (hz:∀x∈all,x.2.2.parents.length≤9223372036854775807) (hal:all.length≤4398046511104) (y:Option Tgd) (hy:y=ofT (all.map Abc) l tag name) :
    Sp1 Tryz.prog 128 [.agg #[.map (some m1),.map (some m2)],vS tag,vS name] [MX.MapS MX.pairE m1 (lsK l),MapS m2 (ckK all),Aeh all] (.tuple #[.agg (ArM (y.getD Ai5)).toArray,vB y.isSome]) [MX.MapS MX.pairE m1 (lsK l),MapS m2 (ckK all),Aeh all]:=by
 have hcl:(ckK all).length=all.length:=by rw[As9 hnd,List.length_map]
 have hCl:(all.map Abc).length=all.length:=List.length_map ..;have e45:=fun c:UInt8=>Aru c 45 (by decide);have e43:=fun c:UInt8=>Aru c 43 (by decide);have e42:=fun c:UInt8=>Aru c 42 (by decide);rw[ofT,hCl] at hy;refine Sp.body (n:=71) Tryz.call128 Tryz.func128 rfl rfl rfl ?_;refine Qc (k:=Zx [_,_] (k:=fun b3=>Zc [vS [],vS [],vS [],vS [],.bool false,.bool false] (k:=fun b6=>Vv (k:=Wq (Zs (k:=Qc (k:=Qv (k:=Wq ?_))))))));refine Za (k:=Zl (k:=Ya (Za (k:=Qc (k:=Qx 1 138 (k:=?_))))));refine AqU Tryz.underlying138 rfl rfl ?_;rw[hcl];refine Vv (k:=Wq (Zb (k:=?_)));refine Aak (fun (i:{ x:Nat×Bs // x.1≤all.length∧y=Adw (all.map Abc) l tag name (all.length-x.1) x.2 })=>[(1,vS tag),(2,vS name),(3,.pointer (some ⟨b3,0,none⟩)),(6,.pointer (some ⟨b6,0,none⟩)),(8,vS i.1.2),(15,vI all.length),(16,vI i.1.1)]) (fun (i:{ x:Nat×Bs // x.1≤all.length∧y=Adw (all.map Abc) l tag name (all.length-x.1) x.2 })=>[MX.MapS MX.pairE m1 (lsK l),MapS m2 (ckK all),Aeh all,Ce b3 140 [.map (some m1),.map (some m2)],Ce b6 90 [vS [],vS [],vS [],vS [],.bool false,.bool false]]) (fun (i:{ x:Nat×Bs // x.1≤all.length∧y=Adw (all.map Abc) l tag name (all.length-x.1) x.2 })=>all.length-i.1.1) rfl (⟨(0,name),Nat.zero_le _,hy⟩) ?_ ?_ (fun i=>?_)
 · exact⟨rfl,rfl,rfl,rfl,rfl,rfl,rfl,trivial⟩
 ·
  exact Aa0
 obtain⟨⟨j,n⟩,hj,hw⟩:=i;dsimp only at hj hw ⊢;try dsimp only
 refine Qc (k:=Vv (k:=Wq (Za (k:=Zi (t:=fun h17=>?_) (f:=fun h17=>?_)))))
 ·
  refine Zk (k:=Ya (Za (k:=Zb (k:=Za (k:=?_)))));have hjl:j<all.length:=by omega
  rw[show all.length-j=(all.length-(j+1))+1 by omega,Adw,Aqo] at hw;have hml:=Aqn hnd n;have hxm:∀x,Ao4 all n=some x→x∈all:=fun x h=>List.mem_of_find?_eq_some h;generalize Ao4 all n=fx at hw hml hxm;obtain⟨⟨zn,za,zc⟩,hzk⟩:∃z:CkN,z=fx.getD AvM:=⟨_,rfl⟩
  have hv22:Value.tuple #[(mlook (ckK all) n).getD (ckV AvM),.bool (mlook (ckK all) n).isSome]=.tuple #[.agg #[vS zc.base,vS zc.comment,vI zc.date,.slice za.fa zc.files.length za.fc,.slice za.pa zc.parents.length za.pc,.slice za.ta zc.tags.length za.tc,vS zc.user],.bool fx.isSome]:=by
   rw[hml];have e1:(fx.map ckV).getD (ckV AvM)=ckV (fx.getD AvM):=by cases fx<;>rfl
   rw[e1,←hzk]
   cases fx<;>rfl
  obtain⟨hv1,hv2⟩:=ArZ l (tag,n);generalize Ab0 l (tag,n)=fs at hw hv1 hv2;obtain⟨⟨⟨ok,on,ot,ov⟩,od,os⟩,hold⟩:∃z:Sd,z=fs.getD sd0:=⟨_,rfl⟩
  have hv33:Value.tuple #[(MX.mlook (lsK l) (tag,n)).getD (sdV sd0),.bool (MX.mlook (lsK l) (tag,n)).isSome]=.tuple #[.agg #[vU ok.toNat,vS on,vS ot,vS ov,vI od,vS os],.bool fs.isSome]:=by rw[hv1,hv2,←hold];rfl
  refine Zr (k:=Qx 1 138 (k:=Vv (k:=?_)));refine r_lookup (v:=.tuple #[.agg #[vS zc.base,vS zc.comment,vI zc.date,.slice za.fa zc.files.length za.fc,.slice za.pa zc.parents.length za.pc,.slice za.ta zc.tags.length za.tc,vS zc.user],.bool fx.isSome]) Tryz.underlying138 Tryz.underlying9 AjQ rfl rfl rfl hv22 rfl ?_;refine Vv (k:=?_);refine Aa6 (Aa7 (v:=.agg #[vS zc.base,vS zc.comment,vI zc.date,.slice za.fa zc.files.length za.fc,.slice za.pa zc.parents.length za.pc,.slice za.ta zc.tags.length za.tc,vS zc.user]) rfl rfl) rfl ?_;refine Aa6 (Aa7 (v:=.bool fx.isSome) rfl rfl) rfl ?_;refine Zc [vS [],vS [],.int .i64 0,.slice none 0 0,.slice none 0 0,.slice none 0 0,vS []] (k:=fun b9=>Zp (k:=Vv (k:=Wq (Za (k:=Qc (k:=Qv (k:=Wq (Zi (t:=fun h26=>?_) (f:=fun h26=>?_)))))))))
  ·
   obtain rfl:fx=none:=by cases fx with | none=>rfl | some z=>simp at h26
   have hyn:y=none:=hw;refine Ze (k:=Xa (Xo (k:=Xa (Xi (Xb (Ya (Qc (k:=Vx (Ps [vS [],vS [],vS [],vS [],.bool false,.bool false]) (k:=Zp (k:=Vv (k:=?_)))))))))));refine Wq (Zt (k:=Vs ?_));exact Agm
  ·
   obtain rfl:fx=some (zn,za,zc):=by cases fx with | none=>simp at h26 | some z=>rw[hzk];rfl
   have hxin:=hxm _ rfl;have hpz:=hz _ hxin;dsimp only[Option.map_some] at hw hpz;refine Zk (k:=Ya (Qc (k:=Qx 0 137 (k:=Qv (k:=?_)))));refine Aa6 (AeY (vs:=[_,_]) Tryz.underlying193 ti9 rfl rfl rfl Ats rfl rfl) rfl ?_;refine MX.r_lookup (k:=(tag,n)) (v:=.tuple #[.agg #[vU ok.toNat,vS on,vS ot,vS ov,vI od,vS os],.bool fs.isSome]) Tryz.underlying137 Avt Att rfl rfl rfl hv33 rfl ?_;refine Vv (k:=?_);refine Aa6 (Aa7 (v:=.agg #[vU ok.toNat,vS on,vS ot,vS ov,vI od,vS os]) rfl rfl) rfl ?_;refine Aa6 (Aa7 (v:=.bool fs.isSome) rfl rfl) rfl ?_;refine Zc [.int .u8 0,vS [],vS [],vS [],.int .i64 0,vS []] (k:=fun b11=>Zp (k:=Vv (k:=Wq (Za (k:=Qc (k:=Qv (k:=Wq (Zi (t:=fun h37=>?_) (f:=fun h37=>?_)))))))))
   ·
    obtain rfl:fs=none:=by cases fs with | none=>rfl | some z=>simp at h37
    dsimp only at hw;refine Qc (k:=Zm [_,_,_,_,_,_,_] (k:=?_));refine wo_ent' (AvH hxin HasC.get) ?_;refine Aaa (Ahi (B:=SlI za.pa (zc.parents.map vS)) za zc hpz Abo) rfl rfl rfl ?_;refine Vv (k:=Wq (Ze (k:=Xa (Xb (Ya (Zr (k:=Qv (k:=Wn ?_))))))));exact Aa5 ⟨(j+1,Abk zc),by dsimp only;omega,hw⟩ (by dsimp only;omega) ⟨rfl,rfl,rfl,rfl,rfl,rfl,rfl,trivial⟩ Aa0
   ·
    obtain rfl:fs=some ⟨⟨ok,on,ot,ov⟩,od,os⟩:=by cases fs with | none=>simp at h37 | some z=>rw[hold];rfl
    dsimp only at hw;refine Zk (k:=Ya (Za (k:=Zb (k:=Za (k:=Qc (k:=Vf 0 60 (k:=Qx 0 5 (k:=Qv (k:=?_)))))))));refine Wq (Zi (t:=fun h40=>?_) (f:=fun h40=>?_))
    ·
     refine Zk (k:=Ya (Zi (t:=fun h40=>?_) (f:=fun h40=>?_)))
     ·
      refine Ze (k:=Xo (k:=Xa (Xo (k:=Xa (Xi (Xb (Ya (Qc (k:=Vx (Ps [vS [],vS [],vS [],vS [],.bool false,.bool false]) (k:=Zp (k:=?_)))))))))));refine Vv (k:=Wq (Zt (k:=Vs ?_)));exact Agm
     ·
      refine Zk (k:=Yb (Ya (Qc (k:=Qv (k:=Vf 0 60 (k:=Qx 3 9 (k:=Qx 5 9 (k:=?_))))))));refine Vf 0 60 (k:=Qx 0 5 (k:=Qv (k:=Qv (k:=Vx (Ps [_,_,_,_,_,_]) (k:=Zp (k:=Vv (k:=Wq (Zt (k:=?_)))))))));refine Vb (Va (Vi (Vb (Va (Vs ?_)))));exact Ait
    ·
     refine Zr (k:=Vf 0 60 (k:=Qx 0 5 (k:=Qv (k:=Gi 4 (t:=fun h49=>?_) (f:=fun h49=>?_)))))
     ·
      refine J1 (k:=J1 (k:=J1 (k:=P1 (k:=Vv (k:=Wq (Zi (t:=fun h40=>?_) (f:=fun h40=>?_)))))))
      ·
       refine Ze (k:=Xo (k:=Xa (Xo (k:=Xa (Xi (Xb (Ya (Qc (k:=Vx (Ps [vS [],vS [],vS [],vS [],.bool false,.bool false]) (k:=Zp (k:=?_)))))))))));refine Vv (k:=Wq (Zt (k:=Vs ?_)));exact Agm
      ·
       refine Zk (k:=Yb (Ya (Qc (k:=Qv (k:=Vf 0 60 (k:=Qx 3 9 (k:=Qx 5 9 (k:=?_))))))));refine Vf 0 60 (k:=Qx 0 5 (k:=Qv (k:=Qv (k:=Vx (Ps [_,_,_,_,_,_]) (k:=Zp (k:=Vv (k:=Wq (Zt (k:=?_)))))))));refine Vb (Va (Vi (Vb (Va (Vs ?_)))));exact Ait
     ·
      refine O0 (k:=O0 (k:=O0 (k:=P0 (k:=Vv (k:=Wq (Z0 (k:=Zk (k:=Yb (Ya (Qc (k:=?_)))))))))));refine Qv (k:=Vf 0 60 (k:=Qx 3 9 (k:=Qx 5 9 (k:=Vf 0 60 (k:=Qx 0 5 (k:=Qv (k:=?_)))))));refine Qv (k:=Vx (Ps [_,_,_,_,_,_]) (k:=Zp (k:=Vv (k:=Wq (Zt (k:=Vb (Va (Vi (Vb (Va ?_))))))))));refine Vs ?_;exact Ait
 ·
  refine Ze (k:=Xa (Xi (Xb (Ya (Qc (k:=Vx (Ps [vS [],vS [],vS [],vS [],.bool false,.bool false]) (k:=Zp (k:=Vv (k:=Wq (Zt (k:=?_)))))))))));refine Vs ?_;exact Agm
end
section
set_option maxRecDepth 100000
theorem AuA (H:Ks) (n:Bs):((Al4 H n).map (·.1)).Sublist [n]:=by
 unfold Al4;split
 · exact List.nil_sublist _
 · exact List.Sublist.refl _
theorem Ahz (H:Ks) (l:List Bs):((Ai9 H l).map (·.1)).Sublist l:=by
 induction l with
 | nil=>exact List.Sublist.refl _
 | cons n l ih =>
   have:=(AuA H n).append ih;simpa [Ai9] using this
theorem cks_mem {H:Ks} {l:List Bs} {x:Bs×Ck}:x∈Ai9 H l↔x.1∈l∧AaD (Abq H x.1)=some x.2:=by
 unfold Ai9;rw[List.mem_flatMap];constructor
 · rintro ⟨n,hn,hx⟩
   unfold Al4 at hx;split at hx
   · cases hx
   · rename_i c e
     rw[List.mem_singleton.1 hx];exact⟨hn,e⟩
 · rintro⟨h1,h2⟩
   exact⟨x.1,h1,by rw[Al4,h2];simp⟩
structure AxI (H:Ks) (all:List CkN):Prop where
 nd:(all.map (·.1)).Nodup
 le:all.length≤H.length
 pl:∀x∈all,x.2.2.parents.length≤3
theorem Ark {H:Ks} {all:List CkN} (hnd:(H.map (·.1)).Nodup) (h:AwQ H all):AxI H all:=by
 have hs:((AaY H).map (·.1)).Sublist (Ab6 H):=Ahz H _;have hm:all.map (·.1)=(AaY H).map (·.1):=by
  rw[←show all.map Abc=AaY H from h,List.map_map];rfl
 have hk:(Ab6 H).Nodup:=(AbB _).nodup_iff.2 hnd;refine⟨by rw[hm];exact hk.sublist hs,?_,fun x hx=>?_⟩
 · have h1:=congrArg List.length hm
   have h2:=hs.length_le;rw[Ai2] at h2;rw[List.length_map] at h1;omega
 · have:Abc x∈AaY H:=by rw[←show all.map Abc=AaY H from h];exact List.mem_map_of_mem hx
   have:=(AdI (cks_mem.1 this).2).parents.len;have e:(Abc x).2=x.2.2:=rfl;rw[e] at this;omega
end
section
def me:Bs:=[109,101]
def Ake (ps:List Bs) (ts:List Tg) (u:Bs) (d:Int):Ck:=⟨[],[],d,[],ps,ts,u⟩
theorem AlK {ps:List Bs} {ts:List Tg} {u:Bs} {d:Int} (hp:∀p∈ps,isN p=true) (hn:ps.Nodup) (hl:ps.length≤3) (ht:RightT true ts) (hu:Acm u) (hd:0≤d∧d≤1073741824):AbD (Ake ps ts u d):=by
 refine⟨.inl rfl,Nat.zero_le _,hd,⟨fun i hi=>absurd hi (Nat.not_lt_zero _),Nat.zero_le _⟩,⟨fun i hi=>?_,by show (ps.length:Int)≤3;omega⟩,ht,hu⟩;have hi:i<ps.length:=hi;have hg:ps.getD i []=ps[i]:=by simp[hi]
 show isN (ps.getD i [])=true∧ps.getD i []∉ps.take i;rw[hg];refine⟨hp _ (List.getElem_mem hi),fun hm=>?_⟩;obtain⟨j,hj,e⟩:=List.getElem_of_mem hm;rw[List.length_take] at hj;rw[List.getElem_take] at e;have:=Adb hn (by omega) hi e;omega
theorem Av4 {c:Ck} (h:AbD c):CkZ c:=by
 have e:=(AiJ (AfA h)).2.2.2.2.2.2;have:=As8 (Aev h) (by decide);rwa [←e] at this
theorem Ady {c:Ck} (h:AbD c):AaD (ckB c)=some c:=readK_iff.2 ⟨h,rfl⟩
theorem Ale {c:Ck} (h:AbD c):(ckB c).length≤10043:=by
 have:=Aev h;rw[ckB,AcI,Ac1];omega
theorem AoJ {c:Ck} (h:AbD c) (n:Bs):Ado n (ckB c)=(c.tags.map fun t=>{ t with target:=n },c.date):=by rw[Ado,Ady h]
structure HeldP (K:Ks) (L:List (Bs×Bs)):Prop where
 perm:K.Perm (L.map fun p=>(p.1,vS p.2))
 nd:(L.map (·.1)).Nodup
 tx:∀p∈L,p.2.length≤1073741824
namespace HeldP
variable {K:Ks} {L:List (Bs×Bs)} (h:HeldP K L)
include h
theorem keys:(K.map (·.1)).Perm (L.map (·.1)):=by
 have:=h.perm.map (·.1);rwa [List.map_map] at this
theorem knd:(K.map (·.1)).Nodup:=h.keys.nodup_iff.2 h.nd
theorem txt:TxtK K:=fun p hp=>by
 obtain⟨q,hq,e⟩:=List.mem_map.1 (h.perm.mem_iff.1 hp);rw[←e];exact⟨q.2,rfl,h.tx q hq⟩
theorem len:K.length=L.length:=by have:=h.perm.length_eq;rwa [List.length_map] at this
theorem get {p:Bs×Bs} (hp:p∈L):Abq K p.1=p.2:=by
 have hm:(p.1,vS p.2)∈K:=h.perm.mem_iff.2 (List.mem_map_of_mem (f:=fun p:Bs×Bs=>(p.1,vS p.2)) hp);unfold Abq;rw[AdN h.knd hm];simp[Afn,vS]
theorem mem {n:Bs}:n∈Ab6 K↔n∈L.map (·.1):=by rw[keysS_mem];exact h.keys.mem_iff
theorem sd {s:Sd}:s∈sdL K↔∃p∈L,∃t∈(Ado p.1 p.2).1,s=⟨t,(Ado p.1 p.2).2,p.1⟩:=by
 unfold sdL sdF;rw[List.mem_flatMap];constructor
 · rintro⟨n,hn,hs⟩
   obtain⟨p,hp,rfl⟩:=List.mem_map.1 (h.mem.1 hn);obtain⟨t,ht,e⟩:=List.mem_map.1 hs;rw[h.get hp] at ht e;exact⟨p,hp,t,ht,e.symm⟩
 · rintro⟨p,hp,t,ht,e⟩
   refine⟨p.1,h.mem.2 (List.mem_map_of_mem (f:=fun p:Bs×Bs=>p.1) hp),?_⟩;refine List.mem_map.2 ⟨t,?_,?_⟩
   · rw[h.get hp];exact ht
   · rw[h.get hp];exact e.symm
theorem cks {x:Bs×Ck}:x∈AaY K↔∃p∈L,p.1=x.1∧AaD p.2=some x.2:=by
 unfold AaY;rw[cks_mem];constructor
 · rintro⟨h1,h2⟩
   obtain⟨p,hp,e⟩:=List.mem_map.1 (h.mem.1 h1);rw[←e,h.get hp] at h2;exact⟨p,hp,e,h2⟩
 · rintro⟨p,hp,e,h2⟩
   rw[←e];exact⟨h.mem.2 (List.mem_map_of_mem (f:=fun p:Bs×Bs=>p.1) hp),by rw[h.get hp];exact h2⟩
theorem cnd:((AaY K).map (·.1)).Nodup:=((AbB _).nodup_iff.2 h.knd).sublist (Ahz K _)
theorem ck {n:Bs} {s:Bs} {c:Ck} (hp:(n,s)∈L) (hr:AaD s=some c):Ac7 (AaY K) n=some c:=by
 have hm:(n,c)∈AaY K:=h.cks.2 ⟨(n,s),hp,rfl,hr⟩;have hn:=h.cnd;generalize AaY K=C at hm hn
 induction C with
 | nil=>cases hm
 | cons a r ih =>
   simp only[List.map_cons,List.nodup_cons] at hn;rw[Ac7];rcases List.mem_cons.1 hm with e | e
   · subst e;rw[if_pos rfl]
   · rw[if_neg (fun e2=>hn.1 (by rw[e2];exact List.mem_map_of_mem (f:=fun p:Bs×Ck=>p.1) e))]
     exact ih e hn.2
theorem nock {n:Bs} (hp:∀p∈L,p.1=n→AaD p.2=none):Ac7 (AaY K) n=none:=by
 have hm:∀x∈AaY K,x.1≠n:=fun x hx e=>by
  obtain⟨p,h1,h2,h3⟩:=h.cks.1 hx;rw[hp p h1 (h2.trans e)] at h3
  cases h3
 generalize AaY K=C at hm
 induction C with
 | nil=>rfl
 | cons a r ih =>
   rw[Ac7,if_neg (hm a (by simp))];exact ih fun x hx=>hm x (by simp[hx])
theorem put {n s:Bs} (hn:n∉L.map (·.1)) (hs:s.length≤1073741824):HeldP (mput K n (vS s)) (L++[(n,s)]):=by
 have hk:n∉K.map (·.1):=fun hm=>hn (h.keys.mem_iff.1 hm);have hp:∀(ks:Ks),n∉ks.map (·.1)→mput ks n (vS s)=ks++[(n,vS s)]:=by
  intro ks
  induction ks with
  | nil=>intro _;rfl
  | cons p r ih =>
    intro hn;simp only[List.map_cons,List.mem_cons,not_or] at hn;rw[mput,if_neg (fun e=>hn.1 e.symm),ih hn.2];rfl
 refine⟨?_,?_,fun p hp=>?_⟩
 · rw[hp K hk,List.map_append]
   exact h.perm.append_right _
 · rw[List.map_append,List.nodup_append]
   exact⟨h.nd,by simp,fun a ha b hb e=>hn (by simp at hb;rw[←hb,←e];exact ha)⟩
 · rcases List.mem_append.1 hp with hp | hp
   · exact h.tx p hp
   · rw[List.mem_singleton.1 hp];exact hs
end HeldP
theorem AwC {C:List (Bs×Ck)} {l:Ls} {tag name:Bs} {k:Nat} (hk:0<C.length):ofT C l tag name=Adw C l tag name ((C.length-1)+1) name:=by
 rw[ofT,show C.length-1+1=C.length by omega]
end
theorem AoN:Acm me:=by decide
theorem ApB:RightT true []:=⟨fun i hi=>absurd hi (Nat.not_lt_zero _),by decide⟩
section
set_option maxRecDepth 100000
def Ahy (x y:Bs):Int:=if x<y then -1 else if y<x then 1 else 0
theorem Ajw (x:Bs):SpF Tryz.prog 102 [vS x] (.bool false):=by
 refine Sp.body (n:=6) Tryz.call102 Tryz.func102 rfl rfl rfl ?_;refine Qc (k:=Vv (k:=Wq (Qc (k:=Qv (k:=Qv (k:=Wq (Zt (k:=?_))))))));exact Aa2 () (vs:=[.bool (decide (¬x=x))]) (Cs:=[]) rfl (.tmp rfl .nil) (by simp[Ajj]) trivial Aad
theorem Ahx (x y:Bs):SpF Tryz.prog 58 [vS x,vS y] (vI (Ahy x y)):=by
 refine Sp.body (n:=20) Tryz.call58 Tryz.func58 rfl rfl rfl ?_;refine Qc (k:=Vv (k:=Wq (Qc (k:=Vv (k:=?_)))));refine Aag (Ajw _) rfl rfl rfl ?_;refine Vv (k:=Wq (Qc (k:=Vv (k:=?_))));refine Aag (Ajw _) rfl rfl rfl ?_;refine Vv (k:=Wq (Za (k:=Qc (k:=Vv (k:=Wq (Zi (t:=fun h11=>?_) (f:=fun h11=>?_)))))))
 ·
  cases h11
  --done
 ·
  refine Zk (k:=Ya (Za (k:=Qc (k:=Vv (k:=Wq (Zi (t:=fun h13=>?_) (f:=fun h13=>?_)))))))
  ·
   cases h13
   --done
  ·
   refine Zk (k:=Ya (Za (k:=Qc (k:=Qv (k:=Vv (k:=Wq (Zi (t:=fun h16=>?_) (f:=fun h16=>?_))))))))
   ·
    refine Qc (k:=Vv (k:=Wq (Zt (k:=Va ?_))));have h:x<y:=(Ach x y).1 h16;rw[show Ahy x y = -1 by rw[Ahy,if_pos h]];exact Aa2 () (vs:=[_]) (Cs:=[]) rfl (.tmp rfl .nil) rfl trivial Aad
   ·
    refine Zk (k:=Ya (Za (k:=Qc (k:=Qv (k:=Vv (k:=Wq (Zi (t:=fun h19=>?_) (f:=fun h19=>?_))))))))
    ·
     refine Qc (k:=Vv (k:=Wq (Zt (k:=Va ?_))));have h1:¬x<y:=fun h=>by rw[(Ach x y).2 h] at h16;cases h16
     have h2:y<x:=by
      simp only[Bool.not_eq_true',Bool.or_eq_false_iff,decide_eq_false_iff_not] at h19;exact Std.lt_of_le_of_ne (List.not_lt.1 h1) (fun e=>h19.2 e.symm)
     rw[show Ahy x y=1 by rw[Ahy,if_neg h1,if_pos h2]];exact Aa2 () (vs:=[_]) (Cs:=[]) rfl (.tmp rfl .nil) rfl trivial Aad
    ·
     refine Zk (k:=Ya (Qc (k:=Vv (k:=Wq (Zt (k:=?_))))));have h1:¬x<y:=fun h=>by rw[(Ach x y).2 h] at h16;cases h16
     have h2:x=y:=by
      rw[show blt x y=false from by simpa using h16] at h19;simpa using h19
     subst h2;rw[show Ahy x x=0 by rw[Ahy,if_neg h1,if_neg h1]];exact Aa2 () (vs:=[_]) (Cs:=[]) rfl (.tmp rfl .nil) rfl trivial Aad
def orI:List Int→Int
 | []=>0
 | x::r=>if x=0 then orI r else x
theorem ApX {l:List Int} {j:Nat} (h:j<l.length):orI (l.drop j)=if l[j]=0 then orI (l.drop (j+1)) else l[j]:=by rw[List.drop_eq_getElem_cons h,orI]
theorem AsV (b:Nat) (l:List Int) (hl:l.length≤1000000):Sp1 Tryz.prog 57 [.slice (some ⟨b,0,none⟩) l.length l.length] [Ce b 3 (l.map vI)] (vI (orI l)) [Ce b 3 (l.map vI)]:=by
 refine Sp.body (n:=18) Tryz.call57 Tryz.func57 rfl rfl rfl ?_;refine Qc (k:=Vv (k:=Wq (Qc (k:=Vv (k:=Wq (Za (k:=Qc (k:=Vv (k:=?_)))))))));refine Qv (k:=Wq (Zb (k:=?_)));refine Aak (fun (i:{ j:Nat // j≤l.length∧orI (l.drop j)=orI l })=>[(3,vI 0),(6,.slice (some ⟨b,0,none⟩) l.length l.length),(7,vI l.length),(8,vI i.1)]) (fun (i:{ j:Nat // j≤l.length∧orI (l.drop j)=orI l })=>[Ce b 3 (l.map vI)]) (fun (i:{ j:Nat // j≤l.length∧orI (l.drop j)=orI l })=>l.length-i.1) rfl (⟨0,Nat.zero_le _,rfl⟩) ?_ ?_ (fun i=>?_)
 · exact⟨rfl,rfl,rfl,rfl,trivial⟩
 ·
  exact Aa0
 obtain⟨j,hj,ho⟩:=i;try dsimp only
 refine Qc (k:=Vv (k:=Wq (Za (k:=Zi (t:=fun h9=>?_) (f:=fun h9=>?_)))))
 ·
  refine Zk (k:=Ya (Za (k:=Zb (k:=Qc (k:=Ye 1 (k:=Ym (k:=Vv (k:=Wq (Qc (k:=?_))))))))));refine Qv (k:=Vv (k:=Wq (Zi (t:=fun h14=>?_) (f:=fun h14=>?_))))
  ·
   refine Qc (k:=Qv (k:=Wq (Zt (k:=Vb (Va (Vi (Vb (Va ?_))))))));have hjl:j<l.length:=by omega
   rw[←ho,ApX hjl,if_neg h14];exact Aa2 () (vs:=[_]) (Cs:=[]) rfl (.tmp rfl .nil) rfl trivial Aa0
  ·
   refine Zk (k:=Yb (Ya (Zr (k:=Qv (k:=Wn ?_)))));have hjl:j<l.length:=by omega
   refine Aa5 ⟨j+1,by omega,?_⟩ (by dsimp only;omega) ⟨rfl,rfl,rfl,rfl,trivial⟩ Aa0;have h0:l[j]=0:=Classical.not_not.1 h14;rw[←ho,ApX hjl,if_pos h0]
 ·
  refine Ze (k:=Xa (Xi (Xb (Ya (Qc (k:=Qv (k:=Wq (Zt (k:=?_)))))))));have hjl:j=l.length:=by omega
  subst hjl;rw[←ho,List.drop_length,orI];exact Aa2 () (vs:=[_]) (Cs:=[]) rfl (.tmp rfl .nil) rfl trivial Aa0
theorem Arn (b:Nat) (x y:Int):Sp1 Tryz.prog 57 [.slice (some ⟨b,0,none⟩) 2 2] [Ce b 3 [vI x,vI y]] (vI (if x=0 then y else x)) [Ce b 3 [vI x,vI y]]:=by
 have h:=AsV b [x,y] (by simp);have e:orI [x,y]=if x=0 then y else x:=by
  simp only[orI];by_cases hy:y=0<;>simp[hy]
 rw[e] at h;exact h
def Al3 (a b:Bs×Bs):Int:=if Ahy a.1 b.1=0 then Ahy a.2 b.2 else Ahy a.1 b.1
theorem As7 {x y:Bs}:Ahy x y<0↔x<y:=by
 unfold Ahy;by_cases h:x<y
 · simp[h]
 · by_cases h2:y<x<;>simp[h,h2]
theorem cmpB_0 {x y:Bs}:Ahy x y=0↔x=y:=by
 unfold Ahy;by_cases h:x<y
 · simp only[h,if_true];exact⟨fun e=>by omega,fun e=>by subst e;exact absurd h (List.lt_irrefl x)⟩
 · by_cases h2:y<x
   · simp only[h,h2,if_true,if_false];exact⟨fun e=>by omega,fun e=>by subst e;exact absurd h2 (List.lt_irrefl x)⟩
   · simp only[h,h2,if_false,true_iff]
     exact List.le_antisymm (List.not_lt.1 h2) (List.not_lt.1 h)
def lt2 (a b:Bs×Bs):Prop:=a.1<b.1∨(a.1=b.1∧a.2<b.2)
theorem Ajx {a b:Bs×Bs}:Al3 a b<0↔lt2 a b:=by
 unfold Al3 lt2;by_cases h:Ahy a.1 b.1=0
 · rw[if_pos h,As7]
   have e:=cmpB_0.1 h;rw[e];exact⟨fun x=>.inr ⟨rfl,x⟩,fun x=>x.elim (fun y=>absurd y (List.lt_irrefl _)) (·.2)⟩
 · rw[if_neg h,As7]
   have e:a.1≠b.1:=fun x=>h (cmpB_0.2 x);exact⟨.inl,fun x=>x.elim id (fun y=>absurd y.1 e)⟩
theorem Ai0 (a:Bs×Bs):¬lt2 a a:=fun h=>h.elim (List.lt_irrefl _) (fun x=>List.lt_irrefl _ x.2)
theorem AoO {a b c:Bs×Bs} (h:lt2 a b) (k:lt2 b c):lt2 a c:=by
 rcases h with h | ⟨h1,h2⟩
 · rcases k with k | ⟨k1,k2⟩
   · exact .inl (List.lt_trans h k)
   · exact .inl (by rw[←k1];exact h)
 · rcases k with k | ⟨k1,k2⟩
   · exact .inl (by rw[h1];exact k)
   · exact .inr ⟨h1.trans k1,List.lt_trans h2 k2⟩
theorem Ar9 (a b:Bs×Bs):lt2 a b∨a=b∨lt2 b a:=by
 by_cases h:a.1<b.1
 · exact .inl (.inl h)
 · by_cases h2:b.1<a.1
   · exact .inr (.inr (.inl h2))
   · have e:a.1=b.1:=List.le_antisymm (List.not_lt.1 h2) (List.not_lt.1 h)
     by_cases h3:a.2<b.2
     · exact .inl (.inr ⟨e,h3⟩)
     · by_cases h4:b.2<a.2
       · exact .inr (.inr (.inr ⟨e.symm,h4⟩))
       · exact .inr (.inl (Prod.ext e (List.le_antisymm (List.not_lt.1 h4) (List.not_lt.1 h3))))
theorem Sp.grown {P:Program} {f:FuncId} {args:List Value} {v:Value} (sp:SpF P f args v) (w:World):Calls P f args.toArray w fun e w'=>e=.returned v∧∃q os,w'=Go.Sort.grow (w.drewN q) os:=by
 have t:Sat w ⟨fun b=>w.heap[b]?,w⟩ (Res.emp.add Res.emp):=⟨fun _ _ e=>e,fun _ _ e=>by simp[Res.add,Res.emp] at e,fun _=>.inr rfl,Env.refl w⟩
 refine(callsIn_wide.1 (sp.calls w _ Res.emp Res.emp (Res.dj_emp _) t trivial)).mono ?_;rintro e w' ⟨x,M',h',rfl,_,l,_,t',_⟩;have en:=t'.env;rw[←l.2] at en;refine⟨rfl,w'.drawn-w.drawn,w'.heap.extract w.heap.size w'.heap.size,?_⟩;have hold:∀k,k<w.heap.size→w'.heap[k]?=w.heap[k]?:=fun k hk=>by
  have e1:w.heap[k]?=some w.heap[k]:=Array.getElem?_eq_getElem hk;rw[e1];exact t'.im k _ (l.1 k _ e1)
 have hd:w.drawn+(w'.drawn-w.drawn)=w'.drawn:=by
  have h:w.drawn≤w'.drawn:=en.up;omega
 have hh:w'.heap=w.heap++w'.heap.extract w.heap.size w'.heap.size:=by
  apply Array.ext_getElem?;intro k;have hs:=en.size;rw[Array.getElem?_append];by_cases hk:k<w.heap.size
  · rw[if_pos hk];exact hold k hk
  · rw [if_neg hk,Array.getElem?_extract]
    by_cases hk2:k<w'.heap.size
    · rw[if_pos (by omega)]
      congr 1;omega
    · rw[if_neg (by omega)]
      exact Array.getElem?_eq_none (by omega)
 cases w' with
 | mk heap tape drawn os output =>
   have h1:=en.os;have h2:=en.tape;have h3:=en.output;dsimp only at h1 h2 h3 hd hh;subst h1;subst h2;subst h3;show _=({ heap:=w.heap++_,tape:=w.tape,drawn:=w.drawn+_,os:=w.os,output:=w.output }:World)
   rw[hd,←hh]
end
section
set_option maxRecDepth 100000
open Go.Sort (flatK HoldsK PermIn SortedIn)
theorem Amd {α:Type} [Inhabited α] {enc:α→List Value} {k:Nat} (hk:∀x,(enc x).length=k) (l:List α):flatK enc k l.toArray=(l.flatMap enc).toArray:=by
 refine Go.Sort.ext_get! (by simp[Aaj hk]) fun t ht=>?_;have ht':t<l.length * k:=by simpa using ht
 rw[Go.Sort.get_flatK _ _ _ _ (by simpa using ht')];have k0:0<k:=by
  rcases Nat.eq_zero_or_pos k with h | h
  · subst h;omega
  · exact h
 have hd:t / k<l.length:=(Nat.div_lt_iff_lt_mul k0).2 ht';have hm:t % k<k:=Nat.mod_lt _ k0;have hg:=Ab1 hk hd;have e:(enc l[t / k])[t % k]?=(l.flatMap enc)[t]?:=by
  rw[←hg,List.getElem?_take_of_lt hm,List.getElem?_drop,Nat.div_add_mod']
 have e2:l.toArray[t / k]! = l[t / k]:=by simp[hd]
 rw[e2,List.getElem!_eq_getElem?_getD,e,List.getElem!_toArray,List.getElem!_eq_getElem?_getD]
section
variable {α:Type} [Inhabited α] {P:Program} {f g:Nat} {T:TypeId} {k:Nat} {enc:α→List Value}
theorem Atv (hk:∀x,(enc x).length=k) (lt:α→α→Bool)
    (en:∀(args:Array Value) (w:World),(callFunc f args).run P w=.ok (.enter f args) w)
    (hn:SpF P f [.slice none 0 0,.func (.func g) #[] #[]] (.tuple #[]))
    (hc:∀(blk cap:Nat) (d:Array α) (w:World),HoldsK enc k w blk 0 d→blk<w.heap.size→d.size<4611686018427387904→Calls P f #[.slice (some ⟨blk,0,none⟩) d.size cap,.func (.func g) #[] #[]] w fun e w'=>e=.returned (.tuple #[])∧∃d' n os,PermIn 0 d.size d d'∧SortedIn lt 0 d.size d'∧w'=sortWorldK enc k w blk 0 n d' os)
    (a:Option Addr) (n c:Nat) (l:List α) (hl:l.length=n) (hb:n<4611686018427387904) :
    Sp P f [.slice a n c,.func (.func g) #[] #[]] [Row T k (.slice a n c) n (l.flatMap enc)] (X:=List α) (fun _=>.tuple #[]) (fun q=>q.Perm l∧q.Pairwise fun x y=>lt y x=false) (fun q=>[Row T k (.slice a n c) n (q.flatMap enc)]):=by
 subst hl;refine⟨en,fun w M h hf d t s=>?_⟩;obtain⟨h1,h2,d12,e,hr,_⟩:=s;subst e;rcases hr with ⟨hv,hl,hx⟩ | ⟨gg,cap,cur,hv,hnc,hcm,hcl,hxl,htk,hh⟩
 · have hl0:l=[]:=List.eq_nil_of_length_eq_zero hl
   subst hl0
   cases hv;refine(hn.calls w M (h1.add h2) hf d t trivial).mono ?_;rintro ee w' ⟨x,M',h',rfl,_,le,dj,t',_⟩;exact⟨[],M',h',rfl,⟨List.Perm.refl _,List.Pairwise.nil⟩,le,dj,t',Res.emp,h',Res.emp_dj _,rfl,.inl ⟨rfl,rfl,rfl⟩,trivial⟩
 · cases hv
   subst hh;obtain⟨d1,d2⟩:=Res.dj_add_left.1 d;have hg:w.heap[gg]?=some (.cells cur.toArray T (0,0)):=t.ow _ _ (by simp[Res.add,Res.one]);have hlt:gg<w.heap.size:=(Array.getElem?_eq_some_iff.1 hg).1;have hH:HoldsK enc k w gg 0 l.toArray:=by
    intro j hj;rw[Amd hk] at hj ⊢;have hj':j<(l.flatMap enc).length:=by simpa using hj
    have hc:cur[j]?=some (l.flatMap enc)[j]:=by
     have:=congrArg (fun q=>q[j]?) htk;rw[List.getElem?_take_of_lt (by rw[←hxl];exact hj'),List.getElem?_eq_getElem hj'] at this;exact this
    refine⟨?_,?_⟩
    · simp only[World.cell?,Nat.zero_add,hg]
      rw[List.getElem!_toArray,List.getElem!_eq_getElem?_getD,List.getElem?_eq_getElem hj'];simpa using hc
    · simp[World.frozen?,hg]
   have hcall:=hc gg c l.toArray w hH hlt (by simpa using hb);refine CallsIn.mono (callsIn_wide.2 hcall) ?_;rintro ee w' ⟨rfl,d',m,os,hp,hs,rfl⟩;obtain⟨q,rfl⟩:∃q:List α,d'=q.toArray:=⟨d'.toList,by simp⟩
   have hql:q.length=l.length:=by simpa using hp.1
   have hperm:q.Perm l:=by
    have:=hp.2.2;simp only[List.size_toArray,Array.toList_extract,List.extract_eq_take_drop,List.drop_zero,Nat.sub_zero] at this;rwa [List.take_of_length_le (by omega),List.take_of_length_le (Nat.le_refl _)] at this
   have hsort:q.Pairwise fun x y=>lt y x=false:=by
    rw[List.pairwise_iff_getElem];intro i j hi hj hij;have:=hs i j (Nat.zero_le _) hij (by simpa [←hql] using hj);simpa [hi,hj] using this
   have hfl:(q.flatMap enc).length=l.length * k:=by rw[Aaj hk,hql]
   have hput:(Go.Sort.putRowK enc k (Go.Sort.ahead w m) gg 0 q.toArray).heap[gg]?=some (.cells (q.flatMap enc++cur.drop (q.flatMap enc).length).toArray T (0,0)):=by
    have h0:(Go.Sort.ahead w m).heap[gg]?=some (.cells cur.toArray T (0,0)):=hg;simp only[Go.Sort.putRowK,Amd hk,Go.Sort.putRow,Go.Sort.mapBlock,Array.getElem?_modify,if_true,h0,Option.map_some,Go.Sort.onCells];generalize q.flatMap enc=F at hfl ⊢;congr 2;apply Array.ext';simp only[Go.Sort.putCells,Array.toList_mapIdx];apply List.ext_getElem?;intro j;simp only[List.getElem?_mapIdx,Nat.zero_le,true_and,Nat.zero_add,List.size_toArray,Nat.sub_zero];by_cases hj:j<F.length
    · have hjc:j<cur.length:=by
        have:=congrArg List.length htk;rw[List.length_take] at this;omega
      rw[List.getElem?_append_left hj];simp[hj,hjc]
    · rw[List.getElem?_append_right (Nat.le_of_not_lt hj),List.getElem?_drop]
      have e:F.length+(j-F.length)=j:=by omega
      rw[e]
      cases hc:cur[j]? with
      | none=>simp[hc]
      | some v=>simp[hc,hj]
   have hoth:∀i,i≠gg→(Go.Sort.putRowK enc k (Go.Sort.ahead w m) gg 0 q.toArray).heap[i]?=w.heap[i]?:=by
    intro i hi;simp only[Go.Sort.putRowK,Go.Sort.putRow,Go.Sort.mapBlock,Array.getElem?_modify,Ne.symm hi,if_false];rfl
   have t1:Sat w M ((Res.one gg (.cells cur.toArray T (0,0))).add (h2.add hf)):=by rw[←Res.add_assoc];exact t
   have t2:=Sat.setBlk (Res.dj_add_right.2 ⟨d12,d1⟩) t1 hput hoth ⟨rfl,rfl,rfl,by simp[Go.Sort.putRowK,Go.Sort.putRow,Go.Sort.mapBlock,Go.Sort.ahead],Aof m Ah2⟩;have dn:(Res.one gg (.cells (q.flatMap enc++cur.drop (q.flatMap enc).length).toArray T (0,0))).dj (h2.add hf):=AaE (Res.dj_add_right.2 ⟨d12,d1⟩);obtain⟨dn1,dn2⟩:=Res.dj_add_right.1 dn;have hcl2:l.length * k≤cur.length:=by
    have:=congrArg List.length htk;rw[List.length_take] at this;omega
   refine⟨q,M,(Res.one gg (.cells (q.flatMap enc++cur.drop (q.flatMap enc).length).toArray T (0,0))).add h2,rfl,⟨hperm,hsort⟩,Kn.le_refl _,Res.dj_add_left.2 ⟨dn2,d2⟩,?_,Res.one gg _,h2,dn1,rfl,.inr ⟨gg,c,q.flatMap enc++cur.drop (q.flatMap enc).length,rfl,hnc,hcm,?_,hfl,?_,rfl⟩,trivial⟩
   · rw[Res.add_assoc];exact Apx t2 os
   · rw[List.length_append,List.length_drop,←hcl];omega
   · rw[←hfl,List.take_left' rfl]
end
theorem AxH {α:Type} (key:α→Bs×Bs):Go.Sort.SWO (ltOf fun x y=>Al3 (key x) (key y)) where
 irrefl x:=by
  rw[ltOf,decide_eq_false_iff_not,Ajx];exact Ai0 _
 trans x y z h1 h2:=by
  rw[ltOf,decide_eq_true_iff,Ajx] at *;exact AoO h1 h2
 ntrans x y z h1 h2:=by
  rw[ltOf,decide_eq_false_iff_not,Ajx] at *;intro h;rcases Ar9 (key x) (key y) with h3 | h3 | h3
  · exact h1 h3
  · rw[h3] at h;exact h2 h
  · exact h2 (AoO h3 h)
theorem AqL {α:Type} {key:α→Bs×Bs} {l m:List α} (hp:l.Perm m) (hn:(m.map key).Nodup) (hl:l.Pairwise fun x y=>ltOf (fun x y=>Al3 (key x) (key y)) y x=false) (hm:m.Pairwise fun x y=>lt2 (key x) (key y)):l=m:=by
 have hm2:m.Pairwise fun x y=>ltOf (fun x y=>Al3 (key x) (key y)) y x=false:=hm.imp fun {x y} h=>by
  rw[ltOf,decide_eq_false_iff_not,Ajx];exact fun h2=>Ai0 _ (AoO h h2)
 refine List.Perm.eq_of_pairwise (le:=fun x y=>ltOf (fun x y=>Al3 (key x) (key y)) y x=false) (fun a b ha hb h1 h2=>?_) hl hm2 hp;rw[ltOf,decide_eq_false_iff_not,Ajx] at h1 h2;have e:key a=key b:=by
  rcases Ar9 (key a) (key b) with h3 | h3 | h3
  · exact absurd h3 h2
  · exact h3
  · exact absurd h3 h1
 have ha':=hp.mem_iff.1 ha;obtain⟨i,hi,rfl⟩:=List.getElem_of_mem ha';obtain⟨j,hj,rfl⟩:=List.getElem_of_mem hb;have hij:i=j:=by
  rcases Nat.lt_trichotomy i j with h | h | h
  · exact absurd (List.pairwise_iff_getElem.1 hm i j hi hj h) (by rw[e];exact Ai0 _)
  · exact h
  · exact absurd (List.pairwise_iff_getElem.1 hm j i hj hi h) (by rw[e];exact Ai0 _)
 subst hij;rfl
end
section
set_option maxRecDepth 100000
section
variable {r:Option Nat} {P:Program} {n:Nat} {ops:Array Oper} {os:List Oper} {A:List HP} {L:Loc} {Hs:List HP} {Q:Out} {ty:TypeId} {d:Nat} {pos:String} {after:Array Edge} {c:Code}
end
def brB:Bs:=[98,114,97,110,99,104]
def trB:Bs:=[116,114,117,110,107]
def brF (C:List (Bs×Ck)) (l:Ls) (name:Bs):Bs:=if ((ofT C l brB name).getD Ai5).value≠[] then ((ofT C l brB name).getD Ai5).value else trB
noncomputable def brH (H:Ks) (name:Bs):Bs:=brF (AaY H) (AbO H) name
set_option maxHeartbeats 2000000 in
theorem AeA (m1 m2:Nat) (all:List CkN) (l:Ls) (name:Bs) (hnd:(all.map (·.1)).Nodup) (hz:∀x∈all,x.2.2.parents.length≤9223372036854775807) (hal:all.length≤4398046511104) :
    Sp1 Tryz.prog 78 [.agg #[.map (some m1),.map (some m2)],vS name] [MX.MapS MX.pairE m1 (lsK l),MapS m2 (ckK all),Aeh all] (vS (brF (all.map Abc) l name)) [MX.MapS MX.pairE m1 (lsK l),MapS m2 (ckK all),Aeh all]:=by
 have hO:=Apr m1 m2 all l brB name hnd hz hal _ rfl;have hbr:brF (all.map Abc) l name=if ((ofT (all.map Abc) l brB name).getD Ai5).value≠[] then ((ofT (all.map Abc) l brB name).getD Ai5).value else trB:=rfl
 generalize ofT (all.map Abc) l brB name=y at *;obtain⟨t,ht⟩:∃t,t=y.getD Ai5:=⟨_,rfl⟩
 rw[←ht] at hO hbr;refine Sp.body (n:=18) Tryz.call78 Tryz.func78 rfl rfl rfl ?_;refine Qc (k:=Zx [_,_] (k:=fun b2=>Vv (k:=Wq (Za (k:=Qc (k:=Zm [_,_] (k:=Vv (k:=?_))))))));refine Aaa hO rfl rfl rfl ?_;refine Vv (k:=?_);refine Aa6 (Aa7 (v:=.agg #[vS t.tag,vS t.target,vS t.value,vS t.source,.bool t.spread,.bool t.own]) rfl rfl) rfl ?_;refine Aa6 (Aa7 (v:=vB y.isSome) rfl rfl) rfl ?_;refine Zc [vS [],vS [],vS [],vS [],.bool false,.bool false] (k:=fun b5=>Zp (k:=Vv (k:=Wq (Qc (k:=Qx 2 9 (k:=Vv (k:=Wq (Zi (t:=fun h15=>?_) (f:=fun h15=>?_)))))))))
 ·
  refine Qc (k:=Qx 2 9 (k:=Vv (k:=Wq (Zt (k:=Va ?_)))));rw[hbr,if_pos h15];exact Aa2 () (vs:=[_]) (Cs:=[]) rfl (.tmp rfl .nil) rfl trivial Aa0
 ·
  refine Zk (k:=Ya (Qc (k:=Vv (k:=Wq (Zt (k:=?_))))));rw[hbr,if_neg h15];exact Aa2 () (vs:=[_]) (Cs:=[]) rfl (.tmp rfl .nil) rfl trivial Aa0
theorem AgS (b:Nat) (H:Ks) (hH:TxtK H) (hnd:(H.map (·.1)).Nodup) (hn:H.length≤1000000) (name:Bs) :
    Sp1 Tryz.prog 33 [.map (some b),vS name] [MapS b H] (vS (brH H name)) [MapS b H]:=by
 refine Sp.body (n:=9) Tryz.call33 Tryz.func33 rfl rfl rfl ?_;refine Qc (k:=Vv (k:=Wq (Qc (k:=Vv (k:=?_)))));refine Aaq (Agq b H hH (by omega)) rfl rfl rfl (fun x hx=>?_);obtain⟨m1,m2,all⟩:=x;dsimp only at hx ⊢;have hf:=Ark hnd hx;have hB:=AeA m1 m2 all (AbO H) name hf.nd (fun x hx=>by have:=hf.pl x hx;omega) (by have:=hf.le;omega);rw[show all.map Abc=AaY H from hx] at hB;refine Vv (k:=?_);refine Aaa hB rfl rfl rfl ?_;refine Vv (k:=Wq (Zt (k:=?_)));exact Aa2 () (vs:=[_]) (Cs:=[]) rfl (.tmp rfl .nil) rfl trivial Aa0
end
end Go.Proofs.YtdnoacgopfcpbaaGreat
namespace Go.Proofs
open Go.Shelf
def Tryz.sortFP_ren:Go.Shelf.Ren:=⟨fun | 6=>55 | 15=>101 | 14=>100 | 28=>146 | 29=>147 | 20=>138 | 21=>139 | 22=>140 | 23=>141 | 24=>142 | 25=>143 | 26=>144 | 27=>145 | 46=>192 | 47=>193 | 48=>194 | 49=>195 | 50=>196 | 57=>221 | n=>n,fun | 22=>32 | 24=>37 | 25=>107 | 3=>3 | 39=>97 | 0=>0 | 53=>94 | 55=>96 | 4=>4 | 46=>207 | 45=>206 | 50=>167 | 5=>5 | 9=>9 | 66=>253 | 70=>257 | 76=>273 | 77=>274 | n=>n,fun | n=>n⟩
def Tryz.sortFL_ren:Go.Shelf.Ren:=⟨fun | 6=>79 | 15=>101 | 14=>129 | 28=>146 | 29=>147 | 20=>171 | 21=>172 | 22=>173 | 23=>174 | 24=>175 | 25=>176 | 26=>177 | 27=>178 | 46=>214 | 47=>193 | 48=>194 | 49=>215 | 50=>216 | 57=>232 | n=>n,fun | 22=>64 | 24=>63 | 25=>144 | 3=>3 | 39=>97 | 0=>0 | 53=>94 | 55=>96 | 4=>4 | 46=>207 | 45=>206 | 50=>167 | 5=>5 | 9=>9 | 66=>253 | 70=>257 | 76=>273 | 77=>274 | n=>n,fun | n=>n⟩
theorem Tryz.sortFL:Go.Proofs.SlLaysF0.n6 Tryz.prog Tryz.sortFL_ren:={
 mixed:=by kernel_rfl
 f6:=⟨Tryz.f79.name,by decide,Tryz.func79.trans (congrArg some (by kernel_rfl))⟩
 f14:=⟨Tryz.f129.name,by decide,Tryz.func129.trans (congrArg some (by kernel_rfl))⟩
 f15:=Tryz.func101.trans (congrArg some (by kernel_rfl))
 f20:=⟨Tryz.f171.name,by decide,Tryz.func171.trans (congrArg some (by kernel_rfl))⟩
 f21:=⟨Tryz.f172.name,by decide,Tryz.func172.trans (congrArg some (by kernel_rfl))⟩
 f22:=⟨Tryz.f173.name,by decide,Tryz.func173.trans (congrArg some (by kernel_rfl))⟩
 f23:=⟨Tryz.f174.name,by decide,Tryz.func174.trans (congrArg some (by kernel_rfl))⟩
 f24:=⟨Tryz.f175.name,by decide,Tryz.func175.trans (congrArg some (by kernel_rfl))⟩
 f25:=⟨Tryz.f176.name,by decide,Tryz.func176.trans (congrArg some (by kernel_rfl))⟩
 f26:=⟨Tryz.f177.name,by decide,Tryz.func177.trans (congrArg some (by kernel_rfl))⟩
 f27:=⟨Tryz.f178.name,by decide,Tryz.func178.trans (congrArg some (by kernel_rfl))⟩
 f28:=Tryz.func146.trans (congrArg some (by kernel_rfl))
 f29:=Tryz.func147.trans (congrArg some (by kernel_rfl))
 f46:=⟨Tryz.f214.name,by decide,Tryz.func214.trans (congrArg some (by kernel_rfl))⟩
 f47:=Tryz.func193.trans (congrArg some (by kernel_rfl))
 f48:=Tryz.func194.trans (congrArg some (by kernel_rfl))
 f49:=⟨Tryz.f215.name,by decide,Tryz.func215.trans (congrArg some (by kernel_rfl))⟩
 f50:=⟨Tryz.f216.name,by decide,Tryz.func216.trans (congrArg some (by kernel_rfl))⟩
 f57:=⟨Tryz.f232.name,by decide,Tryz.func232.trans (congrArg some (by kernel_rfl))⟩
 t0:=Tryz.underlying0
 a0:=Tryz.isAgg0
 z0:=Tryz.sizeOf0
 v0:=Tryz.zeroValue0
 t3:=Tryz.underlying3
 a3:=Tryz.isAgg3
 z3:=Tryz.sizeOf3
 v3:=Tryz.zeroValue3
 t4:=Tryz.underlying4
 a4:=Tryz.isAgg4
 z4:=Tryz.sizeOf4
 v4:=Tryz.zeroValue4
 t5:=Tryz.underlying5
 a5:=Tryz.isAgg5
 z5:=Tryz.sizeOf5
 v5:=Tryz.zeroValue5
 t9:=Tryz.underlying9
 a9:=Tryz.isAgg9
 z9:=Tryz.sizeOf9
 v9:=Tryz.zeroValue9
 t22:=Tryz.underlying64
 a22:=Tryz.isAgg64
 z22:=Tryz.sizeOf64
 v22:=Tryz.zeroValue64
 t25:=Tryz.underlying144
 a25:=Tryz.isAgg144
 z25:=Tryz.sizeOf144
 v25:=Tryz.zeroValue144
 t39:=Tryz.underlying97
 a39:=Tryz.isAgg97
 z39:=Tryz.sizeOf97
 v39:=Tryz.zeroValue97
 t45:=Tryz.underlying206
 a45:=Tryz.isAgg206
 z45:=Tryz.sizeOf206
 v45:=Tryz.zeroValue206
 t46:=Tryz.underlying207
 a46:=Tryz.isAgg207
 z46:=Tryz.sizeOf207
 v46:=Tryz.zeroValue207
 t50:=Tryz.underlying167
 a50:=Tryz.isAgg167
 z50:=Tryz.sizeOf167
 v50:=Tryz.zeroValue167
 t53:=Tryz.underlying94
 a53:=Tryz.isAgg94
 z53:=Tryz.sizeOf94
 v53:=Tryz.zeroValue94
 t55:=Tryz.underlying96
 a55:=Tryz.isAgg96
 z55:=Tryz.sizeOf96
 v55:=Tryz.zeroValue96
 t66:=Tryz.underlying253
 a66:=Tryz.isAgg253
 z66:=Tryz.sizeOf253
 v66:=Tryz.zeroValue253
 t70:=Tryz.underlying257
 a70:=Tryz.isAgg257
 z70:=Tryz.sizeOf257
 v70:=Tryz.zeroValue257
 t76:=Tryz.underlying273
 a76:=Tryz.isAgg273
 z76:=Tryz.sizeOf273
 v76:=Tryz.zeroValue273
 t77:=Tryz.underlying274
 a77:=Tryz.isAgg274
 z77:=Tryz.sizeOf274
 v77:=Tryz.zeroValue274 }
end Go.Proofs
namespace Go.Proofs.YtdnoacgopfcpbaaGreat
end Go.Proofs.YtdnoacgopfcpbaaGreat
