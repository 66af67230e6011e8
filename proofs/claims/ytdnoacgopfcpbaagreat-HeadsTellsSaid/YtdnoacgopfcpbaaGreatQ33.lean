/- Texts of this proof, put together: SSameLf, MapIns, SChain18, LawHeadsRuns, MapXL, LawHeadsGrow, LawHeadsTells, ArtsA. -/
import Derived.Test.YtdnoacgopfcpbaaGreatQ32
set_option linter.unusedVariables false
set_option linter.unusedSimpArgs false
namespace Go.Proofs.YtdnoacgopfcpbaaGreat
section
set_option maxRecDepth 100000
theorem AxF (a b:Lf):AfH [vS a.branch,vS a.name] [vS b.branch,vS b.name]=decide (a=b):=by
 obtain⟨a0,a1⟩:=a;obtain⟨b0,b1⟩:=b;simp only[AfH,Aus,Bool.and_true,Lf.mk.injEq,Bool.decide_and]
set_option maxHeartbeats 2000000 in
theorem AhB {As:List HP} {a a':Option Addr} (n n' c c':Nat) (l l':List Lf) [h1:Abu a (l.flatMap Aai) As] [h2:Abu a' (l'.flatMap Aai) As] (hn:l.length=n) (hn':l'.length=n') (hb:n≤140737488355328) :
    Sp1 Tryz.prog 31 [.slice a n c,.slice a' n' c'] As (vB (decide (l=l'))) As:=by
 subst hn;subst hn';haveI:Ab4 As As []:=⟨AnK As⟩
 refine Sp.body (n:=26) Tryz.call31 Tryz.func31 rfl rfl rfl ?_;refine Qc (k:=Vv (k:=Wq (Za (k:=Qc (k:=Qv (k:=Qv (k:=Vv (k:=?_))))))));refine Wq (Zi (t:=fun h10=>?_) (f:=fun h10=>?_))
 ·
  refine Qc (k:=Vv (k:=Wq (Zt (k:=Va ?_))));have hn:¬l=l':=fun e=>h10 (by rw[e]);exact Aa2 () (vs:=[_]) (Cs:=[]) rfl (.tmp rfl .nil) (by rw[decide_eq_false hn];rfl) trivial (by rw[List.append_nil];exact Ent.refl _)
 ·
  refine Zk (k:=Ya (Za (k:=Qc (k:=Vv (k:=Wq (Zb (k:=?_)))))));refine Aak (fun (i:{ j:Nat // j≤l.length∧l.take j=l'.take j })=>[(0,.slice a l.length c),(1,.slice a' l'.length c'),(5,vI i.1)]) (fun (i:{ j:Nat // j≤l.length∧l.take j=l'.take j })=>As) (fun (i:{ j:Nat // j≤l.length∧l.take j=l'.take j })=>l.length-i.1) rfl (⟨0,Nat.zero_le _,rfl⟩) ?_ ?_ (fun i=>?_)
  · exact⟨rfl,rfl,rfl,trivial⟩
  ·
   exact Ent.refl _
  obtain⟨j,hj,hw⟩:=i;try dsimp only
  refine Za (k:=Qc (k:=Qv (k:=Qv (k:=Wq (Zi (t:=fun h14=>?_) (f:=fun h14=>?_))))))
  ·
   refine Zk (k:=Ya (Za (k:=Zb (k:=Za (k:=?_)))));have hjl:j<l.length:=by omega
   have hjl':j<l'.length:=by omega
   have hq:=AxF l[j] l'[j];refine Auz rfl rfl rfl As ?_;refine Dv 0 (k:=Dv 1 (k:=?_));refine Aa1 2 rfl rfl rfl (by kernel_rfl) (by kernel_rfl) (Aae (sz:=2) Tryz.underlying64 AeL rfl rfl rfl rfl (by omega) (by first | (rw[List.length_map];omega) | (rw[Aaj (sz:=2) (fun _=>rfl)];omega) | (simp;omega)) rfl) ?_;refine Aa1 3 rfl rfl rfl (by kernel_rfl) (by kernel_rfl) (Anx (vs:=[_,_]) (sz:=2) Tryz.underlying63 rfl AeL rfl rfl (by rw[Aaj (sz:=2) (fun _=>rfl)];omega) rfl (by refine Ab1 (fun x=>?_) ?_<;>first | rfl | omega)) ?_;refine Dv 4 (k:=Dv 5 (k:=?_));refine Aa1 6 rfl rfl rfl (by kernel_rfl) (by kernel_rfl) (Aae (sz:=2) Tryz.underlying64 AeL rfl rfl rfl rfl (by omega) (by first | (rw[List.length_map];omega) | (rw[Aaj (sz:=2) (fun _=>rfl)];omega) | (simp;omega)) rfl) ?_;refine Aa1 7 rfl rfl rfl (by kernel_rfl) (by kernel_rfl) (Anx (vs:=[_,_]) (sz:=2) Tryz.underlying63 rfl AeL rfl rfl (by rw[Aaj (sz:=2) (fun _=>rfl)];omega) rfl (by refine Ab1 (fun x=>?_) ?_<;>first | rfl | omega)) ?_;refine Aa1 8 rfl rfl rfl (by kernel_rfl) (by kernel_rfl) (Aat (Avg [.string,.string] Tryz.underlying63 (by kernel_rfl) (by kernel_rfl) (by kernel_rfl) rfl rfl rfl)) ?_;refine Dd (k:=?_);rw[hq];refine Ya (Zi (t:=fun h25=>?_) (f:=fun h25=>?_))
   ·
    refine Qc (k:=Vv (k:=Wq (Zt (k:=Vb (Va (Vi (Vb (Va ?_))))))));have hn:¬l=l':=fun e=>by subst e;simp at h25
    exact Aa2 () (vs:=[_]) (Cs:=[]) rfl (.tmp rfl .nil) (by rw[decide_eq_false hn];rfl) trivial (by rw[List.append_nil];exact Ent.refl _)
   ·
    refine Zk (k:=Yb (Ya (Zr (k:=Qv (k:=Vv (k:=Wn ?_))))));have hx:l[j]=l'[j]:=by simpa using h25
    exact Aa5 ⟨j+1,by omega,Atu hjl hjl' hw hx⟩ (by dsimp only;omega) ⟨rfl,rfl,rfl,trivial⟩ (by rw[List.append_nil];exact Ent.refl _)
  ·
   refine Ze (k:=Xa (Xi (Xb (Ya (Qc (k:=Vv (k:=Wq (Zt (k:=?_)))))))));have hjl:j=l.length:=by omega
   subst hjl;have he:l=l':=by
    have e1:l'.length=l.length:=by omega
    rw[List.take_length,←e1,List.take_length] at hw;exact hw
   exact Aa2 () (vs:=[_]) (Cs:=[]) rfl (.tmp rfl .nil) (by rw[decide_eq_true he];rfl) trivial (by rw[List.append_nil];exact Ent.refl _)
end
section
section
variable {r:Option Nat} {P:Program} {n:Nat} {ops:Array Oper} {os:List Oper} {A:List HP} {L:Loc} {Hs:List HP} {Q:Out} {ty:TypeId} {d:Nat} {pos:String} {after:Array Edge} {c:Code}
theorem AiK {t kt e:TypeId} {x y z:Operand} {b:Nat} {ks:Ks} {k:List UInt8} {v:Value} (ht:P.underlying t=some (.map kt e)) (hk:P.underlying kt=some .string)
    (hx:ev L x=some (.map (some b))) (hy:ev L y=some (vS k)) (hz:ev L z=some v) :
    OpT r P n ⟨none,.insert t x y z,ty,pos,after,none⟩ A L [MapS b ks] (fun _:Unit=>undef) (fun _=>True) (fun _=>[MapS b (mput ks k v)]) :=
 Ack (pos:=pos) (after:=after) (ty:=ty) ht hk hx hy hz
theorem ApH {os:List Oper} {Q:Out} {t kt e:TypeId} {x y z:Operand} {b:Nat} {ks:Ks} {k:List UInt8} {v:Value} {Rs:List HP} (ht:P.underlying t=some (.map kt e)) (hk:P.underlying kt=some .string)
    (hx:ev L x=some (.map (some b))) (hy:ev L y=some (vS k)) (hz:ev L z=some v) [h:AdU b ks Hs Rs] (K:wo r P n ops os L (MapS b (mput ks k v)::Rs) Q):wo r P n ops (⟨none,.insert t x y z,ty,pos,after,none⟩::os) L Hs Q:=by
 haveI:Ab4 [MapS b ks] Hs Rs:=⟨.cons h.get .nil⟩
 exact AcW (by intro c;simp) (AiK ht hk hx hy hz (ks:=ks)) rfl (fun _ _=>K)
end
section
variable {α:Type} (a b c:α)
end
end
section
set_option maxRecDepth 100000
theorem Ahb {Bt:HP} (pa:Option Addr) (pc:Nat) (ta:Option Addr) (tc:Nat) {ps:List Bs} {ts:List Tg} {u:Bs} {d:Int} (h:AbD (Ake ps ts u d)) (hpc:ps.length≤pc) (sht:SlA Bt ta (ts.flatMap Aab)) :
    Sp1 Tryz.prog 16 [.agg #[vS [],vS [],vI d,.slice none 0 0,.slice pa ps.length pc,.slice ta ts.length tc,vS u]] [SlI none [],SlI pa (ps.map vS),Bt] (vS (ckB (Ake ps ts u d))) [SlI none [],Bt] :=
 Ad8 (Bf:=SlI none []) ⟨none,0,pa,pc,ta,tc⟩ (Ake ps ts u d) (Av4 h) h.date (Nat.le_trans (Aev h) (by decide)) Abo sht hpc
end
section
set_option maxRecDepth 100000
def hE:List Lf:=[⟨[98],[98]⟩,⟨trB,[99]⟩]
set_option maxHeartbeats 8000000 in
theorem Ap0:Sp1 Tryz.prog 6 [] [] (vB true) []:=by
 have hCa:=Ahb (Bt:=SlI none []) none 0 none 0 Ag9 (Nat.le_refl _) Abo;simp only[List.map_nil,List.length_nil] at hCa;rw[show ckB (Ake [] [] me 0)=ckB hA from rfl] at hCa;have hS:=AdH (ckB hA) (Nat.le_trans (Ale Ag9) (by decide));rw[show AcX (ckB hA)=hX from rfl] at hS;have hCb:∀p t,Sp1 Tryz.prog 16 [.agg #[vS [],vS [],vI 0,.slice none 0 0,.slice (some ⟨p,0,none⟩) 1 1,.slice (some ⟨t,0,none⟩) 1 1,vS me]] [SlI none [],SlI (some ⟨p,0,none⟩) [vS hX],Ce t 60 (hT.flatMap Aab)] (vS (ckB hB)) [SlI none [],Ce t 60 (hT.flatMap Aab)]:=fun p t =>
  Ahb (Bt:=Ce t 60 (hT.flatMap Aab)) (some ⟨p,0,none⟩) 1 (some ⟨t,0,none⟩) 1 Aho (Nat.le_refl _) AqN
 have hCc:∀p,Sp1 Tryz.prog 16 [.agg #[vS [],vS [],vI 0,.slice none 0 0,.slice (some ⟨p,0,none⟩) 1 1,.slice none 0 0,vS me]] [SlI none [],SlI (some ⟨p,0,none⟩) [vS hX],SlI none []] (vS (ckB hC)) [SlI none [],SlI none []]:=fun p =>
  Ahb (Bt:=SlI none []) (some ⟨p,0,none⟩) 1 none 0 Ahn (Nat.le_refl _) Abo
 have hk:mput (mput (mput [] hX (vS (ckB hA))) [98] (vS (ckB hB))) [99] (vS (ckB hC))=hK:=rfl;have hlen:hK.length=3:=by rw[h_held.len];rfl
 have hLv:=fun b=>AeB b hK h_held.txt h_held.knd (by rw[hlen];omega);have hBr:=fun b=>AgS b hK h_held.txt h_held.knd (by rw[hlen];omega);have hIl:=fun b=>AgR b hK h_held.txt h_held.knd (by rw[hlen];omega) hX;have hBb:=fun b=>hBr b [98];have hBc:=fun b=>hBr b [99];rw[AvA] at hBb;rw[h_bx.2] at hBc;rw[AwM] at hIl;have hq:=fun q=>Auo (q:=q);rw[show ([⟨[98],[98]⟩,⟨trB,[99]⟩]:List Lf)=hE from rfl] at hq;have hEc:([vS [98],vS [98],vS [116,114,117,110,107],vS [99]]:List Value)=hE.flatMap Aai:=rfl;have hEl:hE.length=2:=rfl;clear hBr;generalize hK=H at *;generalize hX=x at *;generalize ckB hA=ca at *;generalize ckB hB=cb at *;generalize ckB hC=cc at *;generalize hE=E at *;refine Sp.body (n:=46) Tryz.call6 Tryz.func6 rfl rfl rfl ?_;refine Qc (k:=Vv (k:=Wq (Qc (k:=Vx (Ps [vS [],vS [],.int .i64 0,.slice none 0 0,.slice none 0 0,.slice none 0 0,_]) (k:=?_)))));refine wo_ent' sli_nil ?_;refine Aaa hCa rfl rfl rfl ?_;refine Vv (k:=Wq (Qc (k:=Vv (k:=?_))));refine Aag hS rfl rfl rfl ?_;refine Vv (k:=Wq (Qc (k:=?_)));refine r_mkmap rfl (fun b8=>?_);refine Qv (k:=?_);refine ApH Tryz.underlying31 Tryz.underlying9 rfl rfl rfl ?_;refine Qv (k:=Wq (Qc (k:=Qv (k:=Zv [_] (cs:=[_]) (k:=fun b14=>Vx (Ps [_,_,_,_]) (k:=Zv [_] (cs:=[_,_,_,_]) (k:=fun b16=>Vx (Ps [vS [],vS [],.int .i64 0,.slice none 0 0,_,_,_]) (k:=?_))))))));refine Ac9 b14 ?_;refine wo_ent' (AaH (b:=b16) (T:=60) (l':=hT.flatMap Aab) (by rfl) (by rfl)) ?_;refine Aaa (hCb b14 b16) rfl rfl rfl ?_
 refine r_mapUpdate Tryz.underlying31 Tryz.underlying9 rfl rfl rfl ?_;refine Wq (Qc (k:=Qv (k:=Zv [_] (cs:=[_]) (k:=fun b21=>Vx (Ps [vS [],vS [],.int .i64 0,.slice none 0 0,_,.slice none 0 0,_]) (k:=?_)))));refine Ac9 b21 ?_;refine Aaa (hCc b21) rfl rfl rfl ?_;refine r_mapUpdate Tryz.underlying31 Tryz.underlying9 rfl rfl rfl ?_;refine Wq (Qc (k:=?_));rw[hk];refine Vv (k:=?_);refine Aaq (hLv b8) rfl rfl rfl (fun xp hxp=>?_);obtain⟨⟨pa,pc⟩,q⟩:=xp;dsimp only at hxp ⊢;obtain rfl:=hq q hxp;refine Vx (Ps [_,_]) (k:=Vx (Ps [_,_]) (k:=Zv [_,_] (cs:=[_,_,_,_]) (k:=fun b28=>?_)));refine wo_ent' (AaH (b:=b28) (T:=63) (l':=q.flatMap Aai) (by rfl) hEc) ?_;refine Aaa (AhB (As:=[Row 63 2 (.slice pa q.length pc) q.length (q.flatMap Aai),Ce b28 63 (q.flatMap Aai)]) q.length 2 pc 2 q q rfl hEl (by omega)) rfl rfl rfl ?_;refine Vv (k:=Gi 6 (t:=fun h30=>?_) (f:=fun h30=>?_))
 ·
  refine J1 (k:=I1 (k:=?_));refine Aaa (hBc b8) rfl rfl rfl ?_;refine J1 (k:=P1 (k:=Vv (k:=Gi 11 (t:=fun h35=>?_) (f:=fun h35=>?_))))
  ·
   refine J1 (k:=I1 (k:=?_));refine Aaa (hBb b8) rfl rfl rfl ?_;refine J1 (k:=P1 (k:=Vv (k:=Gi 16 (t:=fun h40=>?_) (f:=fun h40=>?_))))
   ·
    refine J1 (k:=J1 (k:=I1 (k:=?_)));refine Aaa (hIl b8) rfl rfl rfl ?_;refine J1 (k:=P1 (k:=Vv (k:=Wq (Zt (k:=?_)))));exact Aa2 () (vs:=[_]) (Cs:=[]) rfl (.tmp rfl .nil) rfl trivial Aad
   ·
    exact absurd rfl h40
    --done
  ·
   exact absurd rfl h35
   --done
 ·
  simp at h30
  --done
end
end Go.Proofs.YtdnoacgopfcpbaaGreat
namespace Go.Proofs.YtdnoacgopfcpbaaGreat.MX
section
variable {α:Type} {r:Option Nat} {P:Program} {n:Nat} {ops:Array Oper} {os:List Oper} {A:List HP} {L:Loc} {Hs:List HP} {Q:Out} {ty:TypeId} {d:Nat} {pos:String} {after:Array Edge} {c:Code}
theorem AiK [DecidableEq α] {E:AcC α} {t kt e:TypeId} {x y z:Operand} {b:Nat} {ks:Ks α} {k:α} {v:Value} (ht:P.underlying t=some (.map kt e)) (hk:AoX P kt E)
    (hx:ev L x=some (.map (some b))) (hy:ev L y=some (E.enc k)) (hz:ev L z=some v) :
    OpT r P n ⟨none,.insert t x y z,ty,pos,after,none⟩ A L [MapS E b ks] (fun _:Unit=>undef) (fun _=>True) (fun _=>[MapS E b (mput ks k v)]) :=
 Ack (pos:=pos) (after:=after) (ty:=ty) ht hk hx hy hz
theorem ApH [DecidableEq α] {E:AcC α} {t kt e:TypeId} {x y z:Operand} {b:Nat} {ks:Ks α} {k:α} {v:Value} {Rs:List HP} (ht:P.underlying t=some (.map kt e)) (hk:AoX P kt E)
    (hx:ev L x=some (.map (some b))) (hy:ev L y=some (E.enc k)) (hz:ev L z=some v) [h:AdU E b ks Hs Rs] (K:wo r P n ops os L (MapS E b (mput ks k v)::Rs) Q):wo r P n ops (⟨none,.insert t x y z,ty,pos,after,none⟩::os) L Hs Q:=by
 haveI:Ab4 [MapS E b ks] Hs Rs:=⟨.cons h.get .nil⟩
 exact AcW (by intro c;simp) (AiK ht hk hx hy hz (ks:=ks)) rfl (fun _ _=>K)
end
end Go.Proofs.YtdnoacgopfcpbaaGreat.MX
namespace Go.Proofs.YtdnoacgopfcpbaaGreat
section
set_option maxRecDepth 100000
theorem Akj {As:List HP} {a a':Option Addr} (n n' c c':Nat) (l:List Lf) [h1:Abu a (l.flatMap Aai) As] [h2:Abu a' (l.flatMap Aai) As] (hn:l.length=n) (hn':l.length=n') (hb:n≤140737488355328) :
    Sp1 Tryz.prog 31 [.slice a n c,.slice a' n' c'] As (vB true) As:=by
 have:=AhB (As:=As) (a:=a) (a':=a') n n' c c' l l hn hn' hb;rwa [decide_eq_true rfl] at this
end
section
set_option maxRecDepth 100000
theorem Avu {b i:Nat} {ks:Ks} {done:List (List UInt8)} {Hs Rs:List HP} [h:Ab4 [MapS b ks,ItR b i ks done] Hs Rs]:Ent Hs (Abj b i ks done::Rs):=(Picks.ent h.get).trans (Axm trivial)
def LvIn (m:Ks) (l:List Lf):Prop:=∀n,(mlook m n).getD (vB false)=vB (l.any fun y=>decide (y.name=n))
theorem LvIn.nil:LvIn [] []:=fun n=>rfl
theorem LvIn.put {m:Ks} {l:List Lf} (h:LvIn m l) (y:Lf):LvIn (mput m y.name (vB true)) (l++[y]):=fun n=>by
 rw[Am0,List.any_append];by_cases e:y.name=n
 · rw[if_pos e]
   simp[e]
 · rw[if_neg e,h n]
   simp[e]
theorem Ap2 {G:Prop} (h:G:=by
    first
    | (have hcy:(AaD s).isSome=true:=by assumption
       refine Aa5 (i++[k]) ?_ ⟨rfl,rfl,rfl,rfl,rfl,by rw[hfi,if_pos hcy,List.length_append];rfl,rfl,trivial⟩ ?_
       · rw[List.length_append,List.length_singleton];omega
       · exact Aa0)
    | (have hcy:(AaD s).isSome=false:=by assumption
       refine Aa5 (i++[k]) ?_ ⟨rfl,rfl,rfl,rfl,rfl,by rw[hfi,hcy,if_neg (by simp),List.append_nil];rfl,rfl,trivial⟩ ?_
       · rw[List.length_append,List.length_singleton];omega
       · exact Aa0)):G:=h
theorem AiW {G:Prop} (h:G:=by exact Aa5 ⟨j+1,by omega⟩ (by dsimp only;omega) ⟨rfl,rfl,rfl,rfl,rfl,rfl,rfl,rfl,rfl,rfl,trivial⟩ Aa0):G:=h
theorem An5 {G:Prop} (h:G:=by
    first
    | exact Aa5 ⟨(brL K).length,by omega⟩ trivial ⟨rfl,rfl,rfl,rfl,rfl,rfl,rfl,rfl,trivial⟩ Aa0
    | exact Aa5 ⟨pre.length,by omega⟩ trivial ⟨rfl,rfl,rfl,rfl,rfl,rfl,rfl,rfl,trivial⟩ Aa0):G:=h
set_option maxHeartbeats 16000000 in
theorem An4 (la:Option Addr) (lc:Nat) (qs:List KaV) (cut_:Int) (hq:qs.length≤9223372036854775807) (hz:∀q∈qs,q.Z) :
    Sp1 Tryz.prog 9 [.slice la qs.length lc,vI cut_] [SlI la (qs.flatMap KaV.cells),Aqz qs] (vB true) []:=by
 have hHd:=AoS la lc qs hz 9 (by decide) hq;have hW1:=Aaf cut_ 1 3 (by omega) (by omega) (by omega);have hw1:=AbA (n:=cut_) (show (1:Int)≤3 by omega);obtain⟨kk,hkk⟩:∃k:Nat,Aar cut_ 1 3=(k:Int):=⟨(Aar cut_ 1 3).toNat,by omega⟩
 rw[hkk] at hW1 hw1;clear hkk;refine Sp.body (n:=162) Tryz.call9 Tryz.func9 rfl rfl rfl ?_;refine Qc (k:=Zc [.bool false] (k:=fun b4=>Wq (Qc (k:=Vv (k:=?_)))));refine Aaq hHd rfl rfl rfl (fun xq hxq=>?_);obtain⟨b,K⟩:=xq;dsimp only at hxq ⊢;obtain⟨hK,hKl⟩:=hxq;have hBr:=fun n=>AgS b K hK.txt hK.nd (by omega) n;have rBr:=fun n=>AgN b K hK.txt hK.nd (by omega) hK.h0 n;have hIs:=fun n=>AgR b K hK.txt hK.nd (by omega) n;have hLv:=AeB b K hK.txt hK.nd (by omega);have rLv:=AkS b K hK.txt hK.nd (by omega) hK.h0;have hcl:=hK.cle;have hcn:=hK.cnd;have hdn:=AkF hcn;have hll:(lvL K).length≤9:=by
  have h1:=Alb (brH K) (AaY K) (AaY K);have h2:=cksL_len' K;change (lvF (brH K) (AaY K) (AaY K)).length≤9;omega
 have hdl:(Abn (brL K)).length≤9:=by
  have:=Acx hdn (m:=AgI K) (fun n hn=>mem_doneN.1 hn);omega
 have hbl:=AvQ (K:=K);have hnob:brH K [110,111,98,111,100,121]=trB:=hK.nobody (by decide);have hnol:AkX K [110,111,98,111,100,121]=false:=by
  cases e:AkX K [110,111,98,111,100,121] with
  | false=>rfl
  | true =>
    obtain⟨x,hx,h1,_⟩:=isLf_iff.1 e;exact absurd (by rw[←h1];exact List.mem_map_of_mem (f:=fun p:Bs×Ck=>p.1) hx) (hK.n40 (n:=[110,111,98,111,100,121]) (by decide))
 refine Zc [.map none] (k:=fun b5=>Zo (k:=Wq (Za (k:=Qc (k:=Zd (k:=?_))))));refine Aaa (hBr _) rfl rfl rfl ?_;rw[hnob];refine Vv (k:=Wq (Zi (t:=fun h28=>?_) (f:=fun h28=>?_)))
 ·
  exact absurd rfl h28
  --done
 ·
  refine Zk (k:=Ya (Qc (k:=Zd (k:=?_))));refine Aaq rLv rfl rfl rfl (fun xv hxv=>?_);obtain⟨⟨va,vc⟩,V⟩:=xv;dsimp only at hxv ⊢;obtain⟨hVs,hVm⟩:=hxv;have hVl:V.length≤9:=by
   have:=Acx (l:=V) (m:=lvL K) (hVs.imp fun {x y} h e=>by subst e;exact Ai0 _ h) (fun y hy=>(hVm y).1 hy);omega
  refine Vv (k:=Wq (Qc (k:=?_)));refine r_mkmap rfl (fun b31=>?_);refine Vv (k:=Wq (Za (k:=Qc (k:=Qv (k:=Vv (k:=Wq (Zb (k:=?_))))))));refine Aak (fun (i:{ x:Nat×Ks // x.1≤V.length∧LvIn x.2 (V.take x.1) })=>[(1,vI cut_),(4,.pointer (some ⟨b4,0,none⟩)),(5,.pointer (some ⟨b5,0,none⟩)),(6,.slice va V.length vc),(7,.map (some b31)),(32,.slice va V.length vc),(33,vI V.length),(34,vI i.1.1)]) (fun (i:{ x:Nat×Ks // x.1≤V.length∧LvIn x.2 (V.take x.1) })=>[MapS b31 i.1.2,Row 63 2 (.slice va V.length vc) V.length (V.flatMap Aai),MapS b K,Ce b4 4 [vB false],Ce b5 31 [.map (some b)]]) (fun (i:{ x:Nat×Ks // x.1≤V.length∧LvIn x.2 (V.take x.1) })=>V.length-i.1.1) rfl (⟨(0,[]),Nat.zero_le _,LvIn.nil⟩) ?_ ?_ (fun i=>?_)
  · exact⟨rfl,rfl,rfl,rfl,rfl,rfl,rfl,rfl,trivial⟩
  ·
   exact Aa0
  obtain⟨⟨j,m⟩,hj,hc⟩:=i;dsimp only at hj hc ⊢;try dsimp only
  refine Qc (k:=Vv (k:=Wq (Za (k:=Zi (t:=fun h35=>?_) (f:=fun h35=>?_)))))
  ·
   refine Zk (k:=Ya (Za (k:=Zb (k:=Za (k:=?_)))));have hjl:j<V.length:=by omega
   obtain⟨y,hy⟩:∃y,y=V[j]:=⟨_,rfl⟩
   have hget:((V.flatMap Aai).drop (j * 2)).take 2=[vS y.branch,vS y.name]:=by rw[hy];exact Ab1 (f:=Aai) (fun _=>rfl) hjl
   have hput:=hc.put y;rw[show V.take j++[y]=V.take (j+1) from by rw[hy];exact(List.take_succ_eq_append_getElem hjl).symm] at hput;refine Zr (k:=?_);refine AaQ (m:=j) (sz:=2) Tryz.underlying64 AeL rfl rfl rfl rfl (by omega) (by rw[Aaj (f:=Aai) (sz:=2) (fun _=>rfl)];omega) rfl rfl ?_;refine Abb (vs:=[vS y.branch,vS y.name]) (sz:=2) Tryz.underlying63 rfl AeL rfl rfl (by rw[Aaj (f:=Aai) (sz:=2) (fun _=>rfl)];omega) rfl hget rfl ?_;refine Zc [vS [],vS []] (k:=fun b9=>Zp (k:=Wq (Zr (k:=Vv (k:=Qx 1 9 (k:=?_))))));refine r_mapUpdate Tryz.underlying71 Tryz.underlying9 rfl rfl rfl ?_;refine Wn (Yb (Ya (Zr (k:=Qv (k:=Wn ?_)))));refine Aa5 ⟨(j+1,mput m y.name (vB true)),by dsimp only;omega,hput⟩ (by dsimp only;omega) ⟨rfl,rfl,rfl,rfl,rfl,rfl,rfl,rfl,trivial⟩ ?_;exact Aa0
  ·
   refine Ze (k:=Xa (Xi (Xb (Ya (Za (k:=?_))))));have hjn:j=V.length:=by omega
   subst hjn;rw[List.take_length] at hc;have hlk:∀n,(mlook m n).getD (vB false)=vB (AkX K n):=fun n=>by rw[hc n,Av0 hVm]
   refine Zr (k:=Vv (k:=Wq (Za (k:=Qc (k:=Zd (k:=?_))))));refine AhX Tryz.underlying31 rfl rfl (fun b43=>?_);refine Wq (Zb (k:=?_));refine Aak (fun (i:List Bs)=>[(1,vI cut_),(4,.pointer (some ⟨b4,0,none⟩)),(5,.pointer (some ⟨b5,0,none⟩)),(6,.slice va V.length vc),(7,.map (some b31)),(10,vI (i.filter fun k=>(AaD (Abq K k)).isSome).length),(43,.pointer (some ⟨b43,0,none⟩))]) (fun (i:List Bs)=>[Abj b b43 K i,MapS b31 m,Row 63 2 (.slice va V.length vc) V.length (V.flatMap Aai),Ce b4 4 [vB false],Ce b5 31 [.map (some b)]]) (fun (i:List Bs)=>K.length-i.length) rfl ([]) ?_ ?_ (fun i=>?_)
   · exact⟨rfl,rfl,rfl,rfl,rfl,rfl,rfl,trivial⟩
   ·
    exact Aa0
   refine Aca (A:=Abj b b43 K i) HasC.get Af0 (fun hlen=>?_);have hil:=List.length_filter_le (fun k=>(AaD (Abq K k)).isSome) i;try dsimp only
   refine Qc (k:=?_);refine AjW rfl rfl (fun o44 ho44=>?_);refine Aa6 (Ak2 rfl) rfl ?_;refine Wq (Za (k:=Zi (t:=fun h45=>?_) (f:=fun h45=>?_)))
   ·
    obtain⟨⟨k,v⟩,rfl⟩:=Option.isSome_iff_exists.1 h45;obtain⟨hm,hk⟩:=ho44;have hk1:k∈K.map (·.1):=List.mem_map_of_mem (f:=fun p:Bs×Value=>p.1) hm;have hl2:i.length<K.length:=by
     have:=Acx (l:=i++[k]) (m:=K.map (·.1)) (by rw[List.nodup_append];exact⟨hlen.2.1,by simp,fun a ha c hc e=>by simp only[List.mem_singleton] at hc;subst hc;subst e;exact hk ha⟩) (fun x hx=>by rcases List.mem_append.1 hx with h | h;exact hlen.2.2 x h;simp only[List.mem_singleton] at h;subst h;exact hk1);rw[List.length_append,List.length_singleton,List.length_map] at this;omega
    dsimp only[nxD];obtain⟨s,e,hsl⟩:=hK.ok _ hm;obtain rfl:v=vS s:=congrArg Prod.snd e;have hgb:Abq K k=s:=by unfold Abq;rw[AdN hK.nd hm];simp[Afn,vS]
    have hRd:=AbI s (by omega);have hlk1:=hlk k;have hfi:((i++[k]).filter fun k=>(AaD (Abq K k)).isSome)=(i.filter fun k=>(AaD (Abq K k)).isSome)++if (AaD s).isSome then [k] else []:=by rw[List.filter_append,List.filter_cons,hgb];simp
    refine Zk (k:=Ya (Zb (k:=Qc (k:=?_))));refine AhY (b:=b) (ks:=K) (done:=i) (k:=k) (v:=vS s) hm rfl rfl ?_;refine Qv (k:=Qv (k:=Wq (Za (k:=Za (k:=?_)))));refine wc_ent' (AwH (b:=b) (i:=b43)) ?_;refine Dw [Ce b5 31 [.map (some b)],MapS b31 m] (k:=?_);refine Di 0 (t:=Ul) (k:=Dv 1 (k:=Di 3 (t:=Ul) (k:=Dv 4 (k:=Dn 2 (k:=?_)))));refine AcL (hBr k) rfl rfl rfl ?_;refine Dn 5 (k:=?_);refine AcL (rBr k) rfl rfl rfl ?_;refine Dv 6 (k:=Dv 7 (k:=Gd 7 (t:=fun h56=>?_) (f:=fun h56=>?_)))
    ·
     exact absurd rfl h56
     --done
    ·
     refine Di 8 (t:=U0 (h:=Ul)) (k:=Di 9 (t:=U0 (h:=Uv)) (k:=Di 11 (t:=U0 (h:=Uv)) (k:=Di 12 (t:=U0 (h:=Uv)) (k:=?_))));refine Aa1 13 rfl rfl rfl (by kernel_rfl) (by kernel_rfl) (Aau (b:=false) rfl (AhS (v:=vB (AkX K k)) Tryz.underlying71 Tryz.underlying9 ti4 rfl rfl rfl hlk1)) ?_;refine Dn 10 (k:=?_);refine AjC (b:=false) rfl ?_;refine AcL (hIs k) rfl rfl rfl ?_;refine Aa1 14 rfl rfl rfl (by kernel_rfl) (by kernel_rfl) (Aau (b:=false) rfl (Aat (Avf Tryz.underlying4 rfl rfl))) ?_;refine DP0 15 (k:=Dd (k:=Ya (Zi (t:=fun h64=>?_) (f:=fun h64=>?_))))
     ·
      simp at h64
      --done
     ·
      refine Zk (k:=Ya (Za (k:=?_)));refine wc_ent' (Avu (b:=b) (i:=b43) (ks:=K) (done:=i++[k])) ?_;refine Zr (k:=Vv (k:=?_));refine Aaq hRd rfl rfl rfl (fun xc hxc=>?_);have hcv:(AaZ xc.1 xc.2).length=7:=rfl;refine Vv (k:=?_);refine Aa6 (Aa7 (v:=.agg (AaZ xc.1 xc.2).toArray) rfl rfl) rfl ?_;refine Aa6 (Aa7 (v:=vB (AaD s).isSome) rfl rfl) rfl ?_;refine Zc [vS [],vS [],.int .i64 0,.slice none 0 0,.slice none 0 0,.slice none 0 0,vS []] (k:=fun b13=>Zp (k:=Vv (k:=Wq (Qc (k:=Vv (k:=Wq (Zi (t:=fun h70=>?_) (f:=fun h70=>?_))))))))
      ·
       refine Zr (k:=Qv (k:=Vv (k:=Wn (Yb ?_))));exact Ap2
      ·
       refine Zk (k:=Yb ?_);exact Ap2
   ·
    have hnone:o44=none:=by cases o44 with
     | none=>rfl
     | some p=>simp at h45
    subst hnone;dsimp only[nxD];refine Aca (A:=Abj b b43 K i) HasC.get (fun x=>Ae7 x ho44) (fun hperm=>?_);rw[hK.count hperm];refine Ze (k:=Xa (Xi (Xb (Ya (Za (k:=?_))))));refine wc_ent' (AcZ (i:=b43)) ?_;refine Zr (k:=Zc [.int .i64 0] (k:=fun b15=>Zc [.int .i64 0] (k:=fun b16=>Zc [vS []] (k:=fun b17=>Zo (k:=Zo (k:=Zo (k:=Wq (Za (k:=Qc (k:=Zd (k:=?_)))))))))));refine Aaq (AfF (some b)) rfl rfl rfl (fun cb _=>?_);refine Wq (Zb (k:=?_));refine Ada (fun pre=>[Ce b15 3 [vI (Abn (pre.map Abi)).length],Ce b16 3 [vI pre.length],Ce b17 9 [vS (Ahk pre)],Row 63 2 (.slice va V.length vc) V.length (V.flatMap Aai),Ce b4 4 [vB false],Ce b5 31 [.map (some b)],MapS b K]) (fun j pre=>[Pu False]) (fun pre=>[Ce b15 3 [vI (Abn (pre.map Abi)).length],Ce b16 3 [vI pre.length],Ce b17 9 [vS (Ahk pre)],Row 63 2 (.slice va V.length vc) V.length (V.flatMap Aai),Ce b4 4 [vB false],Ce b5 31 [.map (some b)]]) rfl (AfG cb b K hK.txt hK.nd (by omega)) rfl (fun _=>by rfl) rfl (fun pre=>?_) (fun pre=>?_) ?_ (fun l pre x hok=>?_) (fun all hfin=>?_) (fun j pre hs=>?_)
    · exact Aa0
    · exact Aa0
    · (refine AdR ?_;rw[show ((Abn (([]:List BrN).map Abi)).length:Int)=0 from rfl,show (([]:List BrN).length:Int)=0 from rfl,show Ahk []=[] from rfl];exact Aa0)
    ·
     have hof:=ArU hok;have hpl:=Aq2 hok;have hne:=AwW hok;have hrise:=AuD hok;have hns:=AsX hK.nd hok;obtain⟨rs,hrs⟩:=Au4 hok;have hmp:(pre++[x]).map Abi=pre.map Abi++[Abi x]:=by rw[List.map_append,List.map_cons,List.map_nil]
     have hlb:=AkC pre x;obtain⟨bb,⟨xa,xc⟩,ns⟩:=x;dsimp only[BrM] at hof hrs hmp hne hrise hns hlb ⊢;have hmp2:Abn ((pre++[(bb,(xa,xc),ns)]).map Abi)=Abn (pre.map Abi)++ns:=by rw[hmp,Ak9,Ao0];rfl
     have hpn:(Abn (pre.map Abi)).length+ns.length≤9:=by
      have h1:=congrArg List.length hrs;rw[List.length_append,List.length_append] at h1;omega
     have hnb:∀n∈ns,brH K n=bb:=fun n hn=>by
      rw[hof] at hn;simpa using (List.mem_filter.1 hn).2
     refine Qc (k:=Vv (k:=Wq (Zr (k:=Vv (k:=Wg (Zb (k:=Za (k:=Qc (k:=Zd (k:=?_))))))))));refine Qv (k:=Gi 2 (t:=fun h79=>?_) (f:=fun h79=>?_))
     ·
      refine J1 (k:=I1 (k:=Zd (k:=J1 (k:=P1 (k:=Vv (k:=Gi 7 (t:=fun h84=>?_) (f:=fun h84=>?_)))))))
      ·
       exfalso;have h1:=hrise (by omega);rw[AuG] at h84;simp only[Bool.or_eq_true,decide_eq_true_eq] at h84;rcases h84 with h2 | h2
       · exact absurd (Std.lt_trans h1 h2) (List.lt_irrefl _)
       · rw[h2] at h1;exact absurd h1 (List.lt_irrefl _)
       --done
      ·
       refine J0 (k:=J0 (k:=J0 (k:=P0 (k:=Wq (Zi (t:=fun h88=>?_) (f:=fun h88=>?_))))))
       ·
        exfalso;omega
        --done
       ·
        refine Zk (k:=Ya (Za (k:=Qc (k:=Qv (k:=Vv (k:=Wq (Zb (k:=?_))))))));refine Aak (fun (i:{ j:Nat // j≤ns.length })=>[(4,.pointer (some ⟨b4,0,none⟩)),(5,.pointer (some ⟨b5,0,none⟩)),(15,.pointer (some ⟨b15,0,none⟩)),(16,.pointer (some ⟨b16,0,none⟩)),(17,.pointer (some ⟨b17,0,none⟩)),(18,vS bb),(19,.slice xa ns.length xc),(89,.slice xa ns.length xc),(90,vI ns.length),(91,vI i.1)]) (fun (i:{ j:Nat // j≤ns.length })=>[SlI xa (ns.map vS),Ce b15 3 [vI (Abn (pre.map Abi)).length],Ce b16 3 [vI pre.length],Ce b17 9 [vS (Ahk pre)],Row 63 2 (.slice va V.length vc) V.length (V.flatMap Aai),Ce b4 4 [vB false],Ce b5 31 [.map (some b)],MapS b K]) (fun (i:{ j:Nat // j≤ns.length })=>ns.length-i.1) rfl (⟨0,Nat.zero_le _⟩) ?_ ?_ (fun i=>?_)
        · exact⟨rfl,rfl,rfl,rfl,rfl,rfl,rfl,rfl,rfl,rfl,trivial⟩
        ·
         exact Aa0
        obtain⟨j,hj⟩:=i;dsimp only;try dsimp only
        refine Qc (k:=Vv (k:=Wq (Za (k:=Zi (t:=fun h92=>?_) (f:=fun h92=>?_)))))
        ·
         refine Zk (k:=Ya (Za (k:=Zb (k:=Za (k:=?_)))));have hjl:j<ns.length:=by omega
         obtain⟨nm,hnm⟩:∃nm,nm=ns[j]:=⟨_,rfl⟩
         have hbn:=hnb nm (by rw[hnm];exact List.getElem_mem hjl);have hup:∀(h0:0<j),ns[j-1]'(by omega)<nm:=fun h0=>by
          rw[hnm];exact List.pairwise_iff_getElem.1 hns (j-1) j (by omega) hjl (by omega)
         refine Zr (k:=Vv (k:=?_));refine AaQ (m:=j) (sz:=1) Tryz.underlying27 ti9 rfl rfl rfl rfl (by omega) (by rw[List.length_map];omega) (Nat.mul_one _) rfl ?_;refine AbS Tryz.underlying9 rfl rfl ((Adg (m:=j) hjl).trans (by rw[←hnm])) rfl ?_;refine Qv (k:=Wq (Qc (k:=Zd (k:=Vv (k:=?_)))));refine Aaa (rBr nm) rfl rfl rfl ?_;rw[hbn];refine Qv (k:=Vv (k:=Gi 5 (t:=fun h101=>?_) (f:=fun h101=>?_)))
         ·
          exact absurd rfl h101
          --done
         ·
          refine J0 (k:=J0 (k:=J0 (k:=Gi 8 (t:=fun h104=>?_) (f:=fun h104=>?_))))
          ·
           refine J1 (k:=J1 (k:=J1 (k:=I1 (k:=?_))));refine AaQ (m:=j-1) (sz:=1) Tryz.underlying27 ti9 rfl rfl rfl (by omega) (by omega) (by rw[List.length_map];omega) (Nat.mul_one _) rfl ?_;refine I1 (k:=?_);refine AbS Tryz.underlying9 rfl rfl (Adg (m:=j-1) (by omega)) rfl ?_;refine J1 (k:=J1 (k:=I0 (k:=P1 (k:=P0 (k:=Wq (Zi (t:=fun h113=>?_) (f:=fun h113=>?_)))))))
           ·
            exfalso;have h1:=hup (by omega);rw[(Ach _ _).2 h1] at h113
            cases h113
            --done
           ·
            refine Zk (k:=Yb (Ya (Zr (k:=Qv (k:=Wn ?_)))));exact AiW
          ·
           refine O0 (k:=O0 (k:=O0 (k:=O0 (k:=O0 (k:=O0 (k:=O0 (k:=I0 (k:=P0 (k:=P0 (k:=Wq (Z0 (k:=?_))))))))))));refine Zk (k:=Yb (Ya (Zr (k:=Qv (k:=Wn ?_)))));exact AiW
        ·
         refine Ze (k:=Xa (Xi (Xb (Ya (Dw [] (k:=?_))))));refine Dv 1 (k:=Dv 2 (k:=Dv 6 (k:=?_)));refine Aah 0 4 (by kernel_rfl) rfl rfl ?_ ?_
         ·
          refine Acs Tryz.underlying3 rfl rfl rfl rfl ?_;refine Dv 3 (k:=?_);refine Aah 4 7 (by kernel_rfl) rfl rfl ?_ ?_
          ·
           refine Acs Tryz.underlying3 rfl rfl rfl rfl ?_;refine Dv 5 (k:=Dn 7 (k:=No (k:=Dn 8 (k:=No (k:=Dn 9 (k:=No (k:=Dd (k:=Yb ?_))))))));refine AaV ?_;rw[hmp2,hlb,List.length_append,List.length_append,List.length_singleton,show ((pre.length+1:Nat):Int)=(pre.length:Int)+1 from by omega,show (((Abn (pre.map Abi)).length+ns.length:Nat):Int)=((Abn (pre.map Abi)).length:Int)+ns.length from by omega];exact Aa0
          ·
           refine No (k:=Dn 4 (k:=?_));refine Acs Tryz.underlying3 rfl rfl rfl rfl ?_;refine Dv 5 (k:=Dn 8 (k:=No (k:=Dn 9 (k:=No (k:=Dd (k:=Yb ?_))))));refine AaV ?_;rw[hmp2,hlb,List.length_append,List.length_append,List.length_singleton,show ((pre.length+1:Nat):Int)=(pre.length:Int)+1 from by omega,show (((Abn (pre.map Abi)).length+ns.length:Nat):Int)=((Abn (pre.map Abi)).length:Int)+ns.length from by omega];exact Aa0
         ·
          refine Acs Tryz.underlying3 rfl rfl rfl rfl ?_;refine Dv 5 (k:=Dn 0 (k:=?_));refine Acs Tryz.underlying3 rfl rfl rfl rfl ?_;refine Dv 3 (k:=Dn 7 (k:=No (k:=Dn 8 (k:=No (k:=Dn 9 (k:=No (k:=Dd (k:=Yb ?_))))))));refine AaV ?_;rw[hmp2,hlb,List.length_append,List.length_append,List.length_singleton,show ((pre.length+1:Nat):Int)=(pre.length:Int)+1 from by omega,show (((Abn (pre.map Abi)).length+ns.length:Nat):Int)=((Abn (pre.map Abi)).length:Int)+ns.length from by omega];exact Aa0
     ·
      refine O0 (k:=O0 (k:=O0 (k:=P0 (k:=Vv (k:=J0 (k:=J0 (k:=J0 (k:=P0 (k:=?_)))))))));refine Wq (Zi (t:=fun h88=>?_) (f:=fun h88=>?_))
      ·
       exfalso;omega
       --done
      ·
       refine Zk (k:=Ya (Za (k:=Qc (k:=Qv (k:=Vv (k:=Wq (Zb (k:=?_))))))));refine Aak (fun (i:{ j:Nat // j≤ns.length })=>[(4,.pointer (some ⟨b4,0,none⟩)),(5,.pointer (some ⟨b5,0,none⟩)),(15,.pointer (some ⟨b15,0,none⟩)),(16,.pointer (some ⟨b16,0,none⟩)),(17,.pointer (some ⟨b17,0,none⟩)),(18,vS bb),(19,.slice xa ns.length xc),(89,.slice xa ns.length xc),(90,vI ns.length),(91,vI i.1)]) (fun (i:{ j:Nat // j≤ns.length })=>[SlI xa (ns.map vS),Ce b15 3 [vI (Abn (pre.map Abi)).length],Ce b16 3 [vI pre.length],Ce b17 9 [vS (Ahk pre)],Row 63 2 (.slice va V.length vc) V.length (V.flatMap Aai),Ce b4 4 [vB false],Ce b5 31 [.map (some b)],MapS b K]) (fun (i:{ j:Nat // j≤ns.length })=>ns.length-i.1) rfl (⟨0,Nat.zero_le _⟩) ?_ ?_ (fun i=>?_)
       · exact⟨rfl,rfl,rfl,rfl,rfl,rfl,rfl,rfl,rfl,rfl,trivial⟩
       ·
        exact Aa0
       obtain⟨j,hj⟩:=i;dsimp only;try dsimp only
       refine Qc (k:=Vv (k:=Wq (Za (k:=Zi (t:=fun h92=>?_) (f:=fun h92=>?_)))))
       ·
        refine Zk (k:=Ya (Za (k:=Zb (k:=Za (k:=?_)))));have hjl:j<ns.length:=by omega
        obtain⟨nm,hnm⟩:∃nm,nm=ns[j]:=⟨_,rfl⟩
        have hbn:=hnb nm (by rw[hnm];exact List.getElem_mem hjl);have hup:∀(h0:0<j),ns[j-1]'(by omega)<nm:=fun h0=>by
         rw[hnm];exact List.pairwise_iff_getElem.1 hns (j-1) j (by omega) hjl (by omega)
        refine Zr (k:=Vv (k:=?_));refine AaQ (m:=j) (sz:=1) Tryz.underlying27 ti9 rfl rfl rfl rfl (by omega) (by rw[List.length_map];omega) (Nat.mul_one _) rfl ?_;refine AbS Tryz.underlying9 rfl rfl ((Adg (m:=j) hjl).trans (by rw[←hnm])) rfl ?_;refine Qv (k:=Wq (Qc (k:=Zd (k:=Vv (k:=?_)))));refine Aaa (rBr nm) rfl rfl rfl ?_;rw[hbn];refine Qv (k:=Vv (k:=Gi 5 (t:=fun h101=>?_) (f:=fun h101=>?_)))
        ·
         exact absurd rfl h101
         --done
        ·
         refine J0 (k:=J0 (k:=J0 (k:=Gi 8 (t:=fun h104=>?_) (f:=fun h104=>?_))))
         ·
          refine J1 (k:=J1 (k:=J1 (k:=I1 (k:=?_))));refine AaQ (m:=j-1) (sz:=1) Tryz.underlying27 ti9 rfl rfl rfl (by omega) (by omega) (by rw[List.length_map];omega) (Nat.mul_one _) rfl ?_;refine I1 (k:=?_);refine AbS Tryz.underlying9 rfl rfl (Adg (m:=j-1) (by omega)) rfl ?_;refine J1 (k:=J1 (k:=I0 (k:=P1 (k:=P0 (k:=Wq (Zi (t:=fun h113=>?_) (f:=fun h113=>?_)))))))
          ·
           exfalso;have h1:=hup (by omega);rw[(Ach _ _).2 h1] at h113
           cases h113
           --done
          ·
           refine Zk (k:=Yb (Ya (Zr (k:=Qv (k:=Wn ?_)))));exact AiW
         ·
          refine O0 (k:=O0 (k:=O0 (k:=O0 (k:=O0 (k:=O0 (k:=O0 (k:=I0 (k:=P0 (k:=P0 (k:=Wq (Z0 (k:=?_))))))))))));refine Zk (k:=Yb (Ya (Zr (k:=Qv (k:=Wn ?_)))));exact AiW
       ·
        refine Ze (k:=Xa (Xi (Xb (Ya (Dw [] (k:=?_))))));refine Dv 1 (k:=Dv 2 (k:=Dv 6 (k:=?_)));refine Aah 0 4 (by kernel_rfl) rfl rfl ?_ ?_
        ·
         refine Acs Tryz.underlying3 rfl rfl rfl rfl ?_;refine Dv 3 (k:=?_);refine Aah 4 7 (by kernel_rfl) rfl rfl ?_ ?_
         ·
          refine Acs Tryz.underlying3 rfl rfl rfl rfl ?_;refine Dv 5 (k:=Dn 7 (k:=No (k:=Dn 8 (k:=No (k:=Dn 9 (k:=No (k:=Dd (k:=Yb ?_))))))));refine AaV ?_;rw[hmp2,hlb,List.length_append,List.length_append,List.length_singleton,show ((pre.length+1:Nat):Int)=(pre.length:Int)+1 from by omega,show (((Abn (pre.map Abi)).length+ns.length:Nat):Int)=((Abn (pre.map Abi)).length:Int)+ns.length from by omega];exact Aa0
         ·
          refine No (k:=Dn 4 (k:=?_));refine Acs Tryz.underlying3 rfl rfl rfl rfl ?_;refine Dv 5 (k:=Dn 8 (k:=No (k:=Dn 9 (k:=No (k:=Dd (k:=Yb ?_))))));refine AaV ?_;rw[hmp2,hlb,List.length_append,List.length_append,List.length_singleton,show ((pre.length+1:Nat):Int)=(pre.length:Int)+1 from by omega,show (((Abn (pre.map Abi)).length+ns.length:Nat):Int)=((Abn (pre.map Abi)).length:Int)+ns.length from by omega];exact Aa0
        ·
         refine Acs Tryz.underlying3 rfl rfl rfl rfl ?_;refine Dv 5 (k:=Dn 0 (k:=?_));refine Acs Tryz.underlying3 rfl rfl rfl rfl ?_;refine Dv 3 (k:=Dn 7 (k:=No (k:=Dn 8 (k:=No (k:=Dn 9 (k:=No (k:=Dd (k:=Yb ?_))))))));refine AaV ?_;rw[hmp2,hlb,List.length_append,List.length_append,List.length_singleton,show ((pre.length+1:Nat):Int)=(pre.length:Int)+1 from by omega,show (((Abn (pre.map Abi)).length+ns.length:Nat):Int)=((Abn (pre.map Abi)).length:Int)+ns.length from by omega];exact Aa0
    ·
     simp only[List.cons_append,List.nil_append];have hfin2:all.map Abi=brL K:=hfin;have hall:all.length=(brL K).length:=by rw[←hfin2,List.length_map]
     rw[hfin2,hall];refine Yb (Ya (Qc (k:=Vv (k:=?_))));refine Aag hW1 rfl rfl rfl ?_;refine Zc [.int .i64 0] (k:=fun b22=>Zo (k:=Wq (Qc (k:=Zc [.int .i64 0] (k:=fun b23=>Zo (k:=Wq ?_))))));refine Abg (fun (i:{ s:Nat // s=min kk (brL K).length })=>[(4,.pointer (some ⟨b4,0,none⟩)),(5,.pointer (some ⟨b5,0,none⟩)),(6,.slice va V.length vc),(10,vI (Abn (brL K)).length),(15,.pointer (some ⟨b15,0,none⟩)),(16,.pointer (some ⟨b16,0,none⟩)),(22,.pointer (some ⟨b22,0,none⟩)),(23,.pointer (some ⟨b23,0,none⟩))]) (fun (i:{ s:Nat // s=min kk (brL K).length })=>[Ce b22 3 [vI kk],Ce b23 3 [vI i.1],Ce b15 3 [vI (Abn (brL K)).length],Ce b16 3 [vI (brL K).length],Row 63 2 (.slice va V.length vc) V.length (V.flatMap Aai),Ce b4 4 [vB false],Ce b5 31 [.map (some b)],MapS b K]) rfl (fun i=>?_) ?_
     ·
      obtain⟨sm,hsm⟩:=i;dsimp only;have hmin:(min (kk:Int) ((brL K).length:Int))=(sm:Int):=by rw[hsm];omega
      try dsimp only
      refine Qc (k:=Zd (k:=Qv (k:=Vv (k:=Gi 3 (t:=fun h136=>?_) (f:=fun h136=>?_)))))
      ·
       refine I1 (k:=Zd (k:=I1 (k:=Zd (k:=I1 (k:=Zd (k:=J1 (k:=J1 (k:=P1 (k:=Vv (k:=?_))))))))));refine Gi 10 (t:=fun h143=>?_) (f:=fun h143=>?_)
       ·
        refine I1 (k:=Zd (k:=I1 (k:=?_)));refine Aaq hLv rfl rfl rfl (fun xl hxl=>?_);obtain⟨⟨ra,rc⟩,lv⟩:=xl;dsimp only at hxl ⊢;obtain rfl:lv=V:=AnQ hcn hVs hVm hxl;refine J1 (k:=I1 (k:=?_));refine Aaa (Akj (As:=[Row 63 2 (.slice ra lv.length rc) lv.length (lv.flatMap Aai),Row 63 2 (.slice va lv.length vc) lv.length (lv.flatMap Aai)]) lv.length lv.length rc vc lv rfl rfl (by omega)) rfl rfl rfl ?_;refine P1 (k:=Vv (k:=Gi 16 (t:=fun h149=>?_) (f:=fun h149=>?_)))
        ·
         refine I1 (k:=Zd (k:=I1 (k:=?_)));refine Aaa (hBr _) rfl rfl rfl ?_;rw[hnob];refine J1 (k:=P1 (k:=Vv (k:=Gi 21 (t:=fun h154=>?_) (f:=fun h154=>?_))))
         ·
          refine I1 (k:=Zd (k:=I1 (k:=?_)));refine Aaa (hIs _) rfl rfl rfl ?_;rw[hnol];refine J1 (k:=P1 (k:=Vv (k:=Gi 26 (t:=fun h159=>?_) (f:=fun h159=>?_))))
          ·
           refine I1 (k:=?_);refine Aaa Ap0 rfl rfl rfl ?_;refine P1 (k:=Zo (k:=Wq (Zt (k:=?_))));exact Aa2 () (vs:=[_]) (Cs:=[Ce b4 4 [vB true]]) rfl (.cell1 (l:=[vB true]) rfl (Aax (T:=4)) Tryz.underlying4 rfl rfl .nil) rfl trivial Aa0
          ·
           simp at h159
           --done
         ·
          exact absurd rfl h154
          --done
        ·
         simp at h149
         --done
       ·
        exact absurd hmin.symm h143
        --done
      ·
       exact absurd rfl h136
       --done
     ·
      refine Qc (k:=Zd (k:=?_));refine Aaq (AfF (some b)) rfl rfl rfl (fun cb2 _=>?_);refine Wq (Zb (k:=?_));refine Ada (fun pre=>[Pu (pre.length<kk),Ce b22 3 [vI kk],Ce b23 3 [vI pre.length],Ce b15 3 [vI (Abn (brL K)).length],Ce b16 3 [vI (brL K).length],Row 63 2 (.slice va V.length vc) V.length (V.flatMap Aai),Ce b4 4 [vB false],Ce b5 31 [.map (some b)],MapS b K]) (fun j pre=>if j=some 8 then [Pu (pre.length=kk),Ce b22 3 [vI kk],Ce b23 3 [vI pre.length],Ce b15 3 [vI (Abn (brL K)).length],Ce b16 3 [vI (brL K).length],Row 63 2 (.slice va V.length vc) V.length (V.flatMap Aai),Ce b4 4 [vB false],Ce b5 31 [.map (some b)],MapS b K] else [Pu False]) (fun pre=>[Pu (pre.length<kk),Ce b22 3 [vI kk],Ce b23 3 [vI pre.length],Ce b15 3 [vI (Abn (brL K)).length],Ce b16 3 [vI (brL K).length],Row 63 2 (.slice va V.length vc) V.length (V.flatMap Aai),Ce b4 4 [vB false],Ce b5 31 [.map (some b)]]) rfl (AfG cb2 b K hK.txt hK.nd (by omega)) rfl (fun _=>by rfl) rfl (fun pre=>?_) (fun pre=>?_) ?_ (fun l pre x hok=>?_) (fun all hfin=>?_) (fun j pre hs=>?_)
      · exact Aa0
      · exact Aa0
      · (refine AdR (Adl (by simp only[List.length_nil];omega) ?_);rw[show (([]:List BrN).length:Int)=0 from rfl];exact Aa0)
      ·
       have hpl2:=Aq2 hok;refine wc_ent' (Af2 (.there .here)) ?_;refine AfR fun hpc=>?_;refine Zk (k:=Yg (Zb (k:=Qc (k:=Zd (k:=Vv (k:=Zo (k:=Wq (Qc (k:=Zd (k:=?_))))))))));refine Zd (k:=Vv (k:=Wq (Zi (t:=fun h132=>?_) (f:=fun h132=>?_))))
       ·
        refine Ze (k:=Xo (k:=?_));refine Aif 8 ?_;rw[if_pos rfl,List.length_append,List.length_singleton,show ((pre.length+1:Nat):Int)=(pre.length:Int)+1 from by omega];exact Adl (by omega) Aa0
       ·
        refine Zk (k:=Yb ?_);refine AaV (Adl ?_ ?_)
        · rw[List.length_append,List.length_singleton];omega
        · rw[List.length_append,List.length_singleton,show ((pre.length+1:Nat):Int)=(pre.length:Int)+1 from by omega];exact Aa0
      ·
       simp only[List.cons_append,List.nil_append];refine Agp (A:=Pu (all.length<kk)) .here (fun x=>x) (fun hpc=>?_);have hall:all.length=(brL K).length:=by rw[←show all.map Abi=brL K from hfin,List.length_map]
       rw[hall] at hpc ⊢;have hpc2:(brL K).length<kk:=hpc;refine Yb ?_;exact An5
      ·
       by_cases hj:j=some 8
       · subst hj
         rw[if_pos rfl];refine AfR fun hpc=>?_;have hpl3:pre.length≤(brL K).length:=by
          obtain⟨_,r,hr⟩:=hs;rw[hr];simp
         simp only[List.append_eq,List.cons_append,List.nil_append];refine Ze (k:=Xb ?_);exact An5
       · rw[if_neg hj]
         exact AfS (fun s=>by obtain⟨_,_,_,_,a,_⟩:=s;exact a)
    ·
     exact AfS (fun s=>by obtain⟨_,_,_,_,a,_⟩:=s;exact a)
end
theorem Aep {A:HP} {As:List HP} {M:Kn} (h1:A.at_ M Res.emp) (h2:SL As M Res.emp):SL (A::As) M Res.emp:=⟨Res.emp,Res.emp,Res.emp_dj _,(Res.emp_add _).symm,h1,h2⟩
theorem AvT {H:Type} {enc:TypeId×Value→H} {w:World} {spare:Nat→Bool} {held:Bool} {fuel:Nat} {cs:List Value} {x:DataW H×List MemPlace}
    (h:DataW.trod enc Tryz.prog w 0 spare held fuel 44 cs=some x):∃(a:Option Addr) (c:Nat) (qs:List KaV),cs=[.slice a qs.length c]∧qs.length≤9223372036854775807∧At w (SlI a (qs.flatMap KaV.cells))∧At w (Aqz qs)∧∀q∈qs,q.Z:=by
 have e16:Tryz.prog.cellsOf 118=16:=by kernel_rfl
 obtain⟨a,c,qs,h1,h2,h3,h4⟩:=ArX KaV.cells (fun q=>q.Z∧SL q.hs (kn w) Res.emp) Tryz.underlying44 (by rw[e16];decide) (fun _ hy=>by
  obtain⟨q,g1,g2,g3,g4,g5,g6,g7,g8,g9,g10⟩:=Arc hy;exact⟨q,g1,g2,Aep g3 (Aep g4 (Aep g5 (Aep g6 (Aep g7 (Aep g8 (Aep g9 (Aep g10 trivial)))))))⟩) h
 exact⟨a,c,qs,h1,h2,h3,fun q hq=>(h4 q hq).2,fun q hq=>(h4 q hq).1⟩
end Go.Proofs.YtdnoacgopfcpbaaGreat
