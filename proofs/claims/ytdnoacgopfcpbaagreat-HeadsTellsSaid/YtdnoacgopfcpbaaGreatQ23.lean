/- Texts of this proof, put together: RangeB, RangeX, SLinks, PTags. -/
import Derived.Test.YtdnoacgopfcpbaaGreatQ22
set_option linter.unusedVariables false
set_option linter.unusedSimpArgs false
namespace Go.Proofs.YtdnoacgopfcpbaaGreat
section
def Aw5 (P:Program) {α:Type} (g:Nat) (lb:List Value) (enc:α→List Value) (ok:List α→α→Prop) (stopped:List α→Prop) (R:HP) (As Bs:List HP) (all:List α) (val:Option (List α)→Value):Prop :=
 ∀(y:Value) (J J0 Jx:List α→HP),AkL P y enc ok J Jx→(∀pre,Ent [J pre] [R,J0 pre])→(∀pre,Ent [R,J0 pre] [J pre]) →
  Sp P g (y::lb) (J []::As) (X:=Option (List α)) val (fun x=>∀pre,x=some pre→stopped pre) (fun x=>Acz J Jx all x::Bs)
theorem Af3 {R J J0:HP} {Hs Rs:List HP} (h:Ent [R,J0] [J]) (e:Ent Hs (R::J0::Rs)):Ent Hs (J::Rs):=e.trans (h.frame Rs)
theorem Aga {R J J0:HP} {Hs Rs Gs:List HP} [hp:AeJ J Hs Rs] (h:Ent [J] [R,J0]) (e:Ent (R::J0::Rs) Gs):Ent Hs Gs :=
 ((AaA (Ent.refl _)).trans (h.frame Rs)).trans e
theorem ent_al_last {R:HP} {Xs:List HP}:Ent [R,Al Xs] (R::Xs):=⟨fun ⟨h1,h2,d,e,a,t⟩=>⟨h1,h2,d,e,a,by have:=Aty t;rwa [List.append_nil] at this⟩⟩
theorem ent_al_one {Xs:List HP}:Ent [Al Xs] Xs:=⟨fun t=>by have:=Aty t;rwa [List.append_nil] at this⟩
theorem AgG {Xs:List HP}:Ent Xs [Al Xs]:=⟨fun {M h} s=>⟨h,Res.emp,Res.dj_emp _,(Res.add_emp _).symm,s,trivial⟩⟩
section
variable {r:Option Nat} {P:Program} {n:Nat} {ops:Array Oper} {os:List Oper} {A:List HP} {L:Loc} {Hs:List HP} {Q:Out} {ty:TypeId} {d:Nat} {pos:String} {after:Array Edge} {c:Code}
theorem Amy {α:Type} {f:Operand} {ps:Array Tmp} {assign body:Code} {g:Nat} {lb:List Value} {enc:α→List Value} {ok:List α→α→Prop} {stopped:List α→Prop} {As Bs:List HP} {fin:List α→Prop} {val:Option (List α)→Value}
    (I:List α→List HP) (Ix:Option Nat→List α→List HP)
    (hf:ev L f=some (.func (.func g) #[] lb.toArray))
    (en:∀l:Nat,∃(X:Type) (As':List HP) (v:X→Value) (o:X→Prop) (Bs':X→List HP),Sp P g (.func (.yield l) #[] #[]::lb) As' v o Bs')
    (it:∀(b:Nat) (o:Obj) (y:Value) (Jx:List α→HP),AkL P y enc ok (fun pre=>Al (Blk b o::I pre)) Jx→Sp P g (y::lb) (Al (Blk b o::I [])::As) (X:=Option (List α)×List α) (fun x=>val x.1) (fun x=>(∀pre,x.1=some pre→stopped pre)∧(x.1=none→fin x.2)) (fun x=>Acz (fun pre=>Al (Blk b o::I pre)) Jx x.2 x.1::Bs))
    (hps:∀x,(enc x).length=ps.size) (hpn:ps.toList.all (fun p=>Nat.blt p n)=true)
    (ha:Ent Hs (I []++As))
    (round:∀(l:Nat) (pre:List α) (x:α),ok pre x→wc (some l) P n assign (Afo ps.toList (enc x) L) (I pre) (Amo (some l) P body (Ae5 I Ix (pre++[x]))))
    (done:∀all,fin all→tw n Q .normal L (I all++Bs))
    (stop:∀(j:Option Nat) (pre:List α),stopped pre→wc none P n (jc j) L (Ix j pre++Bs) Q) :
    wc none P n (.rangeFunc f ps assign body) L Hs Q:=by
 intro a M h st w hfr dj t;obtain⟨fr,g1,g2,dg,e,sd,s2⟩:=st;subst e;obtain⟨kI,kA,dIA,e,sI,sA⟩:=SL.split (ha s2);subst e;refine wpIn_rangeFunc ?_;intro fn hfn;obtain⟨rec,hrec⟩:∃rec:LoopState→Option Code→Loop,rec=fun st pe=>{ state:=st,pending:=pe,fn,tmps:=a.tmps,params:=ps,assign,body,defers:=w.heap.size }:=⟨_,rfl⟩
 obtain⟨W1,hW1⟩:∃W1,(w.alloc (.deferred (some []))).alloc (.loop (rec .ready none))=W1:=⟨_,rfl⟩
 have hsz:(w.alloc (.deferred (some []))).heap.size=w.heap.size+1:=by simp
 have tD:=t.alloc (.deferred (some []));have tL:=tD.alloc (.loop (rec .ready none));obtain⟨_,f1⟩:=Abd t;obtain⟨_,f2⟩:=Abd tD;rw[hsz] at tL f2;rw[hW1] at tL;refine⟨w.heap.size+1,[{ target:=.collected w.heap.size,args:=#[] }],W1,{ target:=.fn (.func g) lb.toArray,args:=#[.func (.yield (w.heap.size+1)) #[] #[]] },W1,g,
  #[.func (.yield (w.heap.size+1)) #[] #[]]++lb.toArray,W1,?_,?_,fun _ _=>trivial,?_,(fun e=>by cases e),?_⟩
 · rw[←hW1,hrec];exact run_enterLoop_outer _ _ _ _ _
 · simp only[resolve,rangeCall]
   rw[fr.ev hf];simp[go_sem]
 · obtain⟨X',A',v',o',B',hen⟩:=en (w.heap.size+1)
   have:=hen.enters;simp[invoke,go_sem];exact this _ _
 ·
  have ys : AkL P (.func (.yield (w.heap.size+1)) #[] #[]) enc ok (fun pre=>Al (Blk (w.heap.size+1) (.loop (rec .ready none))::I pre))
      (fun pre=>Ex fun j:Option Nat=>Al (Blk (w.heap.size+1) (.loop (rec .done (some (jc j))))::Ix j pre)):=by
   refine⟨_,rfl,fun pre x hok w' M' h' hf' dj' t' hj=>?_⟩;obtain⟨p1,p2,dp,e,hp1,sp2⟩:=hj;have hp1':p1=Res.one _ _:=hp1;subst hp1';subst e;have hl:w'.heap[w.heap.size+1]?=some (.loop (rec .ready none)):=t'.ow _ _ (by simp[Res.add,Res.one]);have hy:=run_yield (P:=P) (args:=(enc x).toArray) hl (by rw[hrec];simpa using hps x);refine⟨_,_,_,_,hy,roundIn_of_wpIn (F:=WF none) trivial ?_⟩;have e1:(rec .ready none).assign=assign:=by rw[hrec]
   have e2:(rec .ready none).body=body:=by rw[hrec]
   have e3:(rec .ready none).tmps=a.tmps:=by rw[hrec]
   have e4:(rec .ready none).params=ps:=by rw[hrec]
   rw[e1,e2,e3,e4];obtain⟨dj1,dj2⟩:=Res.dj_add_left.1 dj';have hfold:(ps.zip (enc x).toArray).foldl (fun t (p,v)=>t.setIfInBounds p v) a.tmps=(ps.toList.zip (enc x)).foldl (fun t (p,v)=>t.setIfInBounds p v) a.tmps:=by
    rw[←Array.foldl_toList];simp
   rw[hfold];have hfr:Fr n (Afo ps.toList (enc x) L) { tmps:=(ps.toList.zip (enc x)).foldl (fun t (p,v)=>t.setIfInBounds p v) a.tmps,defers:=[] } :=
    AoU ps.toList (enc x) (fun p hp=>by have:=List.all_eq_true.1 hpn p hp;simpa using this) fr
   have d2:p2.dj ((Res.one (w.heap.size+1) (.loop (rec .ready none))).add hf'):=Res.dj_add_right.2 ⟨Res.dj_comm dp,dj2⟩;have t2:Sat w' M' (p2.add ((Res.one (w.heap.size+1) (.loop (rec .ready none))).add hf')):=by
    rw[←Res.add_assoc,←Res.add_comm dp];exact t'
   have hw:=round (w.heap.size+1) pre x hok _ M' p2 ⟨hfr,Res.emp,p2,Res.emp_dj _,rfl,trivial,sp2⟩ w' _ d2 t2;refine wpIn_mono (F:=WF (some (w.heap.size+1))) hw ?_;rintro ex a1 w1 ⟨M1,h1,le1,dj3,t3,q1⟩
   cases ex with
   | normal =>
     have q1':Amw (some (w.heap.size+1)) P body (Ae5 I Ix (pre++[x])) a1 M1 h1:=q1;obtain⟨y1,y2⟩:=Res.dj_add_right.1 dj3;have hb:w1.heap[w.heap.size+1]?=some (.loop (rec .ready none)):=t3.ow _ _ (Res.le_add_right dj3 _ _ (by simp[Res.add,Res.one]));refine⟨_,run_beginRound hb (by rw[hrec]),?_⟩;have dA:(Res.one (w.heap.size+1) (.loop (rec .ready none))).dj (h1.add hf'):=Res.dj_add_right.2 ⟨Res.dj_comm y1,dj1⟩;have hcomm:∀o:Obj,h1.dj (Res.one (w.heap.size+1) o)→h1.add ((Res.one (w.heap.size+1) o).add hf')=(Res.one (w.heap.size+1) o).add (h1.add hf'):=fun o dd=>by
      rw[←Res.add_assoc,Res.add_comm dd,Res.add_assoc]
     rw[hcomm _ y1] at t3;have t4:=Sat.putObj (o':=.loop { rec .ready none with state:=.busy }) dA t3;have dB:(Res.one (w.heap.size+1) (.loop { rec .ready none with state:=.busy })).dj (h1.add hf'):=AaE dA;have dB1:=(Res.dj_add_right.1 dB).1;rw[←hcomm _ (Res.dj_comm dB1)] at t4;refine wpIn_mono (F:=WF (some (w.heap.size+1))) (q1' _ _ (Res.dj_add_right.2 ⟨Res.dj_comm dB1,y2⟩) t4) ?_;have fin:∀(jump:Option Code) (M2:Kn) (h2:Res) (w2:World),M1.le M2→h2.dj ((Res.one (w.heap.size+1) (.loop { rec .ready none with state:=.busy })).add hf')→Sat w2 M2 (h2.add ((Res.one (w.heap.size+1) (.loop { rec .ready none with state:=.busy })).add hf')) →
         ∃w3,(Instr.endRound (w.heap.size+1) jump).run P w2=.ok (.bool jump.isNone) w3∧(Res.one (w.heap.size+1) (.loop (rec (if jump.isNone then .ready else .done) jump))).dj h2 ∧
          ((Res.one (w.heap.size+1) (.loop (rec (if jump.isNone then .ready else .done) jump))).add h2).dj hf'∧Sat w3 M2 (((Res.one (w.heap.size+1) (.loop (rec (if jump.isNone then .ready else .done) jump))).add h2).add hf'):=by
      intro jump M2 h2 w2 le2 dj5 t5;have hb2:w2.heap[w.heap.size+1]?=some (.loop { rec .ready none with state:=.busy }):=t5.ow _ _ (Res.le_add_right dj5 _ _ (by simp[Res.add,Res.one]));have hr:=run_endRound (P:=P) jump hb2;obtain⟨z1,z2⟩:=Res.dj_add_right.1 dj5;have eqq:h2.add ((Res.one (w.heap.size+1) (.loop { rec .ready none with state:=.busy })).add hf')=(Res.one (w.heap.size+1) (.loop { rec .ready none with state:=.busy })).add (h2.add hf'):=by
       rw[←Res.add_assoc,Res.add_comm z1,Res.add_assoc]
      rw[eqq] at t5;have dC:(Res.one (w.heap.size+1) (.loop { rec .ready none with state:=.busy })).dj (h2.add hf'):=Res.dj_add_right.2 ⟨Res.dj_comm z1,AaE dj1⟩;have t6:=Sat.putObj (o':=.loop (rec (if jump.isNone then .ready else .done) jump)) dC t5;have dD:(Res.one (w.heap.size+1) (.loop (rec (if jump.isNone then .ready else .done) jump))).dj (h2.add hf'):=AaE dC;obtain⟨v1,v2⟩:=Res.dj_add_right.1 dD;refine⟨_,?_,v1,Res.dj_add_left.2 ⟨v2,z2⟩,by rw[Res.add_assoc];exact t6⟩;rw[hr,hrec]
     rintro e2 a2 w2 ⟨M2,h2,le2,dj5,t5,q2⟩
     cases e2 with
     | normal =>
       obtain⟨w3,r1,r2,r3,r4⟩:=fin none M2 h2 w2 le2 dj5 t5;exact⟨_,w3,r1,true,M2,_,rfl,Kn.le_trans le1 le2,r3,r4,_,_,r2,rfl,rfl,q2⟩
     | ret =>
       obtain⟨w3,r1,r2,r3,r4⟩:=fin (some .ret) M2 h2 w2 le2 dj5 t5;exact⟨_,w3,r1,false,M2,_,rfl,Kn.le_trans le1 le2,r3,r4,none,_,_,r2,rfl,rfl,q2⟩
     | exit id =>
       obtain⟨w3,r1,r2,r3,r4⟩:=fin (some (.exit id)) M2 h2 w2 le2 dj5 t5;exact⟨_,w3,r1,false,M2,_,rfl,Kn.le_trans le1 le2,r3,r4,some id,_,_,r2,rfl,rfl,q2⟩
     | goto _=>exact q2.elim
     | panic _=>exact q2.elim
     | outgrown=>exact q2.elim
   | ret=>exact q1.elim
   | exit _=>exact q1.elim
   | goto _=>exact q1.elim
   | panic _=>exact q1.elim
   | outgrown=>exact q1.elim
  have sp:=it _ _ _ _ ys
  -- resources
  obtain⟨dg1,dg2⟩:=Res.dj_add_right.1 dg;obtain⟨q1,q2⟩:=Res.dj_add_left.1 dj;obtain⟨q3,q4⟩:=Res.dj_add_left.1 q2
  let D:Res:=Res.one w.heap.size (.deferred (some []))
  let Lp:Res:=Res.one (w.heap.size+1) (.loop (rec .ready none))
  have dLp:Lp.dj (D.add ((g1.add (kI.add kA)).add hfr)):=AbJ f2;have dD:D.dj ((g1.add (kI.add kA)).add hfr):=AbJ f1;obtain⟨a1,a2⟩:=Res.dj_add_right.1 dLp;obtain⟨a3,a4⟩:=Res.dj_add_right.1 a2;obtain⟨a5,a6⟩:=Res.dj_add_right.1 a3;obtain⟨a7,a8⟩:=Res.dj_add_right.1 a6;obtain⟨b3,b4⟩:=Res.dj_add_right.1 dD;obtain⟨b5,b6⟩:=Res.dj_add_right.1 b3;obtain⟨b7,b8⟩:=Res.dj_add_right.1 b6;have eqr:Lp.add (D.add ((g1.add (kI.add kA)).add hfr))=((Lp.add kI).add kA).add ((D.add g1).add hfr):=by
   funext i
   simp only[Res.add];have c1:=b7 i;have c2:=b8 i;have c3:=b5 i;have c4:=dg1 i;have c5:=dg2 i
   revert c1 c2 c3 c4 c5
   cases Lp i<;>cases D i<;>cases g1 i<;>cases kI i<;>cases kA i<;>simp
  have tL':Sat W1 M (((Lp.add kI).add kA).add ((D.add g1).add hfr)):=by rw[←eqr];exact tL
  have djr:((Lp.add kI).add kA).dj ((D.add g1).add hfr):=by
   refine Res.dj_add_left.2 ⟨Res.dj_add_left.2 ⟨?_,?_⟩,?_⟩
   · exact Res.dj_add_right.2 ⟨Res.dj_add_right.2 ⟨a1,a5⟩,a4⟩
   · exact Res.dj_add_right.2 ⟨Res.dj_add_right.2 ⟨Res.dj_comm b7,Res.dj_comm dg1⟩,q3⟩
   · exact Res.dj_add_right.2 ⟨Res.dj_add_right.2 ⟨Res.dj_comm b8,Res.dj_comm dg2⟩,q4⟩
  have cc:=sp.calls W1 M ((Lp.add kI).add kA) ((D.add g1).add hfr) djr tL' ⟨Lp.add kI,kA,Res.dj_add_left.2 ⟨a8,dIA⟩,rfl,⟨Lp,kI,a7,rfl,rfl,sI⟩,sA⟩;have hargs:(Value.func (.yield (w.heap.size+1)) #[] #[]::lb).toArray=#[.func (.yield (w.heap.size+1)) #[] #[]]++lb.toArray:=by simp
  rw[hargs] at cc;refine CallsIn.mono (F:=WF none) cc ?_;rintro ee w3 ⟨x,M3,h3,rfl,hx,le3,dj3,t3,s3⟩;have stN:∀(o:Obj) (Gs:List HP) (m:Res),(Res.one (w.heap.size+1) o).dj m→((Res.one (w.heap.size+1) o).add m).dj ((D.add g1).add hfr)→Sat w3 M3 (((Res.one (w.heap.size+1) o).add m).add ((D.add g1).add hfr))→SL Gs M3 m→∀o':Obj,
      St n L Gs { a with defers:=[{ target:=.collected w.heap.size,args:=#[] }]++a.defers } M3 ((D.add g1).add m)∧((D.add g1).add m).dj hfr∧Sat (w3.putObj (w.heap.size+1) o') M3 (((D.add g1).add m).add hfr):=by
   intro o Gs m dom djm tm sm o';obtain⟨u1,u2⟩:=Res.dj_add_left.1 djm;obtain⟨u3,u4⟩:=Res.dj_add_right.1 u2;obtain⟨u5,u6⟩:=Res.dj_add_right.1 u3;obtain⟨u7,u8⟩:=Res.dj_add_right.1 u1;refine⟨⟨fr,D.add g1,m,Res.dj_comm u3,rfl,?_,sm⟩,Res.dj_add_left.2 ⟨Res.dj_add_left.2 ⟨b4,q1⟩,u4⟩,?_⟩
   · refine⟨D,g1,b5,rfl,⟨w.heap.size,Res.emp,D,Res.emp_dj _,rfl,rfl,D,Res.emp,Res.dj_emp _,(Res.add_emp _).symm,rfl,trivial⟩,SL.mono le3 sd⟩
   · rw[Res.add_assoc] at tm
     have dX:(Res.one (w.heap.size+1) o).dj (m.add ((D.add g1).add hfr)):=Res.dj_add_right.2 ⟨dom,u1⟩;have t7:=Sat.putObj (o':=o') dX tm;have eq7:m.add ((D.add g1).add hfr)=((D.add g1).add m).add hfr:=by rw[←Res.add_assoc,Res.add_comm u3]
     rw[eq7] at t7;exact t7.le (Res.le_add_right (by rw[←eq7];exact AaE dX))
  obtain⟨x,all⟩:=x;obtain⟨hx,hfin⟩:=hx;dsimp only at hx hfin s3 ⊢;obtain⟨m1,m2,dm,e,sm1,sm2⟩:=s3;subst e
  cases x with
  | none =>
    obtain⟨o1,o2,do12,e,ho1,so2⟩:=sm1;have ho1':o1=Res.one _ _:=ho1;subst ho1';subst e;have hb:w3.heap[w.heap.size+1]?=some (.loop (rec .ready none)):=t3.ow _ _ (by simp[Res.add,Res.one]);refine⟨none,_,by have:=run_endLoop (P:=P) hb (by rw[hrec];simp);rw[hrec] at this;exact this,?_⟩;obtain⟨v1,v2⟩:=Res.dj_add_left.1 dm;rw[Res.add_assoc (Res.one _ _) o2 m2] at t3 dj3;obtain⟨w1,w2,w4⟩:=stN _ (I all++Bs) (o2.add m2) (Res.dj_add_right.2 ⟨do12,v1⟩) dj3 t3 (SL.append v2 so2 sm2) (.loop { rec .ready none with state:=.exhausted });have:=done all (hfin rfl) _ M3 _ w1;rw[hrec] at w4;exact⟨M3,_,le3,w2,w4,this⟩
  | some pre =>
    obtain⟨j,o1,o2,do12,e,ho1,so2⟩:=sm1;have ho1':o1=Res.one _ _:=ho1;subst ho1';subst e;have hb:w3.heap[w.heap.size+1]?=some (.loop (rec .done (some (jc j)))):=t3.ow _ _ (by simp[Res.add,Res.one]);refine⟨some (jc j),_,by have:=run_endLoop (P:=P) hb (by rw[hrec];simp);rw[hrec] at this;exact this,?_⟩;obtain⟨v1,v2⟩:=Res.dj_add_left.1 dm;rw[Res.add_assoc (Res.one _ _) o2 m2] at t3 dj3;obtain⟨w1,w2,w4⟩:=stN _ (Ix j pre++Bs) (o2.add m2) (Res.dj_add_right.2 ⟨do12,v1⟩) dj3 t3 (SL.append v2 so2 sm2) (.loop { rec .done (some (jc j)) with state:=.exhausted });rw[hrec] at w4;exact wpIn_mono (stop j pre (hx pre rfl) _ M3 _ w1 _ _ w2 w4) (fun _ _ _ q=>Ai1 le3 q)
theorem AoH {α:Type} {g:Nat} {lb:List Value} {enc:α→List Value} {ok:List α→α→Prop} {stopped:List α→Prop} {R:HP} {As Bs:List HP} {all:List α} {val:Option (List α)→Value}
    (I:List α→List HP) (Ix:Option Nat→List α→List HP) (I0:List α→List HP) (hc:c=.rangeFunc (rF c) (rP c) (rA c) (rB c))
    (it:Aw5 P g lb enc ok stopped R As Bs all val)
    (hf:ev L (rF c)=some (.func (.func g) #[] lb.toArray))
    (hps:∀x,(enc x).length=(rP c).size) (hpn:(rP c).toList.all (fun p=>Nat.blt p n)=true)
    (h1:∀pre,Ent (I pre) (R::I0 pre)) (h2:∀pre,Ent (R::I0 pre) (I pre))
    (ha:Ent Hs (I []++As))
    (round:∀(l:Nat) (pre:List α) (x:α),ok pre x→wc (some l) P n (rA c) (Afo (rP c).toList (enc x) L) (I pre) (Amo (some l) P (rB c) (Ae5 I Ix (pre++[x]))))
    (done:tw n Q .normal L (I all++Bs))
    (stop:∀(j:Option Nat) (pre:List α),stopped pre→wc none P n (jc j) L (Ix j pre++Bs) Q):wc none P n c L Hs Q:=by
 rw[hc];refine Amy (fin:=fun l=>l=all) I Ix hf (fun l=>⟨_,_,_,_,_,it (.func (.yield l) #[] #[]) (fun _=>⟨fun _ _=>False,fun _ e=>e⟩) (fun _=>⟨fun _ _=>False,fun _ e=>e⟩) (fun _=>⟨fun _ _=>False,fun _ e=>e⟩) ⟨_,rfl,fun _ _ _ _ _ _ _ _ _ e=>e.elim⟩ (fun _=>⟨fun ⟨_,_,_,_,e,_⟩=>e.elim⟩) (fun _=>⟨fun ⟨_,_,_,_,_,_,_,_,_,e,_⟩=>e.elim⟩)⟩) (fun b o y Jx ys=>(it y _ (fun pre=>Al (Blk b o::I0 pre)) Jx ys (fun pre=>?_) (fun pre=>?_)).mono (Ent.refl _) fun x hx=>⟨(x,all),rfl,⟨hx,fun _=>rfl⟩,Ent.refl _⟩) hps hpn ha round (fun l e=>by subst e;exact done) stop
 · exact ent_al_one.trans ((AaA (A:=Blk b o) (h1 pre)).trans ((AaA (A:=R) (Ent.refl _)).trans (AaA AgG)))
 · exact ent_al_last.trans (((AaA (A:=Blk b o) (Ent.refl _)).trans (AaA (h2 pre))).trans AgG)
end
end
section
def Ams (P:Program) {α:Type} (y:Value) (enc:α→List Value) (ok:List α→α→Prop) (E:α→HP) (J Jx:List α→HP):Prop :=
 ∃ l,y=.func (.yield l) #[] #[]∧∀(pre:List α) (x:α),ok pre x→∀(w:World) (M:Kn) (h hf:Res),h.dj hf→Sat w M (h.add hf)→(J pre).at_ M h→(E x).at_ M Res.emp →
  ∃fn tmps assign body,(Instr.yield l (enc x).toArray).run P w=.ok (.round l fn tmps assign body) w ∧
   RoundIn (WF none) 0 P l fn tmps assign body w (fun e w'=>∃(b:Bool) (M':Kn) (h':Res),e=.returned (.bool b)∧M.le M'∧h'.dj hf∧Sat w' M' (h'.add hf)∧(if b then J (pre++[x]) else Jx (pre++[x])).at_ M' h')
def AqA (P:Program) {α:Type} (g:Nat) (lb:List Value) (enc:α→List Value) (ok:List α→α→Prop) (stopped:List α→Prop) (E:α→HP) (R:HP) (As Bs:List HP) (fin:List α→Prop) (val:Option (List α)→Value):Prop :=
 ∀(y:Value) (J J0 Jx:List α→HP),Ams P y enc ok E J Jx→(∀pre,Ent [J pre] [R,J0 pre])→(∀pre,Ent [R,J0 pre] [J pre]) →
  Sp P g (y::lb) (J []::As) (X:=Option (List α)×List α) (fun x=>val x.1) (fun x=>(∀pre,x.1=some pre→stopped pre)∧(x.1=none→fin x.2)) (fun x=>Acz J Jx x.2 x.1::Bs)
section
variable {r:Option Nat} {P:Program} {n:Nat} {ops:Array Oper} {os:List Oper} {A:List HP} {L:Loc} {Hs:List HP} {Q:Out} {ty:TypeId} {d:Nat} {pos:String} {after:Array Edge} {c:Code}
theorem Ar2 {α:Type} {y:Value} {enc:α→List Value} {ok:List α→α→Prop} {J Jx:List α→HP} {E:α→HP} (ys:Ams P y enc ok E J Jx) (pre:List α) (x:α) (hok:ok pre x) (hE:AhI (E x)) {dst:Option Tmp} {f:Operand} {args:Array Operand} {ts:Array TypeId} (hf:ev L f=some y) (ha:evs L args.toList=some (enc x)) :
    OpT r P n ⟨dst,.call ⟨.value f,args,ts⟩,ty,pos,after,none⟩ A L [E x,J pre] (fun b:Bool=>.bool b) (fun _=>True) (fun b=>[if b then J (pre++[x]) else Jx (pre++[x])]):=by
 intro a fr w M h hA hfr dj dj' s sA t;obtain⟨l,rfl,hy⟩:=ys;obtain⟨g1,g2,dg,eg,he0,s⟩:=s;have he:=hE he0;replace s:SL [J pre] M h:=by
  rw[eg];exact SL.more dg s
 obtain⟨k1,k2,dk,e,hj,_⟩:=s;subst e;obtain⟨x1,x2⟩:=Res.dj_add_left.1 dj';obtain⟨x3,x4⟩:=Res.dj_add_left.1 x1;obtain⟨y1,y2⟩:=Res.dj_add_left.1 dj;have t2:Sat w M (k1.add ((k2.add hA).add hfr)):=by
  have:((k1.add k2).add hA).add hfr=k1.add ((k2.add hA).add hfr):=by simp only[Res.add_assoc]
  rw[←this];exact t
 obtain⟨fn,tmps,assign,body,h1,h2⟩:=hy pre x hok w M k1 ((k2.add hA).add hfr) (Res.dj_add_right.2 ⟨Res.dj_add_right.2 ⟨dk,y1⟩,x3⟩) t2 hj he;have hargs:args.map a.eval=(enc x).toArray:=by
  have:=fr.evs _ ha;apply Array.ext';simp[this]
 have hrun:(execOp a.eval ⟨dst,.call ⟨.value f,args,ts⟩,ty,pos,after,none⟩).run P w=.ok (.round l fn tmps assign body) w:=by
  simp only[execOp,resolve,fr.ev hf,Deferred.ofValue,hargs,Sem.run_bind,Sem.run_pure,Result.andThen_ok,invoke];simp[go_sem,h1]
 rw[hrun];refine RoundIn.mono (F:=WF none) h2 ?_;rintro e w' ⟨b,M',h',rfl,le,dj3,t3,hb⟩;obtain⟨z1,z2⟩:=Res.dj_add_right.1 dj3;obtain⟨z3,z4⟩:=Res.dj_add_right.1 z1;refine⟨_,rfl,b,M',h',rfl,trivial,le,z4,Res.dj_add_left.2 ⟨z2,x2⟩,?_,h',Res.emp,Res.dj_emp _,(Res.add_emp _).symm,hb,trivial⟩;refine t3.le ?_;intro i o e;have e1:((h'.add hA).add hfr) i=some o:=e;simp only[Res.add] at e1 ⊢
 cases c1:h' i with
 | some u=>rw[c1] at e1;simpa using e1
 | none =>
   rw[c1] at e1
   cases c2:hA i with
   | some u =>
     rw[c2] at e1;have:=y2 i;rw[c2] at this;simp at this;simp[this];simpa using e1
   | none =>
     rw[c2] at e1;have:=x4 i;simp at e1;rw[e1] at this;simp at this;simp[this,e1]
theorem ApF {α:Type} {y:Value} {enc:α→List Value} {ok:List α→α→Prop} {J Jx:List α→HP} {E:α→HP} (ys:Ams P y enc ok E J Jx) (pre:List α) (x:α) (hok:ok pre x) (hE:AhI (E x)) {f:Operand} {args:Array Operand} {ts:Array TypeId} (hf:ev L f=some y) (ha:evs L args.toList=some (enc x)) (hd:Nat.blt d n=true)
    {Rs:List HP} [hp:Ab4 [E x,J pre] Hs Rs] (kt:wo r P n ops os ((d,.bool true)::L) (J (pre++[x])::Rs) Q) (kf:wo r P n ops os ((d,.bool false)::L) (Jx (pre++[x])::Rs) Q) :
    wo r P n ops (⟨some d,.call ⟨.value f,args,ts⟩,ty,pos,after,none⟩::os) L Hs Q:=by
 refine AcW (by intro c;simp) (Ar2 ys pre x hok hE hf ha) (by simpa [Ad2] using hd) (fun b _=>?_)
 cases b
 · exact kf
 · exact kt
theorem Amz {α:Type} {f:Operand} {ps:Array Tmp} {assign body:Code} {g:Nat} {lb:List Value} {enc:α→List Value} {ok:List α→α→Prop} {stopped:List α→Prop} {As Bs:List HP} {fin:List α→Prop} {val:Option (List α)→Value}
    (I:List α→List HP) (Ix:Option Nat→List α→List HP)
    (hf:ev L f=some (.func (.func g) #[] lb.toArray))
    (en:∀l:Nat,∃(X:Type) (As':List HP) (v:X→Value) (o:X→Prop) (Bs':X→List HP),Sp P g (.func (.yield l) #[] #[]::lb) As' v o Bs')
    {E:α→HP} (it:∀(b:Nat) (o:Obj) (y:Value) (Jx:List α→HP),Ams P y enc ok E (fun pre=>Al (Blk b o::I pre)) Jx→Sp P g (y::lb) (Al (Blk b o::I [])::As) (X:=Option (List α)×List α) (fun x=>val x.1) (fun x=>(∀pre,x.1=some pre→stopped pre)∧(x.1=none→fin x.2)) (fun x=>Acz (fun pre=>Al (Blk b o::I pre)) Jx x.2 x.1::Bs))
    (hps:∀x,(enc x).length=ps.size) (hpn:ps.toList.all (fun p=>Nat.blt p n)=true)
    (ha:Ent Hs (I []++As))
    (round:∀(l:Nat) (pre:List α) (x:α),ok pre x→wc (some l) P n assign (Afo ps.toList (enc x) L) (E x::I pre) (Amo (some l) P body (Ae5 I Ix (pre++[x]))))
    (done:∀all,fin all→tw n Q .normal L (I all++Bs))
    (stop:∀(j:Option Nat) (pre:List α),stopped pre→wc none P n (jc j) L (Ix j pre++Bs) Q) :
    wc none P n (.rangeFunc f ps assign body) L Hs Q:=by
 intro a M h st w hfr dj t;obtain⟨fr,g1,g2,dg,e,sd,s2⟩:=st;subst e;obtain⟨kI,kA,dIA,e,sI,sA⟩:=SL.split (ha s2);subst e;refine wpIn_rangeFunc ?_;intro fn hfn;obtain⟨rec,hrec⟩:∃rec:LoopState→Option Code→Loop,rec=fun st pe=>{ state:=st,pending:=pe,fn,tmps:=a.tmps,params:=ps,assign,body,defers:=w.heap.size }:=⟨_,rfl⟩
 obtain⟨W1,hW1⟩:∃W1,(w.alloc (.deferred (some []))).alloc (.loop (rec .ready none))=W1:=⟨_,rfl⟩
 have hsz:(w.alloc (.deferred (some []))).heap.size=w.heap.size+1:=by simp
 have tD:=t.alloc (.deferred (some []));have tL:=tD.alloc (.loop (rec .ready none));obtain⟨_,f1⟩:=Abd t;obtain⟨_,f2⟩:=Abd tD;rw[hsz] at tL f2;rw[hW1] at tL;refine⟨w.heap.size+1,[{ target:=.collected w.heap.size,args:=#[] }],W1,{ target:=.fn (.func g) lb.toArray,args:=#[.func (.yield (w.heap.size+1)) #[] #[]] },W1,g,
  #[.func (.yield (w.heap.size+1)) #[] #[]]++lb.toArray,W1,?_,?_,fun _ _=>trivial,?_,(fun e=>by cases e),?_⟩
 · rw[←hW1,hrec];exact run_enterLoop_outer _ _ _ _ _
 · simp only[resolve,rangeCall]
   rw[fr.ev hf];simp[go_sem]
 · obtain⟨X',A',v',o',B',hen⟩:=en (w.heap.size+1)
   have:=hen.enters;simp[invoke,go_sem];exact this _ _
 ·
  have ys : Ams P (.func (.yield (w.heap.size+1)) #[] #[]) enc ok E (fun pre=>Al (Blk (w.heap.size+1) (.loop (rec .ready none))::I pre))
      (fun pre=>Ex fun j:Option Nat=>Al (Blk (w.heap.size+1) (.loop (rec .done (some (jc j))))::Ix j pre)):=by
   refine⟨_,rfl,fun pre x hok w' M' h' hf' dj' t' hj hex=>?_⟩;obtain⟨p1,p2,dp,e,hp1,sp2⟩:=hj;have hp1':p1=Res.one _ _:=hp1;subst hp1';subst e;have hl:w'.heap[w.heap.size+1]?=some (.loop (rec .ready none)):=t'.ow _ _ (by simp[Res.add,Res.one]);have hy:=run_yield (P:=P) (args:=(enc x).toArray) hl (by rw[hrec];simpa using hps x);refine⟨_,_,_,_,hy,roundIn_of_wpIn (F:=WF none) trivial ?_⟩;have e1:(rec .ready none).assign=assign:=by rw[hrec]
   have e2:(rec .ready none).body=body:=by rw[hrec]
   have e3:(rec .ready none).tmps=a.tmps:=by rw[hrec]
   have e4:(rec .ready none).params=ps:=by rw[hrec]
   rw[e1,e2,e3,e4];obtain⟨dj1,dj2⟩:=Res.dj_add_left.1 dj';have hfold:(ps.zip (enc x).toArray).foldl (fun t (p,v)=>t.setIfInBounds p v) a.tmps=(ps.toList.zip (enc x)).foldl (fun t (p,v)=>t.setIfInBounds p v) a.tmps:=by
    rw[←Array.foldl_toList];simp
   rw[hfold];have hfr:Fr n (Afo ps.toList (enc x) L) { tmps:=(ps.toList.zip (enc x)).foldl (fun t (p,v)=>t.setIfInBounds p v) a.tmps,defers:=[] } :=
    AoU ps.toList (enc x) (fun p hp=>by have:=List.all_eq_true.1 hpn p hp;simpa using this) fr
   have d2:p2.dj ((Res.one (w.heap.size+1) (.loop (rec .ready none))).add hf'):=Res.dj_add_right.2 ⟨Res.dj_comm dp,dj2⟩;have t2:Sat w' M' (p2.add ((Res.one (w.heap.size+1) (.loop (rec .ready none))).add hf')):=by
    rw[←Res.add_assoc,←Res.add_comm dp];exact t'
   have hw:=round (w.heap.size+1) pre x hok _ M' p2 ⟨hfr,Res.emp,p2,Res.emp_dj _,rfl,trivial,Res.emp,p2,Res.emp_dj _,rfl,hex,sp2⟩ w' _ d2 t2;refine wpIn_mono (F:=WF (some (w.heap.size+1))) hw ?_;rintro ex a1 w1 ⟨M1,h1,le1,dj3,t3,q1⟩
   cases ex with
   | normal =>
     have q1':Amw (some (w.heap.size+1)) P body (Ae5 I Ix (pre++[x])) a1 M1 h1:=q1;obtain⟨y1,y2⟩:=Res.dj_add_right.1 dj3;have hb:w1.heap[w.heap.size+1]?=some (.loop (rec .ready none)):=t3.ow _ _ (Res.le_add_right dj3 _ _ (by simp[Res.add,Res.one]));refine⟨_,run_beginRound hb (by rw[hrec]),?_⟩;have dA:(Res.one (w.heap.size+1) (.loop (rec .ready none))).dj (h1.add hf'):=Res.dj_add_right.2 ⟨Res.dj_comm y1,dj1⟩;have hcomm:∀o:Obj,h1.dj (Res.one (w.heap.size+1) o)→h1.add ((Res.one (w.heap.size+1) o).add hf')=(Res.one (w.heap.size+1) o).add (h1.add hf'):=fun o dd=>by
      rw[←Res.add_assoc,Res.add_comm dd,Res.add_assoc]
     rw[hcomm _ y1] at t3;have t4:=Sat.putObj (o':=.loop { rec .ready none with state:=.busy }) dA t3;have dB:(Res.one (w.heap.size+1) (.loop { rec .ready none with state:=.busy })).dj (h1.add hf'):=AaE dA;have dB1:=(Res.dj_add_right.1 dB).1;rw[←hcomm _ (Res.dj_comm dB1)] at t4;refine wpIn_mono (F:=WF (some (w.heap.size+1))) (q1' _ _ (Res.dj_add_right.2 ⟨Res.dj_comm dB1,y2⟩) t4) ?_;have fin:∀(jump:Option Code) (M2:Kn) (h2:Res) (w2:World),M1.le M2→h2.dj ((Res.one (w.heap.size+1) (.loop { rec .ready none with state:=.busy })).add hf')→Sat w2 M2 (h2.add ((Res.one (w.heap.size+1) (.loop { rec .ready none with state:=.busy })).add hf')) →
         ∃w3,(Instr.endRound (w.heap.size+1) jump).run P w2=.ok (.bool jump.isNone) w3∧(Res.one (w.heap.size+1) (.loop (rec (if jump.isNone then .ready else .done) jump))).dj h2 ∧
          ((Res.one (w.heap.size+1) (.loop (rec (if jump.isNone then .ready else .done) jump))).add h2).dj hf'∧Sat w3 M2 (((Res.one (w.heap.size+1) (.loop (rec (if jump.isNone then .ready else .done) jump))).add h2).add hf'):=by
      intro jump M2 h2 w2 le2 dj5 t5;have hb2:w2.heap[w.heap.size+1]?=some (.loop { rec .ready none with state:=.busy }):=t5.ow _ _ (Res.le_add_right dj5 _ _ (by simp[Res.add,Res.one]));have hr:=run_endRound (P:=P) jump hb2;obtain⟨z1,z2⟩:=Res.dj_add_right.1 dj5;have eqq:h2.add ((Res.one (w.heap.size+1) (.loop { rec .ready none with state:=.busy })).add hf')=(Res.one (w.heap.size+1) (.loop { rec .ready none with state:=.busy })).add (h2.add hf'):=by
       rw[←Res.add_assoc,Res.add_comm z1,Res.add_assoc]
      rw[eqq] at t5;have dC:(Res.one (w.heap.size+1) (.loop { rec .ready none with state:=.busy })).dj (h2.add hf'):=Res.dj_add_right.2 ⟨Res.dj_comm z1,AaE dj1⟩;have t6:=Sat.putObj (o':=.loop (rec (if jump.isNone then .ready else .done) jump)) dC t5;have dD:(Res.one (w.heap.size+1) (.loop (rec (if jump.isNone then .ready else .done) jump))).dj (h2.add hf'):=AaE dC;obtain⟨v1,v2⟩:=Res.dj_add_right.1 dD;refine⟨_,?_,v1,Res.dj_add_left.2 ⟨v2,z2⟩,by rw[Res.add_assoc];exact t6⟩;rw[hr,hrec]
     rintro e2 a2 w2 ⟨M2,h2,le2,dj5,t5,q2⟩
     cases e2 with
     | normal =>
       obtain⟨w3,r1,r2,r3,r4⟩:=fin none M2 h2 w2 le2 dj5 t5;exact⟨_,w3,r1,true,M2,_,rfl,Kn.le_trans le1 le2,r3,r4,_,_,r2,rfl,rfl,q2⟩
     | ret =>
       obtain⟨w3,r1,r2,r3,r4⟩:=fin (some .ret) M2 h2 w2 le2 dj5 t5;exact⟨_,w3,r1,false,M2,_,rfl,Kn.le_trans le1 le2,r3,r4,none,_,_,r2,rfl,rfl,q2⟩
     | exit id =>
       obtain⟨w3,r1,r2,r3,r4⟩:=fin (some (.exit id)) M2 h2 w2 le2 dj5 t5;exact⟨_,w3,r1,false,M2,_,rfl,Kn.le_trans le1 le2,r3,r4,some id,_,_,r2,rfl,rfl,q2⟩
     | goto _=>exact q2.elim
     | panic _=>exact q2.elim
     | outgrown=>exact q2.elim
   | ret=>exact q1.elim
   | exit _=>exact q1.elim
   | goto _=>exact q1.elim
   | panic _=>exact q1.elim
   | outgrown=>exact q1.elim
  have sp:=it _ _ _ _ ys
  -- resources
  obtain⟨dg1,dg2⟩:=Res.dj_add_right.1 dg;obtain⟨q1,q2⟩:=Res.dj_add_left.1 dj;obtain⟨q3,q4⟩:=Res.dj_add_left.1 q2
  let D:Res:=Res.one w.heap.size (.deferred (some []))
  let Lp:Res:=Res.one (w.heap.size+1) (.loop (rec .ready none))
  have dLp:Lp.dj (D.add ((g1.add (kI.add kA)).add hfr)):=AbJ f2;have dD:D.dj ((g1.add (kI.add kA)).add hfr):=AbJ f1;obtain⟨a1,a2⟩:=Res.dj_add_right.1 dLp;obtain⟨a3,a4⟩:=Res.dj_add_right.1 a2;obtain⟨a5,a6⟩:=Res.dj_add_right.1 a3;obtain⟨a7,a8⟩:=Res.dj_add_right.1 a6;obtain⟨b3,b4⟩:=Res.dj_add_right.1 dD;obtain⟨b5,b6⟩:=Res.dj_add_right.1 b3;obtain⟨b7,b8⟩:=Res.dj_add_right.1 b6;have eqr:Lp.add (D.add ((g1.add (kI.add kA)).add hfr))=((Lp.add kI).add kA).add ((D.add g1).add hfr):=by
   funext i
   simp only[Res.add];have c1:=b7 i;have c2:=b8 i;have c3:=b5 i;have c4:=dg1 i;have c5:=dg2 i
   revert c1 c2 c3 c4 c5
   cases Lp i<;>cases D i<;>cases g1 i<;>cases kI i<;>cases kA i<;>simp
  have tL':Sat W1 M (((Lp.add kI).add kA).add ((D.add g1).add hfr)):=by rw[←eqr];exact tL
  have djr:((Lp.add kI).add kA).dj ((D.add g1).add hfr):=by
   refine Res.dj_add_left.2 ⟨Res.dj_add_left.2 ⟨?_,?_⟩,?_⟩
   · exact Res.dj_add_right.2 ⟨Res.dj_add_right.2 ⟨a1,a5⟩,a4⟩
   · exact Res.dj_add_right.2 ⟨Res.dj_add_right.2 ⟨Res.dj_comm b7,Res.dj_comm dg1⟩,q3⟩
   · exact Res.dj_add_right.2 ⟨Res.dj_add_right.2 ⟨Res.dj_comm b8,Res.dj_comm dg2⟩,q4⟩
  have cc:=sp.calls W1 M ((Lp.add kI).add kA) ((D.add g1).add hfr) djr tL' ⟨Lp.add kI,kA,Res.dj_add_left.2 ⟨a8,dIA⟩,rfl,⟨Lp,kI,a7,rfl,rfl,sI⟩,sA⟩;have hargs:(Value.func (.yield (w.heap.size+1)) #[] #[]::lb).toArray=#[.func (.yield (w.heap.size+1)) #[] #[]]++lb.toArray:=by simp
  rw[hargs] at cc;refine CallsIn.mono (F:=WF none) cc ?_;rintro ee w3 ⟨x,M3,h3,rfl,hx,le3,dj3,t3,s3⟩;have stN:∀(o:Obj) (Gs:List HP) (m:Res),(Res.one (w.heap.size+1) o).dj m→((Res.one (w.heap.size+1) o).add m).dj ((D.add g1).add hfr)→Sat w3 M3 (((Res.one (w.heap.size+1) o).add m).add ((D.add g1).add hfr))→SL Gs M3 m→∀o':Obj,
      St n L Gs { a with defers:=[{ target:=.collected w.heap.size,args:=#[] }]++a.defers } M3 ((D.add g1).add m)∧((D.add g1).add m).dj hfr∧Sat (w3.putObj (w.heap.size+1) o') M3 (((D.add g1).add m).add hfr):=by
   intro o Gs m dom djm tm sm o';obtain⟨u1,u2⟩:=Res.dj_add_left.1 djm;obtain⟨u3,u4⟩:=Res.dj_add_right.1 u2;obtain⟨u5,u6⟩:=Res.dj_add_right.1 u3;obtain⟨u7,u8⟩:=Res.dj_add_right.1 u1;refine⟨⟨fr,D.add g1,m,Res.dj_comm u3,rfl,?_,sm⟩,Res.dj_add_left.2 ⟨Res.dj_add_left.2 ⟨b4,q1⟩,u4⟩,?_⟩
   · refine⟨D,g1,b5,rfl,⟨w.heap.size,Res.emp,D,Res.emp_dj _,rfl,rfl,D,Res.emp,Res.dj_emp _,(Res.add_emp _).symm,rfl,trivial⟩,SL.mono le3 sd⟩
   · rw[Res.add_assoc] at tm
     have dX:(Res.one (w.heap.size+1) o).dj (m.add ((D.add g1).add hfr)):=Res.dj_add_right.2 ⟨dom,u1⟩;have t7:=Sat.putObj (o':=o') dX tm;have eq7:m.add ((D.add g1).add hfr)=((D.add g1).add m).add hfr:=by rw[←Res.add_assoc,Res.add_comm u3]
     rw[eq7] at t7;exact t7.le (Res.le_add_right (by rw[←eq7];exact AaE dX))
  obtain⟨x,all⟩:=x;obtain⟨hx,hfin⟩:=hx;dsimp only at hx hfin s3 ⊢;obtain⟨m1,m2,dm,e,sm1,sm2⟩:=s3;subst e
  cases x with
  | none =>
    obtain⟨o1,o2,do12,e,ho1,so2⟩:=sm1;have ho1':o1=Res.one _ _:=ho1;subst ho1';subst e;have hb:w3.heap[w.heap.size+1]?=some (.loop (rec .ready none)):=t3.ow _ _ (by simp[Res.add,Res.one]);refine⟨none,_,by have:=run_endLoop (P:=P) hb (by rw[hrec];simp);rw[hrec] at this;exact this,?_⟩;obtain⟨v1,v2⟩:=Res.dj_add_left.1 dm;rw[Res.add_assoc (Res.one _ _) o2 m2] at t3 dj3;obtain⟨w1,w2,w4⟩:=stN _ (I all++Bs) (o2.add m2) (Res.dj_add_right.2 ⟨do12,v1⟩) dj3 t3 (SL.append v2 so2 sm2) (.loop { rec .ready none with state:=.exhausted });have:=done all (hfin rfl) _ M3 _ w1;rw[hrec] at w4;exact⟨M3,_,le3,w2,w4,this⟩
  | some pre =>
    obtain⟨j,o1,o2,do12,e,ho1,so2⟩:=sm1;have ho1':o1=Res.one _ _:=ho1;subst ho1';subst e;have hb:w3.heap[w.heap.size+1]?=some (.loop (rec .done (some (jc j)))):=t3.ow _ _ (by simp[Res.add,Res.one]);refine⟨some (jc j),_,by have:=run_endLoop (P:=P) hb (by rw[hrec];simp);rw[hrec] at this;exact this,?_⟩;obtain⟨v1,v2⟩:=Res.dj_add_left.1 dm;rw[Res.add_assoc (Res.one _ _) o2 m2] at t3 dj3;obtain⟨w1,w2,w4⟩:=stN _ (Ix j pre++Bs) (o2.add m2) (Res.dj_add_right.2 ⟨do12,v1⟩) dj3 t3 (SL.append v2 so2 sm2) (.loop { rec .done (some (jc j)) with state:=.exhausted });rw[hrec] at w4;exact wpIn_mono (stop j pre (hx pre rfl) _ M3 _ w1 _ _ w2 w4) (fun _ _ _ q=>Ai1 le3 q)
theorem Ada {α:Type} {g:Nat} {lb:List Value} {enc:α→List Value} {ok:List α→α→Prop} {stopped:List α→Prop} {E:α→HP} {R:HP} {As Bs:List HP} {fin:List α→Prop} {val:Option (List α)→Value}
    (I:List α→List HP) (Ix:Option Nat→List α→List HP) (I0:List α→List HP) (hc:c=.rangeFunc (rF c) (rP c) (rA c) (rB c))
    (it:AqA P g lb enc ok stopped E R As Bs fin val)
    (hf:ev L (rF c)=some (.func (.func g) #[] lb.toArray))
    (hps:∀x,(enc x).length=(rP c).size) (hpn:(rP c).toList.all (fun p=>Nat.blt p n)=true)
    (h1:∀pre,Ent (I pre) (R::I0 pre)) (h2:∀pre,Ent (R::I0 pre) (I pre))
    (ha:Ent Hs (I []++As))
    (round:∀(l:Nat) (pre:List α) (x:α),ok pre x→wc (some l) P n (rA c) (Afo (rP c).toList (enc x) L) (E x::I pre) (Amo (some l) P (rB c) (Ae5 I Ix (pre++[x]))))
    (done:∀all,fin all→tw n Q .normal L (I all++Bs))
    (stop:∀(j:Option Nat) (pre:List α),stopped pre→wc none P n (jc j) L (Ix j pre++Bs) Q):wc none P n c L Hs Q:=by
 rw[hc];refine Amz (fin:=fin) I Ix hf (fun l=>⟨_,_,_,_,_,it (.func (.yield l) #[] #[]) (fun _=>⟨fun _ _=>False,fun _ e=>e⟩) (fun _=>⟨fun _ _=>False,fun _ e=>e⟩) (fun _=>⟨fun _ _=>False,fun _ e=>e⟩) ⟨_,rfl,fun _ _ _ _ _ _ _ _ _ e=>e.elim⟩ (fun _=>⟨fun ⟨_,_,_,_,e,_⟩=>e.elim⟩) (fun _=>⟨fun ⟨_,_,_,_,_,_,_,_,_,e,_⟩=>e.elim⟩)⟩) (fun b o y Jx ys=>it y _ (fun pre=>Al (Blk b o::I0 pre)) Jx ys (fun pre=>?_) (fun pre=>?_)) hps hpn ha round done stop
 · exact ent_al_one.trans ((AaA (A:=Blk b o) (h1 pre)).trans ((AaA (A:=R) (Ent.refl _)).trans (AaA AgG)))
 · exact ent_al_last.trans (((AaA (A:=Blk b o) (Ent.refl _)).trans (AaA (h2 pre))).trans AgG)
end
end
section
set_option maxRecDepth 100000
abbrev CkN:=Bs×CkA×Ck
def Abc (x:CkN):Bs×Ck:=(x.1,x.2.2)
def ckV (x:CkN):Value:=.agg (AaZ x.2.1 x.2.2).toArray
abbrev CkM (x:CkN):HP:=Al [SlI x.2.1.fa (x.2.2.files.flatMap AaN),SlI x.2.1.pa (x.2.2.parents.map vS),SlI x.2.1.ta (x.2.2.tags.flatMap Aab)]
theorem CkM.pers (x:CkN):AhI (CkM x):=Al.pers (by
 intro A hA;simp only[List.mem_cons,List.not_mem_nil,or_false] at hA;rcases hA with rfl | rfl | rfl<;>exact PersC.get)
def Aeh (l:List CkN):HP:=⟨fun M _=>∀x∈l,(CkM x).at_ M Res.emp,fun le h x hx=>(CkM x).mono le (h x hx)⟩
instance {l:List CkN}:PersC (Aeh l):=⟨fun e=>e⟩
theorem ent_ckms_nil {Hs:List HP}:Ent Hs (Aeh []::Hs):=⟨fun {M g} s=>⟨Res.emp,g,Res.emp_dj _,rfl,(fun x h=>by cases h),s⟩⟩
theorem AmW {l:List CkN} {x:CkN} {Hs:List HP} (h1:Has (Aeh l) Hs) (h2:Has (CkM x) Hs):Ent Hs (Aeh (l++[x])::Hs):=⟨fun {M g} s=>by
 obtain⟨_,_,a⟩:=h1.sat s;obtain⟨_,_,b⟩:=h2.sat s;refine⟨Res.emp,g,Res.emp_dj _,rfl,fun y hy=>?_,s⟩;rcases List.mem_append.1 hy with hy | hy
 · exact a y hy
 · rw[List.mem_singleton.1 hy];exact CkM.pers x b⟩
theorem AvH {l:List CkN} {x:CkN} {Hs:List HP} (h:x∈l) (hp:Has (Aeh l) Hs):Ent Hs (SlI x.2.1.fa (x.2.2.files.flatMap AaN)::SlI x.2.1.pa (x.2.2.parents.map vS)::SlI x.2.1.ta (x.2.2.tags.flatMap Aab)::Hs):=⟨fun {M g} s=>by
 obtain⟨_,_,a⟩:=hp.sat s;obtain⟨h1,h2,d,e,x1,h3,h4,d',e',x2,h5,h6,d2,e2,x3,_⟩:=a x h;have p1:=(PersC.get:AhI (SlI x.2.1.fa (x.2.2.files.flatMap AaN))) x1;have p2:=(PersC.get:AhI (SlI x.2.1.pa (x.2.2.parents.map vS))) x2;have p3:=(PersC.get:AhI (SlI x.2.1.ta (x.2.2.tags.flatMap Aab))) x3;exact⟨Res.emp,g,Res.emp_dj _,rfl,p1,Res.emp,g,Res.emp_dj _,rfl,p2,Res.emp,g,Res.emp_dj _,rfl,p3,s⟩⟩
theorem AnU {l:List Bs} (h:0<l.length):l[0]=l.headD []:=by cases l;simp at h;rfl
theorem Ahi {B:HP} (xa:CkA) (c:Ck) (hz:c.parents.length≤9223372036854775807) (sh:SlA B xa.pa (c.parents.map vS)) :
    Sp1 Tryz.prog 54 [.agg (AaZ xa c).toArray] [B] (vS (Abk c)) [B]:=by
 haveI:Abu xa.pa (c.parents.map vS) [B]:=⟨⟨B,sh,.here⟩⟩
 refine Sp.body (n:=11) Tryz.call54 Tryz.func54 rfl rfl rfl ?_;refine Qc (k:=Zx [_,_,_,_,_,_,_] (k:=fun b1=>Vv (k:=Wq (Za (k:=Qc (k:=Qx 4 27 (k:=Qv (k:=?_))))))));refine Wq (Zi (t:=fun h6=>?_) (f:=fun h6=>?_))
 ·
  refine Qc (k:=Vv (k:=Wq (Zt (k:=Va ?_))));have:c.parents=[]:=List.eq_nil_of_length_eq_zero (by omega);rw[Abk,this];exact Aa2 () (vs:=[_]) (Cs:=[]) rfl (.tmp rfl .nil) rfl trivial Aa0
 ·
  have hp0:0<c.parents.length:=by omega
  have hfb:c.parents[0]=Abk c:=AnU hp0;haveI:Abu xa.pa (c.parents.map vS) [Ce b1 30 (AaZ xa c),B]:=⟨⟨B,sh,.there .here⟩⟩
  refine Zk (k:=Ya (Qc (k:=Qx 4 27 (k:=?_))));refine AaQ (m:=0) (sz:=1) Tryz.underlying27 ti9 rfl rfl rfl rfl (by omega) (by rw[List.length_map];omega) (Nat.mul_one _) rfl ?_;refine AbS Tryz.underlying9 rfl rfl ((Adg (m:=0) (by omega)).trans (by rw[hfb])) rfl ?_;refine Vv (k:=Wq (Zt (k:=?_)));exact Aa2 () (vs:=[_]) (Cs:=[]) rfl (.tmp rfl .nil) rfl trivial Aa0
theorem AcS (m:Option Nat):Sp Tryz.prog 23 [.map m] [] (X:=Nat) (fun b=>.func (.func 64) #[] #[.pointer (some ⟨b,0,none⟩)]) (fun _=>True) (fun b=>[Ce b 31 [.map m]]):=by
 refine Sp.body (n:=4) Tryz.call23 Tryz.func23 rfl rfl rfl ?_;refine Qc (k:=Zx [_] (k:=fun b1=>Vv (k:=Wq (Qc (k:=Qv (k:=Wq (Zt (k:=?_))))))));exact Aa2 b1 (vs:=[_]) (Cs:=[]) rfl (.tmp rfl .nil) rfl trivial Aa0
theorem AsW (H:Ks) (l:List Bs) (n:Bs):Ai9 H (l++[n])=Ai9 H l++Al4 H n:=by simp[Ai9]
def okC (H:Ks) (pre:List CkN) (x:CkN):Prop:=(∃r,AaY H=pre.map Abc++Abc x::r)∧x.2.2.parents.length≤x.2.1.pc∧AaD (Abq H x.1)=some x.2.2
def Axe (H:Ks) (pre:List CkN):Prop:=pre≠[]∧∃r,AaY H=pre.map Abc++r
def AwQ (H:Ks) (all:List CkN):Prop:=all.map Abc=AaY H
theorem Ang {G:Prop} (h:G:=by
    first
    | (refine Aa5 ⟨(j+1,pre++[(nm,xa,ck)]),by dsimp only;omega,by dsimp only;rw[List.map_append,hpre,hfs];rfl⟩ (by dsimp only;omega) ⟨rfl,rfl,rfl,rfl,rfl,trivial⟩ ?_
       dsimp only;exact Aa0)
    | (refine Aa5 ⟨(j+1,pre),by dsimp only;omega,by dsimp only;rw[hpre,hfs]⟩ (by dsimp only;omega) ⟨rfl,rfl,rfl,rfl,rfl,trivial⟩ ?_
       dsimp only;refine Af3 (hj2 pre) ?_;exact Aa0)):G:=h
set_option maxHeartbeats 2000000 in
theorem AcT (c b:Nat) (H:Ks) (hH:TxtK H) (hn:H.length≤4398046511104) :
    AqA Tryz.prog 64 [.pointer (some ⟨c,0,none⟩)] (fun x:CkN=>[vS x.1,ckV x]) (okC H) (Axe H) CkM (MapS b H) [Ce c 31 [.map (some b)]] [Ce c 31 [.map (some b)]] (AwQ H) (fun _=>.tuple #[]):=by
 intro y Jy J0 Jx ys hj1 hj2;have hkl:=Ai2 H;refine Sp.body (n:=31) Tryz.call64 Tryz.func64 rfl rfl rfl ?_;refine wc_ent' (Aga (hj1 []) (Ent.refl _)) ?_;refine Qc (k:=Zd (k:=?_));refine Aaq (Ajm (some b)) rfl rfl rfl (fun cb _=>?_);refine Aaq (AfV (Ajn cb b H) H.length hn (fun pre x h=>h.2.2) (fun l h=>by have:=h.length_eq;simp at this;omega)) rfl rfl rfl (fun xs hxs=>?_);obtain⟨⟨sa,sc⟩,al⟩:=xs;have hse:AdX al=Ab6 H:=Apt hxs;have hal:al.length=H.length:=by have:=hxs.length_eq;simpa using this
 dsimp only;rw[hse,hal];refine Qv (k:=Wq (Zb (k:=?_)));refine Aak (fun (i:{ x:Nat×List CkN // x.1≤H.length∧x.2.map Abc=Ai9 H ((Ab6 H).take x.1) })=>[(0,y),(1,.pointer (some ⟨c,0,none⟩)),(9,.slice sa H.length sc),(10,vI H.length),(11,vI i.1.1)]) (fun (i:{ x:Nat×List CkN // x.1≤H.length∧x.2.map Abc=Ai9 H ((Ab6 H).take x.1) })=>[Jy i.1.2,Row 9 1 (.slice sa H.length sc) H.length ((Ab6 H).map vS),Ce c 31 [.map (some b)]]) (fun (i:{ x:Nat×List CkN // x.1≤H.length∧x.2.map Abc=Ai9 H ((Ab6 H).take x.1) })=>H.length-i.1.1) rfl (⟨(0,[]),Nat.zero_le _,rfl⟩) ?_ ?_ (fun i=>?_)
 · exact⟨rfl,rfl,rfl,rfl,rfl,trivial⟩
 ·
  dsimp only;refine Af3 (hj2 []) ?_;exact Aa0
 obtain⟨⟨j,pre⟩,hj,hpre⟩:=i;dsimp only at hj hpre ⊢;try dsimp only
 refine Qc (k:=Vv (k:=Wq (Za (k:=Zi (t:=fun h12=>?_) (f:=fun h12=>?_)))))
 ·
  refine Zk (k:=Ya (Za (k:=Zb (k:=Za (k:=?_)))));have hjl:j<(Ab6 H).length:=by omega
  refine wc_ent' (Aga (hj1 pre) (Ent.refl _)) ?_;have hst:(Ab6 H).take (j+1)=(Ab6 H).take j++[(Ab6 H)[j]]:=List.take_succ_eq_append_getElem hjl;obtain⟨nm,hnm⟩:∃nm,nm=(Ab6 H)[j]:=⟨_,rfl⟩
  have hfs:Ai9 H ((Ab6 H).take (j+1))=Ai9 H ((Ab6 H).take j)++Al4 H nm:=by rw[hst,AsW,hnm]
  have hff:AaY H=Ai9 H ((Ab6 H).take j)++Al4 H nm++Ai9 H ((Ab6 H).drop (j+1)):=by
   rw[←hfs];unfold AaY Ai9;rw[←List.flatMap_append,List.take_append_drop]
  obtain⟨htx,htl⟩:=hH.get nm;have hRd:=AgT (Abq H nm) htl;refine Zr (k:=Ye 1 (k:=?_));refine AbS Tryz.underlying9 rfl rfl ((Adg (m:=j) (by omega)).trans (by rw[←hnm])) rfl ?_;refine Vv (k:=Wq (Qc (k:=Zd (k:=Vv (k:=?_)))));refine r_lookup (v:=vS (Abq H nm)) Tryz.underlying31 Tryz.underlying9 ti9 rfl rfl rfl htx rfl ?_;refine Aaq hRd rfl rfl rfl (fun x19 hx19=>?_);obtain⟨xa,ck⟩:=x19;obtain⟨hck,hpc⟩:=hx19;dsimp only at hck hpc ⊢;refine Vv (k:=?_);refine Aa6 (Aa7 (v:=.agg #[vS ck.base,vS ck.comment,vI ck.date,.slice xa.fa ck.files.length xa.fc,.slice xa.pa ck.parents.length xa.pc,.slice xa.ta ck.tags.length xa.tc,vS ck.user]) rfl rfl) rfl ?_;refine Aa6 (Aa7 (v:=vB (AaD (Abq H nm)).isSome) rfl rfl) rfl ?_;refine Zc [vS [],vS [],.int .i64 0,.slice none 0 0,.slice none 0 0,.slice none 0 0,vS []] (k:=fun b5=>Zp (k:=Vv (k:=Wq (Qc (k:=Qv (k:=Gi 1 (t:=fun h23=>?_) (f:=fun h23=>?_)))))))
  ·
   obtain⟨k,hk⟩:∃k,AaD (Abq H nm)=some k:=Option.isSome_iff_exists.1 h23;have hkk:ck=k:=by rw[hck,hk];rfl
   subst hkk;have hof:Al4 H nm=[(nm,ck)]:=by rw[Al4,hk]
   rw[hof] at hfs hff;refine Aej xa.fa ?_;refine Aej xa.ta ?_;refine wo_ent' (Gs:=CkM (nm,xa,ck)::Jy pre::[Ce b5 30 [vS ck.base,vS ck.comment,vI ck.date,.slice xa.fa ck.files.length xa.fc,.slice xa.pa ck.parents.length xa.pc,.slice xa.ta ck.tags.length xa.tc,vS ck.user],Row 9 1 (.slice sa H.length sc) H.length ((Ab6 H).map vS),Ce c 31 [.map (some b)]]) (Acl (AaA (AaA (AaA (Af3 (hj2 pre) Aa0))))) ?_;refine J1 (k:=J1 (k:=I1 (k:=Zm [_,_,_,_,_,_,_] (k:=I1 (k:=?_)))));refine ApF ys pre (nm,xa,ck) ⟨⟨_,by rw[hff,hpre,List.append_assoc];rfl⟩,hpc,hk⟩ (CkM.pers _) rfl rfl rfl ?_ ?_
   ·
    refine J1 (k:=P1 (k:=Wq (Z0 (k:=Zk (k:=Yb (Ya (Zr (k:=Qv (k:=Wn ?_)))))))));exact Ang
   ·
    refine J1 (k:=P1 (k:=Wq (Z1 (k:=Zt (k:=Vb (Va (Vi (Vb ?_))))))));refine Aa2 (some (pre++[(nm,xa,ck)]),[]) (vs:=[]) (Cs:=[]) rfl .nil rfl ⟨fun q e=>by cases e;exact⟨by simp,_,by rw[hff,List.map_append,hpre];rfl⟩,fun e=>by cases e⟩ ?_;simp only[Acz];exact Aa0
  ·
   have hk:AaD (Abq H nm)=none:=by cases e:AaD (Abq H nm) with | none=>rfl | some k=>rw[e] at h23;cases h23
   have hof:Al4 H nm=[]:=by rw[Al4,hk]
   rw[hof,List.append_nil] at hfs;refine O0 (k:=O0 (k:=O0 (k:=O0 (k:=O0 (k:=P0 (k:=Wq (Z0 (k:=Zk (k:=Yb (Ya (Zr (k:=?_))))))))))));refine Qv (k:=Wn ?_);exact Ang
 ·
  refine Ze (k:=Xa (Xi (Xb ?_)));have hj2:j=(Ab6 H).length:=by omega
  subst hj2;rw[List.take_length] at hpre;refine Acr (none,pre) (vs:=[]) (Cs:=[]) rfl .nil rfl ⟨(fun q e=>by cases e),fun _=>hpre⟩ ?_;simp only[Acz];exact Aa0
def ckK (l:List CkN):Ks:=l.foldl (fun m x=>mput m x.1 (ckV x)) []
theorem Aqm (l:List CkN) (x:CkN):ckK (l++[x])=mput (ckK l) x.1 (ckV x):=by simp[ckK]
section
variable {g:Nat} {lb:List Value} {ok:List CkN→CkN→Prop} {stopped:List CkN→Prop} {R:HP} {As Bs':List HP} {fin:List CkN→Prop} {val:Option (List CkN)→Value}
theorem AkU (it:AqA Tryz.prog g lb (fun x:CkN=>[vS x.1,ckV x]) ok stopped CkM R As Bs' fin val) (b:Nat) [hp:Ab4 As As []] :
    Sp Tryz.prog 168 [.map (some b),.func (.func g) #[] lb.toArray] (R::MapS b []::As) (X:=List CkN) (fun _=>.tuple #[]) fin (fun l=>Aeh l::MapS b (ckK l)::R::Bs'):=by
 refine Sp.body (n:=12) Tryz.call168 Tryz.func168 rfl rfl rfl ?_;refine Qc (k:=Zx [_] (k:=fun b2=>Wq (Qc (k:=Vv (k:=Wq (Zb (k:=?_)))))));refine Ada (fun pre=>[Aeh pre,MapS b (ckK pre),Ce b2 138 [.map (some b)],R]) (fun j pre=>[Pu False]) (fun pre=>[Aeh pre,MapS b (ckK pre),Ce b2 138 [.map (some b)]]) rfl it rfl (fun _=>by rfl) rfl (fun pre=>?_) (fun pre=>?_) ?_ (fun l pre x hok=>?_) (fun all hfin=>?_) (fun j pre hs=>?_)
 · exact Aa0
 · exact Aa0
 · (refine AdR (ent_ckms_nil.trans ?_);rw[show ckK []=[] from rfl];exact Aa0)
 ·
  obtain⟨nm,xa,ck⟩:=x;have hks:ckK (pre++[(nm,xa,ck)])=mput (ckK pre) nm (.agg #[vS ck.base,vS ck.comment,vI ck.date,.slice xa.fa ck.files.length xa.fc,.slice xa.pa ck.parents.length xa.pc,.slice xa.ta ck.tags.length xa.tc,vS ck.user]):=Aqm pre (nm,xa,ck);dsimp only[ckV,AaZ];refine Qc (k:=Vv (k:=Wq (Zr (k:=Zc [vS [],vS [],.int .i64 0,.slice none 0 0,.slice none 0 0,.slice none 0 0,vS []] (k:=fun b5=>Zp (k:=Wg (Zb (k:=Zr (k:=Zd (k:=Vv (k:=?_)))))))))));refine Zm [_,_,_,_,_,_,_] (k:=?_);refine r_mapUpdate Tryz.underlying138 Tryz.underlying9 rfl rfl rfl ?_;refine Wn (Yb ?_);refine AaV ?_;refine(AmW (l:=pre) (x:=(nm,xa,ck)) HasC.get HasC.get).trans ?_;rw[hks];exact Aa0
 ·
  skip
  refine Yb ?_;refine Acr all (vs:=[]) (Cs:=[]) rfl .nil rfl hfin ?_;simp only[List.append_nil,List.cons_append,List.nil_append];exact AaA (AaA (AaA (ent_tail.trans ent_tail)))
 ·
  exact AfS (fun s=>by obtain⟨_,_,_,_,a,_⟩:=s;exact a)
theorem Ak6 (it:AqA Tryz.prog g lb (fun x:CkN=>[vS x.1,ckV x]) ok stopped CkM R As Bs' fin val) [hp:Ab4 As As []] :
    Sp Tryz.prog 126 [.func (.func g) #[] lb.toArray] (R::As) (X:=Nat×List CkN) (fun x=>.map (some x.1)) (fun x=>fin x.2) (fun x=>Aeh x.2::MapS x.1 (ckK x.2)::R::Bs'):=by
 refine Sp.body (n:=9) Tryz.call126 Tryz.func126 rfl rfl rfl ?_;refine Qc (k:=Vv (k:=Wq (Qc (k:=?_))));refine r_mkmap rfl (fun b4=>?_);refine Vv (k:=Wq (Qc (k:=Qv (k:=?_))));refine Apg (MapS b4 []) ?_;refine Apg R ?_;refine AhR (cap:=[]) (As:=R::MapS b4 []::As) (Rs:=[]) (by rw[List.append_nil];exact AkU it b4) rfl rfl rfl ?_ (fun l hl=>?_)
 · exact .cons .here (.cons .here hp.get)
 refine Wq (Qc (k:=Qv (k:=Wq (Zt (k:=?_)))));refine Aa2 (b4,l) (vs:=[_]) (Cs:=[]) rfl (.tmp rfl .nil) rfl hl ?_;simp only[List.append_nil];exact Ent.refl _
end
end
def Abw (s:Sd):Bs×Bs:=(s.op.name,s.op.target)
theorem AgC (l:Ls) (k k':Bs×Bs) (v:Sd):Ab0 (AgB l k v) k'=if k=k' then some v else Ab0 l k':=by
 induction l with
 | nil=>simp[AgB,Ab0]
 | cons p r ih =>
   simp only[AgB];by_cases h:p.1=k
   · rw[if_pos h]
     simp only[Ab0];by_cases h2:k=k'
     · rw[if_pos h2,if_pos h2]
     · rw[if_neg h2,if_neg h2,if_neg (by rw[h];exact h2)]
   · rw[if_neg h]
     simp only[Ab0,ih];by_cases h2:p.1=k'
     · rw[if_pos h2,if_pos h2,if_neg (fun e=>h (by rw[h2,e]))]
     · rw[if_neg h2,if_neg h2]
theorem AsJ (l:Ls) (k:Bs×Bs) (v:Sd):(AgB l k v).map (·.1)=if k∈l.map (·.1) then l.map (·.1) else l.map (·.1)++[k]:=by
 induction l with
 | nil=>simp[AgB]
 | cons p r ih =>
   simp only[AgB];by_cases h:p.1=k
   · rw[if_pos h];simp[h]
   · rw[if_neg h,List.map_cons,ih]
     by_cases h2:k∈r.map (·.1)
     · rw[if_pos h2,if_pos (by simp[h2])];rfl
     · rw[if_neg h2,if_neg (by simp only[List.map_cons,List.mem_cons,not_or];exact⟨fun e=>h e.symm,h2⟩)];rfl
theorem Am3 {l:Ls} (h:(l.map (·.1)).Nodup) (k:Bs×Bs) (v:Sd):((AgB l k v).map (·.1)).Nodup:=by
 rw[AsJ];split
 · exact h
 · rename_i hk
   rw[List.nodup_append];exact⟨h,by simp,fun a ha b hb e=>hk (by simp at hb;rw[←hb,←e];exact ha)⟩
theorem Am2 (l:Ls) (s:Sd) (k:Bs×Bs):Ab0 (Ahh l s) k=if Abw s=k then (match Ab0 l k with | none=>some s | some o=>if o.date≤s.date then some s else some o) else Ab0 l k:=by
 unfold Ahh;by_cases h:Abw s=k
 · rw [if_pos h]
   subst h;show Ab0 (match Ab0 l (Abw s) with | none=>AgB l (Abw s) s | some old=>if old.date≤s.date then AgB l (Abw s) s else l) (Abw s)=_
   cases e:Ab0 l (Abw s) with
   | none=>dsimp only;rw[AgC,if_pos rfl]
   | some o =>
     dsimp only;split
     · rw[AgC,if_pos rfl]
     · exact e
 · rw [if_neg h]
   have h':(s.op.name,s.op.target)≠k:=h;split
   · rw[AgC,if_neg h']
   · split
     · rw[AgC,if_neg h']
     · rfl
theorem Am4 (l:List Sd) (s:Sd):Acg (l++[s])=Ahh (Acg l) s:=by simp[Acg]
theorem Aq5 {l:Ls} (h:(l.map (·.1)).Nodup) (s:Sd):((Ahh l s).map (·.1)).Nodup:=by
 unfold Ahh;split
 · exact Am3 h _ _
 · split
   · exact Am3 h _ _
   · exact h
structure Aw4 (l:List Sd) (k:Bs×Bs) (s:Sd):Prop where
 key:Abw s=k
 at_:∃l1 l2,l=l1++s::l2∧(∀o∈l1,Abw o=k→o.date≤s.date)∧(∀o∈l2,Abw o=k→o.date<s.date)
theorem Apu {α:Type} {P:List α→Prop} (h0:P []) (h1:∀l a,P l→P (l++[a])):∀l,P l:=by
 have:∀l:List α,P l.reverse:=by
  intro l
  induction l with
  | nil=>exact h0
  | cons a l ih=>rw[List.reverse_cons];exact h1 _ _ ih
 intro l;have:=this l.reverse;rwa [List.reverse_reverse] at this
theorem Ag5 (l:List Sd):((Acg l).map (·.1)).Nodup∧(∀k,Ab0 (Acg l) k=none→∀s∈l,Abw s≠k)∧∀k s,Ab0 (Acg l) k=some s→Aw4 l k s:=by
 refine Apu (P:=fun l=>((Acg l).map (·.1)).Nodup∧(∀k,Ab0 (Acg l) k=none→∀s∈l,Abw s≠k)∧∀k s,Ab0 (Acg l) k=some s→Aw4 l k s) ?_ ?_ l
 · exact⟨List.nodup_nil,(fun k _ s h=>by cases h),(fun k s h=>by cases h)⟩
 · rintro l a ⟨hn,h1,h2⟩
   rw[Am4];refine⟨Aq5 hn a,fun k h s hs=>?_,fun k s h=>?_⟩
   · rw [Am2] at h
     by_cases e:Abw a=k
     · rw[if_pos e] at h
       split at h
       · cases h
       · split at h<;>cases h
     · rw[if_neg e] at h
       rcases List.mem_append.1 hs with hs | hs
       · exact h1 k h s hs
       · rw[List.mem_singleton.1 hs];exact e
   · rw [Am2] at h
     by_cases e:Abw a=k
     · rw [if_pos e] at h
       cases hl:Ab0 (Acg l) k with
       | none =>
         rw[hl] at h
         cases h;exact⟨e,l,[],by simp,fun o ho he=>absurd he (h1 k hl o ho),by simp⟩
       | some o =>
         rw[hl] at h;dsimp only at h;obtain⟨ok,l1,l2,e1,p1,p2⟩:=h2 k o hl;split at h
         · rename_i hd
           cases h;refine⟨e,l,[],by simp,fun q hq hk=>?_,by simp⟩;rw[e1] at hq;rcases List.mem_append.1 hq with hq | hq
           · exact Int.le_trans (p1 q hq hk) hd
           · rcases List.mem_cons.1 hq with rfl | hq
             · exact hd
             · exact Int.le_trans (Int.le_of_lt (p2 q hq hk)) hd
         · rename_i hd
           cases h;refine⟨ok,l1,l2++[a],by rw[e1];simp,p1,fun q hq hk=>?_⟩;rcases List.mem_append.1 hq with hq | hq
           · exact p2 q hq hk
           · rw[List.mem_singleton.1 hq];omega
     · rw[if_neg e] at h
       obtain⟨ok,l1,l2,e1,p1,p2⟩:=h2 k s h;refine⟨ok,l1,l2++[a],by rw[e1];simp,p1,fun q hq hk=>?_⟩;rcases List.mem_append.1 hq with hq | hq
       · exact p2 q hq hk
       · rw[List.mem_singleton.1 hq] at hk;exact absurd hk e
theorem Am5 {l:List Sd} {k:Bs×Bs} (h:∀s∈l,Abw s≠k):Ab0 (Acg l) k=none:=by
 cases e:Ab0 (Acg l) k with
 | none=>rfl
 | some s =>
   obtain⟨hk,l1,l2,e1,_⟩:=(Ag5 l).2.2 k s e;exact absurd hk (h s (by rw[e1];simp))
theorem AsN {l:List Sd} {k:Bs×Bs} {s:Sd} (hs:s∈l) (hk:Abw s=k) (h:∀o∈l,Abw o=k→o=s):Ab0 (Acg l) k=some s:=by
 cases e:Ab0 (Acg l) k with
 | none=>exact absurd hk ((Ag5 l).2.1 k e s hs)
 | some o =>
   obtain⟨ho,l1,l2,e1,_⟩:=(Ag5 l).2.2 k o e;rw[h o (by rw[e1];simp) ho]
end Go.Proofs.YtdnoacgopfcpbaaGreat
