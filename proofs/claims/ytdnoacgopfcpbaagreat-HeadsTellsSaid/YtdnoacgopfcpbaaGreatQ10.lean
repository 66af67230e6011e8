/- Texts of this proof, put together: SBuf, Args, SCard, SCard2. -/
import Derived.Lib.MakeNoZero
import Derived.ChangeArms
import Derived.DataReads
import Derived.WideShapes
import Derived.Test.YtdnoacgopfcpbaaGreatQ09
set_option linter.unusedVariables false
set_option linter.unusedSimpArgs false
namespace Go.Proofs.YtdnoacgopfcpbaaGreat
section
set_option maxRecDepth 100000
section
variable {r:Option Nat} {P:Program} {n:Nat} {ops:Array Oper} {os:List Oper} {A:List HP} {L:Loc} {Hs:List HP} {Q:Out} {ty:TypeId} {d:Nat} {pos:String} {after:Array Edge}
theorem AoI {dst:Option Tmp} {g:FuncId} {fn:Func} {x:Operand} {m:Nat} {t e it:TypeId} {ts:Array TypeId} (hf:P.funcs[g]?=some fn) (hname:(fn.name == "runtime.NumGoroutine")=false)
    (hb:fn.body.isNone=true) (hn:Extern.findNext fn=none) (he:Extern.find fn=some (Extern.BytealgMakeNoZero.makeNoZero #[it] #[t])) (ht:P.underlying t=some (.slice e)) (hx:ev L x=some (vI (m:Int))) (hm:m≤140737488355328) :
    OpT r P n ⟨dst,.call ⟨.value (.func g),#[x],ts⟩,ty,pos,after,none⟩ A L [] (fun x:Nat×List Value=>.slice (some ⟨x.1,0,none⟩) m x.2.length) (fun x=>m≤x.2.length∧x.2.length≤maxLen) (fun x=>[Ce x.1 e x.2]):=by
 intro a fr w M h hA hfr dj dj' s sA t';obtain⟨cs,hr,h1,h2⟩:=Lib.run_makeNoZero (P:=P) w #[it] t e ht m (by omega);have hrun:(execOp a.eval ⟨dst,.call ⟨.value (.func g),#[x],ts⟩,ty,pos,after,none⟩).run P w=.ok (.value (.slice (some ⟨w.heap.size,0,none⟩) m cs.size)) (w.drew.drew.alloc (.cells cs e)):=by
  simp only[execOp,resolve,Act.eval,Deferred.ofValue,Sem.run_bind,Sem.run_pure,Result.andThen_ok,invoke];have hq:=run_callFunc_extern hf hname hb hn he #[vI (m:Int)] w;have ha:a.eval x=vI (m:Int):=fr.ev hx;simp only[Array.append_empty,Array.empty_append,List.map_toArray,List.map_cons,List.map_nil,ha];rw[hq,hr];rfl
 rw[hrun];have t2:=t'.drew.drew.alloc (.cells cs e);obtain⟨f1,f2⟩:=Abd t'.drew.drew;obtain⟨f3,f4⟩:=Res.add_none.1 f2;obtain⟨f5,f6⟩:=Res.add_none.1 f3;replace f4:hfr w.heap.size=none:=f4;replace f5:h w.heap.size=none:=f5;replace f6:hA w.heap.size=none:=f6;obtain⟨d1,d2⟩:=Res.dj_add_left.1 dj';refine⟨(w.heap.size,cs.toList),M,Res.one w.heap.size (.cells cs e),by simp,⟨by simpa using h1,by simpa using h2 (by simp only[maxLen];omega)⟩,Kn.le_refl _,AbJ f6,Res.dj_add_left.2 ⟨AbJ f4,d2⟩,?_,Res.one w.heap.size (.cells cs e),Res.emp,Res.dj_emp _,(Res.add_emp _).symm,by show _=Res.one _ _;simp,trivial⟩;refine t2.le ?_;intro i o e';simp only[Res.add] at e' ⊢;show (match Res.one w.heap.size _ i with | some o=>some o | none=>_)=_
 cases e1:Res.one w.heap.size (Obj.cells cs e) i with
 | some u=>rw[e1] at e';simpa using e'
 | none =>
   rw[e1] at e'
   cases e2:hA i with
   | some u =>
     rw[e2] at e';rcases dj i with y | y
     · rw[y];simpa using e'
     · rw[y] at e2;cases e2
   | none =>
     rw[e2] at e';have e3:hfr i=some o:=by simpa using e'
     rcases d1 i with y | y
     · rw[y];simpa using e3
     · rw[y] at e3;cases e3
theorem AtP {x y:Operand} {dT sT e:TypeId} {i:TypeInfo} {a:Option Addr} {c:Nat} (hu:P.underlying dT=some (.slice e)) (hs:P.underlying sT=some (.slice e)) (hi:P.info? e=some i)
    (hx:ev L x=some (.slice a 0 c)) (hy:ev L y=some (.slice none 0 0)):PV P n L (.call ⟨.builtin .copy,#[x,y],#[dT,sT]⟩) ty (vI 0) :=
 ⟨by intro c;simp,fun ac f w _ _ _ _=>by
  cases a<;>simp[execOp,resolve,f.ev hx,f.ev hy,invoke,builtin,Builtin.copy_,run_underlying hu,run_underlying hs,sizeOf,typeInfo,program,Sem.run,hi,storeCells,Builtin.firstCells,Builtin.lenOf]<;>rfl⟩
end
def AwZ (p:Nat):HP:=Ex fun q:Nat×Nat=>Al [Ce p 225 [.pointer (some ⟨p,0,none⟩),.slice (some ⟨q.1,0,none⟩) 0 q.2],Row 5 1 (.slice (some ⟨q.1,0,none⟩) 0 q.2) 0 []]
theorem Al6 (p m:Nat) (hm:m≤140737488355328):Sp1 Tryz.prog 242 [.pointer (some ⟨p,0,none⟩),vI m] [Ce p 225 [.pointer (some ⟨p,0,none⟩),.slice none 0 0]] (.tuple #[]) [AwZ p]:=by
 refine Sp.body (n:=30) Tryz.call242 Tryz.func242 rfl rfl rfl ?_;refine Za (k:=Dw [Ce p 225 [.pointer (some ⟨p,0,none⟩),.slice none 0 0]] (k:=?_));refine Dv 0 (k:=Dv 1 (k:=Di 2 (t:=Uf 1 56) (k:=Di 3 (t:=Ul) (k:=Dv 4 (k:=Dv 5 (k:=Dv 6 (k:=Dv 7 (k:=Dv 9 (k:=Dv 10 (k:=Di 11 (t:=Uf 1 56) (k:=Di 12 (t:=Ul) (k:=?_))))))))))));refine Dv 13 (k:=Dn 8 (k:=?_));refine AbR (AoI (m:=m) (e:=5) Tryz.func247 (by kernel_rfl) (by kernel_rfl) (by kernel_rfl) (it:=3) (t:=56) (by kernel_rfl) Tryz.underlying56 (AeF (by omega)) hm) rfl (fun x13 hx13=>?_);obtain⟨g,cs⟩:=x13;obtain⟨hx1,hx2⟩:=hx13;dsimp only at hx1 hx2;dsimp only;refine Aa1 14 rfl rfl rfl (by kernel_rfl) (by kernel_rfl) (Aat (Ac4 (m:=0) Tryz.underlying56 ti5 rfl rfl rfl (Nat.zero_le _))) ?_;refine Dv 15 (k:=Dd (k:=Ya (Qc (k:=Qv (k:=Vv (k:=Qx 1 56 (k:=?_)))))));refine Aa6 (AtP Tryz.underlying56 Tryz.underlying56 ti5 rfl rfl) rfl ?_;refine Wq (Zr (k:=Qv (k:=Vv (k:=Vf 1 56 (k:=?_)))));refine Agw Atr rfl rfl rfl rfl (by simp) ?_;refine Wn ?_;refine Acr () (vs:=[]) (Cs:=[]) rfl .nil rfl trivial ?_;refine AbV (g,cs.length) ?_;refine Acl ?_;exact(AbF (k:=0) (cap:=cs.length) (sz:=1) (e:=5) (g:=g) (xs:=[]) (cur:=cs) (Nat.zero_le _) hx2 (Nat.mul_one _).symm rfl rfl).trans Aa0
theorem Al7 (p m:Nat) (h0:0<m) (hm:m≤140737488355328):Sp1 Tryz.prog 227 [.pointer (some ⟨p,0,none⟩),vI m] [Ce p 225 [.pointer none,.slice none 0 0]] (.tuple #[]) [AwZ p]:=by
 refine Sp.body (n:=25) Tryz.call227 Tryz.func227 rfl rfl rfl ?_;refine Qc (k:=Vv (k:=?_));refine Aaa (Aim p (.slice none 0 0)) rfl rfl rfl ?_;refine Wq (Za (k:=Qc (k:=Qv (k:=Wq (Zi (t:=fun h7=>?_) (f:=fun h7=>?_))))))
 ·
  omega
  --done
 ·
  refine Zk (k:=Ya (Za (k:=Dw [Ce p 225 [.pointer (some ⟨p,0,none⟩),.slice none 0 0]] (k:=?_))));refine Dv 0 (k:=Dv 1 (k:=Di 2 (t:=Uf 1 56) (k:=Di 3 (t:=Ul) (k:=Dv 4 (k:=Dv 5 (k:=Dv 6 (k:=Di 7 (t:=Uf 1 56) (k:=Di 8 (t:=Ul) (k:=Dv 9 (k:=Dv 10 (k:=Dv 11 (k:=?_))))))))))));refine Dv 12 (k:=Dd (k:=Ya (Zi (t:=fun h21=>?_) (f:=fun h21=>?_))))
  ·
   refine Zr (k:=Qv (k:=?_));refine Aaa (Al6 p m hm) rfl rfl rfl ?_;refine Wn ?_;refine Acr () (vs:=[]) (Cs:=[]) rfl .nil rfl trivial ?_;exact Aa0
  ·
   omega
   --done
theorem Al5 (p:Nat) (s:List UInt8) (hs:s≠[]) (h:s.length≤140737488355328):Sp1 Tryz.prog 202 [.pointer (some ⟨p,0,none⟩),vS s] [AwZ p] (.tuple #[vI s.length,.nilIface]) [IsB p s]:=by
 have hp:=List.length_pos_iff.2 hs;refine Sp.body (n:=19) Tryz.call202 Tryz.func202 rfl rfl rfl ?_;refine AcE fun q=>AdW ?_;obtain⟨g,cap⟩:=q;dsimp only;refine Qc (k:=Qv (k:=Wq (Qc (k:=Vv (k:=?_)))));refine Aaa (Ail p (.slice (some ⟨g,0,none⟩) 0 cap)) rfl rfl rfl ?_;refine Wq (Qc (k:=Qv (k:=Vv (k:=Qx 1 56 (k:=Vv (k:=?_))))));refine AcW (by intro c;simp) (AkA Tryz.underlying56 Tryz.underlying9 ti5 rfl rfl rfl rfl rfl (by omega) (xs:=[]) (k:=0)) rfl (fun x14 hx14=>?_);obtain⟨⟨a14,c14,rfl⟩,hx14⟩:=hx14;refine Vv (k:=Vf 1 56 (k:=?_));refine Agw Atr rfl rfl rfl rfl (by simp) ?_;refine Wq (Qc (k:=Qv (k:=Qv (k:=Wq (Zt (k:=?_))))));refine Aa2 () (vs:=[_,_]) (Cs:=[]) rfl (.tmp rfl (.tmp rfl .nil)) rfl trivial ?_;refine AbV (.pointer (some ⟨p,0,none⟩)) ?_;refine AbV (.slice a14 (0+s.length) c14) ?_;refine Acl ?_;refine Adl ⟨.inr rfl,fun e=>by omega⟩ ?_;rw[Nat.zero_add,List.nil_append];exact Aa0
def Auh:List Bs→Bs
 | []=>[]
 | x::r=>x++AaM r
def AjR (l:List Bs) (j:Nat):Nat:=((l.take j).map List.length).sum
theorem AeX {l:List Bs} {j:Nat} (h:j<l.length):AjR l (j+1)=AjR l j+(l.getD j []).length:=by
 rw[AjR,AjR,List.take_succ_eq_append_getElem h,List.map_append,List.sum_append];simp[h]
theorem AdL (l:List Bs):(AaM l).length=l.length+AjR l l.length:=by
 simp only[AjR,List.take_length]
 induction l with
 | nil=>rfl
 | cons a l ih=>rw[AbQ,List.length_cons,List.length_append,ih,List.map_cons,List.sum_cons,List.length_cons];omega
theorem Agr {l:List Bs} {j:Nat}:AjR l j≤AjR l l.length:=by
 simp only[AjR,List.take_length]
 conv=>rhs;rw[←List.take_append_drop j l]
 rw[List.map_append,List.sum_append];omega
theorem Amp {l:List Bs} {j:Nat} (h:j<l.length):AaM (l.take (j+1))=AaM (l.take j)++(32::l.getD j []):=by
 rw[List.take_succ_eq_append_getElem h,Agf];simp[AaM,h]
set_option maxHeartbeats 1000000 in
theorem AkO {a:Option Addr} (c:Nat) (x:Bs) (rest:List Bs) (hx:x≠[]) (hl:rest.length≤1073741824) (ht:x.length+(AaM rest).length≤1099511627776) :
    Sp1 Tryz.prog 203 [.slice a (rest.length+1) c,vS [32]] [Row 9 1 (.slice a (rest.length+1) c) (rest.length+1) ((x::rest).map vS)] (vS (Auh (x::rest))) []:=by
 have hp:=List.length_pos_iff.2 hx;obtain⟨l,hll⟩:∃l,l=x::rest:=⟨_,rfl⟩
 have hln:l.length=rest.length+1:=by rw[hll];rfl
 have hal:(AaM l).length=l.length+AjR l l.length:=AdL l;have hal2:(AaM l).length=1+(x.length+(AaM rest).length):=by rw[hll,AbQ,List.length_cons,List.length_append];omega
 rw[←hll];have h0:(l.map vS)[0]?=some (vS x):=by rw[hll];rfl
 have hdr:(l.map vS).drop 1=rest.map vS:=by rw[hll];rfl
 refine Sp.body (n:=75) Tryz.call203 Tryz.func203 rfl rfl rfl ?_;refine Aca (A:=Row 9 1 (.slice a (rest.length+1) c) (rest.length+1) (l.map vS)) HasC.get AbH (fun hk=>?_);obtain⟨hk1,_,hk3⟩:=hk;refine Qc (k:=Vv (k:=Wq (Za (k:=Qc (k:=Qv (k:=Wq (Zb (k:=Za (k:=?_)))))))));refine Zr (k:=Qv (k:=Wq (Zi (t:=fun h13=>?_) (f:=fun h13=>?_))))
 ·
  omega
  --done
 ·
  refine Qc (k:=Qv (k:=Wq (Zi (t:=fun h15=>?_) (f:=fun h15=>?_))))
  ·
   refine Qc (k:=Vv (k:=Ye 1 (m:=0) (k:=?_)));refine AbS Tryz.underlying9 rfl rfl h0 rfl ?_;refine Vv (k:=Wq (Zt (k:=Vb (Va ?_))));have hr:rest=[]:=List.eq_nil_of_length_eq_zero (by omega);refine Aa2 () (vs:=[_]) (Cs:=[]) rfl (.tmp rfl .nil) ?_ trivial Aad;rw[hll,hr,Auh,Aef,List.append_nil];rfl
  ·
   refine Zk (k:=Yb (Ya (Qc (k:=Vv (k:=Wq (Za (k:=Qc (k:=Qv (k:=?_)))))))));refine Vv (k:=Wq (Zi (t:=fun h22=>?_) (f:=fun h22=>?_)))
   ·
    refine Za (k:=Qc (k:=Qv (k:=?_)));rw[show (([32]:Bs).length:Int)=1 from rfl];refine Qv (k:=Qv (k:=Vv (k:=Wq (Zi (t:=fun h29=>?_) (f:=fun h29=>?_)))))
    ·
     have hq:2≤(9223372036854775807:Int) / (((rest.length+1:Nat):Int)-1):=Int.le_ediv_of_mul_le (by omega) (by omega);omega
     --done
    ·
     refine Zk (k:=Ya (Zr (k:=Qv (k:=Vv (k:=?_)))));rw[show (([32]:Bs).length:Int)=1 from rfl];refine Qv (k:=Qv (k:=Qv (k:=Wq (Za (k:=Qc (k:=Qv (k:=?_)))))));refine Vv (k:=Wq (Zb (k:=?_)));refine Aak (fun (i:{ j:Nat // j≤l.length })=>[(0,.slice a (rest.length+1) c),(1,vS [32]),(5,vI ((rest.length+AjR l i.1:Nat):Int)),(39,.slice a (rest.length+1) c),(40,vI ((rest.length+1:Nat):Int)),(41,vI i.1)]) (fun (i:{ j:Nat // j≤l.length })=>[Row 9 1 (.slice a (rest.length+1) c) (rest.length+1) (l.map vS)]) (fun (i:{ j:Nat // j≤l.length })=>l.length-i.1) rfl (⟨0,Nat.zero_le _⟩) ?_ ?_ (fun i=>?_)
     · exact⟨rfl,rfl,AeF (by simp only[AjR,List.take_zero,List.map_nil,List.sum_nil];omega),rfl,rfl,rfl,trivial⟩
     ·
      exact Aa0
     obtain⟨j,hj⟩:=i;dsimp only;have hsj:=Agr (l:=l) (j:=j);try dsimp only
     refine Qc (k:=Vv (k:=Wq (Za (k:=Zi (t:=fun h42=>?_) (f:=fun h42=>?_)))))
     ·
      refine Zk (k:=Ya (Za (k:=Zb (k:=Za (k:=?_)))));have hjl:j<l.length:=by omega
      have hss:=AeX hjl;have hsj1:=Agr (l:=l) (j:=j+1);refine Zr (k:=Ye 1 (k:=Yl (hv:=by exact Aa4 [] hjl) (k:=Vv (k:=Wq (Za (k:=Qc (k:=Qv (k:=Qv (k:=?_)))))))));refine Vv (k:=Wq (Zi (t:=fun h49=>?_) (f:=fun h49=>?_)))
      ·
       omega
       --done
      ·
       refine Zk (k:=Ya (Zr (k:=Qv (k:=Qv (k:=Vv (k:=Wn (Yb (Ya (Zr (k:=?_))))))))));refine Qv (k:=Wn ?_);refine Aa5 ⟨j+1,by omega⟩ (by dsimp only;omega) ⟨rfl,rfl,AeF (by dsimp only;omega),rfl,rfl,rfl,trivial⟩ Aa0
     ·
      refine Ze (k:=Xa (Xi (Xb (Ya (Za (k:=?_))))));have hjl:j=l.length:=by omega
      subst hjl;refine Zr (k:=Zc [.pointer none,.slice none 0 0] (k:=fun b8=>Wq (Qc (k:=Vv (k:=?_)))));refine Aaa (Al7 b8 (rest.length+AjR l l.length) (by omega) (by omega)) rfl rfl rfl ?_;refine Wq (Qc (k:=Vv (k:=Ye 1 (m:=0) (k:=?_))));refine AbS Tryz.underlying9 rfl rfl h0 rfl ?_;refine Aaa (Al5 b8 x hx (by omega)) rfl rfl rfl ?_;refine Wq (Za (k:=Qc (k:=Vv (k:=?_))));refine Aa6 (Acw (m:=1) (kk:=1) Tryz.underlying27 ti9 rfl rfl rfl rfl rfl (by omega) hk1 hk3) rfl ?_;haveI hrd:Abu (Afh a 1 c 1) (rest.map vS) [Row 9 1 (.slice a (rest.length+1) c) (rest.length+1) (l.map vS)]:=⟨⟨_,by rw[←hdr];exact Adn (m:=1) (kk:=1) (Nat.mul_one 1) (by omega),.here⟩⟩
      refine Qv (k:=Wq (Zb (k:=?_)));refine Aak (fun (i:{ j:Nat // j≤rest.length })=>[(1,vS [32]),(8,.pointer (some ⟨b8,0,none⟩)),(63,.slice (Afh a 1 c 1) rest.length (c-1)),(64,vI rest.length),(65,vI i.1)]) (fun (i:{ j:Nat // j≤rest.length })=>[IsB b8 (x++AaM (rest.take i.1)),Row 9 1 (.slice a (rest.length+1) c) (rest.length+1) (l.map vS)]) (fun (i:{ j:Nat // j≤rest.length })=>rest.length-i.1) rfl (⟨0,Nat.zero_le _⟩) ?_ ?_ (fun i=>?_)
      · exact⟨rfl,rfl,rfl,rfl,rfl,trivial⟩
      ·
       dsimp only;rw[List.take_zero,Aef,List.append_nil];exact Aa0
      obtain⟨j,hj⟩:=i;dsimp only;try dsimp only
      refine Qc (k:=Vv (k:=Wq (Za (k:=Zi (t:=fun h66=>?_) (f:=fun h66=>?_)))))
      ·
       refine Zk (k:=Ya (Za (k:=Zb (k:=Za (k:=?_)))));have hjl:j<rest.length:=by omega
       have hat:=Amp hjl;have hlt:(AaM (rest.take (j+1))).length≤(AaM rest).length:=by
        conv=>rhs;rw[←List.take_append_drop (j+1) rest,Agf,List.length_append]
        omega
       have hlt2:=congrArg List.length hat;rw[List.length_append,List.length_cons] at hlt2;refine Zr (k:=?_);refine AaQ (sz:=1) Tryz.underlying27 ti9 rfl rfl rfl rfl (by omega) (by rw[List.length_map];omega) (Nat.mul_one _) rfl ?_;refine Yl (hv:=by exact Aa4 [] hjl) (k:=Vv (k:=Wq (Qc (k:=Vv (k:=?_)))));refine Aaa (AcB b8 (x++AaM (rest.take j)) [32] (by rw[List.length_append,List.length_singleton];omega)) rfl rfl rfl ?_;refine Wq (Zr (k:=Vv (k:=?_)));refine Aaa (AcB b8 (x++AaM (rest.take j)++[32]) (rest.getD j []) (by rw[List.length_append,List.length_append,List.length_singleton];omega)) rfl rfl rfl ?_;refine Wn (Yb (Ya (Zr (k:=Qv (k:=Wn ?_)))));refine Aa5 ⟨j+1,by omega⟩ (by dsimp only;omega) ⟨rfl,rfl,rfl,rfl,rfl,trivial⟩ ?_;dsimp only;rw[hat,show x++(AaM (rest.take j)++32::rest.getD j [])=x++AaM (rest.take j)++[32]++rest.getD j [] from by simp];exact Aa0
      ·
       refine Ze (k:=Xa (Xi (Xb (Ya (Za (k:=?_))))));have hjl:j=rest.length:=by omega
       subst hjl;rw[List.take_length];refine Zr (k:=?_);refine Aaa (Ai4 b8 (x++AaM rest) (by rw[List.length_append];omega)) rfl rfl rfl ?_;refine Vv (k:=Wq (Zt (k:=?_)));refine Aa2 () (vs:=[_]) (Cs:=[]) rfl (.tmp rfl .nil) (by rw[hll];rfl) trivial Aad
   ·
    simp at h22
    --done
end
section
abbrev kn (w:World):Kn:=⟨fun b=>w.heap[b]?,w⟩
abbrev At (w:World) (A:HP):Prop:=A.at_ (kn w) Res.emp
section
variable {H:Type} {enc:TypeId×Value→H} {P:Program} {w:World} {spare:Nat→Bool} {held:Bool} {fuel:Nat} {t e:TypeId} {cs:List Value} {x:DataW H×List MemPlace}
theorem Aro {a:Addr} {v:Value} (h:w.cell? a=some v):∃c T fz,w.heap[a.block]?=some (.cells c T fz)∧a.spot=none∧c[a.off]?=some v:=by
 unfold World.cell? at h;split at h
 · rename_i c T fz hb
   split at h
   · cases h
   · rename_i hs
     refine⟨c,T,fz,hb,?_,h⟩
     cases hq:a.spot with
     | none=>rfl
     | some s=>rw[hq] at hs;simp at hs
 · cases h
theorem Ao9 (a:Addr):a.add 0=a:=rfl
theorem Au7 (ht:P.underlying t=some (.slice e)) (hc:0<P.cellsOf e) (h:DataW.trod enc P w 0 spare held fuel t cs=some x) :
    ∃(a:Option Addr) (n c:Nat) (css:List (List Value)),cs=[.slice a n c]∧css.length=n∧n≤9223372036854775807∧At w (SlI a css.flatten)∧∀u∈css,u.length=P.cellsOf e∧∃m y,DataW.trod enc P w 0 spare held m e u=some y:=by
 rcases DataW.trod_slice ht h with ⟨rfl,_⟩ | ⟨a,len,cap,elems,rest,n,_,rfl,_,hb,hl,hm,hlen,hel,_,_⟩
 · exact⟨none,0,0,[],rfl,rfl,by omega,.inl rfl,by simp⟩
 · have hsz:∃sz,P.cellsOf e=sz:=⟨_,rfl⟩
   obtain⟨sz,hsz⟩:=hsz;rw[hsz] at hel hc
   let f:Nat→List Value:=fun i=>(List.range sz).map fun j=>(w.cell? ((a.add (i * sz)).add j)).getD undef
   have hf:∀i,(f i).length=sz:=fun i=>by simp[f]
   have key:∀i,i<len→w.cells? 0 (a.add (i * sz)) sz=some (f i)∧(∃y,DataW.trod enc P w 0 spare held n e (f i)=some y)∧∀j,j<sz→w.cell? ((a.add (i * sz)).add j)=(f i)[j]?:=by
    intro i hi;have h1:=hel i hi;have h2:elems[i]?=some elems[i]:=List.getElem?_eq_getElem (by omega);rw[h2,Option.bind_eq_some_iff] at h1;obtain⟨u,hu,hy⟩:=h1;obtain⟨_,hul,huc⟩:=World.cells?_some hu;have e1:u=f i:=by
     apply List.ext_getElem?;intro j;by_cases hj:j<sz
     · have h3:=huc j hj
       have h4:u[j]?=some (u[j]'(by omega)):=List.getElem?_eq_getElem (by omega);simp only[f,List.getElem?_map,List.getElem?_range hj,Option.map_some,h3,h4,Option.getD_some]
     · rw[List.getElem?_eq_none (by omega),List.getElem?_eq_none (by rw[hf];omega)]
    subst e1;exact⟨hu,⟨_,hy⟩,huc⟩
   have hm':len≤9223372036854775807:=by
    have:maxLen=9223372036854775807:=by decide
    omega
   refine⟨some a,len,cap,(List.range len).map f,rfl,by simp,hm',?_,?_⟩
   · by_cases h0:len=0
     · subst h0;exact .inl rfl
     · right
       have c0:=(key 0 (by omega)).2.2 0 hc;have c1:(f 0)[0]?=some ((f 0)[0]'(by rw[hf];exact hc)):=List.getElem?_eq_getElem _;rw[c1,Nat.zero_mul,Ao9,Ao9] at c0;obtain⟨c,T,fz,hblk,hsp,_⟩:=Aro c0;obtain⟨g,off,sp⟩:=a;dsimp only at hsp hblk;subst hsp;refine⟨g,off,c.toList,T,fz,rfl,by simpa using hblk,?_⟩;apply List.ext_getElem?;intro k;have hfl:((List.range len).map f).flatten=(List.range len).flatMap f:=by rw[List.flatMap_def]
       rw[hfl];have hlenf:((List.range len).flatMap f).length=len * sz:=by rw[Aaj hf,List.length_range]
       rw[hlenf];by_cases hk:k<len * sz
       · have hi:k / sz<len:=Nat.div_lt_of_lt_mul (by rw[Nat.mul_comm];exact hk)
         have hj:k % sz<sz:=Nat.mod_lt _ hc;have hkk:k / sz * sz+k % sz=k:=by rw[Nat.mul_comm];exact Nat.div_add_mod k sz
         have h3:=Ab1 (f:=f) (sz:=sz) hf (l:=List.range len) (m:=k / sz) (by simpa using hi);have h4:((List.range len).flatMap f)[k]?=(f (k / sz))[k % sz]?:=by
          have:=congrArg (fun l=>l[k % sz]?) h3;simp only[List.getElem?_take,hj,if_true,List.getElem?_drop,hkk,List.getElem_range] at this;exact this
         have h5:=(key (k / sz) hi).2.2 (k % sz) hj;rw[h4,←h5,List.getElem?_take_of_lt hk,List.getElem?_drop,Abz,Abz];simp only[World.cell?,hblk];have e5:off+k / sz * sz+k % sz=off+k:=by omega
         simp[e5]
       · rw[List.getElem?_eq_none (by rw[List.length_take];omega),List.getElem?_eq_none (by omega)]
   · intro u hu
     simp only[List.mem_map,List.mem_range] at hu;obtain⟨i,hi,rfl⟩:=hu;refine⟨by rw[hf,hsz],n,(key i hi).2.1⟩
theorem Abp {fs:Array Field} (ht:P.underlying t=some (.struct fs)) (h:DataW.trod enc P w 0 spare held fuel t cs=some x) (i ft off sz:Nat) (hf:(fs[i]?).map (fun f=>(f.type,f.offset))=some (ft,off)) (hs:P.cellsOf ft=sz) :
    ∃m y,DataW.trod enc P w 0 spare held m ft ((cs.drop off).take sz)=some y:=by
 obtain⟨xs,n,_,_,_,hl,hx⟩:=DataW.trod_struct ht h
 cases hfi:fs[i]? with
 | none=>rw[hfi] at hf;cases hf
 | some f =>
   rw[hfi] at hf;simp only[Option.map_some,Option.some.injEq,Prod.mk.injEq] at hf;obtain⟨rfl,rfl⟩:=hf;have h1:=hx i f hfi;have hi:=(Array.getElem?_eq_some_iff.1 hfi).1;rw[List.getElem?_eq_getElem (by omega)] at h1;rw[←hs];exact⟨n,_,h1⟩
theorem AoK {fs:Array Field} (ht:P.underlying t=some (.struct fs)) (h:DataW.trod enc P w 0 spare held fuel t cs=some x):cs.length=P.cellsOf t:=by
 obtain⟨xs,n,_,_,hl,_⟩:=DataW.trod_struct ht h;exact hl
theorem Aq7 {α:Type} {f:α→List Value} {css:List (List Value)} (h:∀u∈css,∃a,u=f a):∃l:List α,css=l.map f:=by
 induction css with
 | nil=>exact⟨[],rfl⟩
 | cons u r ih =>
   obtain⟨a,rfl⟩:=h u (by simp);obtain⟨l,rfl⟩:=ih fun v hv=>h v (by simp[hv]);exact⟨a::l,rfl⟩
theorem ArX {α:Type} (f:α→List Value) (φ:α→Prop) (ht:P.underlying t=some (.slice e)) (hc:0<P.cellsOf e)
    (hel:∀{u:List Value} {m:Nat} {y:DataW H×List MemPlace},u.length=P.cellsOf e→DataW.trod enc P w 0 spare held m e u=some y→∃a,u=f a∧φ a) (h:DataW.trod enc P w 0 spare held fuel t cs=some x) :
    ∃(a:Option Addr) (c:Nat) (l:List α),cs=[.slice a l.length c]∧l.length≤9223372036854775807∧At w (SlI a (l.flatMap f))∧∀z∈l,φ z:=by
 obtain⟨a,n,c,css,rfl,hn,hm,hs,hu⟩:=Au7 ht hc h;have:∃l:List { a:α // φ a },css=l.map fun a=>f a.1:=Aq7 fun u hu'=>by
  obtain⟨hl,m,y,hy⟩:=hu u hu';obtain⟨z,hz,hp⟩:=hel hl hy;exact⟨⟨z,hp⟩,hz⟩
 obtain⟨l,rfl⟩:=this;refine⟨a,c,l.map (·.1),?_,?_,?_,?_⟩
 · rw[←hn];simp
 · simp at hn ⊢;omega
 · have e1:(l.map fun a=>f a.1).flatten=(l.map (·.1)).flatMap f:=by simp[List.flatMap_def,Function.comp_def]
   rw[←e1];exact hs
 · intro z hz
   simp only[List.mem_map] at hz;obtain⟨q,_,rfl⟩:=hz;exact q.2
theorem Aur {α:Type} (f:α→Value) (l:List α):l.flatMap (fun a=>[f a])=l.map f:=by
 induction l with
 | nil=>rfl
 | cons a r ih=>simp[ih]
theorem Avo {k:IntKind} (ht:P.underlying t=some (.slice e)) (he:P.underlying e=some (.int k)) (hc:0<P.cellsOf e) (h:DataW.trod enc P w 0 spare held fuel t cs=some x) :
    ∃(a:Option Addr) (c:Nat) (l:List Int),cs=[.slice a l.length c]∧l.length≤9223372036854775807∧At w (SlI a (l.map (.int k)))∧∀z∈l,(Lit.int k z).wf=true:=by
 have:=ArX (fun z:Int=>[.int k z]) (fun z=>(Lit.int k z).wf=true) ht hc (fun _ hy=>by
  obtain⟨n,hn,_,hw⟩:=DataW.trod_int he hy;exact⟨n,hn,hw⟩) h
 simpa only [Aur] using this
end
theorem Awa {n:Int} (h:(Lit.int .i64 n).wf=true):-9223372036854775808≤n∧n≤9223372036854775807:=by
 simp[Lit.wf] at h;have e1:IntKind.i64.min = -9223372036854775808:=by decide
 have e2:IntKind.i64.max=9223372036854775807:=by decide
 omega
theorem Apv {w:World}:∀{As:List HP},(∀A∈As,At w A)→SL As (kn w) Res.emp
 | [],_=>trivial
 | A::r,h=>⟨Res.emp,Res.emp,Res.emp_dj _,rfl,h A (by simp),Apv fun B hB=>h B (by simp[hB])⟩
end
section
set_option maxRecDepth 100000
structure CdV where
 l:UInt8
 a:Option Addr
 c:Nat
 args:List Bs
def CdV.cells (q:CdV):List Value:=[vU q.l.toNat,.slice q.a q.args.length q.c]
def CdV.cd (q:CdV):Cd:=⟨q.l,q.args⟩
def Aa3 (qs:List CdV):List Cd:=qs.map CdV.cd
def CdM (qs:List CdV):HP:=⟨fun M _=>∀q∈qs,(SlI q.a (q.args.map vS)).at_ M Res.emp∧q.args.length≤q.c,fun le h q hq=>⟨(SlI q.a (q.args.map vS)).mono le (h q hq).1,(h q hq).2⟩⟩
theorem Asa {qs:List CdV} {M:Kn} {h:Res} (x:(CdM qs).at_ M h):∀q∈qs,q.args.length≤q.c:=fun q hq=>(x q hq).2
theorem CdM.pers (qs:List CdV):AhI (CdM qs):=fun e=>e
instance {qs:List CdV}:PersC (CdM qs):=⟨CdM.pers qs⟩
theorem Aea {qs:List CdV} {q:CdV} {Hs:List HP} (h:q∈qs) (hp:Has (CdM qs) Hs):Ent Hs (SlI q.a (q.args.map vS)::Hs):=⟨fun {M g} s=>by
 obtain⟨h1,_,a⟩:=hp.sat s;exact⟨Res.emp,g,Res.emp_dj _,rfl,(a q h).1,s⟩⟩
theorem ent_cdm_nil {Hs:List HP}:Ent Hs (CdM []::Hs):=⟨fun {M g} s=>⟨Res.emp,g,Res.emp_dj _,rfl,(fun q hq=>by cases hq),s⟩⟩
theorem AbG {qs:List CdV} {q:CdV} {Hs:List HP} (hp:Has (CdM qs) Hs) (hq:Has (SlI q.a (q.args.map vS)) Hs) (hc:q.args.length≤q.c):Ent Hs (CdM (qs++[q])::Hs):=⟨fun {M g} s=>by
 obtain⟨h1,_,a⟩:=hp.sat s;obtain⟨h2,_,b⟩:=hq.sat s;refine⟨Res.emp,g,Res.emp_dj _,rfl,fun x hx=>?_,s⟩;rcases List.mem_append.1 hx with hx | hx
 · exact a x hx
 · rw[List.mem_singleton.1 hx];exact⟨b,hc⟩⟩
theorem AbY {qs rs:List CdV} {Hs:List HP} (hp:Has (CdM qs) Hs) (hq:Has (CdM rs) Hs):Ent Hs (CdM (qs++rs)::Hs):=⟨fun {M g} s=>by
 obtain⟨h1,_,a⟩:=hp.sat s;obtain⟨h2,_,b⟩:=hq.sat s;refine⟨Res.emp,g,Res.emp_dj _,rfl,fun x hx=>?_,s⟩;rcases List.mem_append.1 hx with hx | hx
 · exact a x hx
 · exact b x hx⟩
theorem Af1 {α:Type} {f:α→List Value} {sz:Nat} (hf:∀x,(f x).length=sz) {l:List α} {m k:Nat} (hk:k<sz) (h:m<l.length):(l.flatMap f)[m * sz+k]?=(f l[m])[k]?:=by
 rw[←Ab1 hf h,List.getElem?_take_of_lt hk,List.getElem?_drop]
theorem Ajz {qs:List CdV} {j:Nat} (h:j<qs.length):(qs.flatMap CdV.cells)[2 * j]?=some (vU (qs[j].l.toNat:Int))∧(qs.flatMap CdV.cells)[2 * j+1]?=some (.slice qs[j].a qs[j].args.length qs[j].c):=by
 constructor
 · have:=Af1 (f:=CdV.cells) (sz:=2) (fun _=>rfl) (k:=0) (by decide) h;rw[Nat.mul_comm];exact this
 · have:=Af1 (f:=CdV.cells) (sz:=2) (fun _=>rfl) (k:=1) (by decide) h;rw[Nat.mul_comm];exact this
theorem AkP {B:HP} {a:Option Addr} (n c:Nat) (l:List Bs) (x:Bs) (sh:SlA B a (l.map vS)) (hn:l.length=n) (hb:n≤140737488355328) :
    Sp Tryz.prog 243 [.slice a n c,vS x] [B] (X:=Int) (fun i=>vI i) (fun i=>(0≤i↔x∈l)) (fun _=>[B]):=by
 subst hn;haveI:Abu a (l.map vS) [B]:=⟨⟨B,sh,.here⟩⟩
 refine Sp.body (n:=19) Tryz.call243 Tryz.func243 rfl rfl rfl ?_;refine Qc (k:=Vv (k:=Wq (Za (k:=Qc (k:=Qv (k:=Vv (k:=Wq (Zb (k:=?_)))))))));refine Aak (fun (i:{ j:Nat // j≤l.length∧x∉l.take j })=>[(0,.slice a l.length c),(1,vS x),(6,.slice a l.length c),(7,vI l.length),(8,vI i.1)]) (fun (i:{ j:Nat // j≤l.length∧x∉l.take j })=>[B]) (fun (i:{ j:Nat // j≤l.length∧x∉l.take j })=>l.length-i.1) rfl (⟨0,Nat.zero_le _,by simp⟩) ?_ ?_ (fun i=>?_)
 · exact⟨rfl,rfl,rfl,rfl,rfl,trivial⟩
 ·
  exact Aa0
 obtain⟨j,hj,hx⟩:=i;dsimp only;try dsimp only
 refine Qc (k:=Vv (k:=Wq (Za (k:=Zi (t:=fun h9=>?_) (f:=fun h9=>?_)))))
 ·
  refine Zk (k:=Ya (Za (k:=Zb (k:=Qc (k:=Qv (k:=Wq (Za (k:=?_))))))));have hjl:j<l.length:=by omega
  have hg:l.getD j []=l[j]:=by simp[hjl]
  refine Zr (k:=Qv (k:=Vv (k:=Ye 1 (k:=Yl (hv:=by exact Aa4 [] hjl) (k:=Vv (k:=Wq (Zi (t:=fun h16=>?_) (f:=fun h16=>?_))))))))
  ·
   refine Qc (k:=Qv (k:=Wq (Zt (k:=Vb (Va (Vi (Vb (Va ?_))))))));refine Aa2 (j:Int) (vs:=[_]) (Cs:=[]) rfl (.tmp rfl .nil) rfl ⟨fun _=>?_,fun _=>by omega⟩ Aa0;have:x=l[j]:=by rw[←hg];simpa using h16
   rw[this];exact List.getElem_mem _
  ·
   refine Zk (k:=Yb (Ya (Zr (k:=Qv (k:=Wn ?_)))));refine Aa5 ⟨j+1,by omega,?_⟩ (by dsimp only;omega) ⟨rfl,rfl,rfl,rfl,rfl,trivial⟩ Aa0;rw[List.take_succ_eq_append_getElem hjl];simp only[List.mem_append,List.mem_singleton,not_or];exact⟨hx,fun e=>h16 (by rw[hg,e])⟩
 ·
  refine Ze (k:=Xa (Xi (Xb (Ya (Qc (k:=Vv (k:=Wq (Zt (k:=?_)))))))));refine Aa2 (-1) (vs:=[_]) (Cs:=[]) rfl (.tmp rfl .nil) rfl ⟨fun h=>by omega,fun h=>?_⟩ Aa0;rw[List.take_of_length_le (by omega)] at hx;exact absurd h hx
theorem AiC {B:HP} {a:Option Addr} (n c:Nat) (l:List Bs) (x:Bs) (sh:SlA B a (l.map vS)) (hn:l.length=n) (hb:n≤140737488355328) :
    Sp1 Tryz.prog 230 [.slice a n c,vS x] [B] (vB (decide (x∈l))) [B]:=by
 refine Sp.body (n:=9) Tryz.call230 Tryz.func230 rfl rfl rfl ?_;refine Qc (k:=Vv (k:=Wq (Qc (k:=Qv (k:=?_)))));refine Aaq (AkP n c l x sh hn hb) rfl rfl rfl (fun i hi=>?_);refine Qv (k:=Wq (Zt (k:=?_)));refine Aa2 () (vs:=[_]) (Cs:=[]) rfl (.tmp rfl .nil) ?_ trivial Aa0;rw[←decide_eq_decide.2 hi];rfl
theorem AiR (a:Option Addr) (n cap:Nat) (c:UInt8):Sp Tryz.prog 111 [.slice a n cap,vU c.toNat] [] (X:=Nat×Nat) (fun b=>.func (.func 160) #[] #[.pointer (some ⟨b.1,0,none⟩),.pointer (some ⟨b.2,0,none⟩)]) (fun _=>True) (fun b=>[Ce b.1 170 [.slice a n cap],Ce b.2 5 [vU c.toNat]]):=by
 refine Sp.body (n:=6) Tryz.call111 Tryz.func111 rfl rfl rfl ?_;refine Qc (k:=Zx [_] (k:=fun b2=>Zx [_] (k:=fun b3=>Vv (k:=Wq (Qc (k:=Qv (k:=Wq (Zt (k:=?_)))))))));refine Aa2 (b2,b3) (vs:=[_]) (Cs:=[]) rfl (.tmp rfl .nil) rfl trivial ?_;exact Aa0
def ofL (c:UInt8):List CdV→Nat→List (Nat×CdV)
 | [],_=>[]
 | q::r,i=>if q.l=c then (i,q)::ofL c r (i+1) else ofL c r (i+1)
theorem ArW (c:UInt8) (l m:List CdV) (i:Nat):ofL c (l++m) i=ofL c l i++ofL c m (i+l.length):=by
 induction l generalizing i with
 | nil=>rfl
 | cons q l ih =>
   simp only[List.cons_append,ofL,ih,List.length_cons,show i+1+l.length=i+(l.length+1) from by omega];split<;>simp
theorem Au5 {c:UInt8} {qs:List CdV} {j:Nat} (h:j<qs.length):ofL c (qs.take (j+1)) 0=ofL c (qs.take j) 0++(if qs[j].l=c then [(j,qs[j])] else []):=by
 rw[List.take_succ_eq_append_getElem h,ArW,List.length_take];have:0+min j qs.length=j:=by omega
 rw[this];simp only[ofL]
theorem Ala {c:UInt8} {qs:List CdV} {i:Nat} {p:Nat×CdV} (h:p∈ofL c qs i):p.2∈qs∧p.2.l=c:=by
 induction qs generalizing i with
 | nil=>cases h
 | cons q r ih =>
   simp only[ofL] at h;split at h
   · rcases List.mem_cons.1 h with rfl | h
     · rename_i e;exact⟨by simp,e⟩
     · have:=ih h;exact⟨by simp[this.1],this.2⟩
   · have:=ih h;exact⟨by simp[this.1],this.2⟩
theorem Au6 {c:UInt8} (qs:List CdV) (i:Nat):(ofL c qs i).map (fun p=>p.2.args)=((Aa3 qs).filter (fun x=>x.l=c)).map (·.args):=by
 induction qs generalizing i with
 | nil=>rfl
 | cons q r ih =>
   simp only[ofL,Aa3,List.map_cons,List.filter_cons];have e:q.cd.l=q.l:=rfl;by_cases h:q.l=c
   · rw[if_pos h,e,if_pos (by simp[h]),List.map_cons,List.map_cons,ih];rfl
   · rw[if_neg h,e,if_neg (by simp[h]),ih];rfl
abbrev okO (c:UInt8) (qs:List CdV):List (Nat×CdV)→Nat×CdV→Prop:=fun pre x=>∃r,ofL c qs 0=pre++x::r
abbrev Axd (c:UInt8) (qs:List CdV):List (Nat×CdV)→Prop:=fun pre=>∃r,ofL c qs 0=pre++r
abbrev AwS (p:Nat×CdV):List Value:=[vI p.1,.slice p.2.a p.2.args.length p.2.c]
theorem AsD {c:UInt8} {qs:List CdV} {j:Nat} (h:j<qs.length):∃r,ofL c qs 0=ofL c (qs.take (j+1)) 0++r:=by
 conv=>enter [1,r,1];rw[←List.take_append_drop (j+1) qs,ArW]
 exact⟨_,rfl⟩
theorem Als {G:Prop} (h:G:=by
    refine Aa5 ⟨j+1,by omega⟩ (by dsimp only;omega) ⟨rfl,rfl,rfl,rfl,rfl,rfl,trivial⟩ ?_;dsimp only;rw[htk];exact Aa0):G:=h
theorem AiS {B:HP} {a:Option Addr} (n cap b2 b3:Nat) (qs:List CdV) (c:UInt8) (sh:SlA B a (qs.flatMap CdV.cells)) (hn:qs.length=n) (hb:n≤140737488355328) :
    Iter Tryz.prog 160 [.pointer (some ⟨b2,0,none⟩),.pointer (some ⟨b3,0,none⟩)] AwS (okO c qs) (Axd c qs) [Ce b2 170 [.slice a n cap],Ce b3 5 [vU c.toNat],B] [Ce b2 170 [.slice a n cap],Ce b3 5 [vU c.toNat],B] (ofL c qs 0) (fun _=>.tuple #[]):=by
 intro y J Jx ys;subst hn;haveI:Abu a (qs.flatMap CdV.cells) [B]:=⟨⟨B,sh,.here⟩⟩
 refine Sp.body (n:=26) Tryz.call160 Tryz.func160 rfl rfl rfl ?_;refine Qc (k:=Zd (k:=Qv (k:=Wq (Zb (k:=?_)))));refine Aak (fun (i:{ j:Nat // j≤qs.length })=>[(0,y),(1,.pointer (some ⟨b2,0,none⟩)),(2,.pointer (some ⟨b3,0,none⟩)),(6,.slice a qs.length cap),(7,vI qs.length),(8,vI i.1)]) (fun (i:{ j:Nat // j≤qs.length })=>[J (ofL c (qs.take i.1) 0),Ce b2 170 [.slice a qs.length cap],Ce b3 5 [vU c.toNat],B]) (fun (i:{ j:Nat // j≤qs.length })=>qs.length-i.1) rfl (⟨0,Nat.zero_le _⟩) ?_ ?_ (fun i=>?_)
 · exact⟨rfl,rfl,rfl,rfl,rfl,rfl,trivial⟩
 ·
  exact Ent.refl _
 obtain⟨j,hj⟩:=i;dsimp only;try dsimp only
 refine Qc (k:=Vv (k:=Wq (Za (k:=Zi (t:=fun h9=>?_) (f:=fun h9=>?_)))))
 ·
  refine Zk (k:=Ya (Za (k:=Zb (k:=Za (k:=?_)))));have hjl:j<qs.length:=by omega
  have htk:=Au5 (c:=c) hjl;obtain⟨rr,hrr⟩:=AsD (c:=c) hjl;refine Zr (k:=Vv (k:=Ye 2 (k:=?_)));refine Abb (vs:=[_,_]) (sz:=2) Tryz.underlying220 rfl Adi rfl rfl (by rw[Aaj (sz:=2) (fun _=>rfl)];omega) rfl (by refine Ab1 (fun x=>?_) ?_<;>first | rfl | omega) rfl ?_;refine Zc [.int .u8 0,.slice none 0 0] (k:=fun b5=>Vv (k:=Zp (k:=Wq (Qc (k:=Qx 0 5 (k:=Zd (k:=Qv (k:=Gi 4 (t:=fun h17=>?_) (f:=fun h17=>?_)))))))))
  ·
   have hlc:qs[j].l=c:=u8eq.2 (by omega);rw[if_pos hlc] at htk;refine J1 (k:=J1 (k:=I1 (k:=Vf 1 27 (k:=I1 (k:=Zd (k:=I1 (k:=?_)))))));refine Ajh ys (ofL c (qs.take j) 0) (j,qs[j]) ⟨rr,by rw[hrr,htk,List.append_assoc];rfl⟩ rfl rfl rfl ?_ ?_
   ·
    refine J1 (k:=P1 (k:=Wq (Z0 (k:=Zk (k:=Yb (Ya (Zr (k:=Qv (k:=Wn ?_)))))))));exact Als
   ·
    refine J1 (k:=P1 (k:=Wq (Z1 (k:=Zt (k:=Vb (Va (Vi (Vb ?_))))))));refine Aa2 (some (ofL c (qs.take (j+1)) 0)) (vs:=[]) (Cs:=[]) rfl .nil rfl (fun p e=>by cases e;exact⟨rr,hrr⟩) ?_;simp only[Acz];rw[htk];exact Aa0
  ·
   have hlc:¬qs[j].l=c:=fun e=>h17 (by rw[e]);rw[if_neg hlc,List.append_nil] at htk;refine O0 (k:=O0 (k:=O0 (k:=O0 (k:=O0 (k:=O0 (k:=P0 (k:=Wq (Z0 (k:=Zk (k:=Yb (Ya ?_)))))))))));refine Zr (k:=Qv (k:=Wn ?_));exact Als
 ·
  refine Ze (k:=Xa (Xi (Xb ?_)));have hjl:j=qs.length:=by omega
  subst hjl;rw[List.take_length];refine Acr none (vs:=[]) (Cs:=[]) rfl .nil rfl (fun pre e=>by cases e) ?_;simp only[Acz];exact Aa0
def Aq0 (l:List (Nat×CdV)):Value:=match l with
 | []=>.slice none 0 0
 | p::_=>.slice p.2.a p.2.args.length p.2.c
theorem AkH {B:HP} {a:Option Addr} (n cap:Nat) (qs:List CdV) (c:UInt8) (sh:SlA B a (qs.flatMap CdV.cells)) (hn:qs.length=n) (hb:n≤140737488355328) :
    Sp1 Tryz.prog 112 [.slice a n cap,vU c.toNat] [B] (.tuple #[Aq0 (ofL c qs 0),vI (ofL c qs 0).length]) [B]:=by
 have hle:∀(l:List CdV) i,(ofL c l i).length≤l.length:=by
  intro l
  induction l with
  | nil=>intro i;exact Nat.le_refl _
  | cons q r ih=>intro i;have:=ih (i+1);simp only[ofL,List.length_cons];split<;>(try simp only[List.length_cons])<;>omega
 have hl0:=hle qs 0;refine Sp.body (n:=22) Tryz.call112 Tryz.func112 rfl rfl rfl ?_;refine Qc (k:=Qv (k:=Wq (Qc (k:=Zc [.slice none 0 0] (k:=fun b6=>Wq (Qc (k:=Zc [.int .i64 0] (k:=fun b7=>?_))))))));refine Zo (k:=Wq (Za (k:=Qc (k:=Qv (k:=?_)))));refine Aaq (AiR a n cap c) rfl rfl rfl (fun x12 _=>?_);refine Wq (Zb (k:=?_));refine AfC (fun pre=>[Ce b6 27 [Aq0 pre],Ce b7 3 [vI pre.length]]) (fun j pre=>[Pu False]) rfl (AiS n cap x12.1 x12.2 qs c sh hn hb) rfl (fun _=>by rfl) rfl ?_ (fun l pre q hok=>?_) ?_ (fun j pre hs=>?_)
 · (refine AdR ?_;exact Aac (AaH (by rfl) (by rfl)) (Aac (AaH (by rfl) (by rfl)) Aa0))
 ·
  obtain⟨rr,hrr⟩:=hok;have hpl:=congrArg List.length hrr;rw[List.length_append,List.length_cons] at hpl;refine Zr (k:=Vv (k:=Wg (Zb (k:=Za (k:=Qc (k:=Zd (k:=Vv (k:=Wq (Zi (t:=fun h16=>?_) (f:=fun h16=>?_))))))))))
  ·
   have hp0:pre=[]:=List.eq_nil_of_length_eq_zero (by omega);have e1:Aq0 (pre++[q])=.slice q.2.a q.2.args.length q.2.c:=by rw[hp0];rfl
   refine Zr (k:=Vv (k:=Zo (k:=Wq (Zr (k:=Zd (k:=Vv (k:=Zo (k:=Wn (Yb ?_)))))))));refine AaV ?_;rw[e1,List.length_append,List.length_singleton];exact Aac (AaH (by rfl) (by rfl)) (Aac (AaH (by rfl) (by rfl)) Aad)
  ·
   have e1:Aq0 (pre++[q])=Aq0 pre:=by
    cases pre with
    | nil=>simp at h16
    | cons p r=>rfl
   refine Zk (k:=Ya (Zr (k:=Zd (k:=Vv (k:=Zo (k:=Wn (Yb ?_)))))));refine AaV ?_;rw[e1,List.length_append,List.length_singleton];exact Aac (AaH (by rfl) (by rfl)) (Aac (AaH (by rfl) (by rfl)) Aad)
 ·
  skip
  refine Yb (Ya (Za (k:=Dw [Ce b6 27 [Aq0 (ofL c qs 0)],Ce b7 3 [vI (ofL c qs 0).length]] (k:=?_))));refine Di 0 (t:=Ul) (k:=Di 1 (t:=Ul) (k:=Dv 2 (k:=Dv 3 (k:=Dd (k:=Ya (Zt (k:=?_)))))));refine Aa2 () (vs:=[_,_]) (Cs:=[]) rfl (.tmp rfl (.tmp rfl .nil)) rfl trivial ?_;exact Aa0
 ·
  exact AfS (fun s=>by obtain⟨_,_,_,_,a,_⟩:=s;exact a)
end
section
set_option maxRecDepth 100000
theorem AhA (s:Bs) (hs:s.length≤1099511627776):SpF Tryz.prog 152 [vS s] (vS (Afw s)):=by
 have h40:=Aeq s;refine Sp.body (n:=9) Tryz.call152 Tryz.func152 rfl rfl rfl ?_;refine Qc (k:=Vv (k:=Wq (Qc (k:=Qv (k:=Vv (k:=?_))))));refine Aag (Aqb s hs) rfl rfl rfl ?_;refine Qv (k:=Vv (k:=Wq (Zt (k:=?_))));refine Aa2 () (vs:=[_]) (Cs:=[]) rfl (.tmp rfl .nil) ?_ trivial Aad;rfl
theorem Aqs (l:List Bs):l.length≤(AaM l).length:=by rw[AdL];omega
theorem AhC:∀(l:List Cd),l.length≤(Aav l).length∧∀c∈l,(AaM c.args).length+2≤(Aav l).length:=by
 intro l
 induction l with
 | nil=>exact⟨Nat.zero_le _,fun c hc=>by cases hc⟩
 | cons c l ih =>
   rw[Ac8,List.length_append,List.length_cons,List.length_cons];have e:(AbN c).length=(AaM c.args).length+1:=by simp[AbN]
   refine⟨by omega,fun x hx=>?_⟩;rcases List.mem_cons.1 hx with rfl | hx
   · omega
   · have:=ih.2 x hx;omega
theorem AcO {qs:List CdV} {N:Nat} (h:(Aav (Aa3 qs)).length≤N):qs.length≤N∧∀q∈qs,(AaM q.args).length≤N∧q.args.length≤N:=by
 obtain⟨h1,h2⟩:=AhC (Aa3 qs);have e0:(Aa3 qs).length=qs.length:=by simp[Aa3]
 rw[e0] at h1;refine⟨by omega,fun q hq=>?_⟩;have h3:=h2 q.cd (List.mem_map.2 ⟨q,hq,rfl⟩);have h4:=Aqs q.args;have e:q.cd.args=q.args:=rfl;rw[e] at h3;omega
theorem Adq {qs:List CdV} {j:Nat} (h:j<qs.length):(Aa3 qs).getD j cd0=qs[j].cd:=by simp[Aa3,h]
theorem AjJ {G:Prop} (h:G:=by
    have hn:¬OkC l j:=fun ok=>by
     have h1:=ok.lo;have h2:=ok.hi;have h3:=ok.rise
     first
     | omega
     | (have h4:=h3 (by omega);omega)
    refine Aa2 () (vs:=[_]) (Cs:=[]) rfl (.tmp rfl .nil) ?_ trivial Aa0;rw[decide_eq_false (AnD (by omega) hn)];rfl):G:=h
theorem Ae1 {G:Prop} (h:G:=by
    have hn:¬OkC l j:=fun ok=>by
     obtain⟨o1,o2,o3⟩:=ok.args x hxm;simp_all
    refine Aa2 () (vs:=[_]) (Cs:=[]) rfl (.tmp rfl .nil) ?_ trivial Aa0;rw[decide_eq_false (AnD (by omega) hn)];rfl):G:=h
theorem Alo {G:Prop} (h:G:=by
    have hxo:AbZ x:=by
     refine⟨?_,?_,?_⟩<;>simp_all
    refine Aa5 ⟨m+1,by omega,fun i hi=>?_⟩ (by dsimp only;omega) ⟨rfl,rfl,rfl,rfl,rfl,rfl,rfl,trivial⟩ Aa0;by_cases he:i=m
    · rw[he,←hx];exact hxo
    · exact hma i (by omega)):G:=h
theorem Alp {G:Prop} (h:G:=by
    have hokj:OkC l j:=by
     refine⟨by omega,by omega,fun h=>by omega,fun x hx=>?_⟩;rw[hlj,←hq] at hx;obtain⟨i,hi,rfl⟩:=Aby (d:=[]) (show x∈q.args from hx);exact hma i (by omega)
    refine Aa5 ⟨j+1,by omega,fun i hi=>?_⟩ (by dsimp only;omega) ⟨rfl,rfl,rfl,rfl,trivial⟩ Aa0;by_cases he:i=j
    · rw[he];exact hokj
    · exact hok i (by omega)):G:=h
set_option maxHeartbeats 1000000 in
theorem AmY {B:HP} {a:Option Addr} (n cap:Nat) (qs:List CdV) (sh:SlA B a (qs.flatMap CdV.cells)) (hn:qs.length=n) (hz:(Aav (Aa3 qs)).length≤1073741824) :
    Sp1 Tryz.prog 201 [.slice a n cap] [B,CdM qs] (vB (decide (RightC (Aa3 qs)))) [B]:=by
 subst hn;obtain⟨hb,hqa⟩:=AcO hz;haveI:Abu a (qs.flatMap CdV.cells) [B,CdM qs]:=⟨⟨B,sh,.here⟩⟩
 haveI:Abu a (qs.flatMap CdV.cells) [B]:=⟨⟨B,sh,.here⟩⟩
 obtain⟨l,hl⟩:∃l,l=Aa3 qs:=⟨_,rfl⟩
 have hll:l.length=qs.length:=by rw[hl];simp[Aa3]
 rw[←hl];refine Sp.body (n:=59) Tryz.call201 Tryz.func201 rfl rfl rfl ?_;refine Qc (k:=Vv (k:=Wq (Za (k:=Qc (k:=Qv (k:=Vv (k:=Wq (Zb (k:=?_)))))))));refine Aak (fun (i:{ j:Nat // j≤qs.length∧∀i,i<j→OkC l i })=>[(0,.slice a qs.length cap),(7,.slice a qs.length cap),(8,vI qs.length),(9,vI i.1)]) (fun (i:{ j:Nat // j≤qs.length∧∀i,i<j→OkC l i })=>[B,CdM qs]) (fun (i:{ j:Nat // j≤qs.length∧∀i,i<j→OkC l i })=>qs.length-i.1) rfl (⟨0,Nat.zero_le _,fun i h=>by omega⟩) ?_ ?_ (fun i=>?_)
 · exact⟨rfl,rfl,rfl,rfl,trivial⟩
 ·
  exact Aa0
 obtain⟨j,hj,hok⟩:=i;dsimp only;try dsimp only
 refine Qc (k:=Vv (k:=Wq (Za (k:=Zi (t:=fun h10=>?_) (f:=fun h10=>?_)))))
 ·
  refine Zk (k:=Ya (Za (k:=Zb (k:=Za (k:=?_)))));have hjl:j<qs.length:=by omega
  have hlj:l.getD j cd0=qs[j].cd:=by rw[hl];exact Adq hjl
  have hll1:(l.getD j cd0).l.toNat=qs[j].l.toNat:=by rw[hlj];rfl
  have hfl:(qs.flatMap CdV.cells).length=qs.length * 2:=Aaj (f:=CdV.cells) (sz:=2) (fun _=>rfl) qs;refine Zr (k:=Vv (k:=Ye 2 (k:=?_)));refine Abb (vs:=[_,_]) (sz:=2) Tryz.underlying220 rfl Adi rfl rfl (by rw[Aaj (sz:=2) (fun _=>rfl)];omega) rfl (by refine Ab1 (fun x=>?_) ?_<;>first | rfl | omega) rfl ?_;refine Zc [.int .u8 0,.slice none 0 0] (k:=fun b4=>Vv (k:=Zp (k:=Wq (Za (k:=Za (k:=Dw [Ce b4 220 [vU (qs[j].l.toNat:Int),.slice qs[j].a qs[j].args.length qs[j].c],B] (k:=?_)))))));refine Di 0 (t:=Uf 0 5) (k:=Di 1 (t:=Ul) (k:=Dv 2 (k:=Dv 3 (k:=Gd 3 (t:=fun h17=>?_) (f:=fun h17=>?_)))))
  ·
   refine D1 4 (k:=D1 5 (k:=D1 6 (k:=DP1 7 (k:=Dv 8 (k:=D1 9 (k:=D1 10 (k:=D1 11 (k:=Di 12 (t:=Uu) (k:=Di 13 (t:=Uu) (k:=Di 14 (t:=Uu) (k:=Di 15 (t:=Uu) (k:=?_))))))))))));refine Di 16 (t:=Uu) (k:=Di 17 (t:=Uu) (k:=Di 18 (t:=Uu) (k:=Di 19 (t:=Uu) (k:=Di 20 (t:=Uu) (k:=D1 21 (k:=DP1 22 (k:=Dd (k:=Ya (Z1 (k:=Qc (k:=?_)))))))))));refine Vv (k:=Wq (Zt (k:=Va (Vb (Va (Vi (Vb (Va ?_))))))));exact AjJ
  ·
   refine Di 4 (t:=U0 (h:=Uf 0 5)) (k:=Di 5 (t:=U0 (h:=Ul)) (k:=Di 6 (t:=U0 (h:=Uv)) (k:=DP0 7 (k:=Dv 8 (k:=Gd 8 (t:=fun h22=>?_) (f:=fun h22=>?_))))))
   ·
    refine D1 9 (k:=D1 10 (k:=D1 11 (k:=Di 12 (t:=Uu) (k:=Di 13 (t:=Uu) (k:=Di 14 (t:=Uu) (k:=Di 15 (t:=Uu) (k:=Di 16 (t:=Uu) (k:=Di 17 (t:=Uu) (k:=Di 18 (t:=Uu) (k:=Di 19 (t:=Uu) (k:=Di 20 (t:=Uu) (k:=?_))))))))))));refine D1 21 (k:=DP1 22 (k:=Dd (k:=Ya (Z1 (k:=Qc (k:=Vv (k:=Wq (Zt (k:=Va (Vb ?_))))))))));refine Va (Vi (Vb (Va ?_)));exact AjJ
   ·
    refine Di 9 (t:=U0 (h:=Uv)) (k:=Di 10 (t:=U0 (h:=Uv)) (k:=Di 11 (t:=U0 (h:=Uv)) (k:=Gd 11 (t:=fun h25=>?_) (f:=fun h25=>?_))))
    ·
     have hlp:(l.getD (j-1) cd0).l.toNat=qs[j-1].l.toNat:=by
      have e:=Adq (show j-1<qs.length by omega);rw[←hl] at e;rw[e];rfl
     refine Di 12 (t:=U1 (h:=Uv)) (k:=Di 13 (t:=U1 (h:=Uv)) (k:=Di 14 (t:=U1 (h:=Uv)) (k:=?_)));refine Aa1 15 rfl rfl rfl (by kernel_rfl) (by kernel_rfl) (Aau (b:=true) rfl (Aae (sz:=2) (m:=j-1) (kk:=2 * (j-1)) Tryz.underlying170 Adi rfl rfl rfl (by omega) (by omega) (by omega) (Nat.mul_comm _ _))) ?_;refine Aa1 16 rfl rfl rfl (by kernel_rfl) (by kernel_rfl) (Aau (b:=true) rfl (AaO (kk:=2 * (j-1)) Tryz.underlying220 rfl ti5 rfl rfl rfl rfl (by omega))) ?_;refine Aa1 17 rfl rfl rfl (by kernel_rfl) (by kernel_rfl) (Aau (b:=true) rfl (Aas Tryz.underlying5 rfl rfl (Ajz (j:=j-1) (by omega)).1)) ?_;refine Di 18 (t:=U1 (h:=Uf 0 5)) (k:=Di 19 (t:=U1 (h:=Ul)) (k:=Di 20 (t:=U1 (h:=Uv)) (k:=Di 21 (t:=U0 (h:=UP1)) (k:=DP0 22 (k:=Dd (k:=Ya (Zi (t:=fun h36=>?_) (f:=fun h36=>?_))))))))
     ·
      refine Qc (k:=Vv (k:=Wq (Zt (k:=Va (Vb (Va (Vi (Vb (Va ?_)))))))));exact AjJ
     ·
      refine Zk (k:=Ya (Qc (k:=Vf 1 27 (k:=?_))));refine wo_ent' (Aea (q:=qs[j]) (List.getElem_mem hjl) HasC.get) ?_;obtain⟨q,hq⟩:∃q,q=qs[j]:=⟨_,rfl⟩
      have hqal:=(hqa qs[j] (List.getElem_mem hjl)).2;rw[←hq] at hqal ⊢;refine Zd (k:=Qv (k:=Wq (Zb (k:=?_))));refine Aak (fun (i:{ m:Nat // m≤q.args.length∧∀i,i<m→AbZ (q.args.getD i []) })=>[(0,.slice a qs.length cap),(7,.slice a qs.length cap),(8,vI qs.length),(9,vI j),(38,.slice q.a q.args.length q.c),(39,vI q.args.length),(40,vI i.1)]) (fun (i:{ m:Nat // m≤q.args.length∧∀i,i<m→AbZ (q.args.getD i []) })=>[SlI q.a (q.args.map vS),B,CdM qs]) (fun (i:{ m:Nat // m≤q.args.length∧∀i,i<m→AbZ (q.args.getD i []) })=>q.args.length-i.1) rfl (⟨0,Nat.zero_le _,fun i h=>by omega⟩) ?_ ?_ (fun i=>?_)
      · exact⟨rfl,rfl,rfl,rfl,rfl,rfl,rfl,trivial⟩
      ·
       exact Aa0
      obtain⟨m,hm,hma⟩:=i;dsimp only;try dsimp only
      refine Qc (k:=Vv (k:=Wq (Za (k:=Zi (t:=fun h41=>?_) (f:=fun h41=>?_)))))
      ·
       refine Zk (k:=Ya (Za (k:=Zb (k:=Qc (k:=Ye 1 (k:=Yl (hv:=by exact Aa4 [] (by omega)) (k:=Vv (k:=Wq (Za (k:=?_))))))))));obtain⟨x,hx⟩:∃x,x=q.args.getD m []:=⟨_,rfl⟩
       have hxm:x∈(l.getD j cd0).args:=by
        rw[hlj,←hq,hx];show _∈q.args;have hmm:m<q.args.length:=by omega
        simp[hmm]
       rw[←hx];refine Zr (k:=Qv (k:=Vv (k:=Gi 2 (t:=fun h46=>?_) (f:=fun h46=>?_))))
       ·
        refine O1 (k:=O1 (k:=P1 (k:=Vv (k:=O1 (k:=O1 (k:=P1 (k:=Wq (Z1 (k:=Qc (k:=Vv (k:=?_)))))))))));refine Wq (Zt (k:=Vb (Va (Vi (Vb (Vb (Va (Vi (Vb (Va ?_))))))))));exact Ae1
       ·
        refine J0 (k:=I0 (k:=?_));refine Aag (Adv x 32) rfl rfl rfl ?_;refine P0 (k:=Vv (k:=Gi 6 (t:=fun h50=>?_) (f:=fun h50=>?_)))
        ·
         refine O1 (k:=O1 (k:=P1 (k:=Wq (Z1 (k:=Qc (k:=Vv (k:=Wq (Zt (k:=Vb (Va ?_))))))))));refine Vi (Vb (Vb (Va (Vi (Vb (Va ?_))))));exact Ae1
        ·
         refine J0 (k:=I0 (k:=?_));refine Aag (Adv x 10) rfl rfl rfl ?_;refine P0 (k:=Wq (Zi (t:=fun h53=>?_) (f:=fun h53=>?_)))
         ·
          refine Qc (k:=Vv (k:=Wq (Zt (k:=Vb (Va (Vi (Vb (Vb (Va (Vi ?_))))))))));refine Vb (Va ?_);exact Ae1
         ·
          refine Zk (k:=Yb (Ya (Zr (k:=Qv (k:=Wn ?_)))));exact Alo
      ·
       refine Ze (k:=Xa (Xi (Xb (Yb (Ya (Zr (k:=Qv (k:=Wn ?_))))))));exact Alp
    ·
     refine D0 12 (k:=D0 13 (k:=D0 14 (k:=D0 15 (k:=D0 16 (k:=D0 17 (k:=D0 18 (k:=D0 19 (k:=D0 20 (k:=Di 21 (t:=U0 (h:=UP0)) (k:=DP0 22 (k:=Dd (k:=?_))))))))))));refine Ya (Z0 (k:=Zk (k:=Ya (Qc (k:=Vf 1 27 (k:=?_))))));refine wo_ent' (Aea (q:=qs[j]) (List.getElem_mem hjl) HasC.get) ?_;obtain⟨q,hq⟩:∃q,q=qs[j]:=⟨_,rfl⟩
     have hqal:=(hqa qs[j] (List.getElem_mem hjl)).2;rw[←hq] at hqal ⊢;refine Zd (k:=Qv (k:=Wq (Zb (k:=?_))));refine Aak (fun (i:{ m:Nat // m≤q.args.length∧∀i,i<m→AbZ (q.args.getD i []) })=>[(0,.slice a qs.length cap),(7,.slice a qs.length cap),(8,vI qs.length),(9,vI j),(38,.slice q.a q.args.length q.c),(39,vI q.args.length),(40,vI i.1)]) (fun (i:{ m:Nat // m≤q.args.length∧∀i,i<m→AbZ (q.args.getD i []) })=>[SlI q.a (q.args.map vS),B,CdM qs]) (fun (i:{ m:Nat // m≤q.args.length∧∀i,i<m→AbZ (q.args.getD i []) })=>q.args.length-i.1) rfl (⟨0,Nat.zero_le _,fun i h=>by omega⟩) ?_ ?_ (fun i=>?_)
     · exact⟨rfl,rfl,rfl,rfl,rfl,rfl,rfl,trivial⟩
     ·
      exact Aa0
     obtain⟨m,hm,hma⟩:=i;dsimp only;try dsimp only
     refine Qc (k:=Vv (k:=Wq (Za (k:=Zi (t:=fun h41=>?_) (f:=fun h41=>?_)))))
     ·
      refine Zk (k:=Ya (Za (k:=Zb (k:=Qc (k:=Ye 1 (k:=Yl (hv:=by exact Aa4 [] (by omega)) (k:=Vv (k:=Wq (Za (k:=?_))))))))));obtain⟨x,hx⟩:∃x,x=q.args.getD m []:=⟨_,rfl⟩
      have hxm:x∈(l.getD j cd0).args:=by
       rw[hlj,←hq,hx];show _∈q.args;have hmm:m<q.args.length:=by omega
       simp[hmm]
      rw[←hx];refine Zr (k:=Qv (k:=Vv (k:=Gi 2 (t:=fun h46=>?_) (f:=fun h46=>?_))))
      ·
       refine O1 (k:=O1 (k:=P1 (k:=Vv (k:=O1 (k:=O1 (k:=P1 (k:=Wq (Z1 (k:=Qc (k:=Vv (k:=?_)))))))))));refine Wq (Zt (k:=Vb (Va (Vi (Vb (Vb (Va (Vi (Vb (Va ?_))))))))));exact Ae1
      ·
       refine J0 (k:=I0 (k:=?_));refine Aag (Adv x 32) rfl rfl rfl ?_;refine P0 (k:=Vv (k:=Gi 6 (t:=fun h50=>?_) (f:=fun h50=>?_)))
       ·
        refine O1 (k:=O1 (k:=P1 (k:=Wq (Z1 (k:=Qc (k:=Vv (k:=Wq (Zt (k:=Vb (Va ?_))))))))));refine Vi (Vb (Vb (Va (Vi (Vb (Va ?_))))));exact Ae1
       ·
        refine J0 (k:=I0 (k:=?_));refine Aag (Adv x 10) rfl rfl rfl ?_;refine P0 (k:=Wq (Zi (t:=fun h53=>?_) (f:=fun h53=>?_)))
        ·
         refine Qc (k:=Vv (k:=Wq (Zt (k:=Vb (Va (Vi (Vb (Vb (Va (Vi ?_))))))))));refine Vb (Va ?_);exact Ae1
        ·
         refine Zk (k:=Yb (Ya (Zr (k:=Qv (k:=Wn ?_)))));exact Alo
     ·
      refine Ze (k:=Xa (Xi (Xb (Yb (Ya (Zr (k:=Qv (k:=Wn ?_))))))));exact Alp
 ·
  refine Ze (k:=Xa (Xi (Xb (Ya (Qc (k:=Qv (k:=Qv (k:=Wq ?_))))))));refine Zt (k:=?_);refine Aa2 () (vs:=[_]) (Cs:=[]) rfl (.tmp rfl .nil) ?_ trivial Aa0;show vB _=vB _;congr 1;refine decide_eq_decide.2 ⟨fun h=>⟨fun e=>?_,fun i hi=>hok i (by omega)⟩,fun h=>?_⟩
  · rw[e] at hll;simp at hll;omega
  · have:=List.length_pos_iff.2 h.ne;omega
theorem Ao6 {l:List Cd} {j:Nat} (h:j<l.length):Aav (l.take (j+1))=Aav (l.take j)++Aco (l.getD j cd0):=by
 rw[List.take_succ_eq_append_getElem h,Af4];simp[Aav,h]
theorem AeS (l:List Cd) (j:Nat):(Aav (l.take j)).length≤(Aav l).length:=by
 conv=>rhs;rw[←List.take_append_drop j l,Af4,List.length_append]
 omega
def prB (l:List Cd):Bs:=if RightC l then AcI l else []
set_option maxHeartbeats 1000000 in
theorem Adr {B:HP} {a:Option Addr} (n cap:Nat) (qs:List CdV) (sh:SlA B a (qs.flatMap CdV.cells)) (hn:qs.length=n) (hz:(Aav (Aa3 qs)).length≤1073741824) :
    Sp1 Tryz.prog 155 [.slice a n cap] [B,CdM qs] (vS (prB (Aa3 qs))) [B]:=by
 have hR:=AmY n cap qs sh hn hz;subst hn;obtain⟨hb,hqa⟩:=AcO hz;haveI:Abu a (qs.flatMap CdV.cells) [B,CdM qs]:=⟨⟨B,sh,.here⟩⟩
 obtain⟨l,hl⟩:∃l,l=Aa3 qs:=⟨_,rfl⟩
 have hll:l.length=qs.length:=by rw[hl];simp[Aa3]
 rw[←hl] at hz hR ⊢;refine Sp.body (n:=29) Tryz.call155 Tryz.func155 rfl rfl rfl ?_;refine Qc (k:=Vv (k:=Wq (Za (k:=Qc (k:=Vv (k:=?_))))));refine Aaa hR rfl rfl rfl ?_;refine Vv (k:=Wq (Zi (t:=fun h8=>?_) (f:=fun h8=>?_)))
 ·
  refine Qc (k:=Vv (k:=Wq (Zt (k:=Va ?_))));have hn:¬RightC l:=by simpa using h8
  refine Aa2 () (vs:=[_]) (Cs:=[]) rfl (.tmp rfl .nil) ?_ trivial Aa0;rw[prB,if_neg hn];rfl
 ·
  refine Zk (k:=Ya (Qc (k:=Zc [.pointer none,.slice none 0 0] (k:=fun b3=>?_))));refine wo_ent' (Ak8 (p:=b3) (by rfl) (by rfl) (by rfl)) ?_;refine Wq (Za (k:=Qc (k:=Qv (k:=Vv (k:=Wq (Zb (k:=?_)))))));refine Aak (fun (i:{ j:Nat // j≤qs.length })=>[(3,.pointer (some ⟨b3,0,none⟩)),(9,.slice a qs.length cap),(10,vI qs.length),(11,vI i.1)]) (fun (i:{ j:Nat // j≤qs.length })=>[IsB b3 (Aav (l.take i.1)),B,CdM qs]) (fun (i:{ j:Nat // j≤qs.length })=>qs.length-i.1) rfl (⟨0,Nat.zero_le _⟩) ?_ ?_ (fun i=>?_)
  · exact⟨rfl,rfl,rfl,rfl,trivial⟩
  ·
   dsimp only;rw[List.take_zero,show Aav []=[] from rfl];exact Aa0
  obtain⟨j,hj⟩:=i;dsimp only;have hle:=AeS l j;try dsimp only
  refine Qc (k:=Vv (k:=Wq (Za (k:=Zi (t:=fun h12=>?_) (f:=fun h12=>?_)))))
  ·
   refine Zk (k:=Ya (Za (k:=Zb (k:=Za (k:=?_)))));have hjl:j<qs.length:=by omega
   have hlj:l.getD j cd0=qs[j].cd:=by rw[hl];exact Adq hjl
   have hbt:=Ao6 (l:=l) (j:=j) (by omega);have hle2:=AeS l (j+1);obtain⟨q,hq⟩:∃q,q=qs[j]:=⟨_,rfl⟩
   have hqm:q∈qs:=by rw[hq];exact List.getElem_mem _
   have hqal:=hqa q hqm;rw[hlj,←hq] at hbt;have hbl:=congrArg List.length hbt;have hcb:Aco q.cd=q.l::AaM q.args++[10]:=rfl;rw[hcb] at hbt hbl;simp only[List.length_append,List.length_cons,List.length_nil] at hbl;refine Zr (k:=Ye 2 (k:=?_));refine Abb (vs:=[_,_]) (sz:=2) Tryz.underlying220 rfl Adi rfl rfl (by rw[Aaj (sz:=2) (fun _=>rfl)];omega) rfl (by refine Ab1 (fun x=>?_) ?_<;>first | rfl | omega) rfl ?_;refine Zc [.int .u8 0,.slice none 0 0] (k:=fun b5=>Zp (k:=?_));rw[←hq];refine Wq (Zr (k:=Qx 0 5 (k:=Zv [_] (cs:=[_]) (k:=fun b17=>?_))));refine Aji (l:=[q.l]) Tryz.underlying56 Tryz.underlying9 Tryz.underlying5 rfl (by simp[vUs]) (by simp) rfl ?_;refine Zv [_] (cs:=[_]) (k:=fun b19=>Qx 1 27 (k:=?_));refine wo_ent' (Aea hqm HasC.get) ?_;refine wo_ent' (AbF (k:=1) (cap:=1) (sz:=1) (e:=9) (g:=b19) (xs:=[vS [q.l]]) (cur:=[vS [q.l]]) (Nat.le_refl _) (by simp[maxLen]) rfl rfl rfl) ?_;refine Ag2 (sz:=1) (bytes:=16) Tryz.underlying27 ti9 rfl rfl rfl rfl rfl rfl rfl (by first | rfl | (rw[List.length_map,Nat.mul_one];try omega) | (rw[Aaj (fun _=>rfl)];try omega) | (simp;try omega)) (by first | rfl | (simp[Aay];done) | (simp[List.all_flatMap,Aay];done)) (by omega) (by simp only[maxLen];omega) rfl (fun a22 c22=>?_);refine wo_ent' (AaW (v:=.slice a22 (1+q.args.length) c22) (xs:=[vS [q.l]]++q.args.map vS) (n:=1+q.args.length) (n':=q.args.length+1) (xs':=([q.l]::q.args).map vS) (by omega) rfl) ?_;rw[Nat.add_comm 1]
   refine Aaa (AkO c22 [q.l] q.args (by simp) (by omega) (by rw[List.length_singleton];omega)) rfl rfl rfl ?_;rw[show Auh ([q.l]::q.args)=q.l::AaM q.args from rfl];refine Vv (k:=?_);refine Aaa (AcB b3 (Aav (l.take j)) (q.l::AaM q.args++[10]) (by simp only[List.length_append,List.length_cons,List.length_nil];omega)) rfl rfl rfl ?_;refine Wn (Yb (Ya (Zr (k:=Qv (k:=Wn ?_)))));refine Aa5 ⟨j+1,by omega⟩ (by dsimp only;omega) ⟨rfl,rfl,rfl,rfl,trivial⟩ ?_;dsimp only;rw[hbt];exact Aa0
  ·
   refine Ze (k:=Xa (Xi (Xb (Ya (Za (k:=?_))))));have hjl:j=qs.length:=by omega
   subst hjl;rw[List.take_of_length_le (by omega)];refine Zr (k:=?_);refine Aaa (Ai4 b3 (Aav l) (by omega)) rfl rfl rfl ?_;refine Aag (AhA (Aav l) (by omega)) rfl rfl rfl ?_;refine Vv (k:=Wq (Zt (k:=?_)));have hn:RightC l:=by simpa using h8
   refine Aa2 () (vs:=[_]) (Cs:=[]) rfl (.tmp rfl .nil) ?_ trivial Aa0;rw[prB,if_pos hn];rfl
end
end Go.Proofs.YtdnoacgopfcpbaaGreat
