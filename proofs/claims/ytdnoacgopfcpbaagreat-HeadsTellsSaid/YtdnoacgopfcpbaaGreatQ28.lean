/- Texts of this proof, put together: SKeep3, PKeep3. -/
import Derived.Test.YtdnoacgopfcpbaaGreatQ27
set_option linter.unusedVariables false
set_option linter.unusedSimpArgs false
namespace Go.Proofs.YtdnoacgopfcpbaaGreat
section
set_option maxRecDepth 100000
abbrev usersL:List Bs:=["me".toUTF8.data.toList, "you".toUTF8.data.toList]
theorem Aph:∀k,k<2→Acm (usersL.getD k [])∧(usersL.getD k []).length≤3:=by
 have:∀i:Fin 2,Acm (usersL.getD i.1 [])∧(usersL.getD i.1 []).length≤3:=by decide
 exact fun i h=>this ⟨i,h⟩
structure KCt (c:Ct):Prop where
 right:Acu c
 tgt:∀t∈c.tags,∃n,t.target=Abx n
 z:TgZ c.tags
theorem KTags.ct {d:Int} {w:Bs} {ts:List Tg} (h:KTags false 6 ts) (hd:0≤d∧d≤9) (hw:Acm w) (h0:0<ts.length):KCt ⟨d,ts,w⟩ :=
 ⟨⟨by dsimp only;omega,h0,h.right,hw⟩,fun t ht=>(h.tag t ht).tgt.2 rfl,h.z (Nat.le_refl _)⟩
theorem KTags.one (n:Int):KTags false 6 [⟨43, "a".toUTF8.data.toList,Abx n,[]⟩]:=by
 refine⟨by simp,?_,?_,List.pairwise_singleton _ _⟩
 · intro t ht
   rw[List.mem_singleton.1 ht];exact⟨.inl rfl,Nat.zero_le _,⟨(fun h=>by cases h),fun _=>⟨n,rfl⟩⟩⟩
 · intro t ht
   rw[List.mem_singleton.1 ht];exact⟨0,by omega,rfl⟩
theorem Ap9 {G:Prop} (h:G:=by
    first
    | exact Aa2 ((oa,oc),⟨Aar d 0 9,ts,usersL.getD ui []⟩) (vs:=[_]) (Cs:=[Ce b2 70 [vI (Aar d 0 9),.slice oa ts.length oc,vS (usersL.getD ui [])]]) rfl (.cell (l:=[vI (Aar d 0 9),.slice oa ts.length oc,vS (usersL.getD ui [])]) (us:=[vI (Aar d 0 9),.slice oa ts.length oc,vS (usersL.getD ui [])]) rfl (Aax (T:=70)) Tryz.underlying70 rfl AkN (by exact Nat.le_of_ble_eq_true rfl) rfl .nil) rfl hKc Aa0
    | exact Aa2 ((some ⟨b28,0,none⟩,1),⟨Aar d 0 9,[⟨43, "a".toUTF8.data.toList,Abx (Ag3 vals 0),[]⟩],usersL.getD ui []⟩) (vs:=[_]) (Cs:=[Ce b2 70 [vI (Aar d 0 9),.slice (some ⟨b28,0,none⟩) 1 1,vS (usersL.getD ui [])]]) rfl (.cell (l:=[vI (Aar d 0 9),.slice (some ⟨b28,0,none⟩) 1 1,vS (usersL.getD ui [])]) (us:=[vI (Aar d 0 9),.slice (some ⟨b28,0,none⟩) 1 1,vS (usersL.getD ui [])]) rfl (Aax (T:=70)) Tryz.underlying70 rfl AkN (by exact Nat.le_of_ble_eq_true rfl) rfl .nil) rfl hKc Aa0):G:=h
theorem Aa9 {G:Prop} (h:G:=by exact Aa5 ⟨(b3,x17),hx17⟩ trivial ⟨rfl,rfl,rfl,trivial⟩ Aa0):G:=h
set_option maxHeartbeats 4000000 in
theorem AgQ {Bt Bv:HP} {ta va:Option Addr} (d u:Int) (tc vc:Nat) (tags vals:List Int) (ht:tags.length≤9223372036854775807) (hv:vals.length≤9223372036854775807) (sht:SlA Bt ta (tags.map vI)) (shv:SlA Bv va (vals.map vI)) :
    Sp Tryz.prog 115 [.agg #[vI d,vI u,.slice ta tags.length tc,.slice va vals.length vc]] [Bt,Bv] (X:=(Option Addr×Nat)×Ct) (fun x=>.agg (Abh x.1.1 x.1.2 x.2).toArray) (fun x=>KCt x.2) (fun x=>ctH x++[Bt,Bv]):=by
 have hTO:=Ahl tc vc tags vals false ht hv sht shv;have hw1:=AbA (n:=d) (show (0:Int)≤9 by omega);have hw2:=AbA (n:=u) (show (0:Int)≤1 by omega);obtain⟨ui,hui⟩:∃k:Nat,Aar u 0 1=(k:Int):=⟨(Aar u 0 1).toNat,by omega⟩
 have hu2:ui<2:=by omega
 have hul:usersL.length=2:=rfl;have huo:=Aph ui hu2;refine Sp.body (n:=31) Tryz.call115 Tryz.func115 rfl rfl rfl ?_;refine Qc (k:=Zx [_,_,_,_] (k:=fun b1=>Zc [.int .i64 0,.slice none 0 0,vS []] (k:=fun b2=>Wq ?_)));refine Abg (fun (i:{ x:Nat×(Option Addr×Nat)×List Tg // KTags false 6 x.2.2 })=>[(1,.pointer (some ⟨b1,0,none⟩)),(2,.pointer (some ⟨b2,0,none⟩)),(3,.pointer (some ⟨i.1.1,0,none⟩))]) (fun (i:{ x:Nat×(Option Addr×Nat)×List Tg // KTags false 6 x.2.2 })=>[Ce i.1.1 70 [vI (Aar d 0 9),.slice i.1.2.1.1 i.1.2.2.length i.1.2.1.2,vS (usersL.getD ui [])],Row 60 4 (.slice i.1.2.1.1 i.1.2.2.length i.1.2.1.2) i.1.2.2.length (i.1.2.2.flatMap Aab),Ce b2 70 [vI 0,.slice none 0 0,vS []],Ce b1 116 [vI d,vI u,.slice ta tags.length tc,.slice va vals.length vc],Bt,Bv]) rfl (fun i=>?_) ?_
 ·
  obtain⟨⟨b3,⟨oa,oc⟩,ts⟩,hts⟩:=i;dsimp only at hts ⊢;try dsimp only
  refine Za (k:=Qc (k:=Qx 1 28 (k:=Qv (k:=Wq (Zi (t:=fun h22=>?_) (f:=fun h22=>?_))))))
  ·
   have hKc:KCt ⟨Aar d 0 9,[⟨43, "a".toUTF8.data.toList,Abx (Ag3 vals 0),[]⟩],usersL.getD ui []⟩:=(KTags.one _).ct hw1 huo.1 (by simp);refine Zr (k:=Qx 3 87 (k:=?_));refine Aaa (AeQ vc vals 0 (by omega) hv shv) rfl rfl rfl ?_;refine Aag (Adf _) rfl rfl rfl ?_;refine Vx (Ps [_,_,_,vS []]) (k:=Zv [_] (cs:=[_,_,_,_]) (k:=fun b28=>Vf 1 28 (k:=Zo (k:=?_))));refine wo_ent' (AbF (k:=1) (cap:=1) (sz:=4) (e:=60) (g:=b28) (xs:=([⟨43, "a".toUTF8.data.toList,Abx (Ag3 vals 0),[]⟩]:List Tg).flatMap Aab) (cur:=[vU 43,vS [97],vS (Abx (Ag3 vals 0)),vS []]) (Nat.le_refl _) (by simp[maxLen]) rfl rfl rfl) ?_;refine Wq (Qc (k:=Zm [_,_,_] (k:=Zp (k:=Wq (Zt (k:=?_))))));exact Ap9
  ·
   have hKc:KCt ⟨Aar d 0 9,ts,usersL.getD ui []⟩:=hts.ct hw1 huo.1 (by omega);refine Zk (k:=Ya (Qc (k:=Zm [_,_,_] (k:=Zp (k:=Wq (Zt (k:=?_)))))));exact Ap9
 ·
  refine Dw [Ce b1 116 [vI d,vI u,.slice ta tags.length tc,.slice va vals.length vc]] (k:=?_);refine Di 0 (t:=Uf 0 3) (k:=Di 1 (t:=Ul) (k:=Di 4 (t:=Uf 1 3) (k:=Di 5 (t:=Ul) (k:=Di 9 (t:=Uf 2 87) (k:=Di 10 (t:=Ul) (k:=Di 11 (t:=Uf 3 87) (k:=Di 12 (t:=Ul) (k:=?_))))))));refine AdS 2 3 15 (by kernel_rfl) rfl rfl rfl ?_ ?_ ?_
  ·
   refine Aal (Aaf d 0 9 (by omega) (by omega) (by omega)) rfl rfl rfl ?_;refine AdS 3 6 15 (by kernel_rfl) rfl rfl rfl ?_ ?_ ?_
   ·
    refine Nl [_,_] (cs:=[_,_]) (k:=fun b7=>?_);refine Aah 6 15 (by kernel_rfl) rfl rfl ?_ ?_
    ·
     refine Aal (Aaf u 0 1 (by omega) (by omega) (by omega)) rfl rfl rfl ?_;rw[hui];refine AdS 7 13 15 (by kernel_rfl) rfl rfl rfl ?_ ?_ ?_
     ·
      refine Ne 1 ui (k:=?_);refine AdS 8 13 15 (by kernel_rfl) rfl rfl rfl ?_ ?_ ?_
      ·
       refine Nm (hv:=by exact Aa4 (f:=vS) [] (l:=usersL) (m:=ui) hu2) (k:=?_);refine Aah 13 15 (by kernel_rfl) rfl rfl ?_ ?_
       ·
        refine Aam hTO rfl rfl rfl (fun x17 hx17=>?_);refine Di 14 (t:=Ux (Ps [_,_,_])) (k:=Dn 15 (k:=Nc [.int .i64 0,.slice none 0 0,vS []] (k:=fun b3=>Dn 16 (k:=Na (k:=Dd (k:=?_))))));exact Aa9
       ·
        refine Nc [.int .i64 0,.slice none 0 0,vS []] (k:=fun b3=>Dn 13 (k:=?_));refine Aam hTO rfl rfl rfl (fun x17 hx17=>?_);refine Di 14 (t:=Ux (Ps [_,_,_])) (k:=Dn 16 (k:=Na (k:=Dd (k:=?_))));exact Aa9
      ·
       refine Aam hTO rfl rfl rfl (fun x17 hx17=>?_);refine Aah 8 15 (by kernel_rfl) rfl rfl ?_ ?_
       ·
        refine Nm (hv:=by exact Aa4 (f:=vS) [] (l:=usersL) (m:=ui) hu2) (k:=Di 14 (t:=Ux (Ps [_,_,_])) (k:=Dn 15 (k:=Nc [.int .i64 0,.slice none 0 0,vS []] (k:=fun b3=>Dn 16 (k:=Na (k:=Dd (k:=?_)))))));exact Aa9
       ·
        refine Nc [.int .i64 0,.slice none 0 0,vS []] (k:=fun b3=>Dn 8 (k:=Nm (hv:=by exact Aa4 (f:=vS) [] (l:=usersL) (m:=ui) hu2) (k:=Di 14 (t:=Ux (Ps [_,_,_])) (k:=Dn 16 (k:=Na (k:=Dd (k:=?_)))))));exact Aa9
      ·
       refine Nc [.int .i64 0,.slice none 0 0,vS []] (k:=fun b3=>?_);refine Aah 8 13 (by kernel_rfl) rfl rfl ?_ ?_
       ·
        refine Nm (hv:=by exact Aa4 (f:=vS) [] (l:=usersL) (m:=ui) hu2) (k:=Dn 13 (k:=?_));refine Aam hTO rfl rfl rfl (fun x17 hx17=>?_);refine Di 14 (t:=Ux (Ps [_,_,_])) (k:=Dn 16 (k:=Na (k:=Dd (k:=?_))));exact Aa9
       ·
        refine Aam hTO rfl rfl rfl (fun x17 hx17=>?_);refine Dn 8 (k:=Nm (hv:=by exact Aa4 (f:=vS) [] (l:=usersL) (m:=ui) hu2) (k:=Di 14 (t:=Ux (Ps [_,_,_])) (k:=Dn 16 (k:=Na (k:=Dd (k:=?_))))));exact Aa9
     ·
      refine Aam hTO rfl rfl rfl (fun x17 hx17=>?_);refine Aah 7 15 (by kernel_rfl) rfl rfl ?_ ?_
      ·
       refine Ne 1 ui (k:=?_);refine Aah 8 15 (by kernel_rfl) rfl rfl ?_ ?_
       ·
        refine Nm (hv:=by exact Aa4 (f:=vS) [] (l:=usersL) (m:=ui) hu2) (k:=Di 14 (t:=Ux (Ps [_,_,_])) (k:=Dn 15 (k:=Nc [.int .i64 0,.slice none 0 0,vS []] (k:=fun b3=>Dn 16 (k:=Na (k:=Dd (k:=?_)))))));exact Aa9
       ·
        refine Nc [.int .i64 0,.slice none 0 0,vS []] (k:=fun b3=>Dn 8 (k:=Nm (hv:=by exact Aa4 (f:=vS) [] (l:=usersL) (m:=ui) hu2) (k:=Di 14 (t:=Ux (Ps [_,_,_])) (k:=Dn 16 (k:=Na (k:=Dd (k:=?_)))))));exact Aa9
      ·
       refine Nc [.int .i64 0,.slice none 0 0,vS []] (k:=fun b3=>Dn 7 (k:=Ne 1 ui (k:=Dn 8 (k:=Nm (hv:=by exact Aa4 (f:=vS) [] (l:=usersL) (m:=ui) hu2) (k:=Di 14 (t:=Ux (Ps [_,_,_])) (k:=Dn 16 (k:=Na (k:=Dd (k:=?_)))))))));exact Aa9
     ·
      refine Nc [.int .i64 0,.slice none 0 0,vS []] (k:=fun b3=>?_);refine Aah 7 13 (by kernel_rfl) rfl rfl ?_ ?_
      ·
       refine Ne 1 ui (k:=?_);refine Aah 8 13 (by kernel_rfl) rfl rfl ?_ ?_
       ·
        refine Nm (hv:=by exact Aa4 (f:=vS) [] (l:=usersL) (m:=ui) hu2) (k:=Dn 13 (k:=?_));refine Aam hTO rfl rfl rfl (fun x17 hx17=>?_);refine Di 14 (t:=Ux (Ps [_,_,_])) (k:=Dn 16 (k:=Na (k:=Dd (k:=?_))));exact Aa9
       ·
        refine Aam hTO rfl rfl rfl (fun x17 hx17=>?_);refine Dn 8 (k:=Nm (hv:=by exact Aa4 (f:=vS) [] (l:=usersL) (m:=ui) hu2) (k:=Di 14 (t:=Ux (Ps [_,_,_])) (k:=Dn 16 (k:=Na (k:=Dd (k:=?_))))));exact Aa9
      ·
       refine Aam hTO rfl rfl rfl (fun x17 hx17=>?_);refine Dn 7 (k:=Ne 1 ui (k:=Dn 8 (k:=Nm (hv:=by exact Aa4 (f:=vS) [] (l:=usersL) (m:=ui) hu2) (k:=Di 14 (t:=Ux (Ps [_,_,_])) (k:=Dn 16 (k:=Na (k:=Dd (k:=?_))))))));exact Aa9
    ·
     refine Nc [.int .i64 0,.slice none 0 0,vS []] (k:=fun b3=>Dn 6 (k:=?_));refine Aal (Aaf u 0 1 (by omega) (by omega) (by omega)) rfl rfl rfl ?_;rw[hui];refine Aah 7 13 (by kernel_rfl) rfl rfl ?_ ?_
     ·
      refine Ne 1 ui (k:=?_);refine Aah 8 13 (by kernel_rfl) rfl rfl ?_ ?_
      ·
       refine Nm (hv:=by exact Aa4 (f:=vS) [] (l:=usersL) (m:=ui) hu2) (k:=Dn 13 (k:=?_));refine Aam hTO rfl rfl rfl (fun x17 hx17=>?_);refine Di 14 (t:=Ux (Ps [_,_,_])) (k:=Dn 16 (k:=Na (k:=Dd (k:=?_))));exact Aa9
      ·
       refine Aam hTO rfl rfl rfl (fun x17 hx17=>?_);refine Dn 8 (k:=Nm (hv:=by exact Aa4 (f:=vS) [] (l:=usersL) (m:=ui) hu2) (k:=Di 14 (t:=Ux (Ps [_,_,_])) (k:=Dn 16 (k:=Na (k:=Dd (k:=?_))))));exact Aa9
     ·
      refine Aam hTO rfl rfl rfl (fun x17 hx17=>?_);refine Dn 7 (k:=Ne 1 ui (k:=Dn 8 (k:=Nm (hv:=by exact Aa4 (f:=vS) [] (l:=usersL) (m:=ui) hu2) (k:=Di 14 (t:=Ux (Ps [_,_,_])) (k:=Dn 16 (k:=Na (k:=Dd (k:=?_))))))));exact Aa9
   ·
    refine Aal (Aaf u 0 1 (by omega) (by omega) (by omega)) rfl rfl rfl ?_;rw[hui];refine AdS 3 13 15 (by kernel_rfl) rfl rfl rfl ?_ ?_ ?_
    ·
     refine Nl [_,_] (cs:=[_,_]) (k:=fun b7=>?_);refine AdS 7 13 15 (by kernel_rfl) rfl rfl rfl ?_ ?_ ?_
     ·
      refine Ne 1 ui (k:=?_);refine AdS 8 13 15 (by kernel_rfl) rfl rfl rfl ?_ ?_ ?_
      ·
       refine Nm (hv:=by exact Aa4 (f:=vS) [] (l:=usersL) (m:=ui) hu2) (k:=?_);refine Aah 13 15 (by kernel_rfl) rfl rfl ?_ ?_
       ·
        refine Aam hTO rfl rfl rfl (fun x17 hx17=>?_);refine Di 14 (t:=Ux (Ps [_,_,_])) (k:=Dn 15 (k:=Nc [.int .i64 0,.slice none 0 0,vS []] (k:=fun b3=>Dn 16 (k:=Na (k:=Dd (k:=?_))))));exact Aa9
       ·
        refine Nc [.int .i64 0,.slice none 0 0,vS []] (k:=fun b3=>Dn 13 (k:=?_));refine Aam hTO rfl rfl rfl (fun x17 hx17=>?_);refine Di 14 (t:=Ux (Ps [_,_,_])) (k:=Dn 16 (k:=Na (k:=Dd (k:=?_))));exact Aa9
      ·
       refine Aam hTO rfl rfl rfl (fun x17 hx17=>?_);refine Aah 8 15 (by kernel_rfl) rfl rfl ?_ ?_
       ·
        refine Nm (hv:=by exact Aa4 (f:=vS) [] (l:=usersL) (m:=ui) hu2) (k:=Di 14 (t:=Ux (Ps [_,_,_])) (k:=Dn 15 (k:=Nc [.int .i64 0,.slice none 0 0,vS []] (k:=fun b3=>Dn 16 (k:=Na (k:=Dd (k:=?_)))))));exact Aa9
       ·
        refine Nc [.int .i64 0,.slice none 0 0,vS []] (k:=fun b3=>Dn 8 (k:=Nm (hv:=by exact Aa4 (f:=vS) [] (l:=usersL) (m:=ui) hu2) (k:=Di 14 (t:=Ux (Ps [_,_,_])) (k:=Dn 16 (k:=Na (k:=Dd (k:=?_)))))));exact Aa9
      ·
       refine Nc [.int .i64 0,.slice none 0 0,vS []] (k:=fun b3=>?_);refine Aah 8 13 (by kernel_rfl) rfl rfl ?_ ?_
       ·
        refine Nm (hv:=by exact Aa4 (f:=vS) [] (l:=usersL) (m:=ui) hu2) (k:=Dn 13 (k:=?_));refine Aam hTO rfl rfl rfl (fun x17 hx17=>?_);refine Di 14 (t:=Ux (Ps [_,_,_])) (k:=Dn 16 (k:=Na (k:=Dd (k:=?_))));exact Aa9
       ·
        refine Aam hTO rfl rfl rfl (fun x17 hx17=>?_);refine Dn 8 (k:=Nm (hv:=by exact Aa4 (f:=vS) [] (l:=usersL) (m:=ui) hu2) (k:=Di 14 (t:=Ux (Ps [_,_,_])) (k:=Dn 16 (k:=Na (k:=Dd (k:=?_))))));exact Aa9
     ·
      refine Aam hTO rfl rfl rfl (fun x17 hx17=>?_);refine Aah 7 15 (by kernel_rfl) rfl rfl ?_ ?_
      ·
       refine Ne 1 ui (k:=?_);refine Aah 8 15 (by kernel_rfl) rfl rfl ?_ ?_
       ·
        refine Nm (hv:=by exact Aa4 (f:=vS) [] (l:=usersL) (m:=ui) hu2) (k:=Di 14 (t:=Ux (Ps [_,_,_])) (k:=Dn 15 (k:=Nc [.int .i64 0,.slice none 0 0,vS []] (k:=fun b3=>Dn 16 (k:=Na (k:=Dd (k:=?_)))))));exact Aa9
       ·
        refine Nc [.int .i64 0,.slice none 0 0,vS []] (k:=fun b3=>Dn 8 (k:=Nm (hv:=by exact Aa4 (f:=vS) [] (l:=usersL) (m:=ui) hu2) (k:=Di 14 (t:=Ux (Ps [_,_,_])) (k:=Dn 16 (k:=Na (k:=Dd (k:=?_)))))));exact Aa9
      ·
       refine Nc [.int .i64 0,.slice none 0 0,vS []] (k:=fun b3=>Dn 7 (k:=Ne 1 ui (k:=Dn 8 (k:=Nm (hv:=by exact Aa4 (f:=vS) [] (l:=usersL) (m:=ui) hu2) (k:=Di 14 (t:=Ux (Ps [_,_,_])) (k:=Dn 16 (k:=Na (k:=Dd (k:=?_)))))))));exact Aa9
     ·
      refine Nc [.int .i64 0,.slice none 0 0,vS []] (k:=fun b3=>?_);refine Aah 7 13 (by kernel_rfl) rfl rfl ?_ ?_
      ·
       refine Ne 1 ui (k:=?_);refine Aah 8 13 (by kernel_rfl) rfl rfl ?_ ?_
       ·
        refine Nm (hv:=by exact Aa4 (f:=vS) [] (l:=usersL) (m:=ui) hu2) (k:=Dn 13 (k:=?_));refine Aam hTO rfl rfl rfl (fun x17 hx17=>?_);refine Di 14 (t:=Ux (Ps [_,_,_])) (k:=Dn 16 (k:=Na (k:=Dd (k:=?_))));exact Aa9
       ·
        refine Aam hTO rfl rfl rfl (fun x17 hx17=>?_);refine Dn 8 (k:=Nm (hv:=by exact Aa4 (f:=vS) [] (l:=usersL) (m:=ui) hu2) (k:=Di 14 (t:=Ux (Ps [_,_,_])) (k:=Dn 16 (k:=Na (k:=Dd (k:=?_))))));exact Aa9
      ·
       refine Aam hTO rfl rfl rfl (fun x17 hx17=>?_);refine Dn 7 (k:=Ne 1 ui (k:=Dn 8 (k:=Nm (hv:=by exact Aa4 (f:=vS) [] (l:=usersL) (m:=ui) hu2) (k:=Di 14 (t:=Ux (Ps [_,_,_])) (k:=Dn 16 (k:=Na (k:=Dd (k:=?_))))))));exact Aa9
    ·
     refine Aam hTO rfl rfl rfl (fun x17 hx17=>?_);refine Aah 3 15 (by kernel_rfl) rfl rfl ?_ ?_
     ·
      refine Nl [_,_] (cs:=[_,_]) (k:=fun b7=>?_);refine Aah 7 15 (by kernel_rfl) rfl rfl ?_ ?_
      ·
       refine Ne 1 ui (k:=?_);refine Aah 8 15 (by kernel_rfl) rfl rfl ?_ ?_
       ·
        refine Nm (hv:=by exact Aa4 (f:=vS) [] (l:=usersL) (m:=ui) hu2) (k:=Di 14 (t:=Ux (Ps [_,_,_])) (k:=Dn 15 (k:=Nc [.int .i64 0,.slice none 0 0,vS []] (k:=fun b3=>Dn 16 (k:=Na (k:=Dd (k:=?_)))))));exact Aa9
       ·
        refine Nc [.int .i64 0,.slice none 0 0,vS []] (k:=fun b3=>Dn 8 (k:=Nm (hv:=by exact Aa4 (f:=vS) [] (l:=usersL) (m:=ui) hu2) (k:=Di 14 (t:=Ux (Ps [_,_,_])) (k:=Dn 16 (k:=Na (k:=Dd (k:=?_)))))));exact Aa9
      ·
       refine Nc [.int .i64 0,.slice none 0 0,vS []] (k:=fun b3=>Dn 7 (k:=Ne 1 ui (k:=Dn 8 (k:=Nm (hv:=by exact Aa4 (f:=vS) [] (l:=usersL) (m:=ui) hu2) (k:=Di 14 (t:=Ux (Ps [_,_,_])) (k:=Dn 16 (k:=Na (k:=Dd (k:=?_)))))))));exact Aa9
     ·
      refine Nc [.int .i64 0,.slice none 0 0,vS []] (k:=fun b3=>Dn 3 (k:=Nl [_,_] (cs:=[_,_]) (k:=fun b7=>Dn 7 (k:=Ne 1 ui (k:=Dn 8 (k:=Nm (hv:=by exact Aa4 (f:=vS) [] (l:=usersL) (m:=ui) hu2) (k:=Di 14 (t:=Ux (Ps [_,_,_])) (k:=Dn 16 (k:=Na (k:=Dd (k:=?_)))))))))));exact Aa9
    ·
     refine Nc [.int .i64 0,.slice none 0 0,vS []] (k:=fun b3=>?_);refine Aah 3 13 (by kernel_rfl) rfl rfl ?_ ?_
     ·
      refine Nl [_,_] (cs:=[_,_]) (k:=fun b7=>?_);refine Aah 7 13 (by kernel_rfl) rfl rfl ?_ ?_
      ·
       refine Ne 1 ui (k:=?_);refine Aah 8 13 (by kernel_rfl) rfl rfl ?_ ?_
       ·
        refine Nm (hv:=by exact Aa4 (f:=vS) [] (l:=usersL) (m:=ui) hu2) (k:=Dn 13 (k:=?_));refine Aam hTO rfl rfl rfl (fun x17 hx17=>?_);refine Di 14 (t:=Ux (Ps [_,_,_])) (k:=Dn 16 (k:=Na (k:=Dd (k:=?_))));exact Aa9
       ·
        refine Aam hTO rfl rfl rfl (fun x17 hx17=>?_);refine Dn 8 (k:=Nm (hv:=by exact Aa4 (f:=vS) [] (l:=usersL) (m:=ui) hu2) (k:=Di 14 (t:=Ux (Ps [_,_,_])) (k:=Dn 16 (k:=Na (k:=Dd (k:=?_))))));exact Aa9
      ·
       refine Aam hTO rfl rfl rfl (fun x17 hx17=>?_);refine Dn 7 (k:=Ne 1 ui (k:=Dn 8 (k:=Nm (hv:=by exact Aa4 (f:=vS) [] (l:=usersL) (m:=ui) hu2) (k:=Di 14 (t:=Ux (Ps [_,_,_])) (k:=Dn 16 (k:=Na (k:=Dd (k:=?_))))))));exact Aa9
     ·
      refine Aam hTO rfl rfl rfl (fun x17 hx17=>?_);refine Dn 3 (k:=Nl [_,_] (cs:=[_,_]) (k:=fun b7=>Dn 7 (k:=Ne 1 ui (k:=Dn 8 (k:=Nm (hv:=by exact Aa4 (f:=vS) [] (l:=usersL) (m:=ui) hu2) (k:=Di 14 (t:=Ux (Ps [_,_,_])) (k:=Dn 16 (k:=Na (k:=Dd (k:=?_))))))))));exact Aa9
   ·
    refine Nc [.int .i64 0,.slice none 0 0,vS []] (k:=fun b3=>?_);refine Aah 3 6 (by kernel_rfl) rfl rfl ?_ ?_
    ·
     refine Nl [_,_] (cs:=[_,_]) (k:=fun b7=>Dn 6 (k:=?_));refine Aal (Aaf u 0 1 (by omega) (by omega) (by omega)) rfl rfl rfl ?_;rw[hui];refine Aah 7 13 (by kernel_rfl) rfl rfl ?_ ?_
     ·
      refine Ne 1 ui (k:=?_);refine Aah 8 13 (by kernel_rfl) rfl rfl ?_ ?_
      ·
       refine Nm (hv:=by exact Aa4 (f:=vS) [] (l:=usersL) (m:=ui) hu2) (k:=Dn 13 (k:=?_));refine Aam hTO rfl rfl rfl (fun x17 hx17=>?_);refine Di 14 (t:=Ux (Ps [_,_,_])) (k:=Dn 16 (k:=Na (k:=Dd (k:=?_))));exact Aa9
      ·
       refine Aam hTO rfl rfl rfl (fun x17 hx17=>?_);refine Dn 8 (k:=Nm (hv:=by exact Aa4 (f:=vS) [] (l:=usersL) (m:=ui) hu2) (k:=Di 14 (t:=Ux (Ps [_,_,_])) (k:=Dn 16 (k:=Na (k:=Dd (k:=?_))))));exact Aa9
     ·
      refine Aam hTO rfl rfl rfl (fun x17 hx17=>?_);refine Dn 7 (k:=Ne 1 ui (k:=Dn 8 (k:=Nm (hv:=by exact Aa4 (f:=vS) [] (l:=usersL) (m:=ui) hu2) (k:=Di 14 (t:=Ux (Ps [_,_,_])) (k:=Dn 16 (k:=Na (k:=Dd (k:=?_))))))));exact Aa9
    ·
     refine Aal (Aaf u 0 1 (by omega) (by omega) (by omega)) rfl rfl rfl ?_;rw[hui];refine Aah 3 13 (by kernel_rfl) rfl rfl ?_ ?_
     ·
      refine Nl [_,_] (cs:=[_,_]) (k:=fun b7=>?_);refine Aah 7 13 (by kernel_rfl) rfl rfl ?_ ?_
      ·
       refine Ne 1 ui (k:=?_);refine Aah 8 13 (by kernel_rfl) rfl rfl ?_ ?_
       ·
        refine Nm (hv:=by exact Aa4 (f:=vS) [] (l:=usersL) (m:=ui) hu2) (k:=Dn 13 (k:=?_));refine Aam hTO rfl rfl rfl (fun x17 hx17=>?_);refine Di 14 (t:=Ux (Ps [_,_,_])) (k:=Dn 16 (k:=Na (k:=Dd (k:=?_))));exact Aa9
       ·
        refine Aam hTO rfl rfl rfl (fun x17 hx17=>?_);refine Dn 8 (k:=Nm (hv:=by exact Aa4 (f:=vS) [] (l:=usersL) (m:=ui) hu2) (k:=Di 14 (t:=Ux (Ps [_,_,_])) (k:=Dn 16 (k:=Na (k:=Dd (k:=?_))))));exact Aa9
      ·
       refine Aam hTO rfl rfl rfl (fun x17 hx17=>?_);refine Dn 7 (k:=Ne 1 ui (k:=Dn 8 (k:=Nm (hv:=by exact Aa4 (f:=vS) [] (l:=usersL) (m:=ui) hu2) (k:=Di 14 (t:=Ux (Ps [_,_,_])) (k:=Dn 16 (k:=Na (k:=Dd (k:=?_))))))));exact Aa9
     ·
      refine Aam hTO rfl rfl rfl (fun x17 hx17=>?_);refine Dn 3 (k:=Nl [_,_] (cs:=[_,_]) (k:=fun b7=>Dn 7 (k:=Ne 1 ui (k:=Dn 8 (k:=Nm (hv:=by exact Aa4 (f:=vS) [] (l:=usersL) (m:=ui) hu2) (k:=Di 14 (t:=Ux (Ps [_,_,_])) (k:=Dn 16 (k:=Na (k:=Dd (k:=?_))))))))));exact Aa9
  ·
   refine Nl [_,_] (cs:=[_,_]) (k:=fun b7=>?_);refine Aah 2 15 (by kernel_rfl) rfl rfl ?_ ?_
   ·
    refine Aal (Aaf d 0 9 (by omega) (by omega) (by omega)) rfl rfl rfl ?_;refine Aah 6 15 (by kernel_rfl) rfl rfl ?_ ?_
    ·
     refine Aal (Aaf u 0 1 (by omega) (by omega) (by omega)) rfl rfl rfl ?_;rw[hui];refine AdS 7 13 15 (by kernel_rfl) rfl rfl rfl ?_ ?_ ?_
     ·
      refine Ne 1 ui (k:=?_);refine AdS 8 13 15 (by kernel_rfl) rfl rfl rfl ?_ ?_ ?_
      ·
       refine Nm (hv:=by exact Aa4 (f:=vS) [] (l:=usersL) (m:=ui) hu2) (k:=?_);refine Aah 13 15 (by kernel_rfl) rfl rfl ?_ ?_
       ·
        refine Aam hTO rfl rfl rfl (fun x17 hx17=>?_);refine Di 14 (t:=Ux (Ps [_,_,_])) (k:=Dn 15 (k:=Nc [.int .i64 0,.slice none 0 0,vS []] (k:=fun b3=>Dn 16 (k:=Na (k:=Dd (k:=?_))))));exact Aa9
       ·
        refine Nc [.int .i64 0,.slice none 0 0,vS []] (k:=fun b3=>Dn 13 (k:=?_));refine Aam hTO rfl rfl rfl (fun x17 hx17=>?_);refine Di 14 (t:=Ux (Ps [_,_,_])) (k:=Dn 16 (k:=Na (k:=Dd (k:=?_))));exact Aa9
      ·
       refine Aam hTO rfl rfl rfl (fun x17 hx17=>?_);refine Aah 8 15 (by kernel_rfl) rfl rfl ?_ ?_
       ·
        refine Nm (hv:=by exact Aa4 (f:=vS) [] (l:=usersL) (m:=ui) hu2) (k:=Di 14 (t:=Ux (Ps [_,_,_])) (k:=Dn 15 (k:=Nc [.int .i64 0,.slice none 0 0,vS []] (k:=fun b3=>Dn 16 (k:=Na (k:=Dd (k:=?_)))))));exact Aa9
       ·
        refine Nc [.int .i64 0,.slice none 0 0,vS []] (k:=fun b3=>Dn 8 (k:=Nm (hv:=by exact Aa4 (f:=vS) [] (l:=usersL) (m:=ui) hu2) (k:=Di 14 (t:=Ux (Ps [_,_,_])) (k:=Dn 16 (k:=Na (k:=Dd (k:=?_)))))));exact Aa9
      ·
       refine Nc [.int .i64 0,.slice none 0 0,vS []] (k:=fun b3=>?_);refine Aah 8 13 (by kernel_rfl) rfl rfl ?_ ?_
       ·
        refine Nm (hv:=by exact Aa4 (f:=vS) [] (l:=usersL) (m:=ui) hu2) (k:=Dn 13 (k:=?_));refine Aam hTO rfl rfl rfl (fun x17 hx17=>?_);refine Di 14 (t:=Ux (Ps [_,_,_])) (k:=Dn 16 (k:=Na (k:=Dd (k:=?_))));exact Aa9
       ·
        refine Aam hTO rfl rfl rfl (fun x17 hx17=>?_);refine Dn 8 (k:=Nm (hv:=by exact Aa4 (f:=vS) [] (l:=usersL) (m:=ui) hu2) (k:=Di 14 (t:=Ux (Ps [_,_,_])) (k:=Dn 16 (k:=Na (k:=Dd (k:=?_))))));exact Aa9
     ·
      refine Aam hTO rfl rfl rfl (fun x17 hx17=>?_);refine Aah 7 15 (by kernel_rfl) rfl rfl ?_ ?_
      ·
       refine Ne 1 ui (k:=?_);refine Aah 8 15 (by kernel_rfl) rfl rfl ?_ ?_
       ·
        refine Nm (hv:=by exact Aa4 (f:=vS) [] (l:=usersL) (m:=ui) hu2) (k:=Di 14 (t:=Ux (Ps [_,_,_])) (k:=Dn 15 (k:=Nc [.int .i64 0,.slice none 0 0,vS []] (k:=fun b3=>Dn 16 (k:=Na (k:=Dd (k:=?_)))))));exact Aa9
       ·
        refine Nc [.int .i64 0,.slice none 0 0,vS []] (k:=fun b3=>Dn 8 (k:=Nm (hv:=by exact Aa4 (f:=vS) [] (l:=usersL) (m:=ui) hu2) (k:=Di 14 (t:=Ux (Ps [_,_,_])) (k:=Dn 16 (k:=Na (k:=Dd (k:=?_)))))));exact Aa9
      ·
       refine Nc [.int .i64 0,.slice none 0 0,vS []] (k:=fun b3=>Dn 7 (k:=Ne 1 ui (k:=Dn 8 (k:=Nm (hv:=by exact Aa4 (f:=vS) [] (l:=usersL) (m:=ui) hu2) (k:=Di 14 (t:=Ux (Ps [_,_,_])) (k:=Dn 16 (k:=Na (k:=Dd (k:=?_)))))))));exact Aa9
     ·
      refine Nc [.int .i64 0,.slice none 0 0,vS []] (k:=fun b3=>?_);refine Aah 7 13 (by kernel_rfl) rfl rfl ?_ ?_
      ·
       refine Ne 1 ui (k:=?_);refine Aah 8 13 (by kernel_rfl) rfl rfl ?_ ?_
       ·
        refine Nm (hv:=by exact Aa4 (f:=vS) [] (l:=usersL) (m:=ui) hu2) (k:=Dn 13 (k:=?_));refine Aam hTO rfl rfl rfl (fun x17 hx17=>?_);refine Di 14 (t:=Ux (Ps [_,_,_])) (k:=Dn 16 (k:=Na (k:=Dd (k:=?_))));exact Aa9
       ·
        refine Aam hTO rfl rfl rfl (fun x17 hx17=>?_);refine Dn 8 (k:=Nm (hv:=by exact Aa4 (f:=vS) [] (l:=usersL) (m:=ui) hu2) (k:=Di 14 (t:=Ux (Ps [_,_,_])) (k:=Dn 16 (k:=Na (k:=Dd (k:=?_))))));exact Aa9
      ·
       refine Aam hTO rfl rfl rfl (fun x17 hx17=>?_);refine Dn 7 (k:=Ne 1 ui (k:=Dn 8 (k:=Nm (hv:=by exact Aa4 (f:=vS) [] (l:=usersL) (m:=ui) hu2) (k:=Di 14 (t:=Ux (Ps [_,_,_])) (k:=Dn 16 (k:=Na (k:=Dd (k:=?_))))))));exact Aa9
    ·
     refine Nc [.int .i64 0,.slice none 0 0,vS []] (k:=fun b3=>Dn 6 (k:=?_));refine Aal (Aaf u 0 1 (by omega) (by omega) (by omega)) rfl rfl rfl ?_;rw[hui];refine Aah 7 13 (by kernel_rfl) rfl rfl ?_ ?_
     ·
      refine Ne 1 ui (k:=?_);refine Aah 8 13 (by kernel_rfl) rfl rfl ?_ ?_
      ·
       refine Nm (hv:=by exact Aa4 (f:=vS) [] (l:=usersL) (m:=ui) hu2) (k:=Dn 13 (k:=?_));refine Aam hTO rfl rfl rfl (fun x17 hx17=>?_);refine Di 14 (t:=Ux (Ps [_,_,_])) (k:=Dn 16 (k:=Na (k:=Dd (k:=?_))));exact Aa9
      ·
       refine Aam hTO rfl rfl rfl (fun x17 hx17=>?_);refine Dn 8 (k:=Nm (hv:=by exact Aa4 (f:=vS) [] (l:=usersL) (m:=ui) hu2) (k:=Di 14 (t:=Ux (Ps [_,_,_])) (k:=Dn 16 (k:=Na (k:=Dd (k:=?_))))));exact Aa9
     ·
      refine Aam hTO rfl rfl rfl (fun x17 hx17=>?_);refine Dn 7 (k:=Ne 1 ui (k:=Dn 8 (k:=Nm (hv:=by exact Aa4 (f:=vS) [] (l:=usersL) (m:=ui) hu2) (k:=Di 14 (t:=Ux (Ps [_,_,_])) (k:=Dn 16 (k:=Na (k:=Dd (k:=?_))))))));exact Aa9
   ·
    refine Nc [.int .i64 0,.slice none 0 0,vS []] (k:=fun b3=>Dn 2 (k:=?_));refine Aal (Aaf d 0 9 (by omega) (by omega) (by omega)) rfl rfl rfl ?_;refine Dn 6 (k:=?_);refine Aal (Aaf u 0 1 (by omega) (by omega) (by omega)) rfl rfl rfl ?_;rw[hui];refine Aah 7 13 (by kernel_rfl) rfl rfl ?_ ?_
    ·
     refine Ne 1 ui (k:=?_);refine Aah 8 13 (by kernel_rfl) rfl rfl ?_ ?_
     ·
      refine Nm (hv:=by exact Aa4 (f:=vS) [] (l:=usersL) (m:=ui) hu2) (k:=Dn 13 (k:=?_));refine Aam hTO rfl rfl rfl (fun x17 hx17=>?_);refine Di 14 (t:=Ux (Ps [_,_,_])) (k:=Dn 16 (k:=Na (k:=Dd (k:=?_))));exact Aa9
     ·
      refine Aam hTO rfl rfl rfl (fun x17 hx17=>?_);refine Dn 8 (k:=Nm (hv:=by exact Aa4 (f:=vS) [] (l:=usersL) (m:=ui) hu2) (k:=Di 14 (t:=Ux (Ps [_,_,_])) (k:=Dn 16 (k:=Na (k:=Dd (k:=?_))))));exact Aa9
    ·
     refine Aam hTO rfl rfl rfl (fun x17 hx17=>?_);refine Dn 7 (k:=Ne 1 ui (k:=Dn 8 (k:=Nm (hv:=by exact Aa4 (f:=vS) [] (l:=usersL) (m:=ui) hu2) (k:=Di 14 (t:=Ux (Ps [_,_,_])) (k:=Dn 16 (k:=Na (k:=Dd (k:=?_))))))));exact Aa9
  ·
   refine Nc [.int .i64 0,.slice none 0 0,vS []] (k:=fun b3=>?_);refine Aah 2 3 (by kernel_rfl) rfl rfl ?_ ?_
   ·
    refine Aal (Aaf d 0 9 (by omega) (by omega) (by omega)) rfl rfl rfl ?_;refine Aah 3 6 (by kernel_rfl) rfl rfl ?_ ?_
    ·
     refine Nl [_,_] (cs:=[_,_]) (k:=fun b7=>Dn 6 (k:=?_));refine Aal (Aaf u 0 1 (by omega) (by omega) (by omega)) rfl rfl rfl ?_;rw[hui];refine Aah 7 13 (by kernel_rfl) rfl rfl ?_ ?_
     ·
      refine Ne 1 ui (k:=?_);refine Aah 8 13 (by kernel_rfl) rfl rfl ?_ ?_
      ·
       refine Nm (hv:=by exact Aa4 (f:=vS) [] (l:=usersL) (m:=ui) hu2) (k:=Dn 13 (k:=?_));refine Aam hTO rfl rfl rfl (fun x17 hx17=>?_);refine Di 14 (t:=Ux (Ps [_,_,_])) (k:=Dn 16 (k:=Na (k:=Dd (k:=?_))));exact Aa9
      ·
       refine Aam hTO rfl rfl rfl (fun x17 hx17=>?_);refine Dn 8 (k:=Nm (hv:=by exact Aa4 (f:=vS) [] (l:=usersL) (m:=ui) hu2) (k:=Di 14 (t:=Ux (Ps [_,_,_])) (k:=Dn 16 (k:=Na (k:=Dd (k:=?_))))));exact Aa9
     ·
      refine Aam hTO rfl rfl rfl (fun x17 hx17=>?_);refine Dn 7 (k:=Ne 1 ui (k:=Dn 8 (k:=Nm (hv:=by exact Aa4 (f:=vS) [] (l:=usersL) (m:=ui) hu2) (k:=Di 14 (t:=Ux (Ps [_,_,_])) (k:=Dn 16 (k:=Na (k:=Dd (k:=?_))))))));exact Aa9
    ·
     refine Aal (Aaf u 0 1 (by omega) (by omega) (by omega)) rfl rfl rfl ?_;rw[hui];refine Aah 3 13 (by kernel_rfl) rfl rfl ?_ ?_
     ·
      refine Nl [_,_] (cs:=[_,_]) (k:=fun b7=>?_);refine Aah 7 13 (by kernel_rfl) rfl rfl ?_ ?_
      ·
       refine Ne 1 ui (k:=?_);refine Aah 8 13 (by kernel_rfl) rfl rfl ?_ ?_
       ·
        refine Nm (hv:=by exact Aa4 (f:=vS) [] (l:=usersL) (m:=ui) hu2) (k:=Dn 13 (k:=?_));refine Aam hTO rfl rfl rfl (fun x17 hx17=>?_);refine Di 14 (t:=Ux (Ps [_,_,_])) (k:=Dn 16 (k:=Na (k:=Dd (k:=?_))));exact Aa9
       ·
        refine Aam hTO rfl rfl rfl (fun x17 hx17=>?_);refine Dn 8 (k:=Nm (hv:=by exact Aa4 (f:=vS) [] (l:=usersL) (m:=ui) hu2) (k:=Di 14 (t:=Ux (Ps [_,_,_])) (k:=Dn 16 (k:=Na (k:=Dd (k:=?_))))));exact Aa9
      ·
       refine Aam hTO rfl rfl rfl (fun x17 hx17=>?_);refine Dn 7 (k:=Ne 1 ui (k:=Dn 8 (k:=Nm (hv:=by exact Aa4 (f:=vS) [] (l:=usersL) (m:=ui) hu2) (k:=Di 14 (t:=Ux (Ps [_,_,_])) (k:=Dn 16 (k:=Na (k:=Dd (k:=?_))))))));exact Aa9
     ·
      refine Aam hTO rfl rfl rfl (fun x17 hx17=>?_);refine Dn 3 (k:=Nl [_,_] (cs:=[_,_]) (k:=fun b7=>Dn 7 (k:=Ne 1 ui (k:=Dn 8 (k:=Nm (hv:=by exact Aa4 (f:=vS) [] (l:=usersL) (m:=ui) hu2) (k:=Di 14 (t:=Ux (Ps [_,_,_])) (k:=Dn 16 (k:=Na (k:=Dd (k:=?_))))))))));exact Aa9
   ·
    refine Nl [_,_] (cs:=[_,_]) (k:=fun b7=>Dn 2 (k:=?_));refine Aal (Aaf d 0 9 (by omega) (by omega) (by omega)) rfl rfl rfl ?_;refine Dn 6 (k:=?_);refine Aal (Aaf u 0 1 (by omega) (by omega) (by omega)) rfl rfl rfl ?_;rw[hui];refine Aah 7 13 (by kernel_rfl) rfl rfl ?_ ?_
    ·
     refine Ne 1 ui (k:=?_);refine Aah 8 13 (by kernel_rfl) rfl rfl ?_ ?_
     ·
      refine Nm (hv:=by exact Aa4 (f:=vS) [] (l:=usersL) (m:=ui) hu2) (k:=Dn 13 (k:=?_));refine Aam hTO rfl rfl rfl (fun x17 hx17=>?_);refine Di 14 (t:=Ux (Ps [_,_,_])) (k:=Dn 16 (k:=Na (k:=Dd (k:=?_))));exact Aa9
     ·
      refine Aam hTO rfl rfl rfl (fun x17 hx17=>?_);refine Dn 8 (k:=Nm (hv:=by exact Aa4 (f:=vS) [] (l:=usersL) (m:=ui) hu2) (k:=Di 14 (t:=Ux (Ps [_,_,_])) (k:=Dn 16 (k:=Na (k:=Dd (k:=?_))))));exact Aa9
    ·
     refine Aam hTO rfl rfl rfl (fun x17 hx17=>?_);refine Dn 7 (k:=Ne 1 ui (k:=Dn 8 (k:=Nm (hv:=by exact Aa4 (f:=vS) [] (l:=usersL) (m:=ui) hu2) (k:=Di 14 (t:=Ux (Ps [_,_,_])) (k:=Dn 16 (k:=Na (k:=Dd (k:=?_))))))));exact Aa9
end
section
section
variable {P:Program} {n:Nat} {L:Loc} {ty:TypeId}
theorem AoB {x y:Operand} {k:IntKind} {i j:Int} {t yt:TypeId} (hx:ev L x=some (.int k i)) (hy:ev L y=some (.int k j)) (h:1≤j) :
    PV P n L (.binOp .quo t x y yt) ty (.int k (k.wrap (i.tdiv j))):=Abl hx hy fun w=>by
     have hj:¬(j=0):=by omega
     simp[binOp,Op.intDiv,hj]
end
structure KFiles (whole:Bool) (j:Nat) (l:List (Bs×Bs)):Prop where
 len:l.length≤2
 hash:∀f∈l,(∃n,f.2=Abx n)∨(whole=false∧f.2=[])
 name:∀f∈l,∃i,i<j∧f.1=wordsL.getD i []
 rise:l.Pairwise (fun x y=>blt x.1 y.1=true)
theorem KFiles.snoc {whole:Bool} {j:Nat} {l:List (Bs×Bs)} {t:Bs×Bs} (h:KFiles whole j l) (hj:j<6) (hl:l.length≤1) (hk:(∃n,t.2=Abx n)∨(whole=false∧t.2=[])) (hn:t.1=wordsL.getD j []):KFiles whole (j+1) (l++[t]):=by
 obtain⟨h1,h2,h3,h4⟩:=h;refine⟨by simp;omega,?_,?_,?_⟩
 · intro x hx
   rcases List.mem_append.1 hx with e | e
   · exact h2 x e
   · rw[List.mem_singleton.1 e];exact hk
 · intro x hx
   rcases List.mem_append.1 hx with e | e
   · obtain⟨i,hi,e2⟩:=h3 x e
     exact⟨i,by omega,e2⟩
   · rw[List.mem_singleton.1 e];exact⟨j,by omega,hn⟩
 · rw[List.pairwise_append]
   refine⟨h4,by simp,fun a ha b hb=>?_⟩;rw[List.mem_singleton.1 hb,hn];obtain⟨i,hi,e2⟩:=h3 a ha;rw[e2];exact AlB i j hi hj
theorem KFiles.more {own:Bool} {j:Nat} {l:List (Bs×Bs)} (h:KFiles own j l):KFiles own (j+1) l:=⟨h.len,h.hash,fun t ht=>by obtain⟨i,hi,e⟩:=h.name t ht;exact⟨i,by omega,e⟩,h.rise⟩
theorem KFiles.right {w:Bool} {l:List (Bs×Bs)} (h:KFiles w 6 l):AiV w l:=by
 refine⟨fun i hi=>?_,by have:=h.len;omega⟩;have e:l.getD i ([],[])=l[i]:=by simp[hi]
 have hm:l[i]∈l:=List.getElem_mem hi;obtain⟨k,hk,hn⟩:=h.name _ hm;refine⟨by rw[e,hn];exact(Ah1 k hk).1,fun h0=>?_,?_⟩
 · have e2:l.getD (i-1) ([],[])=l[i-1]:=by simp[show i-1<l.length by omega]
   rw[e,e2];exact List.pairwise_iff_getElem.1 h.rise (i-1) i (by omega) hi (by omega)
 · rw[e]
   rcases h.hash _ hm with ⟨n,e2⟩ | ⟨h1,h2⟩
   · left;rw[e2];exact Afe n
   · right;exact⟨h1,h2⟩
structure KPars (j:Nat) (l:List Bs):Prop where
 len:l.length≤j
 all:∀p∈l,∃n,p=Abx n
 two:l.Nodup
theorem KPars.snoc {j:Nat} {l:List Bs} {p:Bs} (h:KPars j l) (hl:l.length≤1) (hp:∃n,p=Abx n) (hn:l=[]∨l.getD 0 []≠p):KPars (j+1) (l++[p]):=by
 refine⟨by have:=h.len;simp;omega,?_,?_⟩
 · intro x hx
   rcases List.mem_append.1 hx with e | e
   · exact h.all x e
   · rw[List.mem_singleton.1 e];exact hp
 · rw [List.nodup_append]
   refine⟨h.two,by simp,fun a ha b hb=>?_⟩;rw[List.mem_singleton.1 hb]
   cases l with
   | nil=>cases ha
   | cons x r =>
     cases r with
     | nil =>
       rw[List.mem_singleton.1 ha];rcases hn with e | e
       · cases e
       · exact e
     | cons y r=>simp at hl
theorem KPars.right {j:Nat} {l:List Bs} (h:KPars j l) (hj:j≤2):Akk l 3:=by
 refine⟨fun i hi=>?_,by have:=h.len;omega⟩;have e:l.getD i []=l[i]:=by simp[hi]
 rw[e];obtain⟨n,hn⟩:=h.all _ (List.getElem_mem hi);refine⟨by rw[hn];exact Afe n,fun hm=>?_⟩;obtain⟨k,hk,ek⟩:=List.getElem_of_mem hm;rw[List.getElem_take] at ek;have hki:k<i:=by rw[List.length_take] at hk;omega
 exact absurd ek ((List.pairwise_iff_getElem.1 h.two) k i (by omega) hi hki)
structure KCk (c:Ck):Prop where
 right:AbD c
 base:c.base=[]∨∃n,c.base=Abx n
 files:∀f∈c.files,f.2=[]∨∃n,f.2=Abx n
 pars:∀p∈c.parents,∃n,p=Abx n
 z:CkZ c
theorem KCk.mk' {base com user:Bs} {date:Int} {fs:List (Bs×Bs)} {ps:List Bs} {ts:List Tg} (hb:base=[]∨∃n,base=Abx n) (hc:com.length≤12) (hd:0≤date∧date≤9) (hu:Acm user∧user.length≤3)
    (hf:KFiles (decide (base=[])) 6 fs) (hp:KPars 2 ps) (ht:KTags true 6 ts):KCk ⟨base,com,date,fs,ps,ts,user⟩:=by
 refine⟨⟨?_,by dsimp only;omega,by dsimp only;omega,hf.right,hp.right (Nat.le_refl _),ht.right,hu.1⟩,hb,fun f h=>?_,hp.all,?_⟩
 · rcases hb with h | ⟨n,h⟩
   · exact .inl h
   · right;dsimp only;rw[h];exact Afe n
 · rcases hf.hash f h with h | h
   · exact .inr h
   · exact .inl h.2
 · have h40:∀n,(Abx n).length=40:=fun n=>Aeq _
   refine⟨?_,by dsimp only;omega,by dsimp only;omega,by have:=hf.len;dsimp only;omega,fun f h=>?_,by have:=hp.len;dsimp only;omega,fun p h=>?_,ht.z (Nat.le_refl _)⟩
   · rcases hb with h | ⟨n,h⟩
     · dsimp only;rw[h];exact Nat.zero_le _
     · dsimp only;rw[h,h40];omega
   · obtain⟨k,hk,hn⟩:=hf.name f h
     have h1:=(Ah1 k hk).2;rw[←hn] at h1;refine⟨by omega,?_⟩;rcases hf.hash f h with ⟨n,h⟩ | h
     · rw[h,h40];omega
     · rw[h.2];exact Nat.zero_le _
   · obtain⟨n,h⟩:=hp.all p h
     rw[h,h40];omega
end
end Go.Proofs.YtdnoacgopfcpbaaGreat
