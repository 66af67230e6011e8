/- Proved: the statement HeadsTells of chapter 19: whatever it is given, the function ammonitelaw19.HeadsTells answers true and turns nothing that was there. No conditions. -/
import Derived.Test.YtdnoacgopfcpbaaGreatRows
import Derived.ProofKit
import Derived.OpenShut
import Derived.ShutString
import Derived.ChangeOld
import Derived.Carry
import Derived.SizedLaws
import Derived.Test.YtdnoacgopfcpbaaGreatQ33
set_option linter.unusedVariables false
set_option linter.unusedSimpArgs false
namespace Go.Proofs.YtdnoacgopfcpbaaGreat.headsTells
open Go.ChangeShapes Go.WideShapes Go.ChangeAt Go.RowKit
open Go.ChangeMaps (open_string shut_string)
theorem Axt {a b:Bool} (h:a=true) (k:b=true):(a && b)=true:=by rw[h,k];rfl
theorem own:ownKnob Tryz.prog.godebug=none:=by kernel_rfl
theorem Avs:laidOutB Tryz.prog=true:=by kernel_rfl
set_option maxRecDepth 100000 in
theorem AwF (os:Os) (started:os.Started) (H:Type) (enc:TypeId×Value→H) :
    ReturnsInHanded {} Tryz.checked os 9 .any (Rows.headsTellsSpec.pre6 enc Tryz.prog Tryz.f9 Rows.headsTellsRow.domain false) (Rows.headsTellsSpec.post enc Tryz.prog Tryz.f9 false true false false):=by
 refine returnsInHanded_of_change_sized (C:=Tryz.checked) own started (by kernel_rfl) Tryz.func9
  (ChangeSpec.witness6 (enc:=enc) (C:=Tryz.checked) false ⟨#[],#[.slice none 0 0,.int .i64 0],[]⟩ 8 (by kernel_rfl) (by kernel_rfl) (by kernel_rfl) (by kernel_rfl)) ?_
 intro W base args ds gs before hval0 hW hcnd hsz0 _;have hval:∀(j:Nat) t v,Tryz.f9.params[j]?=some t→args[j]?=some v→Value.okWide Tryz.prog W .any base t v:=hval0;have hW':=hW;obtain⟨p,q,hA0,hV,rfl,hfz,hnd⟩:=hW;have hA:DataW.TrodAll enc Tryz.prog W 0 (fun _=>true) true Tryz.f9.params.toList args.toList ds p:=hA0;rw[Tryz.params9] at hA hval;obtain⟨v0,vs0,d0,ds0,p0,q0,hargs,rfl,rfl,h0,r0⟩:=trodAll_cons hA;obtain⟨v1,vs1,d1,ds1,p1,q1,rfl,rfl,rfl,h1,r1⟩:=trodAll_cons r0;obtain⟨rfl,rfl,rfl⟩:=trodAll_nil r1;obtain rfl:args=#[v0,v1]:=by cases args;simp_all
 obtain⟨rfl,rfl⟩:=trodVars_none hV;have lt0:∀x∈p0,x.block<W.heap.size:=by obtain⟨m,hm⟩:=h0;exact DataW.trod_lt m _ _ _ hm
 have k0:=h0;obtain⟨b0,n0,k0',rfl⟩:=okWide_slice Tryz.underlying44 (hval 0 44 v0 rfl rfl);obtain⟨m0,h0⟩:=h0;obtain⟨sa0,sc0,sl0,g0,lb0,sm0,am0,z0⟩:=AvT h0;simp only[Value.cells,List.cons.injEq,Value.slice.injEq,and_true] at g0;obtain⟨rfl,rfl,rfl⟩:=g0;obtain⟨a1,rfl,rfl,rfl,w1⟩:=open_int Tryz.underlying3 (hval 1 3 v1 rfl rfl) h1;have w1':=Awa w1;clear hA0 hval0 hsz0;have law:=An4 b0 k0' sl0 a1 lb0 z0;refine(Sp.law law W (Apv (by intro A hA;simp only[List.mem_cons,List.not_mem_nil,or_false] at hA;rcases hA with rfl | rfl<;>assumption))).mono fun e W' ⟨he,bel⟩=>?_;subst he;exact⟨_,rfl,_,_,_,[],_,[],hW',trodAll_mk1 (shut_bool Tryz.underlying4 _),(trodAll_cons_mk (Below.trod Avs (by kernel_rfl) (of_decide_eq_true (by kernel_rfl)) k0 bel lt0) (trodAll_cons_mk (shut_int Tryz.underlying3 w1) trodAll_mk0)),rfl,bel.frame _,fun h=>by cases h⟩
set_option maxHeartbeats 8000000 in
theorem AxC:Rows.headsTellsRow.holds Tryz.pinned (OpenSpec.ofChange Rows.headsTellsSpec) :=
 OpenClaim.holds_of_wide 9 Tryz.f9 rfl rfl rfl rfl rfl rfl rfl ⟨rfl,rfl,rfl,rfl,rfl⟩ rfl rfl rfl rfl rfl (by kernel_rfl) Tryz.func9 (by unfold joinedFacts;(repeat' (with_reducible refine Axt ?_ ?_));all_goals decide +kernel)
  (of_decide_eq_true (by kernel_rfl)) (by unfold Func.isWrapper;first | (rw[if_pos (by decide +kernel)];kernel_rfl) | (rw[if_neg (by decide +kernel)];exact⟨rfl,rfl⟩))
  (fun os started H enc _=>AwF os started H enc)
theorem proved:Rows.HeadsTellsSaid:=AxC
#print axioms proved
end Go.Proofs.YtdnoacgopfcpbaaGreat.headsTells
namespace Go.Proofs.YtdnoacgopfcpbaaGreat
theorem headsTells_holds:Rows.HeadsTellsSaid:=headsTells.proved
end Go.Proofs.YtdnoacgopfcpbaaGreat
