/- Texts of this proof, put together: PTag17, SR17d, SR17e, P19T, MapL, SSameS. -/
import Derived.Test.YtdnoacgopfcpbaaGreatQ31
set_option linter.unusedVariables false
set_option linter.unusedSimpArgs false
namespace Go.Proofs.YtdnoacgopfcpbaaGreat
theorem Amj {H:Ks} (hn:(H.map (·.1)).Nodup) (n:Bs):Ac7 (AaY H) n=AaD (Abq H n):=by
 have hc:((AaY H).map (·.1)).Nodup:=((AbB _).nodup_iff.2 hn).sublist (Ahz H _);have key:∀c,Ac7 (AaY H) n=some c↔AaD (Abq H n)=some c:=fun c=>by
  rw[Ao2 hc];unfold AaY;rw[cks_mem];dsimp only;constructor
  · exact fun h=>h.2
  · intro h
    refine⟨?_,h⟩;rw[keysS_mem];refine Classical.byContradiction fun hk=>?_;rw[AnV hk,AnI] at h
    cases h
 cases e:AaD (Abq H n) with
 | some c=>exact(key c).2 e
 | none =>
   cases e2:Ac7 (AaY H) n with
   | none=>rfl
   | some c=>rw[(key c).1 e2] at e;cases e
theorem Aub {H:Ks} {k:Bs×Bs} {s:Sd} (h:Ab0 (AbO H) k=some s):s∈sdL H∧Abw s=k:=by
 obtain⟨hk,l1,l2,e1,_⟩:=(Ag5 (sdL H)).2.2 k s h;exact⟨by rw[e1];simp,hk⟩
theorem AtZ {n s:Bs} {t:Tg} (ht:t∈(Ado n s).1):t.kind.toNat=43∨t.kind.toNat=42∨t.kind.toNat=45:=by
 have key:∀(own:Bool) (l:List Tg),RightT own l→∀t∈l,t.kind.toNat=43∨t.kind.toNat=42∨t.kind.toNat=45:=fun own l hl t ht=>by
  obtain⟨i,hi,rfl⟩:=List.getElem_of_mem ht;have:=(hl.ok i hi).kind;rw[show l.getD i tg0=l[i] by simp[hi]] at this;rcases this with h | h | h
  · exact .inl h
  · exact .inr (.inl h)
  · exact .inr (.inr h.1)
 unfold Ado at ht
 cases e:AaD s with
 | some c =>
   rw[e] at ht;obtain⟨t',ht',rfl⟩:=List.mem_map.1 ht;exact key true c.tags (AdI e).tags t' ht'
 | none =>
   rw[e] at ht;dsimp only at ht
   cases e2:Ab9 s with
   | none=>rw[e2] at ht;simp[ct0] at ht
   | some c =>
     rw[e2] at ht;exact key false c.tags (readCt_iff.1 e2).1.tags t ht
noncomputable def tgW (H:Ks) (tag name:Bs):Nat→Nat→Bs→Option Tgd
 | 0,_,_=>none
 | k + 1,i,n=>match AaD (Abq H n) with
   | none=>none
   | some c=>match Ab0 (AbO H) (tag,n) with
     | none=>if Abk c=[] then none else tgW H tag name k (i+1) (Abk c)
     | some s=>if s.op.kind.toNat=45∨(0<i∧s.op.kind.toNat≠42) then none
       else some ⟨tag,name,s.op.value,s.src,decide (s.op.kind.toNat=42),decide (i=0)⟩
theorem AoQ (k:UInt8) (n:Nat) (h:n<256):k.toNat=n↔k=UInt8.ofNat n:=by
 constructor
 · intro e;rw[←e];simp
 · intro e;rw[e];simp[Nat.mod_eq_of_lt h]
theorem Av2 {H:Ks} (hn:(H.map (·.1)).Nodup) (h0:[]∉H.map (·.1)) (tag name:Bs):∀(k i:Nat) (n:Bs),(i=0→n=name)→(0<i→Ab0 (AbO H) (tag,name)=none)→tgW H tag name k i n=Adw (AaY H) (AbO H) tag name k n:=by
 intro k
 induction k with
 | zero=>intro i n _ _;rfl
 | succ k ih =>
   intro i n hi0 hi;rw[tgW,Adw,Amj hn]
   cases e:AaD (Abq H n) with
   | none=>rfl
   | some c =>
     dsimp only
     cases e2:Ab0 (AbO H) (tag,n) with
     | none =>
       dsimp only;have hnm:Ab0 (AbO H) (tag,name)=none:=by
        rcases Nat.eq_zero_or_pos i with h | h
        · rw[←hi0 h];exact e2
        · exact hi h
       by_cases hf:Abk c=[]
       · rw[if_pos hf,hf]
         cases k with
         | zero=>rfl
         | succ k=>rw[Adw,Amj hn,AnV h0,AnI]
       · rw[if_neg hf]
         exact ih (i+1) (Abk c) (by omega) (fun _=>hnm)
     | some s =>
       dsimp only;have hin:(i=0)↔n=name:=by
        constructor
        · exact hi0
        · intro h
          rcases Nat.eq_zero_or_pos i with h2 | h2
          · exact h2
          · have:=hi h2
            rw[←h,e2] at this
            cases this
       have hk:=AtZ (sd_in.1 (Aub e2).1).2.1;have h45:=AoQ s.op.kind 45 (by decide);have h43:=AoQ s.op.kind 43 (by decide);have h42:=AoQ s.op.kind 42 (by decide);have hc:(s.op.kind.toNat=45∨(0<i∧s.op.kind.toNat≠42))↔(s.op.kind=45∨(s.op.kind=43∧n≠name)):=by
        rw[show (s.op.kind=45)↔s.op.kind.toNat=45 from h45.symm,show (s.op.kind=43)↔s.op.kind.toNat=43 from h43.symm,ne_eq,ne_eq,←hin];omega
       have hd1:decide (s.op.kind.toNat=42)=decide (s.op.kind=42):=by
        rw[Bool.eq_iff_iff,decide_eq_true_iff,decide_eq_true_iff];exact h42
       have hd2:decide (i=0)=decide (n=name):=by
        rw[Bool.eq_iff_iff,decide_eq_true_iff,decide_eq_true_iff];exact hin
       rw[hd1,hd2];simp only[hc]
def nxC (C:List (Bs×Ck)) (n:Bs):Bs:=match Ac7 C n with
 | none=>n
 | some c=>Abk c
def nxN (C:List (Bs×Ck)):Nat→Bs→Bs
 | 0,n=>n
 | k+1,n=>nxN C k (nxC C n)
def Ajs (C:List (Bs×Ck)) (l:Ls) (tag n:Bs):Prop:=(Ac7 C n).isSome=true∧Ab0 l (tag,n)=none
theorem Ath {C:List (Bs×Ck)} {l:Ls} {tag name n:Bs} (h:Ajs C l tag n) (k:Nat):Adw C l tag name (k+1) n=Adw C l tag name k (nxC C n):=by
 obtain⟨h1,h2⟩:=h;obtain⟨c,hc⟩:=Option.isSome_iff_exists.1 h1;rw[Adw,nxC,hc];dsimp only;rw[h2]
theorem AfT {C:List (Bs×Ck)} {l:Ls} {tag name:Bs}:∀(m k:Nat) (n:Bs),(∀j,j<m→Ajs C l tag (nxN C j n))→Adw C l tag name (m+k) n=Adw C l tag name k (nxN C m n):=by
 intro m
 induction m with
 | zero=>intro k n _;rw[Nat.zero_add];rfl
 | succ m ih =>
   intro k n h;rw[show m+1+k=m+k+1 by omega,Ath (n:=n) (h 0 (by omega))];exact ih k (nxC C n) fun j hj=>h (j+1) (by omega)
theorem ArH {C:List (Bs×Ck)} {l:Ls} {tag name n:Bs} (h:¬Ajs C l tag n) (k:Nat):Adw C l tag name (k+1) n=Adw C l tag name 1 n:=by
 rw[Adw,Adw]
 cases e:Ac7 C n with
 | none=>rfl
 | some c =>
   dsimp only
   cases e2:Ab0 l (tag,n) with
   | none=>exact absurd ⟨by rw[e];rfl,e2⟩ h
   | some s=>rfl
theorem AoL (C:List (Bs×Ck)):∀(a b:Nat) (n:Bs),nxN C (a+b) n=nxN C b (nxN C a n):=by
 intro a
 induction a with
 | zero=>intro b n;rw[Nat.zero_add];rfl
 | succ a ih=>intro b n;rw[show a+1+b=a+b+1 by omega];exact ih b (nxC C n)
theorem Ao3 {C:List (Bs×Ck)} {n:Bs} (h:(Ac7 C n).isSome=true):n∈C.map (·.1):=by
 induction C with
 | nil=>cases h
 | cons p r ih =>
   rw[Ac7] at h;split at h
   · rename_i e;rw[←e];simp
   · exact List.mem_cons_of_mem _ (ih h)
theorem AuX (C : List (Bs×Ck)) (l:Ls) (tag name n:Bs) (m:Nat):Adw C l tag name (C.length+m) n=Adw C l tag name C.length n:=by
 by_cases hb:∃j,j<C.length∧¬Ajs C l tag (nxN C j n)
 · have hex:∃j,(j<C.length∧¬Ajs C l tag (nxN C j n))∧∀i,i<j→Ajs C l tag (nxN C i n):=by
     obtain⟨j,hj⟩:=hb
     induction j using Nat.strongRecOn with
     | ind j ih =>
       by_cases h:∃i,i<j∧¬Ajs C l tag (nxN C i n)
       · obtain⟨i,hi,hg⟩:=h
         exact ih i hi ⟨by omega,hg⟩
       · exact⟨j,hj,fun i hi=>Classical.byContradiction fun hg=>h ⟨i,hi,hg⟩⟩
   obtain⟨j,⟨hj,hbad⟩,hgood⟩:=hex;rw[show C.length+m=j+(C.length-j-1+m+1) by omega,AfT j _ n hgood,ArH hbad (C.length-j-1+m)];have:C.length=j+(C.length-j-1+1):=by omega
   rw[show Adw C l tag name C.length n=Adw C l tag name (j+(C.length-j-1+1)) n by rw[←this],AfT j _ n hgood,ArH hbad (C.length-j-1)]
 · have hgood : ∀j,j<C.length→Ajs C l tag (nxN C j n):=fun j hj=>Classical.byContradiction fun hg=>hb ⟨j,hj,hg⟩
   have e0:Adw C l tag name C.length n=none:=by
    have:=AfT (name:=name) C.length 0 n hgood;rw[Nat.add_zero] at this;rw[this];rfl
   rw[e0,AfT C.length m n hgood]
   cases m with
   | zero=>rfl
   | succ m =>
     cases hc:Ac7 C (nxN C C.length n) with
     | none=>rw[Adw,hc]
     | some c =>
       -- one of the first names comes again
       have hkey:∀j,j≤C.length→nxN C j n∈C.map (·.1):=fun j hj=>by
        rcases Nat.lt_or_eq_of_le hj with h | h
        · exact Ao3 (hgood j h).1
        · rw[h];exact Ao3 (by rw[hc];rfl)
       have hdup:¬((List.range (C.length+1)).map fun j=>nxN C j n).Nodup:=fun hnd=>by
        have:=Acx (l:=(List.range (C.length+1)).map fun j=>nxN C j n) (m:=C.map (·.1)) hnd (fun x hx=>by
         obtain⟨j,hj,rfl⟩:=List.mem_map.1 hx;exact hkey j (by have:=List.mem_range.1 hj;omega))
        rw[List.length_map,List.length_map,List.length_range] at this;omega
       have hab:∃a b,a<b∧b≤C.length∧nxN C a n=nxN C b n:=by
        refine Classical.byContradiction fun hno=>hdup ?_;refine List.pairwise_iff_getElem.2 fun i j hi hj hij e=>hno ⟨i,j,hij,?_,?_⟩
        · rw[List.length_map,List.length_range] at hj;omega
        · simpa using e
       obtain⟨a,b,hab,hbl,heq⟩:=hab;have hall:∀j,Ajs C l tag (nxN C j n):=by
        intro j
        induction j using Nat.strongRecOn with
        | ind j ih =>
          rcases Nat.lt_or_ge j b with h | h
          · exact hgood j (by omega)
          · have:nxN C j n=nxN C (a+(j-b)) n:=by
              rw[AoL,heq,←AoL,show b+(j-b)=j by omega]
            rw[this];exact ih _ (by omega)
       have:=AfT (name:=name) (m+1) 0 (nxN C C.length n) (fun j _=>by rw[←AoL];exact hall _);rw[Nat.add_zero] at this;rw[this];rfl
theorem Awg {H:Ks} (hn:(H.map (·.1)).Nodup) (h0:[]∉H.map (·.1)) (tag name:Bs):tgW H tag name (H.length+1) 0 name=ofT (AaY H) (AbO H) tag name:=by
 rw[Av2 hn h0 tag name _ 0 name (fun _=>rfl) (fun h=>by omega),ofT];have hl:=cksL_len' H;rw[show H.length+1=(AaY H).length+(H.length+1-(AaY H).length) by omega];exact AuX _ _ _ _ _ _
section
set_option maxRecDepth 100000
theorem An7 {G:Prop} (h:G:=by
    have hR0:R=none:=by
     rw[←hw,if_pos (by omega)]
    subst hR0;refine Aa2 () (vs:=[_,_]) (Cs:=[Ce b6 90 [vS [],vS [],vS [],vS [],.bool false,.bool false]]) rfl (.cell (l:=[vS [],vS [],vS [],vS [],.bool false,.bool false]) rfl (Aax (T:=90)) Tryz.underlying90 rfl Apj (by exact Nat.le_of_ble_eq_true rfl) rfl (.tmp rfl .nil)) rfl trivial ?_;exact(AaH (b:=b6) (T:=90) (l':=[vS [],vS [],vS [],vS [],.bool false,.bool false]) (by rfl) (by rfl)).trans Aa0):G:=h
theorem An6 {G:Prop} (h:G:=by
    rw[if_neg (by omega)] at hw;rw[show decide (s.op.kind.toNat=42)=decide ((s.op.kind.toNat:Int)=42) from by rw[Bool.eq_iff_iff,decide_eq_true_iff,decide_eq_true_iff];omega,show decide (i=0)=decide ((i:Int)=0) from by rw[Bool.eq_iff_iff,decide_eq_true_iff,decide_eq_true_iff];omega] at hw;subst hw;refine Aa2 () (vs:=[_,_]) (Cs:=[Ce b6 90 [vS tag,vS name,vS s.op.value,vS s.src,.bool (decide ((s.op.kind.toNat:Int)=42)),.bool (decide ((i:Int)=0))]]) rfl (.cell (l:=[vS tag,vS name,vS s.op.value,vS s.src,.bool (decide ((s.op.kind.toNat:Int)=42)),.bool (decide ((i:Int)=0))]) rfl (Aax (T:=90)) Tryz.underlying90 rfl Apj (by exact Nat.le_of_ble_eq_true rfl) rfl (.tmp rfl .nil)) rfl trivial ?_;exact(AaH (b:=b6) (T:=90) (l':=[vS tag,vS name,vS s.op.value,vS s.src,.bool (decide ((s.op.kind.toNat:Int)=42)),.bool (decide ((i:Int)=0))]) (by rfl) (by rfl)).trans Aa0):G:=h
set_option maxHeartbeats 16000000 in
theorem Aou (b:Nat) (H:Ks) (hH:TxtK H) (hnd:(H.map (·.1)).Nodup) (hn:H.length≤1000000) (h0:[]∉H.map (·.1)) (tag name:Bs) (R:Option Tgd) (hR:R=ofT (AaY H) (AbO H) tag name) :
    Sp1 Tryz.prog 83 [.map (some b),vS tag,vS name] [MapS b H] (.tuple #[.agg (ArM (R.getD Ai5)).toArray,vB R.isSome]) [MapS b H]:=by
 rw[←Awg hnd h0] at hR;refine Sp.body (n:=72) Tryz.call83 Tryz.func83 rfl rfl rfl ?_;refine Qc (k:=Zc [vS [],vS [],vS [],vS [],.bool false,.bool false] (k:=fun b6=>Vv (k:=Wq (Qc (k:=Qv (k:=Wq (Za (k:=Za (k:=?_)))))))));refine Zr (k:=Vv (k:=Wq (Zb (k:=?_))));refine Aak (fun (i:{ x:Nat×Bs // x.1≤H.length+1∧tgW H tag name (H.length+1-x.1) x.1 x.2=R })=>[(0,.map (some b)),(1,vS tag),(2,vS name),(6,.pointer (some ⟨b6,0,none⟩)),(8,vS i.1.2),(9,vI i.1.1)]) (fun (i:{ x:Nat×Bs // x.1≤H.length+1∧tgW H tag name (H.length+1-x.1) x.1 x.2=R })=>[MapS b H,Ce b6 90 [vS [],vS [],vS [],vS [],.bool false,.bool false]]) (fun (i:{ x:Nat×Bs // x.1≤H.length+1∧tgW H tag name (H.length+1-x.1) x.1 x.2=R })=>H.length+1-i.1.1) rfl (⟨(0,name),Nat.zero_le _,hR.symm⟩) ?_ ?_ (fun i=>?_)
 · exact⟨rfl,rfl,rfl,rfl,rfl,rfl,trivial⟩
 ·
  exact Aa0
 obtain⟨⟨i,n⟩,hi,hw⟩:=i;dsimp only at hi hw ⊢;try dsimp only
 refine Za (k:=Qc (k:=Qv (k:=?_)));refine AqU Tryz.underlying31 rfl rfl ?_;refine Vv (k:=Wq (Zi (t:=fun h17=>?_) (f:=fun h17=>?_)))
 ·
  refine Zk (k:=Ya (Za (k:=Zb (k:=Za (k:=Za (k:=?_))))));obtain⟨htx,htl⟩:=hH.get n;have hRd:=AbI (Abq H n) htl;have hDi:=AkR b H hH hnd hn tag n;have hPa:=AgL b H hH n;rw[show H.length+1-i=H.length-i+1 by omega,tgW] at hw;refine Zr (k:=Qv (k:=?_));refine r_lookup (v:=vS (Abq H n)) Tryz.underlying31 Tryz.underlying9 ti9 rfl rfl rfl htx rfl ?_;refine Aaq hRd rfl rfl rfl (fun x24 hx24=>?_);obtain⟨xa,ck⟩:=x24;obtain⟨hck,hpc⟩:=hx24;dsimp only at hck hpc ⊢;refine Vv (k:=?_);refine Aa6 (Aa7 (v:=.agg #[vS ck.base,vS ck.comment,vI ck.date,.slice xa.fa ck.files.length xa.fc,.slice xa.pa ck.parents.length xa.pc,.slice xa.ta ck.tags.length xa.tc,vS ck.user]) rfl rfl) rfl ?_;refine Aa6 (Aa7 (v:=vB (AaD (Abq H n)).isSome) rfl rfl) rfl ?_;refine Zc [vS [],vS [],.int .i64 0,.slice none 0 0,.slice none 0 0,.slice none 0 0,vS []] (k:=fun b10=>Zp (k:=Vv (k:=Wq (Qc (k:=Qv (k:=Wq (Zi (t:=fun h28=>?_) (f:=fun h28=>?_))))))))
  ·
   refine Qc (k:=Vx (Ps [vS [],vS [],vS [],vS [],.bool false,.bool false]) (k:=Zp (k:=Vv (k:=Wq (Zt (k:=Va (Vb (Va (Vi (Vb ?_))))))))));refine Va ?_;have hR0:R=none:=by
    rw[←hw]
    cases e:AaD (Abq H n) with
    | none=>rfl
    | some c=>rw[e] at h28;simp at h28
   subst hR0;refine Aa2 () (vs:=[_,_]) (Cs:=[Ce b6 90 [vS [],vS [],vS [],vS [],.bool false,.bool false]]) rfl (.cell (l:=[vS [],vS [],vS [],vS [],.bool false,.bool false]) rfl (Aax (T:=90)) Tryz.underlying90 rfl Apj (by exact Nat.le_of_ble_eq_true rfl) rfl (.tmp rfl .nil)) rfl trivial ?_;exact(AaH (b:=b6) (T:=90) (l':=[vS [],vS [],vS [],vS [],.bool false,.bool false]) (by rfl) (by rfl)).trans Aa0
  ·
   refine Zk (k:=Ya (Za (k:=Za (k:=?_))));obtain⟨c,hc⟩:∃c,AaD (Abq H n)=some c:=Option.isSome_iff_exists.1 (by simpa using h28);have hkk:ck=c:=by rw[hck,hc];rfl
   subst hkk;have hpr:AmN H n=Abk ck:=by rw[AmN,hc];rfl
   rw[hpr] at hPa;rw[hc] at hw;dsimp only at hw;refine Zr (k:=Qv (k:=Vv (k:=?_)));refine Aaq hDi rfl rfl rfl (fun x33 hx33=>?_);obtain⟨k,nm,tg,val,d,src,ok⟩:=x33;dsimp only[Bst.cells] at hx33 ⊢;obtain⟨hd1,hd2⟩:=hx33;refine Zc [.int .u8 0,vS [],vS [],vS [],.int .i64 0,vS [],.bool false] (k:=fun b12=>Zp (k:=Wq (Qc (k:=Qx 6 4 (k:=Wq (Zi (t:=fun h35=>?_) (f:=fun h35=>?_)))))))
   ·
    obtain⟨s,hs⟩:∃s,Ab0 (AbO H) (tag,n)=some s:=Option.isSome_iff_exists.1 (by rw[←hd1];exact h35);obtain⟨tg',e⟩:=hd2 s hs;simp only[sdB,Bst.mk.injEq] at e;obtain⟨rfl,rfl,rfl,rfl,rfl,rfl,_⟩:=e;rw[hs] at hw;dsimp only at hw;refine Za (k:=Qc (k:=Vf 0 60 (k:=Qx 0 5 (k:=Qv (k:=Gi 4 (t:=fun h40=>?_) (f:=fun h40=>?_))))))
    ·
     refine O1 (k:=O1 (k:=O1 (k:=Ou (k:=Ou (k:=Ou (k:=Ou (k:=O1 (k:=P1 (k:=Wq (Z1 (k:=Za (k:=?_))))))))))));refine Zr (k:=Vx (Ps [vS [],vS [],vS [],vS [],.bool false,.bool false]) (k:=Zp (k:=Vv (k:=Wq (Zt (k:=Va (Va (Vb (Va (Vi (Vb ?_)))))))))));refine Va ?_;exact An7
    ·
     refine J0 (k:=J0 (k:=J0 (k:=Gi 7 (t:=fun h43=>?_) (f:=fun h43=>?_))))
     ·
      refine I1 (k:=Vf 0 60 (k:=I1 (k:=Vf 0 5 (k:=I1 (k:=Zd (k:=J1 (k:=I0 (k:=P1 (k:=P0 (k:=Wq ?_))))))))));refine Zi (t:=fun h49=>?_) (f:=fun h49=>?_)
      ·
       refine Qc (k:=Vx (Ps [vS [],vS [],vS [],vS [],.bool false,.bool false]) (k:=Zp (k:=Vv (k:=Wq (Zt (k:=Va (Va (Vb (Va (Vi ?_))))))))));refine Vb (Va ?_);exact An7
      ·
       refine Zk (k:=Ya (Qc (k:=Qv (k:=Vf 0 60 (k:=Qx 3 9 (k:=Qx 5 9 (k:=Vf 0 60 (k:=?_))))))));refine Qx 0 5 (k:=Qv (k:=Vv (k:=Vx (Ps [_,_,_,_,_,_]) (k:=Zp (k:=Vv (k:=Wq (Zt (k:=Va (Vb ?_)))))))));refine Va (Vi (Vb (Va ?_)));exact An6
     ·
      refine O0 (k:=O0 (k:=O0 (k:=O0 (k:=I0 (k:=P0 (k:=P0 (k:=Wq (Z0 (k:=Zk (k:=Ya (Za (k:=?_))))))))))));refine Zr (k:=Qv (k:=Vf 0 60 (k:=Qx 3 9 (k:=Qx 5 9 (k:=Vf 0 60 (k:=Qx 0 5 (k:=Vv (k:=?_))))))));refine Qv (k:=Vx (Ps [_,_,_,_,_,_]) (k:=Zp (k:=Vv (k:=Wq (Zt (k:=Va (Vb (Va (Vi (Vb ?_))))))))));refine Va ?_;exact An6
   ·
    have hs:Ab0 (AbO H) (tag,n)=none:=by
     cases e:Ab0 (AbO H) (tag,n) with
     | none=>rfl
     | some s=>rw[e] at hd1;rw[hd1] at h35;cases h35
    rw[hs] at hw;dsimp only at hw;refine Zk (k:=Ya (Qc (k:=Qv (k:=?_))));refine Aaa hPa rfl rfl rfl ?_;refine Vv (k:=Wq (Qc (k:=Qv (k:=Wq (Zi (t:=fun h69=>?_) (f:=fun h69=>?_))))))
    ·
     refine Qc (k:=Vx (Ps [vS [],vS [],vS [],vS [],.bool false,.bool false]) (k:=Zp (k:=Vv (k:=Wq (Zt (k:=Vb (Va (Vi (Vb (Va ?_))))))))));have hR0:R=none:=by
      rw[←hw,if_pos (by assumption)]
     subst hR0;refine Aa2 () (vs:=[_,_]) (Cs:=[Ce b6 90 [vS [],vS [],vS [],vS [],.bool false,.bool false]]) rfl (.cell (l:=[vS [],vS [],vS [],vS [],.bool false,.bool false]) rfl (Aax (T:=90)) Tryz.underlying90 rfl Apj (by exact Nat.le_of_ble_eq_true rfl) rfl (.tmp rfl .nil)) rfl trivial ?_;exact(AaH (b:=b6) (T:=90) (l':=[vS [],vS [],vS [],vS [],.bool false,.bool false]) (by rfl) (by rfl)).trans Aa0
    ·
     refine Zk (k:=Yb (Ya (Zr (k:=Qv (k:=Vv (k:=Wn ?_))))));refine Aa5 ⟨(i+1,Abk ck),by dsimp only;omega,?_⟩ (by dsimp only;omega) ⟨rfl,rfl,rfl,rfl,rfl,rfl,trivial⟩ ?_
     · dsimp only
       rw[if_neg (by assumption)] at hw;rw[show H.length+1-(i+1)=H.length-i by omega];exact hw
     · exact Aa0
 ·
  refine Ze (k:=Xa (Xi (Xb (Ya (Qc (k:=Vx (Ps [vS [],vS [],vS [],vS [],.bool false,.bool false]) (k:=Zp (k:=Vv (k:=Wq (Zt (k:=?_)))))))))));have hR0:R=none:=by
   rw[←hw,show H.length+1-i=0 by omega];rfl
  subst hR0;refine Aa2 () (vs:=[_,_]) (Cs:=[Ce b6 90 [vS [],vS [],vS [],vS [],.bool false,.bool false]]) rfl (.cell (l:=[vS [],vS [],vS [],vS [],.bool false,.bool false]) rfl (Aax (T:=90)) Tryz.underlying90 rfl Apj (by exact Nat.le_of_ble_eq_true rfl) rfl (.tmp rfl .nil)) rfl trivial ?_;exact(AaH (b:=b6) (T:=90) (l':=[vS [],vS [],vS [],vS [],.bool false,.bool false]) (by rfl) (by rfl)).trans Aa0
theorem Ap6 {G:Prop} (h:G:=by
    have hz:¬(R.getD Ai5).value≠[]:=by
     first
     | assumption
     | (have hi:R.isSome=false:=by assumption
        have:R=none:=by cases R with | none=>rfl | some x=>cases hi
        subst this;simp[Ai5])
    rw[hbr,if_neg hz];exact Aa2 () (vs:=[_]) (Cs:=[]) rfl (.tmp rfl .nil) rfl trivial Aa0):G:=h
theorem AgN (b:Nat) (H:Ks) (hH:TxtK H) (hnd:(H.map (·.1)).Nodup) (hn:H.length≤1000000) (h0:[]∉H.map (·.1)) (name:Bs) :
    Sp1 Tryz.prog 37 [.map (some b),vS name] [MapS b H] (vS (brH H name)) [MapS b H]:=by
 have hT:=Aou b H hH hnd hn h0 brB name _ rfl;have hbr:brH H name=brF (AaY H) (AbO H) name:=rfl;unfold brF at hbr;generalize ofT (AaY H) (AbO H) brB name=R at hT hbr;refine Sp.body (n:=21) Tryz.call37 Tryz.func37 rfl rfl rfl ?_;refine Qc (k:=Vv (k:=Wq (Za (k:=Qc (k:=Qv (k:=?_))))));refine Aaa hT rfl rfl rfl ?_;refine Vv (k:=?_);refine Aa6 (Aa7 (v:=.agg #[vS (R.getD Ai5).tag,vS (R.getD Ai5).target,vS (R.getD Ai5).value,vS (R.getD Ai5).source,.bool (R.getD Ai5).spread,.bool (R.getD Ai5).own]) rfl rfl) rfl ?_;refine Aa6 (Aa7 (v:=vB R.isSome) rfl rfl) rfl ?_;refine Zc [vS [],vS [],vS [],vS [],.bool false,.bool false] (k:=fun b5=>Zp (k:=Vv (k:=Wq (Qc (k:=Qv (k:=Gi 1 (t:=fun h14=>?_) (f:=fun h14=>?_)))))))
 ·
  refine I1 (k:=Vf 2 9 (k:=I1 (k:=Zd (k:=J1 (k:=P1 (k:=Wq (Zi (t:=fun h18=>?_) (f:=fun h18=>?_))))))))
  ·
   refine Qc (k:=Qx 2 9 (k:=Vv (k:=Wq (Zt (k:=Va ?_)))));rw[hbr,if_pos (by assumption)];exact Aa2 () (vs:=[_]) (Cs:=[]) rfl (.tmp rfl .nil) rfl trivial Aa0
  ·
   refine Zk (k:=Ya (Qc (k:=Vv (k:=Wq (Zt (k:=?_))))));exact Ap6
 ·
  refine O0 (k:=O0 (k:=O0 (k:=P0 (k:=Wq (Z0 (k:=Zk (k:=Ya (Qc (k:=Vv (k:=Wq ?_))))))))));refine Zt (k:=?_);exact Ap6
end
section
set_option maxRecDepth 100000
theorem Auc {l:List Lf} {j:Nat} (h:j<l.length):(l.flatMap Aai)[j * 2+0]?=some (vS (l.getD j ⟨[],[]⟩).branch)∧(l.flatMap Aai)[j * 2+1]?=some (vS (l.getD j ⟨[],[]⟩).name):=by
 have hg:=Ab1 (f:=Aai) (sz:=2) (fun _=>rfl) h;have e:l.getD j ⟨[],[]⟩=l[j]:=by simp[h]
 rw[e];have h0:((l.flatMap Aai).drop (j * 2))[0]?=some (vS l[j].branch):=by
  have:=congrArg (·[0]?) hg;simpa [Aai,List.getElem?_take] using this
 have h1:((l.flatMap Aai).drop (j * 2))[1]?=some (vS l[j].name):=by
  have:=congrArg (·[1]?) hg;simpa [Aai,List.getElem?_take] using this
 rw[List.getElem?_drop] at h0 h1;exact⟨h0,h1⟩
def Ai8 (x y:Lf):Prop:=lt2 (Ad0 x) (Ad0 y)
theorem AwG {E:List Lf} {x:Lf} {j:Nat} (hE:E.Pairwise Ai8) (hj:j≤E.length) (h1:∀i,i<j→Ai8 (E.getD i ⟨[],[]⟩) x) (h2:j<E.length→¬Ai8 (E.getD j ⟨[],[]⟩) x) (hx:x∉E):(E.take j++[x]++E.drop j).Pairwise Ai8:=by
 have ht:∀y∈E.take j,Ai8 y x:=fun y hy=>by
  obtain⟨i,hi,rfl⟩:=List.getElem_of_mem hy;rw[List.length_take] at hi;have:=h1 i (by omega);rw[show E.getD i ⟨[],[]⟩=E[i]'(by omega) by simp[show i<E.length by omega]] at this;simpa using this
 have hd : ∀y∈E.drop j,Ai8 x y:=fun y hy=>by
  by_cases hl:j<E.length
  · have e:E.getD j ⟨[],[]⟩=E[j]:=by simp[hl]
    have hn:=h2 hl;rw[e] at hn;have hxj:Ai8 x E[j]:=by
     rcases Ar9 (Ad0 x) (Ad0 E[j]) with h | h | h
     · exact h
     · exfalso
       have:x=E[j]:=by
        have a:=congrArg Prod.fst h;have b:=congrArg Prod.snd h;obtain⟨xb,xn⟩:=x;generalize E[j]=z at a b;obtain⟨zb,zn⟩:=z
        cases a;cases b;rfl
       exact hx (by rw[this];exact List.getElem_mem hl)
     · exact absurd h hn
    rw[List.drop_eq_getElem_cons hl] at hy;rcases List.mem_cons.1 hy with rfl | hy
    · exact hxj
    · have hp:=hE
      rw[←List.take_append_drop j E,List.drop_eq_getElem_cons hl] at hp;have:=(List.pairwise_cons.1 (List.pairwise_append.1 hp).2.1).1 y hy;exact AoO hxj this
  · rw[List.drop_eq_nil_of_le (by omega)] at hy;cases hy
 have hE2:=hE;rw[←List.take_append_drop j E] at hE2;obtain⟨p1,p2,p3⟩:=List.pairwise_append.1 hE2;rw[List.append_assoc];refine List.pairwise_append.2 ⟨p1,List.pairwise_append.2 ⟨by simp,p2,fun a ha b hb=>?_⟩,fun a ha b hb=>?_⟩
 · rw[List.mem_singleton.1 ha];exact hd b hb
 · rcases List.mem_append.1 hb with hb | hb
   · rw[List.mem_singleton.1 hb];exact ht a ha
   · exact p3 a ha b hb
noncomputable def chB (H:Ks) (n c:Bs):Bool:=decide (c≠n) && (decide (AmN H c=n) && decide (brH H c=brH H n))
theorem Aw1 {H:Ks} {c n:Bs} {k:Ck} (hr:AaD (Abq H c)=some k):chB H n c=true↔inC (brH H) n (c,k):=by
 have hp:AmN H c=Abk k:=by rw[AmN,hr];rfl
 unfold chB inC;rw[hp];simp only[Bool.and_eq_true,decide_eq_true_iff];constructor
 · rintro⟨h1,h2,h3⟩
   exact⟨h2,fun e=>h1 (by rw[←h2,e]),by rw[h2,h3]⟩
 · rintro⟨h1,h2,h3⟩
   exact⟨fun e=>h2 (by rw[h1,e]),h1,by rw[←h3,h1]⟩
theorem ck_in {H:Ks} {n:Bs} {c:Ck}:(n,c)∈AaY H↔n∈H.map (·.1)∧AaD (Abq H n)=some c:=by
 unfold AaY;rw[cks_mem,keysS_mem]
theorem Avr {H:Ks} {l:List Bs} (lmem:∀n,n∈l↔n∈H.map (·.1)∧(AaD (Abq H n)).isSome=true) (y:Lf):(∃n∈l,l.any (chB H n)=false∧y=⟨brH H n,n⟩)↔y∈lvL H:=by
 rw[mem_lvL];have key:∀n,l.any (chB H n)=false↔∀z∈AaY H,¬inC (brH H) n z:=fun n=>by
  rw[List.any_eq_false];constructor
  · rintro h ⟨c,k⟩ hz hi
    obtain⟨h1,h2⟩:=ck_in.1 hz;exact h c ((lmem c).2 ⟨h1,by rw[h2];rfl⟩) ((Aw1 h2).2 hi)
  · intro h c hc hch
    obtain⟨h1,h2⟩:=(lmem c).1 hc;obtain⟨k,hk⟩:=Option.isSome_iff_exists.1 h2;exact h (c,k) (ck_in.2 ⟨h1,hk⟩) ((Aw1 hk).1 hch)
 constructor
 · rintro⟨n,hn,ha,rfl⟩
   obtain⟨h1,h2⟩:=(lmem n).1 hn;obtain⟨k,hk⟩:=Option.isSome_iff_exists.1 h2;exact⟨(n,k),ck_in.2 ⟨h1,hk⟩,(key n).1 ha,rfl⟩
 · rintro⟨⟨n,k⟩,hx,ha,rfl⟩
   obtain⟨h1,h2⟩:=ck_in.1 hx;exact⟨n,(lmem n).2 ⟨h1,by rw[h2];rfl⟩,(key n).2 ha,rfl⟩
structure LvS where
 j:Nat
 E:List Lf
 a:Option Addr
 c:Nat
structure LvS.Ok (H:Ks) (l:List Bs) (x:LvS):Prop where
 j:x.j≤l.length
 so:x.E.Pairwise Ai8
 mem:∀y,y∈x.E↔∃n∈l.take x.j,l.any (chB H n)=false∧y=⟨brH H n,n⟩
 le:x.E.length≤x.j
theorem AhO {G:Prop} (h:G:=by
    first
    | (have e1:c≠n:=by assumption
       have e2:AmN H c=n:=by assumption
       have e3:brH H c=brH H n:=by assumption
       have hch:chB H n c=true:=by simp[chB,e1,e2,e3]
       exact Aa5 ⟨(q+1,false),by dsimp only;omega,by dsimp only;rw[hsq,hch];simp⟩ (by dsimp only;omega) ⟨rfl,rfl,rfl,rfl,rfl,rfl,rfl,rfl,rfl,rfl,trivial⟩ Aa0)
    | (have hch:chB H n c=false:=by
         first
         | (have e1:¬brH H c=brH H n:=by assumption
            simp[chB,e1])
         | (have e1:¬AmN H c=n:=by assumption
            simp[chB,e1])
         | (have e1:¬c≠n:=by assumption
            simp[chB,e1])
       exact Aa5 ⟨(q+1,lf),by dsimp only;omega,by dsimp only;rw[hsq,hch,Bool.or_false];exact hlf⟩ (by dsimp only;omega) ⟨rfl,rfl,rfl,rfl,rfl,rfl,rfl,rfl,rfl,rfl,trivial⟩ Aa0)):G:=h
theorem AhP {G:Prop} (h:G:=by
    first
    | (have hpl:(E.take q++[(⟨brH H n,n⟩:Lf)]++E.drop q).length=q+1+(E.length-q):=by simp;omega
       refine Aa5 ⟨⟨j+1,E.take q++[⟨brH H n,n⟩]++E.drop q,a99,c99⟩,⟨by dsimp only;omega,hput,fun y=>?_,by dsimp only;omega⟩⟩ (by dsimp only;omega) ⟨rfl,Adk hpl.symm,rfl,rfl,rfl,trivial⟩ ?_
       · dsimp only
         have hm:y∈E.take q++[(⟨brH H n,n⟩:Lf)]++E.drop q↔y∈E∨y=⟨brH H n,n⟩:=by
          conv=>rhs;lhs;rw[←List.take_append_drop q E]
          simp only[List.mem_append,List.mem_singleton];constructor
          · rintro((h | h) | h)
            · exact .inl (.inl h)
            · exact .inr h
            · exact .inl (.inr h)
          · rintro((h | h) | h)
            · exact .inl (.inl h)
            · exact .inr h
            · exact .inl (.inr h)
         rw[hm,mem y,hst];constructor
         · rintro(⟨m,h1,h2,h3⟩ | h)
           · exact⟨m,List.mem_append_left _ h1,h2,h3⟩
           · exact⟨n,by simp,hnl,h⟩
         · rintro ⟨m,h1,h2,h3⟩
           rcases List.mem_append.1 h1 with h1 | h1
           · exact .inl ⟨m,h1,h2,h3⟩
           · rw[List.mem_singleton.1 h1] at h3
             exact .inr h3
       · dsimp only
         rw[hpl];exact Aa0)
    | (have hch:l'.any (chB H n)=true:=by
         have h1:lf=false:=by simpa using h46
         rw[h1] at hlf;simpa using hlf.symm
       refine Aa5 ⟨⟨j+1,E,ea,ec⟩,⟨by dsimp only;omega,so,fun y=>?_,by dsimp only;omega⟩⟩ (by dsimp only;omega) ⟨rfl,rfl,rfl,rfl,rfl,trivial⟩ Aa0;dsimp only;rw[mem y,hst];constructor
       · rintro⟨m,h1,h2,h3⟩
         exact⟨m,List.mem_append_left _ h1,h2,h3⟩
       · rintro ⟨m,h1,h2,h3⟩
         rcases List.mem_append.1 h1 with h1 | h1
         · exact⟨m,h1,h2,h3⟩
         · rw[List.mem_singleton.1 h1,hch] at h2
           cases h2)):G:=h
theorem Ani {G:Prop} (h:G:=by
    refine Aa5 ⟨q+1,by omega,fun i hi=>?_⟩ (by dsimp only;omega) ⟨rfl,rfl,rfl,rfl,rfl,rfl,rfl,trivial⟩ Aa0;by_cases e:i=q
    · subst e
      first
      | exact .inl ((Ach _ _).1 (by assumption))
      | exact .inr ⟨by assumption,(Ach _ _).1 (by assumption)⟩
    · exact hlt i (by omega)):G:=h
theorem Aip {G:Prop} (h:G:=by
    refine Aa5 ⟨q,hq,hlt,fun h hl=>?_⟩ trivial ⟨rfl,rfl,rfl,rfl,rfl,rfl,rfl,trivial⟩ Aa0
    first
    | (exfalso;omega)
    | (have hb1:blt (E.getD q ⟨[],[]⟩).branch (brH H n)=false:=by assumption
       rcases hl with h1 | ⟨h1,h2⟩
       · exact Bool.noConfusion (hb1.symm.trans ((Ach _ _).2 h1))
       · first
         | (have hb2:¬(E.getD q ⟨[],[]⟩).branch=brH H n:=by assumption
            exact hb2 h1)
         | (have hb2:blt (E.getD q ⟨[],[]⟩).name n=false:=by assumption
            exact Bool.noConfusion (hb2.symm.trans ((Ach _ _).2 h2))))):G:=h
set_option maxHeartbeats 16000000 in
theorem AkS (b:Nat) (H:Ks) (hH:TxtK H) (hnd:(H.map (·.1)).Nodup) (hn:H.length≤1000000) (h0:[]∉H.map (·.1)) :
    Sp Tryz.prog 36 [.map (some b)] [MapS b H] (X:=(Option Addr×Nat)×List Lf) (fun x=>.slice x.1.1 x.2.length x.1.2) (fun x=>x.2.Pairwise Ai8∧∀y,y∈x.2↔y∈lvL H) (fun x=>[Row 63 2 (.slice x.1.1 x.2.length x.1.2) x.2.length (x.2.flatMap Aai),MapS b H]):=by
 have hCs:=Ajf b H hH hnd hn;have hBr:=fun n=>AgN b H hH hnd hn h0 n;have hPa:=fun n=>AgL b H hH n;refine Sp.body (n:=102) Tryz.call36 Tryz.func36 rfl rfl rfl ?_;refine Qc (k:=Vv (k:=Wq (Qc (k:=Vv (k:=Wq (Za (k:=Qc (k:=Vv (k:=?_)))))))));refine Aaq hCs rfl rfl rfl (fun x12 hx12=>?_);obtain⟨⟨la,lc⟩,l⟩:=x12;dsimp only at hx12 ⊢;obtain⟨lso,lmem⟩:=hx12;have hll:l.length≤H.length:=by
  have:=Acx (l:=l) (m:=H.map (·.1)) (lso.imp fun {a b} h e=>by subst e;exact List.lt_irrefl _ h) (fun n hn=>((lmem n).1 hn).1);rwa [List.length_map] at this
 refine Qv (k:=Wq (Zb (k:=?_)));refine Aak (fun (i:{ x:LvS // x.Ok H l })=>[(0,.map (some b)),(3,.slice i.1.a i.1.E.length i.1.c),(12,.slice la l.length lc),(13,vI l.length),(14,vI i.1.j)]) (fun (i:{ x:LvS // x.Ok H l })=>[Row 63 2 (.slice i.1.a i.1.E.length i.1.c) i.1.E.length (i.1.E.flatMap Aai),Row 9 1 (.slice la l.length lc) l.length (l.map vS),MapS b H]) (fun (i:{ x:LvS // x.Ok H l })=>l.length-i.1.j) rfl (⟨⟨0,[],none,0⟩,⟨Nat.zero_le _,List.Pairwise.nil,fun y=>by simp,Nat.le_refl _⟩⟩) ?_ ?_ (fun i=>?_)
 · exact⟨rfl,rfl,rfl,rfl,rfl,trivial⟩
 ·
  dsimp only;simp only[List.length_nil,List.flatMap_nil];exact(AaS (e:=63) (sz:=2)).trans Aa0
 obtain⟨⟨j,E,ea,ec⟩,hok⟩:=i;obtain⟨hj,so,mem,le⟩:=hok;dsimp only at hj so mem le ⊢;try dsimp only
 refine Qc (k:=Vv (k:=Wq (Za (k:=Zi (t:=fun h15=>?_) (f:=fun h15=>?_)))))
 ·
  refine Zk (k:=Ya (Za (k:=Zb (k:=Za (k:=?_)))));have hjl:j<l.length:=by omega
  obtain⟨n,hn_⟩:∃n,n=l[j]:=⟨_,rfl⟩
  have hst:l.take (j+1)=l.take j++[n]:=by rw[hn_];exact List.take_succ_eq_append_getElem hjl
  refine Zr (k:=?_);refine AaQ (m:=j) (sz:=1) Tryz.underlying27 ti9 rfl rfl rfl rfl (by omega) (by rw[List.length_map];omega) (Nat.mul_one _) rfl ?_;refine AbS Tryz.underlying9 rfl rfl ((Adg (m:=j) hjl).trans (by rw[←hn_])) rfl ?_;refine Vv (k:=Wq (Qc (k:=Vv (k:=Wq (Za (k:=Qc (k:=Vv (k:=?_))))))));refine Aaq hCs rfl rfl rfl (fun x19 hx19=>?_);obtain⟨⟨ka,kc⟩,l'⟩:=x19;dsimp only at hx19 ⊢;obtain rfl:l'=l:=AnC hx19.1 lso (fun k=>by rw[hx19.2 k,lmem k]);refine Qv (k:=Wq (Zb (k:=?_)));refine Aak (fun (i:{ x:Nat×Bool // x.1≤l'.length∧x.2 = !(l'.take x.1).any (chB H n) })=>[(0,.map (some b)),(3,.slice ea E.length ec),(5,vS n),(6,vB i.1.2),(12,.slice la l'.length lc),(13,vI l'.length),(14,vI j),(19,.slice ka l'.length kc),(20,vI l'.length),(21,vI i.1.1)]) (fun (i:{ x:Nat×Bool // x.1≤l'.length∧x.2 = !(l'.take x.1).any (chB H n) })=>[Row 63 2 (.slice ea E.length ec) E.length (E.flatMap Aai),Row 9 1 (.slice la l'.length lc) l'.length (l'.map vS),Row 9 1 (.slice ka l'.length kc) l'.length (l'.map vS),MapS b H]) (fun (i:{ x:Nat×Bool // x.1≤l'.length∧x.2 = !(l'.take x.1).any (chB H n) })=>l'.length-i.1.1) rfl (⟨(0,true),Nat.zero_le _,rfl⟩) ?_ ?_ (fun i=>?_)
  · exact⟨rfl,rfl,rfl,rfl,rfl,rfl,rfl,rfl,rfl,rfl,trivial⟩
  ·
   exact Aa0
  obtain⟨⟨q,lf⟩,hq,hlf⟩:=i;dsimp only at hq hlf ⊢;try dsimp only
  refine Qc (k:=Vv (k:=Wq (Za (k:=Zi (t:=fun h22=>?_) (f:=fun h22=>?_)))))
  ·
   refine Zk (k:=Ya (Za (k:=Zb (k:=Za (k:=?_)))));have hql:q<l'.length:=by omega
   obtain⟨c,hc_⟩:∃c,c=l'[q]:=⟨_,rfl⟩
   have hsq:(l'.take (q+1)).any (chB H n)=((l'.take q).any (chB H n) || chB H n c):=by rw[List.take_succ_eq_append_getElem hql,List.any_append,←hc_];simp
   refine Zr (k:=?_);refine AaQ (m:=q) (sz:=1) Tryz.underlying27 ti9 rfl rfl rfl rfl (by omega) (by rw[List.length_map];omega) (Nat.mul_one _) rfl ?_;refine AbS Tryz.underlying9 rfl rfl ((Adg (m:=q) hql).trans (by rw[←hc_])) rfl ?_;refine Vv (k:=Wq (Qc (k:=Qv (k:=Qv (k:=Gi 3 (t:=fun h28=>?_) (f:=fun h28=>?_))))))
   ·
    refine J1 (k:=J1 (k:=I1 (k:=?_)));refine Aaa (hPa c) rfl rfl rfl ?_;refine J1 (k:=J1 (k:=P1 (k:=Vv (k:=Gi 10 (t:=fun h35=>?_) (f:=fun h35=>?_)))))
    ·
     refine J1 (k:=J1 (k:=I1 (k:=?_)));refine Aaa (hBr c) rfl rfl rfl ?_;refine J1 (k:=J1 (k:=I1 (k:=?_)));refine Aaa (hBr n) rfl rfl rfl ?_;refine J1 (k:=P1 (k:=Wq (Zi (t:=fun h43=>?_) (f:=fun h43=>?_))))
     ·
      refine Zr (k:=Vv (k:=Wn (Yb (Ya (Zr (k:=Qv (k:=Wn ?_)))))));exact AhO
     ·
      refine Zk (k:=Yb (Ya (Zr (k:=Qv (k:=Wn ?_)))));exact AhO
    ·
     refine O0 (k:=O0 (k:=O0 (k:=O0 (k:=O0 (k:=O0 (k:=O0 (k:=P0 (k:=Wq (Z0 (k:=Zk (k:=Yb ?_)))))))))));refine Ya (Zr (k:=Qv (k:=Wn ?_)));exact AhO
   ·
    refine O0 (k:=O0 (k:=O0 (k:=O0 (k:=O0 (k:=P0 (k:=Vv (k:=O0 (k:=O0 (k:=O0 (k:=O0 (k:=O0 (k:=?_))))))))))));refine O0 (k:=O0 (k:=P0 (k:=Wq (Z0 (k:=Zk (k:=Yb (Ya (Zr (k:=Qv (k:=Wn ?_))))))))));exact AhO
  ·
   refine Ze (k:=Xa (Xi (Xb (Ya (Za (k:=Za (k:=?_)))))));have hqn:q=l'.length:=by omega
   subst hqn;rw[List.take_length] at hlf;refine Zr (k:=Qv (k:=Wq (Zi (t:=fun h46=>?_) (f:=fun h46=>?_))))
   ·
    refine Ze (k:=Xa (Xb (Ya (Zr (k:=Qv (k:=Wn ?_))))));exact AhP
   ·
    refine Zk (k:=Ya (Za (k:=?_)));have hnl:l'.any (chB H n)=false:=by
     have h1:lf=true:=by simpa using h46
     rw[h1] at hlf;simpa using hlf.symm
    have hxE:(⟨brH H n,n⟩:Lf)∉E:=fun hm=>by
     obtain⟨m,hm1,_,hm3⟩:=(mem _).1 hm;have e:n=m:=congrArg Lf.name hm3;rw[←e,hn_] at hm1;obtain⟨i,hi,e2⟩:=List.getElem_of_mem hm1;rw[List.length_take] at hi;rw[List.getElem_take] at e2;have:=Adb (lso.imp fun {a b} h e=>by subst e;exact List.lt_irrefl _ h) (i:=i) (j:=j) (by omega) hjl e2;omega
    have hEl:(E.flatMap Aai).length=E.length * 2:=Aaj (f:=Aai) (sz:=2) (fun _=>rfl) E;refine Zr (k:=Qv (k:=?_));refine Aaa (hBr n) rfl rfl rfl ?_;refine Vv (k:=Vx (Ps [_,_]) (k:=Zc [vS [],vS []] (k:=fun b9=>Zp (k:=Wq (Qc (k:=Vv (k:=Wq ?_)))))));refine Abg (fun (i:{ q:Nat // q≤E.length∧(∀i,i<q→Ai8 (E.getD i ⟨[],[]⟩) ⟨brH H n,n⟩)∧(q<E.length→¬Ai8 (E.getD q ⟨[],[]⟩) ⟨brH H n,n⟩) })=>[(0,.map (some b)),(3,.slice ea E.length ec),(9,.pointer (some ⟨b9,0,none⟩)),(10,vI i.1),(12,.slice la l'.length lc),(13,vI l'.length),(14,vI j)]) (fun (i:{ q:Nat // q≤E.length∧(∀i,i<q→Ai8 (E.getD i ⟨[],[]⟩) ⟨brH H n,n⟩)∧(q<E.length→¬Ai8 (E.getD q ⟨[],[]⟩) ⟨brH H n,n⟩) })=>[Row 63 2 (.slice ea E.length ec) E.length (E.flatMap Aai),Row 9 1 (.slice la l'.length lc) l'.length (l'.map vS),MapS b H,Ce b9 63 [vS (brH H n),vS n]]) rfl (fun i=>?_) ?_
    ·
     obtain⟨q,hq,hlt,hnlt⟩:=i;dsimp only;have hput:=AwG so hq hlt hnlt hxE;have htk:((E.flatMap Aai).take (q * 2)).length=q * 2:=by rw[List.length_take];omega
     have hdk:((E.flatMap Aai).drop (q * 2)).length=(E.length-q) * 2:=by rw[List.length_drop];omega
     have hone:(E.flatMap Aai).all Aay=true:=by
      rw[List.all_flatMap];exact List.all_eq_true.2 fun x _=>rfl
     have hone1:((E.flatMap Aai).take (q * 2)).all Aay=true:=List.all_eq_true.2 fun x hx=>List.all_eq_true.1 hone x (List.mem_of_mem_take hx);have hone2:((E.flatMap Aai).drop (q * 2)).all Aay=true:=List.all_eq_true.2 fun x hx=>List.all_eq_true.1 hone x (List.mem_of_mem_drop hx);have hcut:(E.take q++[(⟨brH H n,n⟩:Lf)]++E.drop q).flatMap Aai=(E.flatMap Aai).take (q * 2)++[vS (brH H n),vS n]++(E.flatMap Aai).drop (q * 2):=by
      have h1:E.flatMap Aai=(E.take q).flatMap Aai++(E.drop q).flatMap Aai:=by rw[←List.flatMap_append,List.take_append_drop]
      have h2:((E.take q).flatMap Aai).length=q * 2:=by rw[Aaj (f:=Aai) (sz:=2) (fun _=>rfl),List.length_take];omega
      rw[List.flatMap_append,List.flatMap_append,h1,List.take_left' h2,List.drop_left' h2];rfl
     refine Aca (A:=Row 63 2 (.slice ea E.length ec) E.length (E.flatMap Aai)) HasC.get AbH (fun hkn=>?_);try dsimp only
     refine Dw [Ce b9 63 [vS (brH H n),vS n]] (k:=?_);refine Dv 1 (k:=Dv 2 (k:=?_));refine Aa1 3 rfl rfl rfl (by kernel_rfl) (by kernel_rfl) (Aat (Ac4 (m:=q) Tryz.underlying64 AeL rfl rfl rfl (by omega))) ?_;refine Aa1 5 rfl rfl rfl (by kernel_rfl) (by kernel_rfl) (Ah5 (vs:=[_,_]) Tryz.underlying63 rfl AeL rfl (by exact Nat.le_of_ble_eq_true rfl) (by rfl)) ?_;refine Dv 8 (k:=Dv 9 (k:=?_));refine Aa1 10 rfl rfl rfl (by kernel_rfl) (by kernel_rfl) (Aat (Acw (m:=q) (kk:=q * 2) Tryz.underlying64 AeL rfl rfl rfl rfl rfl (by omega) hkn.1 hkn.2.2)) ?_;refine Aah 0 6 (by kernel_rfl) rfl rfl ?_ ?_
     ·
      refine Nl [] (cs:=[]) (k:=fun b88=>?_);refine Aah 4 6 (by kernel_rfl) rfl rfl ?_ ?_
      ·
       refine AeC rfl (AbF (k:=0) (cap:=0) (sz:=2) (e:=63) (g:=b88) (xs:=[]) (cur:=[]) (Nat.le_refl _) (by simp[maxLen]) rfl rfl rfl) ?_;refine AbR (AaU (sz:=2) (bytes:=32) Tryz.underlying64 AeL rfl rfl rfl rfl rfl rfl rfl (Adm (AaC (e:=63) (sz:=2) (k:=E.length) (n:=E.length) (c:=ec) (a:=ea) (xs:=E.flatMap Aai)) (q * 2)) htk hone1 (by omega) (by simp only[maxLen];omega) (k:=0) (xs:=[])) rfl (fun x92 ⟨a92,c92,h92⟩=>?_);subst h92;rw[Nat.zero_add,List.nil_append];refine Dn 6 (k:=Nl [_] (cs:=[_,_]) (k:=fun b94=>Dn 7 (k:=?_)));refine AaT (sz:=2) (bytes:=32) Tryz.underlying64 AeL rfl rfl rfl rfl rfl rfl rfl (by rfl) (by rfl) (by omega) (by simp only[maxLen];omega) rfl (fun a95 c95=>?_);refine Dn 11 (k:=?_);refine AbR (AaU (sz:=2) (bytes:=32) Tryz.underlying64 AeL rfl rfl rfl rfl rfl rfl rfl (Adn (e:=63) (sz:=2) (a:=ea) (n':=E.length) (c':=ec) (m:=q) (kk:=q * 2) (k:=E.length) (xs:=E.flatMap Aai) rfl hq) hdk hone2 (by omega) (by simp only[maxLen];omega) (k:=q+1) (xs:=(E.flatMap Aai).take (q * 2)++[vS (brH H n),vS n])) rfl (fun x99 ⟨a99,c99,h99⟩=>?_);subst h99;rw[←hcut];refine Dv 12 (k:=Dd (k:=Yb (Ya (Zr (k:=Qv (k:=Wn ?_))))));exact AhP
      ·
       refine Nl [_] (cs:=[_,_]) (k:=fun b94=>Dn 4 (k:=?_));refine AeC rfl (AbF (k:=0) (cap:=0) (sz:=2) (e:=63) (g:=b88) (xs:=[]) (cur:=[]) (Nat.le_refl _) (by simp[maxLen]) rfl rfl rfl) ?_;refine AbR (AaU (sz:=2) (bytes:=32) Tryz.underlying64 AeL rfl rfl rfl rfl rfl rfl rfl (Adm (AaC (e:=63) (sz:=2) (k:=E.length) (n:=E.length) (c:=ec) (a:=ea) (xs:=E.flatMap Aai)) (q * 2)) htk hone1 (by omega) (by simp only[maxLen];omega) (k:=0) (xs:=[])) rfl (fun x92 ⟨a92,c92,h92⟩=>?_);subst h92;rw[Nat.zero_add,List.nil_append];refine Dn 7 (k:=?_);refine AaT (sz:=2) (bytes:=32) Tryz.underlying64 AeL rfl rfl rfl rfl rfl rfl rfl (by rfl) (by rfl) (by omega) (by simp only[maxLen];omega) rfl (fun a95 c95=>?_);refine Dn 11 (k:=?_);refine AbR (AaU (sz:=2) (bytes:=32) Tryz.underlying64 AeL rfl rfl rfl rfl rfl rfl rfl (Adn (e:=63) (sz:=2) (a:=ea) (n':=E.length) (c':=ec) (m:=q) (kk:=q * 2) (k:=E.length) (xs:=E.flatMap Aai) rfl hq) hdk hone2 (by omega) (by simp only[maxLen];omega) (k:=q+1) (xs:=(E.flatMap Aai).take (q * 2)++[vS (brH H n),vS n])) rfl (fun x99 ⟨a99,c99,h99⟩=>?_);subst h99;rw[←hcut];refine Dv 12 (k:=Dd (k:=Yb (Ya (Zr (k:=Qv (k:=Wn ?_))))));exact AhP
     ·
      refine Nl [_] (cs:=[_,_]) (k:=fun b94=>Dn 0 (k:=Nl [] (cs:=[]) (k:=fun b88=>Dn 4 (k:=?_))));refine AeC rfl (AbF (k:=0) (cap:=0) (sz:=2) (e:=63) (g:=b88) (xs:=[]) (cur:=[]) (Nat.le_refl _) (by simp[maxLen]) rfl rfl rfl) ?_;refine AbR (AaU (sz:=2) (bytes:=32) Tryz.underlying64 AeL rfl rfl rfl rfl rfl rfl rfl (Adm (AaC (e:=63) (sz:=2) (k:=E.length) (n:=E.length) (c:=ec) (a:=ea) (xs:=E.flatMap Aai)) (q * 2)) htk hone1 (by omega) (by simp only[maxLen];omega) (k:=0) (xs:=[])) rfl (fun x92 ⟨a92,c92,h92⟩=>?_);subst h92;rw[Nat.zero_add,List.nil_append];refine Dn 7 (k:=?_);refine AaT (sz:=2) (bytes:=32) Tryz.underlying64 AeL rfl rfl rfl rfl rfl rfl rfl (by rfl) (by rfl) (by omega) (by simp only[maxLen];omega) rfl (fun a95 c95=>?_);refine Dn 11 (k:=?_);refine AbR (AaU (sz:=2) (bytes:=32) Tryz.underlying64 AeL rfl rfl rfl rfl rfl rfl rfl (Adn (e:=63) (sz:=2) (a:=ea) (n':=E.length) (c':=ec) (m:=q) (kk:=q * 2) (k:=E.length) (xs:=E.flatMap Aai) rfl hq) hdk hone2 (by omega) (by simp only[maxLen];omega) (k:=q+1) (xs:=(E.flatMap Aai).take (q * 2)++[vS (brH H n),vS n])) rfl (fun x99 ⟨a99,c99,h99⟩=>?_);subst h99;rw[←hcut];refine Dv 12 (k:=Dd (k:=Yb (Ya (Zr (k:=Qv (k:=Wn ?_))))));exact AhP
    ·
     refine Zb (k:=?_);refine Aak (fun (i:{ q:Nat // q≤E.length∧∀i,i<q→Ai8 (E.getD i ⟨[],[]⟩) ⟨brH H n,n⟩ })=>[(0,.map (some b)),(3,.slice ea E.length ec),(9,.pointer (some ⟨b9,0,none⟩)),(10,vI i.1),(12,.slice la l'.length lc),(13,vI l'.length),(14,vI j)]) (fun (i:{ q:Nat // q≤E.length∧∀i,i<q→Ai8 (E.getD i ⟨[],[]⟩) ⟨brH H n,n⟩ })=>[Row 63 2 (.slice ea E.length ec) E.length (E.flatMap Aai),Row 9 1 (.slice la l'.length lc) l'.length (l'.map vS),MapS b H,Ce b9 63 [vS (brH H n),vS n]]) (fun (i:{ q:Nat // q≤E.length∧∀i,i<q→Ai8 (E.getD i ⟨[],[]⟩) ⟨brH H n,n⟩ })=>E.length-i.1) rfl (⟨0,Nat.zero_le _,fun i h=>by omega⟩) ?_ ?_ (fun i=>?_)
     · exact⟨rfl,rfl,rfl,rfl,rfl,rfl,rfl,trivial⟩
     ·
      exact(AaH (b:=b9) (T:=63) (l':=[vS (brH H n),vS n]) (by rfl) (by rfl)).trans Aa0
     obtain⟨q,hq,hlt⟩:=i;dsimp only;try dsimp only
     refine Za (k:=Za (k:=Dw [Row 63 2 (.slice ea E.length ec) E.length (E.flatMap Aai),Ce b9 63 [vS (brH H n),vS n]] (k:=?_)));refine Dv 0 (k:=Dv 1 (k:=Dv 2 (k:=Dv 3 (k:=Dv 4 (k:=Gd 4 (t:=fun h56=>?_) (f:=fun h56=>?_))))))
     ·
      refine Di 5 (t:=U1 (h:=Uv)) (k:=Di 6 (t:=U1 (h:=Uv)) (k:=?_));refine Aa1 7 rfl rfl rfl (by kernel_rfl) (by kernel_rfl) (Aau (b:=true) rfl (Aae (m:=q) (sz:=2) Tryz.underlying64 AeL rfl rfl rfl rfl (by omega) (by omega) rfl)) ?_;refine Aa1 8 rfl rfl rfl (by kernel_rfl) (by kernel_rfl) (Aau (b:=true) rfl (AaO (o:=0) Tryz.underlying63 rfl ti9 rfl rfl rfl rfl (by omega))) ?_;refine Aa1 9 rfl rfl rfl (by kernel_rfl) (by kernel_rfl) (Aau (b:=true) rfl (Aas Tryz.underlying9 rfl rfl (Auc (by omega)).1)) ?_;refine Di 10 (t:=U1 (h:=Uf 0 9)) (k:=Di 11 (t:=U1 (h:=Ul)) (k:=Di 12 (t:=U1 (h:=Uv)) (k:=Di 13 (t:=U1 (h:=Uv)) (k:=Gd 13 (t:=fun h65=>?_) (f:=fun h65=>?_)))))
      ·
       refine D1 14 (k:=D1 15 (k:=D1 16 (k:=D1 17 (k:=D1 18 (k:=D1 19 (k:=D1 20 (k:=D1 21 (k:=D1 22 (k:=Di 23 (t:=Uu) (k:=Di 24 (t:=Uu) (k:=Di 25 (t:=Uu) (k:=?_))))))))))));refine Di 26 (t:=Uu) (k:=Di 27 (t:=Uu) (k:=Di 28 (t:=Uu) (k:=Di 29 (t:=Uu) (k:=Di 30 (t:=Uu) (k:=D1 31 (k:=Di 32 (t:=U1 (h:=UP1)) (k:=DP1 33 (k:=Dd (k:=Ya (Z1 (k:=Zk (k:=?_))))))))))));refine Ya (Zb (k:=Zr (k:=Qv (k:=Vv (k:=Wn (Yb ?_))))));exact Ani
      ·
       refine Di 14 (t:=U0 (h:=Uv)) (k:=Di 15 (t:=U0 (h:=Uv)) (k:=?_));refine Aa1 16 rfl rfl rfl (by kernel_rfl) (by kernel_rfl) (Aau (b:=false) rfl (Aae (m:=q) (sz:=2) Tryz.underlying64 AeL rfl rfl rfl rfl (by omega) (by omega) rfl)) ?_;refine Aa1 17 rfl rfl rfl (by kernel_rfl) (by kernel_rfl) (Aau (b:=false) rfl (AaO (o:=0) Tryz.underlying63 rfl ti9 rfl rfl rfl rfl (by omega))) ?_;refine Aa1 18 rfl rfl rfl (by kernel_rfl) (by kernel_rfl) (Aau (b:=false) rfl (Aas Tryz.underlying9 rfl rfl (Auc (by omega)).1)) ?_;refine Di 19 (t:=U0 (h:=Uf 0 9)) (k:=Di 20 (t:=U0 (h:=Ul)) (k:=Di 21 (t:=U0 (h:=Uv)) (k:=Di 22 (t:=U0 (h:=Uv)) (k:=Gd 22 (t:=fun h74=>?_) (f:=fun h74=>?_)))))
       ·
        refine Di 23 (t:=U1 (h:=Uv)) (k:=Di 24 (t:=U1 (h:=Uv)) (k:=?_));refine Aa1 25 rfl rfl rfl (by kernel_rfl) (by kernel_rfl) (Aau (b:=true) rfl (Aae (m:=q) (sz:=2) Tryz.underlying64 AeL rfl rfl rfl rfl (by omega) (by omega) rfl)) ?_;refine Aa1 26 rfl rfl rfl (by kernel_rfl) (by kernel_rfl) (Aau (b:=true) rfl (AaO (o:=1) Tryz.underlying63 rfl ti9 rfl rfl rfl rfl (by omega))) ?_;refine Aa1 27 rfl rfl rfl (by kernel_rfl) (by kernel_rfl) (Aau (b:=true) rfl (Aas Tryz.underlying9 rfl rfl (Auc (by omega)).2)) ?_;refine Di 28 (t:=U1 (h:=Uf 1 9)) (k:=Di 29 (t:=U1 (h:=Ul)) (k:=Di 30 (t:=U1 (h:=Uv)) (k:=Di 31 (t:=U0 (h:=UP1)) (k:=Di 32 (t:=U1 (h:=UP0)) (k:=DP1 33 (k:=Dd (k:=Ya (Zi (t:=fun h85=>?_) (f:=fun h85=>?_)))))))))
        ·
         refine Zk (k:=Ya (Zb (k:=Zr (k:=Qv (k:=Vv (k:=Wn (Yb ?_)))))));exact Ani
        ·
         refine Ze (k:=Xa (Xi (Xb ?_)));exact Aip
       ·
        refine D0 23 (k:=D0 24 (k:=D0 25 (k:=D0 26 (k:=D0 27 (k:=D0 28 (k:=D0 29 (k:=D0 30 (k:=Di 31 (t:=U0 (h:=UP0)) (k:=Di 32 (t:=U1 (h:=UP0)) (k:=DP1 33 (k:=Dd (k:=?_))))))))))));refine Ya (Z0 (k:=Ze (k:=Xa (Xi (Xb ?_)))));exact Aip
     ·
      refine D0 5 (k:=D0 6 (k:=D0 7 (k:=D0 8 (k:=D0 9 (k:=D0 10 (k:=D0 11 (k:=D0 12 (k:=D0 13 (k:=Di 14 (t:=Uu) (k:=Di 15 (t:=Uu) (k:=Di 16 (t:=Uu) (k:=?_))))))))))));refine Di 17 (t:=Uu) (k:=Di 18 (t:=Uu) (k:=Di 19 (t:=Uu) (k:=Di 20 (t:=Uu) (k:=Di 21 (t:=Uu) (k:=Di 22 (t:=Uu) (k:=Di 23 (t:=Uu) (k:=Di 24 (t:=Uu) (k:=Di 25 (t:=Uu) (k:=Di 26 (t:=Uu) (k:=Di 27 (t:=Uu) (k:=Di 28 (t:=Uu) (k:=?_))))))))))));refine Di 29 (t:=Uu) (k:=Di 30 (t:=Uu) (k:=Di 31 (t:=Uu) (k:=D0 32 (k:=DP0 33 (k:=Dd (k:=Ya (Z0 (k:=Ze (k:=Xa (Xi (Xb ?_)))))))))));exact Aip
 ·
  refine Ze (k:=Xa (Xi (Xb (Ya (Qc (k:=Qv (k:=Wq (Zt (k:=?_)))))))));have hjn:j=l.length:=by omega
  subst hjn;rw[List.take_length] at mem;refine Aa2 ((ea,ec),E) (vs:=[_]) (Cs:=[]) rfl (.tmp rfl .nil) rfl ⟨so,fun y=>?_⟩ Aa0;rw[mem y];exact Avr lmem y
end
theorem Av0 {K:Ks} {V:List Lf} (h:∀y,y∈V↔y∈lvL K) (n:Bs):(V.any fun y=>decide (y.name=n))=AkX K n:=by
 unfold AkX;rw[Bool.eq_iff_iff,List.any_eq_true,List.any_eq_true];simp only[h]
theorem HdP.h0 {K:Ks} (h:HdP K):[]∉K.map (·.1):=fun hm=>by
 have:=h.k40 hm;simp at this
theorem HdP.count {K:Ks} (h:HdP K) {done:List Bs} (hd:done.Perm (K.map (·.1))):(done.filter fun k=>(AaD (Abq K k)).isSome).length=(Abn (brL K)).length:=by
 refine List.Perm.length_eq ((List.perm_ext_iff_of_nodup ((hd.nodup_iff.2 h.nd).sublist List.filter_sublist) (AkF h.cnd)).2 fun n=>?_);rw[List.mem_filter,mem_doneN,hd.mem_iff];unfold AgI;constructor
 · rintro⟨h1,h2⟩
   obtain⟨c,hc⟩:=Option.isSome_iff_exists.1 h2;exact List.mem_map_of_mem (f:=fun p:Bs×Ck=>p.1) (ck_in.2 ⟨h1,hc⟩)
 · intro hm
   obtain⟨⟨m,c⟩,hx,rfl⟩:=List.mem_map.1 hm;obtain⟨h1,h2⟩:=ck_in.1 hx;exact⟨h1,by rw[h2];rfl⟩
theorem Aql {K:Ks} (h:(K.map (·.1)).Nodup):(AgI K).Pairwise (· < ·):=by
 unfold AgI AaY;exact(Aq8 h).sublist (Ahz K _)
def Ahk (pre:List BrN):Bs:=(pre.map (·.1)).getLastD []
theorem AkC (pre:List BrN) (x:BrN):Ahk (pre++[x])=x.1:=by simp[Ahk]
theorem AuD {K:Ks} {pre:List BrN} {x:BrN} (h:Ar4 K pre x) (hp:0<pre.length):Ahk pre<x.1:=by
 obtain⟨r,e⟩:=h;have hs:(AeR K).Pairwise (· < ·):=Ahu _ (AcF _);have e2:(brL K).map (·.1)=AeR K:=by
  unfold brL;rw[List.map_map]
  conv=>rhs;rw[←List.map_id (AeR K)]
  rfl
 rw[←e2,e] at hs;rcases List.eq_nil_or_concat pre with rfl | ⟨q,y,rfl⟩
 · simp at hp
 · rw[List.concat_eq_append,AkC]
   simp only[List.concat_eq_append,List.map_append,List.map_cons,List.map_nil,Abi,List.append_assoc,List.cons_append,List.nil_append] at hs;exact(List.pairwise_cons.1 (List.pairwise_append.1 hs).2.1).1 x.1 (by simp)
theorem AwW {K:Ks} {pre:List BrN} {x:BrN} (h:Ar4 K pre x):0<x.2.2.length:=by
 obtain⟨r,e⟩:=h;have hm:Abi x∈brL K:=by rw[e];simp
 obtain⟨b,hb,e2⟩:=List.mem_map.1 hm;have h2:(AjB K b).2=(Abi x).2:=congrArg Prod.snd e2;have h3:x.2.2=(AjB K b).2:=h2.symm;rw[h3];rw[AeR,Ahv,(AbB _).mem_iff] at hb;obtain⟨n,hn,rfl⟩:=List.mem_map.1 hb;exact List.length_pos_of_mem (a:=n) (List.mem_filter.2 ⟨hn,by simp⟩)
theorem AsX {K:Ks} (hn:(K.map (·.1)).Nodup) {pre:List BrN} {x:BrN} (h:Ar4 K pre x):x.2.2.Pairwise (· < ·):=by
 rw[ArU h];exact(Aql hn).sublist List.filter_sublist
theorem AvQ {K:Ks}:(brL K).length≤(AgI K).length:=by
 unfold brL AeR;rw[List.length_map];have h1:=Aux (AdX ((AgI K).map (brH K)));rw[AhU,List.length_map] at h1;exact h1
theorem Aq2 {K:Ks} {pre:List BrN} {x:BrN} (h:Ar4 K pre x):pre.length<(brL K).length:=by
 obtain⟨r,e⟩:=h;rw[e];simp
theorem MapG.det (hc:True) {es es':Array MapEntry} {c c':Nat} {ks:Ks} (g:MapG es c ks) (g':MapG es' c' ks):es=es'∧c=c':=by
 obtain⟨h1,h2⟩:=g.can hc;obtain⟨h1',h2'⟩:=g'.can hc;have hs:es.size=es'.size:=by rw[g.size,g'.size]
 refine⟨?_,by omega⟩;have he:es.toList=es'.toList:=by
  have e1:=g.eq.trans g'.eq.symm;have e2:es.toList.map (·.born)=es'.toList.map (·.born):=by rw[h1,h1',hs]
  refine List.ext_getElem (by simpa using hs) fun i hi hi'=>?_;have a1:=congrArg (·[i]?) e1;have a2:=congrArg (·[i]?) e2;simp only[List.getElem?_map,List.getElem?_eq_getElem hi,List.getElem?_eq_getElem hi',Option.map_some,Option.some.injEq,Prod.mk.injEq] at a1 a2;generalize es.toList[i]=x at a1 a2;generalize es'.toList[i]=y at a1 a2;obtain⟨k,v,n⟩:=x;obtain⟨k',v',n'⟩:=y;obtain⟨rfl,rfl⟩:=a1
  cases a2;rfl
 exact Array.ext' he
def ItR (b r:Nat) (ks:Ks) (done:List (List UInt8)):HP :=
 ⟨fun _ h=>∃(es:Array MapEntry) (clock:Nat) (ds:List MapEntry),b≠r∧h=Res.one r (.mapIter (some b) clock (ds.map MapEntry.born).toArray clock)∧MapG es clock ks∧Asd es ds done,fun _ e=>e⟩
theorem AwH {b i:Nat} {ks:Ks} {done:List (List UInt8)} {Hs Rs:List HP} [h:Afs b i ks done Hs Rs]:Ent Hs (MapS b ks::ItR b i ks done::Rs):=(Picks.ent (.cons h.get .nil)).trans ⟨fun {M x} s=>by
 obtain⟨h1,h2,d,e,⟨es,clock,ds,hne,e1,g,sg⟩,s⟩:=s;subst e1;subst e;obtain⟨d1,d2⟩:=Res.dj_add_left.1 d;have dbi:(Res.one b (.map es clock)).dj (Res.one i (.mapIter (some b) clock (ds.map MapEntry.born).toArray clock)):=fun q=>by
  by_cases hq:q=b
  · right;simp[Res.one,hq,hne]
  · left;simp[Res.one,hq]
 refine⟨Res.one b (.map es clock),(Res.one i (.mapIter (some b) clock (ds.map MapEntry.born).toArray clock)).add h2,Res.dj_add_right.2 ⟨dbi,d1⟩,Res.add_assoc _ _ _,⟨es,clock,rfl,g⟩,Res.one i (.mapIter (some b) clock (ds.map MapEntry.born).toArray clock),h2,d2,rfl,⟨es,clock,ds,hne,rfl,g,sg⟩,s⟩⟩
theorem Axm (hc:True) {b i:Nat} {ks:Ks} {done:List (List UInt8)} {Rs:List HP}:Ent (MapS b ks::ItR b i ks done::Rs) (Abj b i ks done::Rs):=⟨fun {M x} s=>by
 obtain⟨h1,h2,d,e,⟨es,clock,e1,g⟩,h3,h4,d2,e2,⟨es',clock',ds,hne,e3,g',sg⟩,s⟩:=s;obtain⟨rfl,rfl⟩:=MapG.det hc g g';subst e1;subst e3;subst e2;subst e;obtain⟨d3,d4⟩:=Res.dj_add_right.1 d;exact⟨(Res.one b (.map es clock)).add (Res.one i (.mapIter (some b) clock (ds.map MapEntry.born).toArray clock)),h4,Res.dj_add_left.2 ⟨d4,d2⟩,(Res.add_assoc _ _ _).symm,⟨es,clock,ds,hne,rfl,g,sg⟩,s⟩⟩
section
set_option maxRecDepth 100000
theorem AnK:∀As:List HP,Picks As As []
 | []=>.nil
 | A::r=>.cons .here (AnK r)
theorem Atu {α:Type} {l l':List α} {j:Nat} (h:j<l.length) (h':j<l'.length) (e:l.take j=l'.take j) (x:l[j]=l'[j]):l.take (j+1)=l'.take (j+1):=by
 rw[List.take_succ_eq_append_getElem h,List.take_succ_eq_append_getElem h',e,x]
end
end Go.Proofs.YtdnoacgopfcpbaaGreat
