/- Texts of this proof, put together: SRSha, AhF, RowZ2, SRSha2. -/
import Derived.Laws.IdiomStrings
import Derived.Test.YtdnoacgopfcpbaaGreatQ09
set_option linter.unusedVariables false
set_option linter.unusedSimpArgs false
namespace Go.Proofs.YtdnoacgopfcpbaaGreat
section
set_option maxRecDepth 100000
theorem Agv (x:UInt32) (k:Nat) (hk:k=1∨k=5∨k=30):SpF Tryz.prog 99 [vW x,.int .u64 k] (vW (AtE x k)):=by
 rcases hk with rfl | rfl | rfl
 · skip
   refine Sp.body (n:=13) Tryz.call99 Tryz.func99 rfl rfl rfl ?_;refine Qc (k:=Vv (k:=Wq (Qc (k:=Qv (k:=?_)))));refine Aa6 (Adt (m:=1) rfl rfl rfl (by omega)) rfl ?_;refine Qv (k:=?_);refine Aa6 (AeN rfl rfl) rfl ?_;refine Aa6 (Afz (m:=31) rfl rfl (by decide) (by omega)) rfl ?_;refine Aa6 (AcP rfl rfl) rfl ?_;refine Vv (k:=Wq (Zt (k:=?_)));exact Aa2 () (vs:=[_]) (Cs:=[]) rfl (.tmp rfl .nil) rfl trivial Aad
 · skip
   refine Sp.body (n:=13) Tryz.call99 Tryz.func99 rfl rfl rfl ?_;refine Qc (k:=Vv (k:=Wq (Qc (k:=Qv (k:=?_)))));refine Aa6 (Adt (m:=5) rfl rfl rfl (by omega)) rfl ?_;refine Qv (k:=?_);refine Aa6 (AeN rfl rfl) rfl ?_;refine Aa6 (Afz (m:=27) rfl rfl (by decide) (by omega)) rfl ?_;refine Aa6 (AcP rfl rfl) rfl ?_;refine Vv (k:=Wq (Zt (k:=?_)));exact Aa2 () (vs:=[_]) (Cs:=[]) rfl (.tmp rfl .nil) rfl trivial Aad
 · skip
   refine Sp.body (n:=13) Tryz.call99 Tryz.func99 rfl rfl rfl ?_;refine Qc (k:=Vv (k:=Wq (Qc (k:=Qv (k:=?_)))));refine Aa6 (Adt (m:=30) rfl rfl rfl (by omega)) rfl ?_;refine Qv (k:=?_);refine Aa6 (AeN rfl rfl) rfl ?_;refine Aa6 (Afz (m:=2) rfl rfl (by decide) (by omega)) rfl ?_;refine Aa6 (AcP rfl rfl) rfl ?_;refine Vv (k:=Wq (Zt (k:=?_)));exact Aa2 () (vs:=[_]) (Cs:=[]) rfl (.tmp rfl .nil) rfl trivial Aad
theorem Agh {G:Prop} (h:G:=by
    first
    | (rw[if_neg (by omega),if_neg (by omega),if_neg (by omega)] at hmx
       rw[hmx];exact Aa5 () trivial ⟨rfl,rfl,rfl,rfl,rfl,rfl,rfl,rfl,trivial⟩ Aa0)
    | (rw[if_neg (by omega),if_neg (by omega),if_pos (by omega)] at hmx
       rw[hmx];exact Aa5 () trivial ⟨rfl,rfl,rfl,rfl,rfl,rfl,rfl,rfl,trivial⟩ Aa0)
    | (rw[if_neg (by omega),if_pos (by omega)] at hmx
       rw[hmx];exact Aa5 () trivial ⟨rfl,rfl,rfl,rfl,rfl,rfl,rfl,rfl,trivial⟩ Aa0)
    | (rw[if_pos (by omega)] at hmx
       rw[hmx];exact Aa5 () trivial ⟨rfl,rfl,rfl,rfl,rfl,rfl,rfl,rfl,trivial⟩ Aa0)):G:=h
theorem AmF {B:HP} {a:Option Addr} (c:Nat) (h:W5) (b:Bs) (hb:b.length=64) (sh:SlA B a (vUs b)):Sp1 Tryz.prog 49 [.agg (h.list.map vW).toArray,.slice a 64 c] [B] (.agg ((Aig h b).list.map vW).toArray) [B]:=by
 haveI:Abu a (vUs b) [B]:=⟨⟨B,sh,.here⟩⟩
 have hvl:(vUs b).length=64:=by simp[vUs,hb]
 refine Sp.body (n:=177) Tryz.call49 Tryz.func49 rfl rfl rfl ?_;refine Qc (k:=Zx [_,_,_,_,_] (k:=fun b2=>Zc [.int .u32 0,.int .u32 0,.int .u32 0,.int .u32 0,.int .u32 0] (k:=fun b4=>Wq (Qc (k:=Zc [.int .u32 0,.int .u32 0,.int .u32 0,.int .u32 0,.int .u32 0,.int .u32 0,.int .u32 0,.int .u32 0,.int .u32 0,.int .u32 0,.int .u32 0,.int .u32 0,.int .u32 0,.int .u32 0,.int .u32 0,.int .u32 0,.int .u32 0,.int .u32 0,.int .u32 0,.int .u32 0,.int .u32 0,.int .u32 0,.int .u32 0,.int .u32 0,.int .u32 0,.int .u32 0,.int .u32 0,.int .u32 0,.int .u32 0,.int .u32 0,.int .u32 0,.int .u32 0,.int .u32 0,.int .u32 0,.int .u32 0,.int .u32 0,.int .u32 0,.int .u32 0,.int .u32 0,.int .u32 0,.int .u32 0,.int .u32 0,.int .u32 0,.int .u32 0,.int .u32 0,.int .u32 0,.int .u32 0,.int .u32 0,.int .u32 0,.int .u32 0,.int .u32 0,.int .u32 0,.int .u32 0,.int .u32 0,.int .u32 0,.int .u32 0,.int .u32 0,.int .u32 0,.int .u32 0,.int .u32 0,.int .u32 0,.int .u32 0,.int .u32 0,.int .u32 0,.int .u32 0,.int .u32 0,.int .u32 0,.int .u32 0,.int .u32 0,.int .u32 0,.int .u32 0,.int .u32 0,.int .u32 0,.int .u32 0,.int .u32 0,.int .u32 0,.int .u32 0,.int .u32 0,.int .u32 0,.int .u32 0] (k:=fun b5=>Wq (Za (k:=Qc (k:=?_)))))))));refine Vv (k:=Wq (Zb (k:=?_)))
 refine Aak (fun (i:{ j:Nat // j≤16 })=>[(1,.slice a 64 c),(2,.pointer (some ⟨b2,0,none⟩)),(4,.pointer (some ⟨b4,0,none⟩)),(5,.pointer (some ⟨b5,0,none⟩)),(14,vI i.1)]) (fun (i:{ j:Nat // j≤16 })=>[Ce b5 162 ((Ab7 b i.1++List.replicate (80-i.1) 0).map vW),Ce b2 95 (h.list.map vW),Ce b4 95 ((List.replicate 5 (0:UInt32)).map vW),B]) (fun (i:{ j:Nat // j≤16 })=>16-i.1) rfl (⟨0,Nat.zero_le _⟩) ?_ ?_ (fun i=>?_)
 · exact⟨rfl,rfl,rfl,rfl,rfl,trivial⟩
 ·
  exact Aac (AaH (by rfl) (by rfl)) (Aac (AaH (by rfl) (by rfl)) (Aac (AaH (by rfl) (by rfl)) Aa0))
 obtain⟨j,hj⟩:=i;dsimp only;have hsp:=AbX b j;try dsimp only
 refine Qc (k:=Vv (k:=Wq (Za (k:=Zi (t:=fun h15=>?_) (f:=fun h15=>?_)))))
 ·
  refine Zk (k:=Ya (Za (k:=Zb (k:=Qc (k:=Qv (k:=Wq (Dw [B] (k:=?_))))))));refine Dv 0 (k:=Dv 1 (k:=Dv 2 (k:=Dv 3 (k:=?_))));refine Aa1 4 rfl rfl rfl (by kernel_rfl) (by kernel_rfl) (Aae (sz:=1) (m:=4 * j) Tryz.underlying56 ti5 rfl rfl rfl (by omega) (by omega) (by omega) (Nat.mul_one _)) ?_;refine Aa1 5 rfl rfl rfl (by kernel_rfl) (by kernel_rfl) (Aas Tryz.underlying5 rfl rfl (Afv (by omega))) ?_;refine Aa1 6 rfl rfl rfl (by kernel_rfl) (by kernel_rfl) (Aat (Aer rfl Tryz.underlying5 Tryz.underlying94)) ?_;refine Aa1 7 rfl rfl rfl (by kernel_rfl) (by kernel_rfl) (Aat (Adt (m:=24) rfl rfl rfl (by omega))) ?_;refine Dv 8 (k:=Dv 9 (k:=Dv 10 (k:=Dv 11 (k:=?_))));refine Aa1 12 rfl rfl rfl (by kernel_rfl) (by kernel_rfl) (Aae (sz:=1) (m:=4 * j+1) Tryz.underlying56 ti5 rfl rfl rfl (by omega) (by omega) (by omega) (Nat.mul_one _)) ?_;refine Aa1 13 rfl rfl rfl (by kernel_rfl) (by kernel_rfl) (Aas Tryz.underlying5 rfl rfl (Afv (by omega))) ?_;refine Aa1 14 rfl rfl rfl (by kernel_rfl) (by kernel_rfl) (Aat (Aer rfl Tryz.underlying5 Tryz.underlying94)) ?_;refine Aa1 15 rfl rfl rfl (by kernel_rfl) (by kernel_rfl) (Aat (Adt (m:=16) rfl rfl rfl (by omega))) ?_;refine Aa1 16 rfl rfl rfl (by kernel_rfl) (by kernel_rfl) (Aat (AcP rfl rfl)) ?_;refine Dv 17 (k:=Dv 18 (k:=Dv 19 (k:=Dv 20 (k:=?_))));refine Aa1 21 rfl rfl rfl (by kernel_rfl) (by kernel_rfl) (Aae (sz:=1) (m:=4 * j+2) Tryz.underlying56 ti5 rfl rfl rfl (by omega) (by omega) (by omega) (Nat.mul_one _)) ?_
  refine Aa1 22 rfl rfl rfl (by kernel_rfl) (by kernel_rfl) (Aas Tryz.underlying5 rfl rfl (Afv (by omega))) ?_;refine Aa1 23 rfl rfl rfl (by kernel_rfl) (by kernel_rfl) (Aat (Aer rfl Tryz.underlying5 Tryz.underlying94)) ?_;refine Aa1 24 rfl rfl rfl (by kernel_rfl) (by kernel_rfl) (Aat (Adt (m:=8) rfl rfl rfl (by omega))) ?_;refine Aa1 25 rfl rfl rfl (by kernel_rfl) (by kernel_rfl) (Aat (AcP rfl rfl)) ?_;refine Dv 26 (k:=Dv 27 (k:=Dv 28 (k:=Dv 29 (k:=?_))));refine Aa1 30 rfl rfl rfl (by kernel_rfl) (by kernel_rfl) (Aae (sz:=1) (m:=4 * j+3) Tryz.underlying56 ti5 rfl rfl rfl (by omega) (by omega) (by omega) (Nat.mul_one _)) ?_;refine Aa1 31 rfl rfl rfl (by kernel_rfl) (by kernel_rfl) (Aas Tryz.underlying5 rfl rfl (Afv (by omega))) ?_;refine Aa1 32 rfl rfl rfl (by kernel_rfl) (by kernel_rfl) (Aat (Aer rfl Tryz.underlying5 Tryz.underlying94)) ?_;refine Aa1 33 rfl rfl rfl (by kernel_rfl) (by kernel_rfl) (Aat (AcP rfl rfl)) ?_;refine Aa1 34 rfl rfl rfl (by kernel_rfl) (by kernel_rfl) (Aat (Aan Tryz.underlying162 AbE rfl rfl rfl (by first | rfl | omega) (by omega))) ?_;refine Dn 35 (k:=No (k:=Dd (k:=Yb (Ya (Zr (k:=Qv (k:=Wn ?_)))))));refine Aa5 ⟨j+1,by omega⟩ (by dsimp only;omega) ⟨rfl,rfl,rfl,rfl,rfl,trivial⟩ ?_;dsimp only;rw[←Aoo (b:=b) (j:=j) (by omega) (AvS b j) (by rw[if_pos (by omega)])];exact Aac (AaH (by rfl) (by rw[List.map_set];rfl)) Aa0
 ·
  refine Ze (k:=Xa (Xi (Xb (Ya (Za (k:=Qc (k:=Vv (k:=Wq (Zb (k:=?_))))))))));refine Aak (fun (i:{ j:Nat // 16≤j∧j≤80 })=>[(2,.pointer (some ⟨b2,0,none⟩)),(4,.pointer (some ⟨b4,0,none⟩)),(5,.pointer (some ⟨b5,0,none⟩)),(7,vI i.1)]) (fun (i:{ j:Nat // 16≤j∧j≤80 })=>[Ce b5 162 ((Ab7 b i.1++List.replicate (80-i.1) 0).map vW),Ce b2 95 (h.list.map vW),Ce b4 95 ((List.replicate 5 (0:UInt32)).map vW),B]) (fun (i:{ j:Nat // 16≤j∧j≤80 })=>80-i.1) rfl (⟨16,by omega,by omega⟩) ?_ ?_ (fun i=>?_)
  · exact⟨rfl,rfl,rfl,rfl,trivial⟩
  ·
   have hj16:j=16:=by omega
   subst hj16;exact Aa0
  obtain⟨m,hm1,hm2⟩:=i;dsimp only;have hsl:(Ab7 b m++List.replicate (80-m) (0:UInt32)).length=80:=by rw[List.length_append,AbX,List.length_replicate];omega
  have hsp:=AbX b m;try dsimp only
  refine Za (k:=Qc (k:=Qv (k:=Wq (Zi (t:=fun h54=>?_) (f:=fun h54=>?_)))))
  ·
   refine Zk (k:=Ya (Za (k:=Zb (k:=Dw [Ce b5 162 ((Ab7 b m++List.replicate (80-m) 0).map vW)] (k:=?_)))));refine Dv 0 (k:=Dv 1 (k:=Dv 2 (k:=?_)));refine Aa1 3 rfl rfl rfl (by kernel_rfl) (by kernel_rfl) (Aat (Aan (m:=m-3) Tryz.underlying162 AbE rfl rfl rfl (by omega) (by omega))) ?_;refine Aa1 4 rfl rfl rfl (by kernel_rfl) (by kernel_rfl) (Ads Tryz.underlying94 rfl rfl ((Acp (m:=m-3) (by omega)).trans (by rw[Ah7 (by omega) (by omega)]))) ?_;refine Dv 5 (k:=Dv 6 (k:=?_));refine Aa1 7 rfl rfl rfl (by kernel_rfl) (by kernel_rfl) (Aat (Aan (m:=m-8) Tryz.underlying162 AbE rfl rfl rfl (by omega) (by omega))) ?_;refine Aa1 8 rfl rfl rfl (by kernel_rfl) (by kernel_rfl) (Ads Tryz.underlying94 rfl rfl ((Acp (m:=m-8) (by omega)).trans (by rw[Ah7 (by omega) (by omega)]))) ?_;refine Aa1 9 rfl rfl rfl (by kernel_rfl) (by kernel_rfl) (Aat (AcQ rfl rfl)) ?_;refine Dv 10 (k:=Dv 11 (k:=?_));refine Aa1 12 rfl rfl rfl (by kernel_rfl) (by kernel_rfl) (Aat (Aan (m:=m-14) Tryz.underlying162 AbE rfl rfl rfl (by omega) (by omega))) ?_;refine Aa1 13 rfl rfl rfl (by kernel_rfl) (by kernel_rfl) (Ads Tryz.underlying94 rfl rfl ((Acp (m:=m-14) (by omega)).trans (by rw[Ah7 (by omega) (by omega)]))) ?_;refine Aa1 14 rfl rfl rfl (by kernel_rfl) (by kernel_rfl) (Aat (AcQ rfl rfl)) ?_;refine Dv 15 (k:=Dv 16 (k:=?_));refine Aa1 17 rfl rfl rfl (by kernel_rfl) (by kernel_rfl) (Aat (Aan (m:=m-16) Tryz.underlying162 AbE rfl rfl rfl (by omega) (by omega))) ?_
   refine Aa1 18 rfl rfl rfl (by kernel_rfl) (by kernel_rfl) (Ads Tryz.underlying94 rfl rfl ((Acp (m:=m-16) (by omega)).trans (by rw[Ah7 (by omega) (by omega)]))) ?_;refine Aa1 19 rfl rfl rfl (by kernel_rfl) (by kernel_rfl) (Aat (AcQ rfl rfl)) ?_;refine Dn 20 (k:=?_);refine Aal (Agv _ 1 (.inl rfl)) rfl rfl rfl ?_;refine Aa1 21 rfl rfl rfl (by kernel_rfl) (by kernel_rfl) (Aat (Aan Tryz.underlying162 AbE rfl rfl rfl (by first | rfl | omega) (by omega))) ?_;refine AiQ 22 (by kernel_rfl) rfl (by kernel_rfl) (by kernel_rfl) ?_;refine No (k:=Yb (Ya (Zr (k:=Qv (k:=Vv (k:=Wn ?_))))));refine Aa5 ⟨m+1,by omega,by omega⟩ (by dsimp only;omega) ⟨rfl,rfl,rfl,rfl,trivial⟩ ?_;dsimp only;rw[←Aoo (b:=b) (j:=m) (by omega) (ArY (Ab7 b m) m) (by rw[if_neg (by omega)])];exact Aac (AaH (by rfl) (by rw[List.map_set];rfl)) Aa0
  ·
   refine Ze (k:=Xa (Xi (Xb (Ya (Za (k:=?_))))));have hm80:m=80:=by omega
   subst hm80;rw[Nat.sub_self,List.replicate_zero,List.append_nil];have htk:Aig h b=(let s:=Acq (Ab7 b 80) h 80;⟨h.a+s.a,h.b+s.b,h.c+s.c,h.d+s.d,h.e+s.e⟩):=rfl;generalize Ab7 b 80=ws at hsp htk ⊢;refine Zr (k:=Zm [_,_,_,_,_] (k:=Zc [.int .u32 0,.int .u32 0,.int .u32 0,.int .u32 0,.int .u32 0] (k:=fun b8=>Zp (k:=Wq (Za (k:=Qc (k:=Vv (k:=Wq (Zb (k:=?_))))))))));refine Aak (fun (i:{ j:Nat // j≤80 })=>[(2,.pointer (some ⟨b2,0,none⟩)),(4,.pointer (some ⟨b4,0,none⟩)),(5,.pointer (some ⟨b5,0,none⟩)),(8,.pointer (some ⟨b8,0,none⟩)),(80,vI i.1)]) (fun (i:{ j:Nat // j≤80 })=>[Ce b8 95 ((Acq ws h i.1).list.map vW),Ce b5 162 (ws.map vW),Ce b2 95 (h.list.map vW),Ce b4 95 ((List.replicate 5 (0:UInt32)).map vW),B]) (fun (i:{ j:Nat // j≤80 })=>80-i.1) rfl (⟨0,Nat.zero_le _⟩) ?_ ?_ (fun i=>?_)
   · exact⟨rfl,rfl,rfl,rfl,rfl,trivial⟩
   ·
    exact Aac (AaH (by rfl) (by rfl)) Aa0
   obtain⟨q,hq⟩:=i;dsimp only;try dsimp only
   refine Qc (k:=Vv (k:=Wq (Za (k:=Zi (t:=fun h81=>?_) (f:=fun h81=>?_)))))
   ·
    refine Zk (k:=Ya (Za (k:=Zb (k:=Za (k:=?_)))));obtain⟨s,hs⟩:∃s,s=Acq ws h q:=⟨_,rfl⟩
    have hs2:Acq ws h (q+1)=AqQ ws q s:=by rw[hs];rfl
    rw[←hs];have hsl5:s.list.length=5:=rfl;have hmx:Aq4 q s.b s.c s.d=if q / 20=0 then ((s.b &&& s.c) ||| (~~~s.b &&& s.d),0x5a827999) else if q / 20=1 then (s.b ^^^ s.c ^^^ s.d,0x6ed9eba1) else if q / 20=2 then ((s.b &&& s.c) ||| (s.b &&& s.d) ||| (s.c &&& s.d),0x8f1bbcdc) else (s.b ^^^ s.c ^^^ s.d,0xca62c1d6):=rfl
    refine Zr (k:=Qv (k:=Wq (Qc (k:=?_))));refine Aa6 (Aan (m:=1) Tryz.underlying95 AbE rfl rfl rfl (by first | rfl | omega) (by omega)) rfl ?_;refine Zd (k:=?_);refine Aa6 (Aan (m:=2) Tryz.underlying95 AbE rfl rfl rfl (by first | rfl | omega) (by omega)) rfl ?_;refine Zd (k:=?_);refine Aa6 (Adu rfl rfl) rfl ?_;refine Aa6 (Aan (m:=1) Tryz.underlying95 AbE rfl rfl rfl (by first | rfl | omega) (by omega)) rfl ?_;refine Zd (k:=?_);refine Aa6 (ArP rfl) rfl ?_;refine Aa6 (Aan (m:=3) Tryz.underlying95 AbE rfl rfl rfl (by first | rfl | omega) (by omega)) rfl ?_;refine Zd (k:=?_);refine Aa6 (Adu rfl rfl) rfl ?_;refine Aa6 (AcP rfl rfl) rfl ?_;refine Qv (k:=Wq ?_);refine Abg (fun (u:Unit)=>[(2,.pointer (some ⟨b2,0,none⟩)),(4,.pointer (some ⟨b4,0,none⟩)),(5,.pointer (some ⟨b5,0,none⟩)),(8,.pointer (some ⟨b8,0,none⟩)),(9,vI q),(10,vW (Aq4 q s.b s.c s.d).1),(11,vW (Aq4 q s.b s.c s.d).2),(80,vI q)]) (fun (u:Unit)=>[Ce b8 95 (s.list.map vW),Ce b5 162 (ws.map vW),Ce b2 95 (h.list.map vW),Ce b4 95 ((List.replicate 5 (0:UInt32)).map vW),B]) rfl (fun u=>?_) ?_
    ·
     try dsimp only
     refine Za (k:=Dw [Ce b8 95 (s.list.map vW),Ce b5 162 (ws.map vW)] (k:=?_));refine Aa1 0 rfl rfl rfl (by kernel_rfl) (by kernel_rfl) (Aat (Aan (m:=0) Tryz.underlying95 AbE rfl rfl rfl (by first | rfl | omega) (by omega))) ?_;refine Di 1 (t:=Ul) (k:=Dv 3 (k:=?_));refine Aa1 5 rfl rfl rfl (by kernel_rfl) (by kernel_rfl) (Aat (Aan (m:=4) Tryz.underlying95 AbE rfl rfl rfl (by first | rfl | omega) (by omega))) ?_;refine Di 6 (t:=Ul) (k:=Dv 8 (k:=Dv 10 (k:=?_)));refine Aa1 11 rfl rfl rfl (by kernel_rfl) (by kernel_rfl) (Aat (Aan Tryz.underlying162 AbE rfl rfl rfl (by first | rfl | omega) (by omega))) ?_;refine Aa1 12 rfl rfl rfl (by kernel_rfl) (by kernel_rfl) (Ads Tryz.underlying94 rfl rfl (Acp (m:=q) (by omega))) ?_;refine Dn 2 (k:=?_);refine Aal (Agv _ 5 (.inr (.inl rfl))) rfl rfl rfl ?_;refine Aa1 4 rfl rfl rfl (by kernel_rfl) (by kernel_rfl) (Aat (Ael rfl rfl)) ?_;refine Aa1 7 rfl rfl rfl (by kernel_rfl) (by kernel_rfl) (Aat (Ael rfl rfl)) ?_;refine Aa1 9 rfl rfl rfl (by kernel_rfl) (by kernel_rfl) (Aat (Ael rfl rfl)) ?_;refine Aa1 13 rfl rfl rfl (by kernel_rfl) (by kernel_rfl) (Aat (Ael rfl rfl)) ?_;refine Dv 14 (k:=Dd (k:=Ya (Dw [Ce b8 95 (s.list.map vW)] (k:=?_))));refine Dv 0 (k:=?_);refine Aa1 1 rfl rfl rfl (by kernel_rfl) (by kernel_rfl) (Aat (Aan (m:=0) Tryz.underlying95 AbE rfl rfl rfl (by first | rfl | omega) (by omega))) ?_;refine Di 2 (t:=Ul) (k:=?_)
     refine Aa1 3 rfl rfl rfl (by kernel_rfl) (by kernel_rfl) (Aat (Aan (m:=1) Tryz.underlying95 AbE rfl rfl rfl (by first | rfl | omega) (by omega))) ?_;refine Di 4 (t:=Ul) (k:=?_);refine Aa1 6 rfl rfl rfl (by kernel_rfl) (by kernel_rfl) (Aat (Aan (m:=2) Tryz.underlying95 AbE rfl rfl rfl (by first | rfl | omega) (by omega))) ?_;refine Di 7 (t:=Ul) (k:=?_);refine Aa1 8 rfl rfl rfl (by kernel_rfl) (by kernel_rfl) (Aat (Aan (m:=3) Tryz.underlying95 AbE rfl rfl rfl (by first | rfl | omega) (by omega))) ?_;refine Di 9 (t:=Ul) (k:=Dn 5 (k:=?_));refine Aal (Agv _ 30 (.inr (.inr rfl))) rfl rfl rfl ?_;refine Aa1 10 rfl rfl rfl (by kernel_rfl) (by kernel_rfl) (Aat (AeY (vs:=[_,_,_,_,_]) Tryz.underlying95 AbE rfl rfl rfl Aoj rfl rfl)) ?_;refine AiQ 11 (by kernel_rfl) rfl (by kernel_rfl) (by kernel_rfl) ?_;refine Na (k:=Yb (Ya (Zr (k:=Qv (k:=Wn ?_)))));refine Aa5 ⟨q+1,by omega⟩ (by dsimp only;omega) ⟨rfl,rfl,rfl,rfl,rfl,trivial⟩ ?_;dsimp only;rw[hs2];exact Aac (AaH (by rfl) (by rfl)) Aa0
    ·
     refine Zb (k:=Qc (k:=Qv (k:=Vv (k:=Wq (Zi (t:=fun h95=>?_) (f:=fun h95=>?_))))))
     ·
      refine Zr (k:=?_);refine Aa6 (Aan (m:=1) Tryz.underlying95 AbE rfl rfl rfl (by first | rfl | omega) (by omega)) rfl ?_;refine Zd (k:=?_);refine Aa6 (Aan (m:=2) Tryz.underlying95 AbE rfl rfl rfl (by first | rfl | omega) (by omega)) rfl ?_;refine Zd (k:=?_);refine Aa6 (AcQ rfl rfl) rfl ?_;refine Aa6 (Aan (m:=3) Tryz.underlying95 AbE rfl rfl rfl (by first | rfl | omega) (by omega)) rfl ?_;refine Zd (k:=?_);refine Aa6 (AcQ rfl rfl) rfl ?_;refine Qv (k:=Wn (Yb ?_));exact Agh
     ·
      refine Qc (k:=Qv (k:=Vv (k:=Wq (Zi (t:=fun h106=>?_) (f:=fun h106=>?_)))))
      ·
       refine Zr (k:=?_);refine Aa6 (Aan (m:=1) Tryz.underlying95 AbE rfl rfl rfl (by first | rfl | omega) (by omega)) rfl ?_;refine Zd (k:=?_);refine Aa6 (Aan (m:=2) Tryz.underlying95 AbE rfl rfl rfl (by first | rfl | omega) (by omega)) rfl ?_;refine Zd (k:=?_);refine Aa6 (Adu rfl rfl) rfl ?_;refine Aa6 (Aan (m:=1) Tryz.underlying95 AbE rfl rfl rfl (by first | rfl | omega) (by omega)) rfl ?_;refine Zd (k:=?_);refine Aa6 (Aan (m:=3) Tryz.underlying95 AbE rfl rfl rfl (by first | rfl | omega) (by omega)) rfl ?_;refine Zd (k:=?_);refine Aa6 (Adu rfl rfl) rfl ?_;refine Aa6 (AcP rfl rfl) rfl ?_;refine Aa6 (Aan (m:=2) Tryz.underlying95 AbE rfl rfl rfl (by first | rfl | omega) (by omega)) rfl ?_;refine Zd (k:=?_);refine Aa6 (Aan (m:=3) Tryz.underlying95 AbE rfl rfl rfl (by first | rfl | omega) (by omega)) rfl ?_;refine Zd (k:=?_);refine Aa6 (Adu rfl rfl) rfl ?_;refine Aa6 (AcP rfl rfl) rfl ?_;refine Qv (k:=Wn (Yb ?_));exact Agh
      ·
       refine Qc (k:=Qv (k:=Vv (k:=Wq (Zi (t:=fun h126=>?_) (f:=fun h126=>?_)))))
       ·
        refine Zr (k:=?_);refine Aa6 (Aan (m:=1) Tryz.underlying95 AbE rfl rfl rfl (by first | rfl | omega) (by omega)) rfl ?_;refine Zd (k:=?_);refine Aa6 (Aan (m:=2) Tryz.underlying95 AbE rfl rfl rfl (by first | rfl | omega) (by omega)) rfl ?_;refine Zd (k:=?_);refine Aa6 (AcQ rfl rfl) rfl ?_;refine Aa6 (Aan (m:=3) Tryz.underlying95 AbE rfl rfl rfl (by first | rfl | omega) (by omega)) rfl ?_;refine Zd (k:=?_);refine Aa6 (AcQ rfl rfl) rfl ?_;refine Qv (k:=Wn (Yb ?_));exact Agh
       ·
        refine Zk (k:=Yb ?_);exact Agh
   ·
    refine Ze (k:=Xa (Xi (Xb (Ya (Za (k:=Za (k:=?_)))))));have hq80:q=80:=by omega
    subst hq80;obtain⟨s,hs⟩:∃s,s=Acq ws h 80:=⟨_,rfl⟩
    dsimp only at htk;rw[←hs] at htk ⊢;have hh5:h.list.length=5:=rfl;have hs5:s.list.length=5:=rfl;refine Zr (k:=Vv (k:=Wq (Zb (k:=?_))));refine Aak (fun (i:{ m:Nat // m≤5 })=>[(2,.pointer (some ⟨b2,0,none⟩)),(4,.pointer (some ⟨b4,0,none⟩)),(8,.pointer (some ⟨b8,0,none⟩)),(163,vI i.1)]) (fun (i:{ m:Nat // m≤5 })=>[Ce b2 95 ((An1 h.list s.list i.1).map vW),Ce b8 95 (s.list.map vW),Ce b4 95 ((List.replicate 5 (0:UInt32)).map vW),B]) (fun (i:{ m:Nat // m≤5 })=>5-i.1) rfl (⟨0,Nat.zero_le _⟩) ?_ ?_ (fun i=>?_)
    · exact⟨rfl,rfl,rfl,rfl,trivial⟩
    ·
     exact Aac (AaH (by rfl) (by rfl)) Aa0
    obtain⟨m,hm⟩:=i;dsimp only;have hal:=Aqv (h:=h.list) (s:=s.list) (i:=m) rfl hm;try dsimp only
    refine Qc (k:=Vv (k:=Wq (Za (k:=Zi (t:=fun h164=>?_) (f:=fun h164=>?_)))))
    ·
     refine Zk (k:=Ya (Za (k:=Zb (k:=Qc (k:=Qv (k:=Wq (Dw [Ce b8 95 (s.list.map vW)] (k:=?_))))))));refine Dv 0 (k:=Dv 1 (k:=?_));refine Aa1 2 rfl rfl rfl (by kernel_rfl) (by kernel_rfl) (Aat (Aan Tryz.underlying95 AbE rfl rfl rfl (by first | rfl | omega) (by omega))) ?_;refine Dv 4 (k:=?_);refine Aa1 5 rfl rfl rfl (by kernel_rfl) (by kernel_rfl) (Aat (Aan Tryz.underlying95 AbE rfl rfl rfl (by first | rfl | omega) (by omega))) ?_;refine Aa1 6 rfl rfl rfl (by kernel_rfl) (by kernel_rfl) (Ads Tryz.underlying94 rfl rfl (Acp (m:=m) (by omega))) ?_;refine Dn 3 (k:=?_);refine Acs Tryz.underlying94 rfl rfl ((Acp (m:=m) (by omega)).trans (by rw[Aqw (hh5.trans hs5.symm) (by omega)])) rfl ?_;refine Aa1 7 rfl rfl rfl (by kernel_rfl) (by kernel_rfl) (Aat (Ael rfl rfl)) ?_;refine Aa1 8 rfl rfl rfl (by kernel_rfl) (by kernel_rfl) (Aat (Aan Tryz.underlying95 AbE rfl rfl rfl (by first | rfl | omega) (by omega))) ?_;refine Dn 9 (k:=No (k:=Dd (k:=Yb (Ya (Zr (k:=Qv (k:=Wn ?_)))))));refine Aa5 ⟨m+1,by omega⟩ (by dsimp only;omega) ⟨rfl,rfl,rfl,rfl,trivial⟩ ?_;dsimp only;rw[←Aqu (hh5.trans hs5.symm) (by omega)];exact Aac (AaH (by rfl) (by rw[List.map_set])) Aa0
    ·
     refine Ze (k:=Xa (Xi (Xb (Ya (Za (k:=?_))))));have hm5:m=5:=by omega
     subst hm5;have hfin:An1 h.list s.list 5=(Aig h b).list:=by rw[htk];rfl
     rw[hfin];generalize Aig h b=tk;refine Zr (k:=Zm [_,_,_,_,_] (k:=Zp (k:=Wq (Zt (k:=?_)))));refine Aa2 () (vs:=[_]) (Cs:=[Ce b4 95 (tk.list.map vW)]) rfl (.cell (l:=tk.list.map vW) (us:=tk.list.map vW) rfl (Aax (T:=95)) Tryz.underlying95 rfl Aoj (Nat.le_refl 5) rfl .nil) rfl trivial ?_;exact(AaH (b:=b4) (l:=tk.list.map vW) (T:=95) (by rfl) (by rfl)).trans Aa0
end
section
section
variable {P:Program}
theorem AmC {w:World} {b off:Nat} {T:TypeId} {l:List Value} {v:Value} {fz:Nat×Nat} (hb:w.heap[b]?=some (.cells l.toArray T fz)) (hz:l.length≤fz.1) (h1:Aay v=true) (ho:off<l.length) :
    (store ⟨b,off,none⟩ v).run P w=.ok () (w.setCell ⟨b,off,none⟩ v):=by
 have hc:w.cell? ⟨b,off,none⟩=some l[off]:=by simp[World.cell?,hb,ho]
 obtain⟨lo,hi⟩:=fz;dsimp only at hz;have hf:w.frozen? ⟨b,off,none⟩=false:=by
  simp[World.frozen?,hb];omega
 cases v<;>simp_all [store,Sem.run,Aay]
theorem Apw {w:World} {b off:Nat} {T:TypeId} {l:List Value} {v:Value} {fz:Nat×Nat} (hb:w.heap[b]?=some (.cells l.toArray T fz)) :
    (w.setCell ⟨b,off,none⟩ v).heap[b]?=some (.cells (l.set off v).toArray T fz):=by
 simp[World.setCell,Array.getElem?_modify,hb]
theorem AiE {b T:Nat} {fz:Nat×Nat}:∀(vs:List Value) (w:World) (l:List Value) (off i:Nat),w.heap[b]?=some (.cells l.toArray T fz)→l.length≤fz.1→vs.all Aay=true→off+i+vs.length≤l.length →
    ∃w',(storeCells ⟨b,off,none⟩ vs i).run P w=.ok () w'∧w'.heap[b]?=some (.cells (AbL l (off+i) vs).toArray T fz)∧(∀j,j≠b→w'.heap[j]?=w.heap[j]?)∧Env w w':=by
 intro vs
 induction vs with
 | nil=>intro w l off i hb _ _ _;exact⟨w,by simp[storeCells],hb,fun _ _=>rfl,Env.refl w⟩
 | cons v vs ih =>
   intro w l off i hb hz h1 hl;simp only[List.all_cons,Bool.and_eq_true] at h1;simp only[List.length_cons] at hl;have hst:=AmC (P:=P) (off:=off+i) hb hz h1.1 (by omega);obtain⟨w',hr,hb',ho',he'⟩:=ih (w.setCell ⟨b,off+i,none⟩ v) (l.set (off+i) v) off (i+1) (Apw hb) (by simpa using hz) h1.2 (by simp;omega);refine⟨w',?_,hb',fun j hj=>(ho' j hj).trans (Aek hj),(AfI _ _ _).trans he'⟩;simp only[storeCells,Sem.run_bind,Abz,hst,Result.andThen_ok];exact hr
end
def ArA (v:Value) (n:Nat) (xs:List Value) (e:TypeId) (M:Kn) (h:Res):Prop :=
 ∃g cap cur fz,v=.slice (some ⟨g,0,none⟩) n cap∧n≤cap∧cap≤maxLen∧List.length cur=cap∧xs.length=n∧cur.take n=xs∧(fz=(0,0)∨cap≤fz.1)∧h=Res.one g (.cells cur.toArray e fz)
def AhF (e:TypeId) (v:Value) (n:Nat) (xs:List Value):HP:=⟨ArA v n xs e,fun _ e=>e⟩
section
variable {r:Option Nat} {P:Program} {n:Nat} {ops:Array Oper} {os:List Oper} {L:Loc} {Hs:List HP} {Q:Out} {ty:TypeId} {d:Nat} {pos:String} {after:Array Edge}
theorem Axh {src dt e:TypeId} {x:Operand} {s:Bs} (hs:P.underlying src=some .string) (ht:P.underlying dt=some (.slice e)) (he:P.underlying e=some (.int .u8)) (hx:ev L x=some (vS s)) (hl:s.length≤maxLen) (hd:Nat.blt d n=true)
    (K:∀b cap,wo r P n ops os ((d,.slice (some ⟨b,0,none⟩) s.length cap)::L) (AhF e (.slice (some ⟨b,0,none⟩) s.length cap) s.length (vUs s)::Hs) Q):wo r P n ops (⟨some d,.convert src dt x,ty,pos,after,none⟩::os) L Hs Q:=by
 intro a M m st w hf dj t;have hsz:(⟨s.toArray⟩:ByteArray).size=s.length:=rfl;have hge:=grownCap_ge w s.length 0 e;have hcm:grownCap w s.length 0 e≤maxLen:=grownCap_le_maxLen w s.length 0 e hl;have hrow:bytesRow ⟨s.toArray⟩ (grownCap w s.length 0 e)=(vUs s++List.replicate (grownCap w s.length 0 e-s.length) (vU 0)).toArray:=by
  apply Array.ext';simp[bytesRow,vUs,hsz]
 have hrl:(vUs s++List.replicate (grownCap w s.length 0 e-s.length) (vU 0)).length=grownCap w s.length 0 e:=by simp[vUs];omega
 have hrun:(execOp a.eval ⟨some d,.convert src dt x,ty,pos,after,none⟩).run P w=.ok (.value (.slice (some ⟨w.heap.size,0,none⟩) s.length (grownCap w s.length 0 e))) (w.drew.alloc (.cells (vUs s++List.replicate (grownCap w s.length 0 e-s.length) (vU 0)).toArray e (grownCap w s.length 0 e,grownCap w s.length 0 e+1))):=by
  have h1:=run_bytes_of_string (P:=P) w src dt e ⟨s.toArray⟩ hs ht he;rw[hsz,hrow] at h1;simp only[List.size_toArray,hrl] at h1;simp only[execOp,st.1.ev hx,Sem.run_bind];rw[show (vS s)=Value.string ⟨s.toArray⟩ from rfl,h1];rfl
 simp only[wpL,Region.wanted,if_true];rw[Oper.semAt_eq _ _ _ (by intro c;simp),hrun];generalize hcap:grownCap w s.length 0 e=cap at *;generalize hcells:vUs s++List.replicate (cap-s.length) (vU 0)=cur at *;have t2:=t.drew.alloc (.cells cur.toArray e (cap,cap+1));obtain⟨f1,f2⟩:=Abd t.drew;obtain⟨f3,f4⟩:=Res.add_none.1 f2;rw[←Res.add_assoc] at t2;refine K w.heap.size cap _ M ((Res.one w.heap.size (.cells cur.toArray e (cap,cap+1))).add m) ⟨st.1.put hd,?_⟩ _ hf (Res.dj_add_left.2 ⟨AbJ f4,dj⟩) t2;obtain⟨g1,g2,dg,e1,y,s2⟩:=st.2;subst e1;obtain⟨f5,f6⟩:=Res.add_none.1 f3;have hvl:(vUs s).length=s.length:=by simp[vUs]
 have htk:cur.take s.length=vUs s:=by rw[←hcells];exact List.take_left' hvl
 replace f5:g1 w.heap.size=none:=f5;replace f6:g2 w.heap.size=none:=f6;exact⟨g1,(Res.one w.heap.size _).add g2,Res.dj_add_right.2 ⟨Res.dj_comm (AbJ f5),dg⟩,by rw[←Res.add_assoc,Res.add_comm (AbJ f5),Res.add_assoc],y,
  Res.one w.heap.size _,g2,AbJ f6,rfl,⟨w.heap.size,cap,cur,(cap,cap+1),rfl,hge,hcm,hrl,by simp[vUs],htk,.inr (Nat.le_refl _),rfl⟩,s2⟩
end
end
section
theorem AkQ {P:Program} {t ty e:TypeId} {i:TypeInfo} {z:Value} (ht:P.underlying t=some (.slice e)) (hi:P.info? e=some i) (hz:i.zero=some z) (hzs:z.cells.size=i.size) (hsz:i.size=1)
    {v:Value} {k:Nat} {xs:List Value} {w:World} {M:Kn} {h hf:Res} (dj:h.dj hf) (s:Sat w M (h.add hf)) (hr:ArA v k xs e M h)
    {a:Addr} {m c:Nat} {news:List Value} (hl:news.length=m) (hnews:∀j u,news[j]?=some u→w.cell? (a.add j)=some u) (h1:∀u∈news,Aay u=true)
    (hbytes:(k+m) * i.bytes≤140737488355328) (h63:k+m≤maxLen) :
    ∃v' w' h',(Builtin.append_ #[t,t] ty #[v,.slice (some a) m c]).run P w=.ok v' w'∧h'.dj hf∧Sat w' M (h'.add hf)∧ArA v' (k+m) (xs++news) e M h':=by
 have h1':∀u∈news,u.oneCell'=true:=fun u hu=>oneCell_iff.1 (h1 u hu);have hsmall:k+m≤9223372036854775807:=by simp only[maxLen] at h63;omega
 have hl1:news.length=m * i.size:=by rw[hsz,Nat.mul_one];exact hl
 obtain⟨g,cap,cur,fz,rfl,hkc,hcm,hcl,hxl,htake,hfz,rfl⟩:=hr;have hg:w.heap[g]?=some (.cells cur.toArray e fz):=s.ow _ _ (by simp[Res.add,Res.one]);by_cases hroom:k+m≤cap
 · have hst:∃w',(storeCells ⟨g,k,none⟩ news 0).run P w=.ok () w'∧w'.heap[g]?=some (.cells (AbL cur k news).toArray e fz)∧(∀j,j≠g→w'.heap[j]?=w.heap[j]?)∧Env w w':=by
     rcases hfz with rfl | hfz
     · have:=Acc (P:=P) (b:=g) (T:=e) news w cur k 0 hg (List.all_eq_true.2 h1) (by omega)
       simpa using this
     · have:=AiE (P:=P) (b:=g) (T:=e) news w cur k 0 hg (by omega) (List.all_eq_true.2 h1) (by omega)
       simpa using this
   obtain⟨w',hr,hb',ho',he'⟩:=hst;have hfc:=run_firstCells_some (P:=P) w i.size m a m c news hl1 hnews;rw[hsz] at hfc;refine⟨.slice (some ⟨g,0,none⟩) (k+m) cap,w',Res.one g (.cells (AbL cur k news).toArray e fz),?_,AaE dj,Sat.setBlk dj s hb' ho' he',⟨g,cap,AbL cur k news,fz,rfl,hroom,hcm,by rw[AgE];exact hcl,by simp[hxl,hl],?_,hfz,rfl⟩⟩
   · simp[Builtin.append_,run_underlying ht,sizeOf,typeInfo,hi,Builtin.lenOf,hroom,hfc,Addr.add_lit,hsz,hr]
   · have hcur:cur=xs++((cur.drop k).take m++cur.drop (k+m)):=by
       rw[←htake,←List.drop_drop,List.take_append_drop,List.take_append_drop]
     have hm:=AfW news xs ((cur.drop k).take m) (cur.drop (k+m)) (by rw[List.length_take,List.length_drop];omega);rw[←hcur,hxl] at hm;rw[hm,←List.append_assoc];exact List.take_left' (by simp[hxl,hl])
 · have holds:∀j u,xs[j]?=some u→w.cell? ((⟨g,0,none⟩:Addr).add j)=some u:=by
     intro j u hj;have hlt:=(List.getElem?_eq_some_iff.1 hj).1;rw[Abz,Nat.zero_add];simp only[World.cell?,hg];rw[←htake,List.getElem?_take_of_lt (by omega)] at hj;simpa using hj
   have hr:=run_append_grow (P:=P) w t ty e i z ht hi hz ⟨g,0,none⟩ k cap xs (by rw[hsz,Nat.mul_one];exact hxl) holds a m c news hl1 hnews (by omega) (by omega) (growslice_fits (by omega) hbytes);have hge:=grownCap_ge w (k+m) cap e;have hcm2:grownCap w (k+m) cap e≤maxLen:=grownCap_le_maxLen w (k+m) cap e h63;have s2:=s.drew.alloc (.cells (xs.toArray++news.toArray++Builtin.zeroCells z.cells (grownCap w (k+m) cap e-(k+m))) e);obtain⟨f1,f2⟩:=Abd s.drew;obtain⟨f3,f4⟩:=Res.add_none.1 f2;refine⟨_,_,Res.one w.heap.size (.cells (xs.toArray++news.toArray++Builtin.zeroCells z.cells (grownCap w (k+m) cap e-(k+m))) e),hr,AbJ f4,s2.le ?_,⟨w.heap.size,_,xs++news++(Builtin.zeroCells z.cells (grownCap w (k+m) cap e-(k+m))).toList,(0,0),rfl,hge,hcm2,?_,?_,?_,.inl rfl,?_⟩⟩
   · intro b o e'
     simp only[Res.add] at e' ⊢;show (match Res.one w.heap.size _ b with | some o=>some o | none=>_)=_
     cases eb:Res.one w.heap.size (Obj.cells (xs.toArray++news.toArray++Builtin.zeroCells z.cells (grownCap w (k+m) cap e-(k+m))) e) b with
     | some u=>rw[eb] at e';simpa using e'
     | none =>
       rw[eb] at e';rcases dj b with x | x
       · simpa [x] using e'
       · have e2:hf b=some o:=e'
         rw[x] at e2;cases e2
   · simp only[List.length_append,Array.length_toList,size_zeroCells,hzs,hxl,hl,hsz];omega
   · simp[hxl,hl]
   · have:(xs++news).length=k+m:=by simp[hxl,hl]
     exact List.take_left' this
   · congr 2
     apply Array.ext'
     simp
section
variable {r:Option Nat} {P:Program} {n:Nat} {ops:Array Oper} {os:List Oper} {A:List HP} {L:Loc} {Hs:List HP} {Q:Out} {ty:TypeId} {d:Nat} {pos:String} {after:Array Edge}
theorem ApZ {dst:Option Tmp} {t e:TypeId} {x y:Operand} {i:TypeInfo} {z:Value} (ht:P.underlying t=some (.slice e)) (hi:P.info? e=some i) (hz:i.zero=some z) (hzs:Nat.beq z.cells.size i.size=true) (hsz:i.size=1) {bytes:Nat} (hby:i.bytes=bytes)
    {v:Value} {k:Nat} {xs:List Value} {b off m c:Nat} {l news:List Value} {B:HP} (hx:ev L x=some v) (hy:ev L y=some (.slice (some ⟨b,off,none⟩) m c)) (sh:AhE B b l)
    (hl:news.length=m) (hnews:(l.drop off).take m=news) (h1:news.all Aay=true)
    (hbytes:(k+m) * bytes≤140737488355328) (h63:k+m≤maxLen) :
    OpT r P n ⟨dst,.call ⟨.builtin .append,#[x,y],#[t,t]⟩,ty,pos,after,none⟩ A L [AhF e v k xs,B] (fun v'=>v') (fun v'=>∃a c,v'=.slice a (k+m) c) (fun v'=>[AhF e v' (k+m) (xs++news),B]):=by
 subst hby;intro a f w M h hA hf dj dj' s sA t';obtain⟨g1,g2,dg,e1,hrow,s2⟩:=s;obtain⟨g3,g4,dg2,e2,hB,_⟩:=s2;subst e2;subst e1;obtain⟨d1,d2⟩:=Res.dj_add_right.1 dg;obtain⟨d3,d4⟩:=Res.dj_add_left.1 dj;obtain⟨d5,d6⟩:=Res.dj_add_left.1 dj';obtain⟨d7,d8⟩:=Res.dj_add_left.1 d5;have eq:((g1.add (g3.add g4)).add hA).add hf=g1.add (((g3.add g4).add hA).add hf):=by simp only[Res.add_assoc]
 rw[eq] at t';have hcell:∀j u,news[j]?=some u→w.cell? ((⟨b,off,none⟩:Addr).add j)=some u:=by
  intro j u hj;have hle:g3.le (((g3.add g4).add hA).add hf):=fun i o e=>by simp[Res.add,e]
  have t2:Sat w M ((((g3.add g4).add hA).add hf).add Res.emp):=by
   rw[Res.add_emp];exact t'.le (Res.le_add_right (Res.dj_add_right.2 ⟨Res.dj_add_right.2 ⟨dg,d3⟩,d7⟩))
  rw[Abz,AcG sh t2 hle hB (off+j),←Amf];have hlt:=(List.getElem?_eq_some_iff.1 hj).1;rw[←hnews,List.getElem?_take_of_lt (by omega)] at hj;exact hj
 obtain⟨v',w',h',hr,djn,sn,rn⟩:=AkQ (P:=P) ht hi hz (Nat.eq_of_beq_eq_true hzs) hsz (hf:=((g3.add g4).add hA).add hf) (Res.dj_add_right.2 ⟨Res.dj_add_right.2 ⟨dg,d3⟩,d7⟩) t' hrow hl hcell (fun u hu=>List.all_eq_true.1 h1 u hu) hbytes h63 (ty:=ty) (c:=c);have hrun:(execOp a.eval ⟨dst,.call ⟨.builtin .append,#[x,y],#[t,t]⟩,ty,pos,after,none⟩).run P w=.ok (.value v') w':=by
  simp[execOp,resolve,f.ev hx,f.ev hy,invoke,builtin,hr]
 rw[hrun];obtain⟨y1,y2⟩:=Res.dj_add_right.1 djn;obtain⟨y3,y4⟩:=Res.dj_add_right.1 y1;have hsl:∃a c,v'=.slice a (k+m) c:=by obtain⟨g,cap,cur,fz,h,_⟩:=rn;exact⟨_,_,h⟩
 refine⟨v',M,h'.add (g3.add g4),rfl,hsl,Kn.le_refl _,Res.dj_add_left.2 ⟨y4,d4⟩,Res.dj_add_left.2 ⟨Res.dj_add_left.2 ⟨y2,d8⟩,d6⟩,?_,h',g3.add g4,y3,rfl,rn,g3,g4,dg2,rfl,hB,trivial⟩;have eq2:((h'.add (g3.add g4)).add hA).add hf=h'.add (((g3.add g4).add hA).add hf):=by simp only[Res.add_assoc]
 rw[eq2];exact sn
end
end
section
set_option maxRecDepth 100000
class AjD (v:Value) (e k:outParam Nat) (xs:outParam (List Value)) (Hs:List HP) (Rs:outParam (List HP)):Prop where
 get:Pick (AhF e v k xs) Hs Rs
instance (priority:=1000) {v:Value} {e k:Nat} {xs:List Value} {r:List HP}:AjD v e k xs (AhF e v k xs::r) r:=⟨.here⟩
instance (priority:=100) {v:Value} {e k:Nat} {xs:List Value} {B:HP} {r s:List HP} [h:AjD v e k xs r s]:AjD v e k xs (B::r) (B::s):=⟨.there h.get⟩
instance (priority:=900) {v:Value} {e k:Nat} {xs:List Value} {B B' C:List HP} [h:AjD v e k xs B B']:AjD v e k xs (B++C) (B'++C):=⟨AeZ h.get⟩
instance (priority:=800) {v:Value} {e k:Nat} {xs:List Value} {B C C':List HP} [h:AjD v e k xs C C']:AjD v e k xs (B++C) (B++C'):=⟨Afb h.get⟩
theorem Asq {e k n' c':Nat} {a:Option Addr} {xs:List Value} {M:Kn} {h:Res} (x:(AhF e (.slice a n' c') k xs).at_ M h):∃g,a=some ⟨g,0,none⟩∧n'=k∧k≤c'∧c'≤maxLen∧xs.length=k:=by
 obtain⟨g,cap,cur,fz,h1,h2,h3,h4,h5,h6,h7,h8⟩:=x
 cases h1;exact⟨g,rfl,rfl,h2,h3,h5⟩
theorem AfZ {v:Value} {e k k':Nat} {xs xs':List Value} {Hs Rs:List HP} [q:AjD v e k xs Hs Rs] (hn:k=k') (hx:xs=xs'):Ent Hs (AhF e v k' xs'::Rs):=by
 subst hn;subst hx;exact Picks.ent (.cons q.get .nil)
theorem AqM {e k n c:Nat} {g:Nat} {xs:List Value} (off m:Nat):SlA (AhF e (.slice (some ⟨g,0,none⟩) n c) k xs) (some ⟨g,off,none⟩) ((xs.drop off).take m):=fun x=>by
 obtain⟨g',cap,cur,fz,h1,h2,h3,h4,h5,h6,h7,h8⟩:=x
 cases h1;refine .inr ⟨g,off,cur,e,fz,rfl,.inr (by rw[h8];exact Res.one_same _ _),?_⟩;rw[←h6,List.drop_take,List.take_take];rw[List.length_take,List.length_drop];congr 1;omega
section
variable {r:Option Nat} {P:Program} {n:Nat} {ops:Array Oper} {os:List Oper} {A:List HP} {L:Loc} {Hs:List HP} {Q:Out} {ty:TypeId} {d:Nat} {pos:String} {after:Array Edge}
theorem AjX {t e:TypeId} {x y:Operand} {i:TypeInfo} {z:Value} (ht:P.underlying t=some (.slice e)) (hi:P.info? e=some i) (hz:i.zero=some z) (hzs:Nat.beq z.cells.size i.size=true) (hsz:i.size=1) {bytes:Nat} (hby:i.bytes=bytes)
    {v:Value} {k:Nat} {xs:List Value} {b m c T:Nat} {l:List Value} {R1 R2:List HP} (hx:ev L x=some v) (hy:ev L y=some (.slice (some ⟨b,0,none⟩) m c)) [h1:AjD v e k xs Hs R1] [h2:AhJ b T l R1 R2]
    (hl:l.length=m) (ho:l.all Aay=true) (hbytes:(k+m) * bytes≤140737488355328) (h63:k+m≤maxLen) (hd:Nat.blt d n=true)
    (K:∀a' c',wo r P n ops os ((d,.slice a' (k+m) c')::L) (AhF e (.slice a' (k+m) c') (k+m) (xs++l)::R2) Q):wo r P n ops (⟨some d,.call ⟨.builtin .append,#[x,y],#[t,t]⟩,ty,pos,after,none⟩::os) L Hs Q:=by
 haveI:Ab4 [AhF e v k xs,Ce b T l] Hs R2:=⟨.cons h1.get (.cons h2.get .nil)⟩
 refine AcW (by intro c;simp) (ApZ ht hi hz hzs hsz hby hx hy (Aax (T:=T)) hl (by rw[List.drop_zero,←hl,List.take_length]) ho hbytes h63 (xs:=xs)) (by simpa [Ad2] using hd) (fun v' ⟨a',c',h'⟩=>?_);subst h';refine wo_ent' (Gs:=AhF e (.slice a' (k+m) c') (k+m) (xs++l)::R2) ⟨fun s=>?_⟩ (K a' c');obtain⟨g1,g2,dd,e1,hr,s2⟩:=s;obtain⟨q1,q2,dq,eq,_,s3⟩:=s2;refine⟨g1,g2,dd,e1,hr,?_⟩;rw[eq];exact SL.more dq s3
theorem AmI {x y z:Operand} {a:Option Addr} {len cap m o kk:Nat} {k k':IntKind} {i j:Int} {t e:TypeId} {ti:TypeInfo} {sz:Nat} (ht:P.underlying t=some (.slice e)) (hi:P.info? e=some ti) (hsz:ti.size=sz) (hx:ev L x=some (.slice a len cap)) (hy:ev L y=some (.int k i)) (hz:ev L z=some (.int k' j)) (hm:i=(m:Int)) (ho:j=(o:Int)) (hk:m * sz=kk) (h1:m≤o) (h:o≤cap) (ha:∀b,a=some b→b.spot=none) :
    PV P n L (.slice t x (some y) (some z) none) ty (.slice (Afh a m cap kk) (o-m) (cap-m)):=by
 subst hm;subst ho;subst hsz;subst hk;refine⟨by intro c;simp,fun ac f w _ _ _ _=>?_⟩;have b1:=run_sliceBound (P:=P) w k (m:Int) o .sliceB (by omega) (by omega);have b2:=run_sliceBound (P:=P) w k' (o:Int) cap .sliceAcap (by omega) (by omega);have e1:(if cap=m then a else Option.map (fun x:Addr=>x.add (m * ti.size)) a)=Afh a m cap (m * ti.size):=by
  unfold Afh;by_cases hc:cap=m
  · rw[if_pos hc,if_neg (by omega)]
  · rw [if_neg hc,if_pos (by omega)]
    cases a with
    | none=>rfl
    | some b =>
      obtain⟨b,o,s⟩:=b;have:s=none:=ha _ rfl;subst this;simp[Abr,Abz]
 simp[execOp,f.ev hx,f.ev hy,f.ev hz,Instr.sliceAt,Instr.slice,Instr.sliceBounds,run_underlying ht,b1,b2,sizeOf,typeInfo,program,Sem.run,hi,e1]
end
theorem len8_byte' {s:Bs} (hs:s.length≤1099511627776) {j k:Nat} (hj:j<8) (hk:k=7-j) {m:Nat} (hm:m=8 * j):IntKind.u8.wrap (Int.fdiv (IntKind.u64.wrap (8 * (s.length:Int))) (2 ^ (min m IntKind.u64.bits)))=((Ak7 s k).toNat:Int):=by
 subst hk;subst hm;rw[←AnP hs hj];have w64:∀n:Int,IntKind.u64.wrap n=n % 18446744073709551616:=fun n=>by simp[IntKind.wrap,IntKind.signed,IntKind.bits]
 congr 2;rw[w64,w64,w64];omega
theorem AqC (j:Nat):AcU (j+1)=AcU j++[0]:=by simp[AcU,List.replicate_succ']
def AsM (s:Bs) (k:Nat):Bs:=(List.range k).map (Ak7 s)
theorem AsL (s:Bs) (k:Nat):AsM s (k+1)=AsM s k++[Ak7 s k]:=by simp[AsM,List.range_succ]
theorem Auk (l:List UInt32):(l.flatMap AiN).length=8 * l.length:=by
 induction l with
 | nil=>rfl
 | cons x l ih=>simp[Aqa,ih];omega
theorem Aoe (a b:Bs):vUs (a++b)=vUs a++vUs b:=by simp[vUs]
set_option maxHeartbeats 400000 in
theorem AdH (s:Bs) (hs:s.length≤1099511627776):SpF Tryz.prog 15 [vS s] (vS (AcX s)):=by
 have hpl:=ApV s;obtain⟨Z,hZ⟩:∃Z,Z=64 * Aaz s-9-s.length:=⟨_,rfl⟩
 have hN0:Aaz s=(s.length+8) / 64+1:=rfl;have hpad:AmP s=s++[0x80]++AcU Z++AsM s 8:=by rw[hZ];rfl
 have hsha:AcX s=(Adj (AmP s) h0W (Aaz s)).list.flatMap AiN:=rfl;generalize AmP s=p at hpl hpad hsha;generalize Aaz s=N at *;have hpv:(vUs p).length=64 * N:=by simp[vUs,hpl]
 have hsm:maxLen=9223372036854775807:=rfl;refine Sp.body (n:=72) Tryz.call15 Tryz.func15 rfl rfl rfl ?_;refine Qc (k:=Vv (k:=Wq (Qc (k:=?_))));refine Aa6 (AeY (vs:=[_,_,_,_,_]) Tryz.underlying95 AbE rfl rfl rfl Aoj rfl rfl) rfl ?_;refine Zc [.int .u32 0,.int .u32 0,.int .u32 0,.int .u32 0,.int .u32 0] (k:=fun b3=>Zp (k:=Wq (Qc (k:=Vv (k:=?_)))));refine Axh Tryz.underlying9 Tryz.underlying56 Tryz.underlying5 rfl (by omega) rfl (fun b13 c13=>?_);refine Zv [_] (cs:=[_]) (k:=fun b14=>?_);refine AjX (bytes:=1) Tryz.underlying56 ti5 rfl rfl rfl rfl rfl rfl (by rfl) (by rfl) (by omega) (by omega) rfl (fun a15 c15=>?_);refine Vv (k:=Wq (Za (k:=Zb (k:=?_))));refine Aak (fun (i:{ x:(Option Addr×Nat)×Nat // x.2≤Z })=>[(0,vS s),(2,vS []),(3,.pointer (some ⟨b3,0,none⟩)),(4,.slice i.1.1.1 (s.length+1+i.1.2) i.1.1.2)]) (fun (i:{ x:(Option Addr×Nat)×Nat // x.2≤Z })=>[AhF 5 (.slice i.1.1.1 (s.length+1+i.1.2) i.1.1.2) (s.length+1+i.1.2) (vUs (s++[0x80]++AcU i.1.2)),Ce b3 95 (h0W.list.map vW)]) (fun (i:{ x:(Option Addr×Nat)×Nat // x.2≤Z })=>Z-i.1.2) rfl (⟨((a15,c15),0),Nat.zero_le _⟩) ?_ ?_ (fun i=>?_)
 · exact⟨rfl,rfl,rfl,rfl,trivial⟩
 ·
  exact Aac (AfZ (by dsimp only) (by rw[show AcU 0=[] from rfl,List.append_nil,Aoe];rfl)) (Aac (AaH (by rfl) (by rfl)) Aad)
 obtain⟨⟨⟨a1,c1⟩,j⟩,hj⟩:=i;dsimp only at hj ⊢;try dsimp only
 refine Za (k:=Qc (k:=Qv (k:=Qv (k:=Wq (Zi (t:=fun h19=>?_) (f:=fun h19=>?_))))))
 ·
  have hjZ:j<Z:=by omega
  refine Zk (k:=Ya (Zb (k:=Zr (k:=Vv (k:=Zv [_] (cs:=[_]) (k:=fun b21=>?_))))));refine AjX (bytes:=1) Tryz.underlying56 ti5 rfl rfl rfl rfl rfl rfl (by rfl) (by rfl) (by omega) (by omega) rfl (fun a22 c22=>?_);refine Vv (k:=Wn (Yb ?_));refine Aa5 ⟨((a22,c22),j+1),by dsimp only;omega⟩ (by dsimp only;omega) ⟨rfl,rfl,rfl,rfl,trivial⟩ ?_;dsimp only;exact Aac (AfZ (by omega) (by rw[AqC,←List.append_assoc,Aoe (s++[0x80]++AcU j)];rfl)) Aa0
 ·
  have hjZ:j=Z:=by omega
  subst hjZ;refine Ze (k:=Xa (Xi (Xb (Ya (Za (k:=Qc (k:=Vv (k:=Wq (Zb (k:=?_))))))))));refine Aak (fun (i:{ x:(Option Addr×Nat)×Nat // x.2≤8 })=>[(0,vS s),(2,vS []),(3,.pointer (some ⟨b3,0,none⟩)),(4,.slice i.1.1.1 (s.length+1+j+i.1.2) i.1.1.2),(5,vI (7-(i.1.2:Int)))]) (fun (i:{ x:(Option Addr×Nat)×Nat // x.2≤8 })=>[AhF 5 (.slice i.1.1.1 (s.length+1+j+i.1.2) i.1.1.2) (s.length+1+j+i.1.2) (vUs (s++[0x80]++AcU j++AsM s i.1.2)),Ce b3 95 (h0W.list.map vW)]) (fun (i:{ x:(Option Addr×Nat)×Nat // x.2≤8 })=>8-i.1.2) rfl (⟨((a1,c1),0),Nat.zero_le _⟩) ?_ ?_ (fun i=>?_)
  · exact⟨rfl,rfl,rfl,rfl,rfl,trivial⟩
  ·
   dsimp only;exact Aac (AfZ (by omega) (by rw[show AsM s 0=[] from rfl,List.append_nil])) Aa0
  obtain⟨⟨⟨a2,c2⟩,q⟩,hq⟩:=i;dsimp only at hq ⊢;try dsimp only
  refine Za (k:=Qc (k:=Qv (k:=Wq (Zi (t:=fun h24=>?_) (f:=fun h24=>?_)))))
  ·
   refine Zk (k:=Ya (Za (k:=Zb (k:=?_))));have hq8:q<8:=by omega
   refine Zr (k:=Qv (k:=Qv (k:=?_)));refine Aa6 (AcH rfl Tryz.underlying3 Tryz.underlying96) rfl ?_;refine Qv (k:=?_);refine Aa6 (AcH rfl Tryz.underlying3 Tryz.underlying97) rfl ?_;refine Aa6 (AqY (m:=8 * (7-q)) rfl (show some (Value.int .u64 (IntKind.u64.wrap (8 * (7-(q:Int)))))=some (Value.int .u64 ((8 * (7-q):Nat):Int)) by congr 2;simp[IntKind.wrap,IntKind.signed,IntKind.bits];omega)) rfl ?_;refine Aa6 (AcH rfl Tryz.underlying96 Tryz.underlying5) rfl ?_;rw[len8_byte' hs (j:=7-q) (k:=q) (by omega) (by omega) rfl];refine Zv [_] (cs:=[_]) (k:=fun b37=>?_);refine AjX (bytes:=1) Tryz.underlying56 ti5 rfl rfl rfl rfl rfl rfl (by rfl) (by rfl) (by omega) (by omega) rfl (fun a38 c38=>?_);refine Vv (k:=Wn (Yb (Ya (Zr (k:=Qv (k:=Vv (k:=Wn ?_)))))));refine Aa5 ⟨((a38,c38),q+1),by dsimp only;omega⟩ (by dsimp only;omega) ⟨rfl,rfl,rfl,rfl,AeF (by dsimp only;omega),trivial⟩ ?_;dsimp only;exact Aac (AfZ (by omega) (by rw[AsL,←List.append_assoc,Aoe _ [Ak7 s q]];rfl)) Aa0
  ·
   refine Ze (k:=Xa (Xi (Xb (Ya (Za (k:=Za (k:=?_)))))));have hq8:q=8:=by omega
   subst hq8;rw[←hpad];refine Aca (A:=AhF 5 (.slice a2 (s.length+1+j+8) c2) (s.length+1+j+8) (vUs p)) HasC.get Asq (fun ok=>?_);obtain⟨g,hg,_,hgc,hcm,_⟩:=ok;subst hg;have hlN:s.length+1+j+8=64 * N:=by omega
   rw[hlN] at hgc ⊢;refine Zr (k:=Vv (k:=Wq (Zb (k:=?_))));refine Aak (fun (i:{ j:Nat // j≤N })=>[(0,vS s),(2,vS []),(3,.pointer (some ⟨b3,0,none⟩)),(4,.slice (some ⟨g,0,none⟩) (64 * N) c2),(6,vI (64 * (i.1:Int)))]) (fun (i:{ j:Nat // j≤N })=>[AhF 5 (.slice (some ⟨g,0,none⟩) (64 * N) c2) (64 * N) (vUs p),Ce b3 95 ((Adj p h0W i.1).list.map vW)]) (fun (i:{ j:Nat // j≤N })=>N-i.1) rfl (⟨0,Nat.zero_le _⟩) ?_ ?_ (fun i=>?_)
   · exact⟨rfl,rfl,rfl,rfl,rfl,trivial⟩
   ·
    dsimp only;rw[show Adj p h0W 0=h0W from rfl];exact Aa0
   obtain⟨i,hi⟩:=i;dsimp only;try dsimp only
   refine Za (k:=Qc (k:=Qv (k:=Qv (k:=Wq (Zi (t:=fun h42=>?_) (f:=fun h42=>?_))))))
   ·
    refine Zk (k:=Ya (Za (k:=Zb (k:=?_))));have hiN:i<N:=by omega
    have hvt:vUs ((p.drop (64 * i)).take 64)=((vUs p).drop (64 * i)).take 64:=by simp[vUs,List.map_take,List.map_drop]
    have hfa:Afh (some ⟨g,0,none⟩) (64 * i) c2 (64 * i)=some ⟨g,64 * i,none⟩:=by rw[Afh,if_pos (by omega)];simp[Abr]
    refine Dw [Ce b3 95 ((Adj p h0W i).list.map vW)] (k:=?_);refine Aa1 0 rfl rfl rfl (by kernel_rfl) (by kernel_rfl) (Ah5 (vs:=[_,_,_,_,_]) Tryz.underlying95 rfl Aoj rfl (by exact Nat.le_of_ble_eq_true rfl) (by rfl)) ?_;refine Dv 1 (k:=Dv 2 (k:=Dv 3 (k:=Dv 4 (k:=?_))));refine Aa1 5 rfl rfl rfl (by kernel_rfl) (by kernel_rfl) (Aat (AmI (m:=64 * i) (o:=64 * i+64) (kk:=64 * i) Tryz.underlying56 ti5 rfl rfl rfl rfl (by omega) (by omega) (Nat.mul_one _) (by omega) (by omega) (by intro b e;cases e;rfl))) ?_;refine Dn 6 (k:=?_);rw[hfa,show 64 * i+64-64 * i=64 from by omega];refine AcL (AmF (B:=AhF 5 (.slice (some ⟨g,0,none⟩) (64 * N) c2) (64 * N) (vUs p)) (c2-64 * i) (Adj p h0W i) ((p.drop (64 * i)).take 64) (by rw[List.length_take,List.length_drop];omega) (by rw[hvt];exact AqM (64 * i) 64)) rfl rfl rfl ?_;refine AiQ 7 (by kernel_rfl) rfl (by kernel_rfl) (by kernel_rfl) ?_;refine Ao8 Aoj rfl rfl rfl (by rfl) (by rw[List.length_map,List.length_map];exact Nat.le_refl 5) ?_;refine Yb (Ya (Zr (k:=Qv (k:=Vv (k:=Wn ?_)))));refine Aa5 ⟨i+1,by omega⟩ (by dsimp only;omega) ⟨rfl,rfl,rfl,rfl,AeF (by dsimp only;omega),trivial⟩ ?_;dsimp only;rw[show Adj p h0W (i+1)=Aig (Adj p h0W i) ((p.drop (64 * i)).take 64) from rfl];generalize Aig (Adj p h0W i) ((p.drop (64 * i)).take 64)=tk;exact Aac (AfZ (by rfl) (by rfl)) (Aac (AaH (by rfl) (by rfl)) Aad)
   ·
    refine Ze (k:=Xa (Xi (Xb (Ya (Za (k:=?_))))));have hiN:i=N:=by omega
    subst hiN;obtain⟨hl,hhl⟩:∃hl,hl=(Adj p h0W i).list:=⟨_,rfl⟩
    have hl5:hl.length=5:=by rw[hhl];rfl
    rw[←hhl] at hsha ⊢;refine Zr (k:=Vv (k:=Wq (Za (k:=Qc (k:=?_)))));refine Aox (vs:=hl.map vW) Tryz.underlying95 rfl Aoj rfl (show 0+5≤_ by rw[List.length_map];omega) (show ((hl.map vW).drop 0).take 5=_ by rw[List.drop_zero];exact List.take_of_length_le (by rw[List.length_map];omega)) rfl ?_;refine Vv (k:=Wq (Zb (k:=?_)));refine Aak (fun (i:{ m:Nat // m≤5 })=>[(52,.agg (hl.map vW).toArray),(7,vS ((hl.take i.1).flatMap AiN)),(53,vI i.1)]) (fun (i:{ m:Nat // m≤5 })=>[]) (fun (i:{ m:Nat // m≤5 })=>5-i.1) rfl (⟨0,Nat.zero_le _⟩) ?_ ?_ (fun i=>?_)
    · exact⟨rfl,rfl,rfl,trivial⟩
    ·
     exact Aad
    obtain⟨m,hm⟩:=i;dsimp only;try dsimp only
    refine Qc (k:=Vv (k:=Wq (Za (k:=Zi (t:=fun h54=>?_) (f:=fun h54=>?_)))))
    ·
     refine Zk (k:=Ya (Za (k:=Zb (k:=Qc (k:=?_)))));refine Aa6 (AoE Tryz.underlying95 Tryz.underlying94 AbE rfl rfl rfl rfl rfl (by omega) (Acp (m:=m) (by omega))) rfl ?_;refine Vv (k:=Wq (Za (k:=?_)));obtain⟨x,hx⟩:∃x,x=hl.getD m 0:=⟨_,rfl⟩
     rw[←hx];obtain⟨xs,hxs⟩:∃xs,xs=(hl.take m).flatMap AiN:=⟨_,rfl⟩
     have hxl:xs.length≤40:=by
      rw[hxs,Auk,List.length_take];omega
     rw[←hxs];refine Zr (k:=Vv (k:=Wq (Zb (k:=?_))));refine Aak (fun (i:{ j:Nat // j≤8 })=>[(52,.agg (hl.map vW).toArray),(7,vS (xs++AkY x i.1)),(9,vW x),(10,vI (28-4 * (i.1:Int))),(53,vI m)]) (fun (i:{ j:Nat // j≤8 })=>[]) (fun (i:{ j:Nat // j≤8 })=>8-i.1) rfl (⟨0,Nat.zero_le _⟩) ?_ ?_ (fun i=>?_)
     · exact⟨rfl,by rw[show AkY x (⟨0,Nat.zero_le _⟩:{ j:Nat // j≤8 }).1=[] from rfl,List.append_nil];rfl,rfl,rfl,rfl,trivial⟩
     ·
      exact Aad
     obtain⟨j2,hj2⟩:=i;dsimp only;have hpl2:=Aum x j2;try dsimp only
     refine Za (k:=Qc (k:=Qv (k:=Wq (Zi (t:=fun h57=>?_) (f:=fun h57=>?_)))))
     ·
      refine Zk (k:=Ya (Za (k:=Zb (k:=Zr (k:=Qv (k:=Vv (k:=?_)))))));refine Aa6 (AcH rfl Tryz.underlying3 Tryz.underlying97) rfl ?_;refine Aa6 (Afz (m:=28-4 * j2) rfl rfl (by simp[IntKind.wrap,IntKind.signed,IntKind.bits];omega) (by omega)) rfl ?_;refine Aa6 (Adu (b:=15) rfl rfl) rfl ?_;refine Aa6 (Abt (l:=hexD) (m:=((x >>> UInt32.ofNat (28-4 * j2)) &&& 15).toNat) Tryz.underlying9 rfl rfl rfl (show _<16 from Aw2 _)) rfl ?_;obtain⟨ch,hch⟩:∃ch,ch=hexD.getD ((x >>> UInt32.ofNat (28-4 * j2)) &&& 15).toNat 0:=⟨_,rfl⟩
      rw[←hch];refine Zv [_] (cs:=[_]) (k:=fun b67=>?_);refine Aji (l:=[ch]) Tryz.underlying56 Tryz.underlying9 Tryz.underlying5 rfl (by simp[vUs]) (by simp) rfl ?_;refine Qv (k:=Wn (Yb (Ya (Zr (k:=Qv (k:=Vv (k:=Wn ?_)))))));refine Aa5 ⟨j2+1,by omega⟩ (by dsimp only;omega) ⟨rfl,?_,rfl,AeF (by dsimp only;omega),rfl,trivial⟩ Aad;dsimp only;rw[AnR,←List.append_assoc,←hch];rfl
     ·
      refine Ze (k:=Xa (Xi (Xb (Yb (Ya (Zr (k:=Qv (k:=Wn ?_))))))));have hj8:j2=8:=by omega
      subst hj8;have hxe:(hl.take (m+1)).flatMap AiN=xs++AkY x 8:=by
       have hml:m<hl.length:=by omega
       have e1:hl[m]=x:=by rw[hx];simp[hml]
       rw[List.take_succ_eq_append_getElem hml,List.flatMap_append,hxs,e1,List.flatMap_singleton];rfl
      refine Aa5 ⟨m+1,by omega⟩ (by dsimp only;omega) ⟨rfl,?_,rfl,trivial⟩ Aad;dsimp only;rw[hxe];rfl
    ·
     refine Ze (k:=Xa (Xi (Xb (Ya (Qc (k:=Qv (k:=Wq (Zt (k:=?_)))))))));have hm5:m=5:=by omega
     subst hm5;rw[List.take_of_length_le (by omega),←hsha];exact Aa2 () (vs:=[_]) (Cs:=[]) rfl (.tmp rfl .nil) rfl trivial Aad
end
end Go.Proofs.YtdnoacgopfcpbaaGreat
