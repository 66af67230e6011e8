/- Texts of this proof, put together: SHeads5, KeepOf, SR10l, SBook, PKeep, SKeep, PKeep2, SKeep2. -/
import Derived.Test.YtdnoacgopfcpbaaGreatQ25
set_option linter.unusedVariables false
set_option linter.unusedSimpArgs false
namespace Go.Proofs.YtdnoacgopfcpbaaGreat
section
set_option maxRecDepth 100000
/-- A branch and its check-ins' names, as they lie in memory. -/
abbrev BrN:=Bs×(Option Addr×Nat)×List Bs
def AcH (x:BrN):Bs×List Bs:=(x.1,x.2.2)
abbrev BrM (x:BrN):HP:=SlI x.2.1.1 (x.2.2.map vS)
noncomputable def Agk (H:Ks):List Bs:=(Ab3 H).map (·.1)
noncomputable def Ag7 (H:Ks):List Bs:=Alo (Ae2 ((Agk H).map (brH H)))
noncomputable def Akd (H:Ks) (b:Bs):Bs×List Bs:=(b,(Agk H).filter fun n=>decide (brH H n=b))
noncomputable def brL (H:Ks):List (Bs×List Bs):=(Ag7 H).map (Akd H)
def Av3 (H:Ks) (pre:List BrN) (x:BrN):Prop:=∃r,brL H=pre.map AcH++AcH x::r
def AuJ (H:Ks) (pre:List BrN):Prop:=pre≠[]∧∃r,brL H=pre.map AcH++r
def AvO (H:Ks) (all:List BrN):Prop:=all.map AcH=brL H
theorem Aip {e sz k n' c':Nat} {a:Option Addr} {xs:List Value} {M:Kn} {h:Res} (x:(Row e sz (.slice a n' c') k xs).at_ M h) (hk:k≠0):a≠none:=by
 rcases x with ⟨_,h0,_⟩ | ⟨g,cap,cur,e1,_⟩
 · exact absurd h0 hk
 · cases e1;simp
abbrev BrI (br:Bs→Bs) (bm ba:Nat) (pre:List Bs):HP:=Ex fun s:(Option Addr×Nat)×List Gr=>Al [Pu (GOk br pre s.2),Ce ba 27 [.slice s.1.1 s.2.length s.1.2],Row 9 1 (.slice s.1.1 s.2.length s.1.2) s.2.length ((s.2.map (·.b)).map vS),MapS bm (grK s.2),GRs s.2]
theorem Aua {br:Bs→Bs} {pre:List Bs} {G:List Gr} (h:GOk br pre G) (n:Bs):∃oa on oc,(mlook (grK G) n).getD (.slice none 0 0)=.slice oa on oc∧((oa=none∧on=0∧oc=0∧n∉G.map (·.b))∨∃(i:Nat) (hi:i<G.length),G[i].b=n∧oa=G[i].a∧on=G[i].ns.length∧oc=G[i].c∧oa≠none):=by
 by_cases hm:n∈G.map (·.b)
 · obtain⟨g,hg,rfl⟩:=List.mem_map.1 hm
   obtain⟨i,hi,rfl⟩:=List.getElem_of_mem hg
   refine⟨_,_,_,by rw[AoY h.nd hg];rfl,.inr ⟨i,hi,rfl,rfl,rfl,rfl,(h.ns _ hg).2.2⟩⟩
 · exact⟨none,0,0,by rw[AhV (by rw[AeP];exact hm)];rfl,.inl ⟨rfl,rfl,rfl,hm⟩⟩
theorem AmN {H:Ks} {G:List Gr} (h:GOk (brH H) (Agk H) G):Ae2 (G.map (·.b))=Ag7 H:=by
 refine Ar1 ?_ (AjR _ (Adp _)) fun k=>?_
 · have h1:=Adp (G.map (·.b))
   have h2:(Ae2 (G.map (·.b))).Nodup:=(Ac0 _).nodup_iff.2 h.nd
   exact(List.Pairwise.and h1 h2).imp fun {a b} ⟨x,y⟩=>Std.lt_of_le_of_ne x y
 · rw [(Ac0 _).mem_iff,Ag7,AiJ,(Ac0 _).mem_iff]
   constructor
   · intro hk
     obtain⟨g,hg,rfl⟩:=List.mem_map.1 hk
     obtain⟨h1,h2,_⟩:=h.ns g hg
     obtain⟨n,hn⟩:=List.exists_mem_of_ne_nil _ h2
     rw[h1,List.mem_filter,decide_eq_true_iff] at hn
     rw[←hn.2]
     exact List.mem_map_of_mem hn.1
   · intro hk
     obtain⟨n,hn,rfl⟩:=List.mem_map.1 hk
     exact h.mem n hn
theorem AvN {H:Ks} {G:List Gr} (h:GOk (brH H) (Agk H) G) {b:Bs} (hb:b∈Ag7 H):∃g∈G,g.b=b∧(g.b,g.ns)=Akd H b∧(mlook (grK G) b).getD (.slice none 0 0)=.slice g.a g.ns.length g.c:=by
 rw[←AmN h,(Ac0 _).mem_iff] at hb
 obtain⟨g,hg,rfl⟩:=List.mem_map.1 hb
 refine⟨g,hg,rfl,?_,by rw[AoY h.nd hg];rfl⟩
 rw[Akd,←(h.ns g hg).1]
theorem AiE (m:Option Nat):Sp Tryz.prog 38 [.map m] [] (X:=Nat) (fun b=>.func (.func 84) #[] #[.pointer (some ⟨b,0,none⟩)]) (fun _=>True) (fun b=>[Ce b 31 [.map m]]):=by
 refine Sp.body (n:=4) Tryz.call38 Tryz.func38 rfl rfl rfl ?_
 refine Qc (k:=Zx [_] (k:=fun b1=>Vv (k:=Wq (Qc (k:=Qv (k:=Wq (Zt (k:=?_))))))))
 exact Aa2 b1 (vs:=[_]) (Cs:=[]) rfl (.tmp rfl .nil) rfl trivial Aa0
set_option maxHeartbeats 16000000 in
theorem AiF (c b:Nat) (H:Ks) (hH:TxtK H) (hnd:(H.map (·.1)).Nodup) (hn:H.length≤1000000) :
    Apl Tryz.prog 84 [.pointer (some ⟨c,0,none⟩)] (fun x:BrN=>[vS x.1,.slice x.2.1.1 x.2.2.length x.2.1.2]) (Av3 H) (AuJ H) BrM (MapS b H) [Ce c 31 [.map (some b)]] [Ce c 31 [.map (some b)]] (AvO H) (fun _=>.tuple #[]):=by
 intro y Jy J0 Jx ys hj1 hj2
 refine Sp.body (n:=52) Tryz.call84 Tryz.func84 rfl rfl rfl ?_
 refine wc_ent' (AfC (hj1 []) (Ent.refl _)) ?_
 refine Qc (k:=Zd (k:=?_))
 refine Aar (AfP b H hH (by omega)) rfl rfl rfl (fun x hx=>?_)
 obtain⟨m1,m2,al⟩:=x
 dsimp only at hx ⊢
 have hf:=Aq6 hnd hx
 have hB:∀name,Sp1 Tryz.prog 78 [.agg #[.map (some m1),.map (some m2)],vS name] [MX.MapS MX.pairE m1 (lsK (AeN H)),MapS m2 (ckK al),AdT al] (vS (brH H name)) [MX.MapS MX.pairE m1 (lsK (AeN H)),MapS m2 (ckK al),AdT al]:=fun name=>by
  have:=Aef m1 m2 al (AeN H) name hf.nd (fun x hx=>by have:=hf.pl x hx;omega) (by have:=hf.le;omega)
  rw[show al.map Ab5=Ab3 H from hx] at this
  exact this
 generalize lsK (AeN H)=lk1 at *
 generalize ckK al=lk2 at *
 refine Zc [.map none,.map none] (k:=fun b3=>Zp (k:=Wq (Qc (k:=?_))))
 refine r_mkmap rfl (fun b12=>?_)
 refine Zc [.map none] (k:=fun b4=>Zo (k:=Wq (Qc (k:=Zc [.slice none 0 0] (k:=fun b5=>Wq (Za (k:=Qc (k:=Zd (k:=?_)))))))))
 refine Aar (Acw (some b)) rfl rfl rfl (fun cb _=>?_)
 refine Wq (Zb (k:=?_))
 refine Adq (fun pre=>[BrI (brH H) b12 b5 (pre.map (·.1)),Ce b3 140 [.map (some m1),.map (some m2)],Ce b4 150 [.map (some b12)],MX.MapS MX.pairE m1 lk1,MapS m2 lk2,AdT al,Ce c 31 [.map (some b)],J0 [],MapS b H]) (fun j pre=>[Pu False]) (fun pre=>[BrI (brH H) b12 b5 (pre.map (·.1)),Ce b3 140 [.map (some m1),.map (some m2)],Ce b4 150 [.map (some b12)],MX.MapS MX.pairE m1 lk1,MapS m2 lk2,AdT al,Ce c 31 [.map (some b)],J0 []]) rfl (Acx cb b H hH (by omega)) rfl (fun _=>by rfl) rfl (fun pre=>?_) (fun pre=>?_) ?_ (fun l pre x hok=>?_) (fun all hfin=>?_) (fun j pre hs=>?_)
 · exact Aa0
 · exact Aa0
 · (refine Ae0 ?_;refine Abt ((none,0),[]) (AbP (Ad6 (GOk.nil _) ?_));simp only[List.length_nil,List.map_nil,show grK []=[] from rfl];exact(AaV (e:=9) (sz:=1)).trans (gr_nil.trans Aa0))
 ·
  have hpl:=AoP hok
  have hmp:(pre++[x]).map (fun x:CkN=>x.1)=pre.map (fun x:CkN=>x.1)++[x.1]:=by rw[List.map_append,List.map_cons,List.map_nil]
  have hpn:(pre.map fun x:CkN=>x.1).length=pre.length:=List.length_map ..
  obtain⟨nm,xa,ck⟩:=x
  dsimp only[ckV,AaN] at hmp ⊢
  generalize (pre.map fun x:CkN=>x.1)=pn at hmp hpn ⊢
  refine wc_ent' (AeB (.there .here)) ?_
  refine AbZ fun s=>?_
  obtain⟨⟨sa,sc⟩,G⟩:=s
  refine Adc (Afk fun hG=>?_)
  dsimp only at hG ⊢
  have hGl:G.length≤pn.length:=hG.len
  obtain⟨oa,on,oc,hlk,hoc⟩:=Aua hG (brH H nm)
  refine Zr (k:=Vv (k:=Wg (Zb (k:=Qc (k:=Zm [_,_] (k:=Vv (k:=?_)))))))
  refine Aad (hB nm) rfl rfl rfl ?_
  refine Vv (k:=Wq (Za (k:=Qc (k:=Zd (k:=Vv (k:=?_))))))
  refine r_lookup (v:=.slice oa on oc) Tryz.underlying150 Tryz.underlying9 As7 rfl rfl rfl hlk rfl ?_
  refine Aa5 (Ano Tryz.underlying27 rfl rfl) rfl ?_
  refine Wq (Zi (t:=fun h23=>?_) (f:=fun h23=>?_))
  ·
   obtain⟨rfl,rfl,rfl,hno⟩:=hoc.resolve_right (fun ⟨_,_,_,_,_,_,hne⟩=>hne (Option.isNone_iff_eq_none.1 h23))
   refine wc_ent' (AaV (e:=9) (sz:=1)) ?_
   refine Zr (k:=Zd (k:=Vv (k:=Zv [_] (cs:=[_]) (k:=fun b26=>?_))))
   refine Aam (sz:=1) (bytes:=16) Tryz.underlying27 ti9 rfl rfl rfl rfl rfl rfl rfl (by rfl) (by rfl) (by omega) (by simp only[maxLen];omega) rfl (fun a27 c27=>?_)
   refine Zo (k:=Wq (Dw [Ce b4 150 [.map (some b12)],MapS b12 (grK G)] (k:=?_)))
   refine Di 0 (t:=Ul) (k:=Dv 1 (k:=Di 2 (t:=Ul) (k:=Dv 3 (k:=?_))))
   refine Aa1 4 rfl rfl rfl (by kernel_rfl) (by kernel_rfl) (Ah8 Tryz.underlying150 Tryz.underlying9 As7 rfl rfl rfl hlk) ?_
   refine Dv 5 (k:=Dn 6 (k:=Nl [_] (cs:=[_]) (k:=fun b34=>Dn 7 (k:=?_))))
   refine Ab8 (sz:=1) (bytes:=16) Tryz.underlying27 ti9 rfl rfl rfl rfl rfl rfl rfl (by rfl) (by rfl) (by omega) (by simp only[maxLen];omega) rfl (fun a35 c35=>?_)
   refine Ai1 8 (by kernel_rfl) rfl (by kernel_rfl) (by kernel_rfl) ?_
   refine Ag9 Tryz.underlying150 Tryz.underlying9 rfl rfl rfl ?_
   refine Yb ?_
   first
   | (have hmore:=fun ha=>hG.more hi hbi a35 ha c35
      have hks:=AqH hG.nd hi (g:=⟨brH H nm,a35,c35,G[i].ns++[nm]⟩) hbi
      have hmem:brH H nm∈G.map (·.b):=by rw[←hbi];exact List.mem_map_of_mem (f:=fun g:Gr=>g.b) (List.getElem_mem hi)
      have hkb:(G.set i ⟨brH H nm,a35,c35,G[i].ns++[nm]⟩).map (·.b)=G.map (·.b):=by
       have h1:=congrArg (List.map (·.1)) hks
       rw[Ajm,AeP,AeP,if_pos hmem] at h1
       exact h1.symm
      have hkl:(G.set i ⟨brH H nm,a35,c35,G[i].ns++[nm]⟩).length=G.length:=List.length_set
      have hgv:grV ⟨brH H nm,a35,c35,G[i].ns++[nm]⟩=.slice a35 (G[i].ns.length+1) c35:=by rw[grV,List.length_append];rfl
      have hgr:Adu ⟨brH H nm,a35,c35,G[i].ns++[nm]⟩=Row 9 1 (.slice a35 (G[i].ns.length+1) c35) (G[i].ns.length+1) (G[i].ns.map vS++[vS nm]):=by rw[Adu,List.length_append,List.map_append];rfl
      rw[hgv] at hks
      refine Ah7 (A:=Row 9 1 (.slice a35 (G[i].ns.length+1) c35) (G[i].ns.length+1) (G[i].ns.map vS++[vS nm])) HasC.get (fun x=>Aip x (by omega)) (fun hs35=>?_)
      refine Ab4 ?_
      rw[hmp]
      refine Ent.trans (Aaw (A:=Row 9 1 (.slice a35 (G[i].ns.length+1) c35) (G[i].ns.length+1) (G[i].ns.map vS++[vS nm])) (Aaw (A:=GRs (G.eraseIdx i)) (Ent.refl _))) ?_
      rw[←hgr]
      refine Ent.trans (Auu hi ⟨brH H nm,a35,c35,G[i].ns++[nm]⟩) ?_
      refine Abt ((sa,sc),G.set i ⟨brH H nm,a35,c35,G[i].ns++[nm]⟩) (AbP (Ad6 (hmore hs35) ?_))
      dsimp only
      rw[←hks,hkb,hkl]
      exact Aa0)
   | (have hnew:=fun ha=>hG.new hno a35 ha c35
      have hkn:mput (grK G) (brH H nm) (.slice a35 (0+1) c35)=grK (G++[⟨brH H nm,a35,c35,[nm]⟩]):=AqI (g:=⟨brH H nm,a35,c35,[nm]⟩) hno
      refine Ah7 (A:=Row 9 1 (.slice a35 (0+1) c35) (0+1) ([]++[vS nm])) HasC.get (fun x=>Aip x (by omega)) (fun hs35=>?_)
      refine Ab4 ?_
      rw[hmp]
      refine Ent.trans (Aaw (A:=Row 9 1 (.slice a35 (0+1) c35) (0+1) ([]++[vS nm])) (Aaw (A:=GRs G) (Ent.refl _))) ?_
      refine Ent.trans (At3 (G:=G) ⟨brH H nm,a35,c35,[nm]⟩) ?_
      refine Abt ((a27,c27),G++[⟨brH H nm,a35,c35,[nm]⟩]) (AbP (Ad6 (hnew hs35) ?_))
      dsimp only
      rw[←hkn,List.map_append,List.map_append,List.length_append,List.map_cons,List.map_nil,List.map_cons,List.map_nil,List.length_singleton]
      dsimp only
      exact Aa0)
  ·
   obtain⟨i,hi,hbi,rfl,rfl,rfl,hne⟩:=hoc.resolve_left (fun ⟨e,_⟩=>by rw[e] at h23;cases h23)
   have hnl:G[i].ns.length≤pn.length:=by
    rw[(hG.ns _ (List.getElem_mem hi)).1]
    exact List.length_filter_le _ _
   refine Ado (GRs G) ?_
   refine wc_ent' (Avf hi) ?_
   unfold Adu
   refine Zk (k:=Ya (Dw [Ce b4 150 [.map (some b12)],MapS b12 (grK G)] (k:=?_)))
   refine Di 0 (t:=Ul) (k:=Dv 1 (k:=Di 2 (t:=Ul) (k:=Dv 3 (k:=?_))))
   refine Aa1 4 rfl rfl rfl (by kernel_rfl) (by kernel_rfl) (Ah8 Tryz.underlying150 Tryz.underlying9 As7 rfl rfl rfl hlk) ?_
   refine Dv 5 (k:=Dn 6 (k:=Nl [_] (cs:=[_]) (k:=fun b34=>Dn 7 (k:=?_))))
   refine Ab8 (sz:=1) (bytes:=16) Tryz.underlying27 ti9 rfl rfl rfl rfl rfl rfl rfl (by rfl) (by rfl) (by omega) (by simp only[maxLen];omega) rfl (fun a35 c35=>?_)
   refine Ai1 8 (by kernel_rfl) rfl (by kernel_rfl) (by kernel_rfl) ?_
   refine Ag9 Tryz.underlying150 Tryz.underlying9 rfl rfl rfl ?_
   refine Yb ?_
   first
   | (have hmore:=fun ha=>hG.more hi hbi a35 ha c35
      have hks:=AqH hG.nd hi (g:=⟨brH H nm,a35,c35,G[i].ns++[nm]⟩) hbi
      have hmem:brH H nm∈G.map (·.b):=by rw[←hbi];exact List.mem_map_of_mem (f:=fun g:Gr=>g.b) (List.getElem_mem hi)
      have hkb:(G.set i ⟨brH H nm,a35,c35,G[i].ns++[nm]⟩).map (·.b)=G.map (·.b):=by
       have h1:=congrArg (List.map (·.1)) hks
       rw[Ajm,AeP,AeP,if_pos hmem] at h1
       exact h1.symm
      have hkl:(G.set i ⟨brH H nm,a35,c35,G[i].ns++[nm]⟩).length=G.length:=List.length_set
      have hgv:grV ⟨brH H nm,a35,c35,G[i].ns++[nm]⟩=.slice a35 (G[i].ns.length+1) c35:=by rw[grV,List.length_append];rfl
      have hgr:Adu ⟨brH H nm,a35,c35,G[i].ns++[nm]⟩=Row 9 1 (.slice a35 (G[i].ns.length+1) c35) (G[i].ns.length+1) (G[i].ns.map vS++[vS nm]):=by rw[Adu,List.length_append,List.map_append];rfl
      rw[hgv] at hks
      refine Ah7 (A:=Row 9 1 (.slice a35 (G[i].ns.length+1) c35) (G[i].ns.length+1) (G[i].ns.map vS++[vS nm])) HasC.get (fun x=>Aip x (by omega)) (fun hs35=>?_)
      refine Ab4 ?_
      rw[hmp]
      refine Ent.trans (Aaw (A:=Row 9 1 (.slice a35 (G[i].ns.length+1) c35) (G[i].ns.length+1) (G[i].ns.map vS++[vS nm])) (Aaw (A:=GRs (G.eraseIdx i)) (Ent.refl _))) ?_
      rw[←hgr]
      refine Ent.trans (Auu hi ⟨brH H nm,a35,c35,G[i].ns++[nm]⟩) ?_
      refine Abt ((sa,sc),G.set i ⟨brH H nm,a35,c35,G[i].ns++[nm]⟩) (AbP (Ad6 (hmore hs35) ?_))
      dsimp only
      rw[←hks,hkb,hkl]
      exact Aa0)
   | (have hnew:=fun ha=>hG.new hno a35 ha c35
      have hkn:mput (grK G) (brH H nm) (.slice a35 (0+1) c35)=grK (G++[⟨brH H nm,a35,c35,[nm]⟩]):=AqI (g:=⟨brH H nm,a35,c35,[nm]⟩) hno
      refine Ah7 (A:=Row 9 1 (.slice a35 (0+1) c35) (0+1) ([]++[vS nm])) HasC.get (fun x=>Aip x (by omega)) (fun hs35=>?_)
      refine Ab4 ?_
      rw[hmp]
      refine Ent.trans (Aaw (A:=Row 9 1 (.slice a35 (0+1) c35) (0+1) ([]++[vS nm])) (Aaw (A:=GRs G) (Ent.refl _))) ?_
      refine Ent.trans (At3 (G:=G) ⟨brH H nm,a35,c35,[nm]⟩) ?_
      refine Abt ((a27,c27),G++[⟨brH H nm,a35,c35,[nm]⟩]) (AbP (Ad6 (hnew hs35) ?_))
      dsimp only
      rw[←hkn,List.map_append,List.map_append,List.length_append,List.map_cons,List.map_nil,List.map_cons,List.map_nil,List.length_singleton]
      dsimp only
      exact Aa0)
 ·
  simp only[List.cons_append,List.nil_append]
  rw[show all.map (fun x:CkN=>x.1)=Agk H from by
   unfold Agk
   rw[←show all.map Ab5=Ab3 H from hfin,List.map_map];rfl]
  refine Yb (Ya (Za (k:=?_)))
  refine AbZ fun s=>?_
  obtain⟨⟨sa,sc⟩,G⟩:=s
  refine Adc (Afk fun hG=>?_)
  dsimp only at hG ⊢
  refine Ado (GRs G) (Atx G ?_)
  have hGl:G.length≤1000000:=by
   have h1:=hG.len
   have h2:=cksL_len' H
   have h3:(Agk H).length=(Ab3 H).length:=List.length_map ..
   omega
  have hbl:=AmN hG
  have hbn:(Ag7 H).length=G.length:=by rw[←hbl,Aj8,List.length_map]
  refine Zr (k:=Zd (k:=?_))
  refine Aad (Agv sa G.length sc (G.map (·.b)) (List.length_map ..) (by omega)) rfl rfl rfl ?_
  rw[hbl]
  refine Wq (Qc (k:=Zd (k:=Qv (k:=Wq (Zb (k:=?_))))))
  refine Aan (fun (i:{ x:Nat×List BrN // x.1≤G.length∧x.2.map AcH=((Ag7 H).take x.1).map (Akd H) })=>[(0,y),(4,.pointer (some ⟨b4,0,none⟩)),(38,.slice sa G.length sc),(39,vI G.length),(40,vI i.1.1)]) (fun (i:{ x:Nat×List BrN // x.1≤G.length∧x.2.map AcH=((Ag7 H).take x.1).map (Akd H) })=>[Jy i.1.2,Row 9 1 (.slice sa G.length sc) G.length ((Ag7 H).map vS),Ce b4 150 [.map (some b12)],MapS b12 (grK G),GIs G,Ce c 31 [.map (some b)]]) (fun (i:{ x:Nat×List BrN // x.1≤G.length∧x.2.map AcH=((Ag7 H).take x.1).map (Akd H) })=>G.length-i.1.1) rfl (⟨(0,[]),Nat.zero_le _,rfl⟩) ?_ ?_ (fun i=>?_)
  · exact⟨rfl,rfl,rfl,rfl,rfl,trivial⟩
  ·
   dsimp only
   refine AeC (hj2 []) ?_
   exact Aa0
  obtain⟨⟨j,pre⟩,hj,hpre⟩:=i
  dsimp only at hj hpre ⊢
  try dsimp only
  refine Qc (k:=Vv (k:=Wq (Za (k:=Zi (t:=fun h41=>?_) (f:=fun h41=>?_)))))
  ·
   refine Zk (k:=Ya (Za (k:=Zb (k:=Za (k:=?_)))))
   have hjl:j<(Ag7 H).length:=by omega
   obtain⟨bb,hbb⟩:∃bb,bb=(Ag7 H)[j]:=⟨_,rfl⟩
   obtain⟨g,hg,hgb,hgo,hgl⟩:=AvN hG (b:=bb) (by rw[hbb];exact List.getElem_mem hjl)
   have hst:(Ag7 H).take (j+1)=(Ag7 H).take j++[bb]:=by rw[hbb];exact List.take_succ_eq_append_getElem hjl
   have hpre2:(pre++[(bb,(g.a,g.c),g.ns)]).map AcH=((Ag7 H).take (j+1)).map (Akd H):=by
    rw[hst,List.map_append,List.map_append,hpre]
    have:AcH (bb,(g.a,g.c),g.ns)=Akd H bb:=by rw[←hgo,←hgb];rfl
    rw[List.map_cons,List.map_nil,this];rfl
   have hall:brL H=((Ag7 H).take (j+1)).map (Akd H)++((Ag7 H).drop (j+1)).map (Akd H):=by
    rw[←List.map_append,List.take_append_drop];rfl
   rw[←hpre2] at hall
   refine Zr (k:=?_)
   refine AbB (m:=j) (sz:=1) Tryz.underlying27 ti9 rfl rfl rfl rfl (by omega) (by rw[List.length_map];omega) (Nat.mul_one _) rfl ?_
   refine Aep Tryz.underlying9 rfl rfl ((Ag4 (m:=j) hjl).trans (by rw[←hbb])) rfl ?_
   refine Vv (k:=Wq (Qc (k:=Qv (k:=Zd (k:=Vv (k:=?_))))))
   refine r_lookup (v:=.slice g.a g.ns.length g.c) Tryz.underlying150 Tryz.underlying9 As7 rfl rfl rfl hgl rfl ?_
   refine wo_ent' (Avh hg HasC.get) ?_
   refine Aot ys pre (bb,(g.a,g.c),g.ns) ⟨_,by rw[hall,List.map_append,List.append_assoc];rfl⟩ (PersC.get) rfl rfl rfl ?_ ?_
   ·
    refine Vv (k:=Wq (Z0 (k:=Zk (k:=Yb (Ya (Zr (k:=Qv (k:=Wn ?_))))))))
    refine Aa6 ⟨(j+1,pre++[(bb,(g.a,g.c),g.ns)]),by dsimp only;omega,hpre2⟩ (by dsimp only;omega) ⟨rfl,rfl,rfl,rfl,rfl,trivial⟩ ?_
    dsimp only
    exact Aa0
   ·
    refine Vv (k:=Wq (Z1 (k:=Zt (k:=Vb (Va (Vi (Vb ?_)))))))
    refine Aa2 (some (pre++[(bb,(g.a,g.c),g.ns)]),[]) (vs:=[]) (Cs:=[]) rfl .nil rfl ⟨fun q e=>by cases e;exact⟨by simp,_,hall⟩,fun e=>by cases e⟩ ?_
    simp only[Acc]
    exact Aa0
  ·
   refine Ze (k:=Xa (Xi (Xb ?_)))
   have hjn:j=(Ag7 H).length:=by omega
   subst hjn
   rw[List.take_length] at hpre
   refine Ac9 (none,pre) (vs:=[]) (Cs:=[]) rfl .nil rfl ⟨(fun q e=>by cases e),fun _=>hpre⟩ ?_
   simp only[Acc]
   exact Aa0
 ·
  exact Agb (fun s=>by obtain⟨_,_,_,_,a,_⟩:=s;exact a)
end
/-- A list of whole numbers in memory. -/
structure IntsV where
 a:Option Addr
 c:Nat
 l:List Int
def IntsV.cell (x:IntsV):Value:=.slice x.a x.l.length x.c
def IntsV.ok (w:World) (x:IntsV):Prop:=x.l.length≤9223372036854775807∧At w (SlI x.a (x.l.map vI))
theorem Afa {H:Type} {enc:TypeId×Value→H} {w:World} {spare:Nat→Bool} {held:Bool} {fuel:Nat} {cs:List Value} {x:DataW H×List MemPlace}
    (h:DataW.trod enc Tryz.prog w 0 spare held fuel 87 cs=some x):∃q:IntsV,cs=[q.cell]∧q.ok w:=by
 have ei:Tryz.prog.cellsOf 3=1:=by kernel_rfl
 obtain⟨a,k,l,g,b,s,_⟩:=AtY Tryz.underlying87 Tryz.underlying3 (by rw[ei];decide) h
 exact⟨⟨a,k,l⟩,g,b,s⟩
theorem AoV {H:Type} {enc:TypeId×Value→H} {w:World} {spare:Nat→Bool} {held:Bool} {fuel:Nat} {cs:List Value} {x:DataW H×List MemPlace}
    (h:DataW.trod enc Tryz.prog w 0 spare held fuel 112 cs=some x):∃(b:Int) (q:IntsV),cs=[vI b,q.cell]∧q.ok w:=by
 have hl:=AnB Tryz.underlying112 h
 have e2:Tryz.prog.cellsOf 112=2:=by kernel_rfl
 have ei:Tryz.prog.cellsOf 3=1:=by kernel_rfl
 have es:Tryz.prog.cellsOf 87=1:=by kernel_rfl
 rw[e2] at hl
 obtain⟨m0,y0,f0⟩:=Abg Tryz.underlying112 h 0 3 0 1 rfl ei
 obtain⟨m1,y1,f1⟩:=Abg Tryz.underlying112 h 1 87 1 1 rfl es
 match cs,hl with
 | [c0,c1],_ =>
   simp only[List.drop_zero,List.drop_succ_cons,List.take_succ_cons,List.take_zero] at f0 f1
   obtain⟨n0,g0,_,_⟩:=DataW.trod_int Tryz.underlying3 f0
   obtain⟨q,g1,hq⟩:=Afa f1
   cases g0;cases g1
   exact⟨n0,q,rfl,hq⟩
theorem Alf {H:Type} {enc:TypeId×Value→H} {w:World} {spare:Nat→Bool} {held:Bool} {fuel:Nat} {cs:List Value} {x:DataW H×List MemPlace}
    (h:DataW.trod enc Tryz.prog w 0 spare held fuel 114 cs=some x):∃(base d u tb:Int) (q1 q2 q3 q4 q5:IntsV),cs=[vI base,vI d,vI u,vI tb,q1.cell,q2.cell,q3.cell,q4.cell,q5.cell]∧q1.ok w∧q2.ok w∧q3.ok w∧q4.ok w∧q5.ok w:=by
 have hl:=AnB Tryz.underlying114 h
 have e9:Tryz.prog.cellsOf 114=9:=by kernel_rfl
 have e2:Tryz.prog.cellsOf 112=2:=by kernel_rfl
 have ei:Tryz.prog.cellsOf 3=1:=by kernel_rfl
 have es:Tryz.prog.cellsOf 87=1:=by kernel_rfl
 rw[e9] at hl
 obtain⟨m0,y0,f0⟩:=Abg Tryz.underlying114 h 0 3 0 1 rfl ei
 obtain⟨m1,y1,f1⟩:=Abg Tryz.underlying114 h 1 3 1 1 rfl ei
 obtain⟨m2,y2,f2⟩:=Abg Tryz.underlying114 h 2 3 2 1 rfl ei
 obtain⟨m3,y3,f3⟩:=Abg Tryz.underlying114 h 3 112 3 2 rfl e2
 obtain⟨m4,y4,f4⟩:=Abg Tryz.underlying114 h 4 87 5 1 rfl es
 obtain⟨m5,y5,f5⟩:=Abg Tryz.underlying114 h 5 87 6 1 rfl es
 obtain⟨m6,y6,f6⟩:=Abg Tryz.underlying114 h 6 87 7 1 rfl es
 obtain⟨m7,y7,f7⟩:=Abg Tryz.underlying114 h 7 87 8 1 rfl es
 match cs,hl with
 | [c0,c1,c2,c3,c4,c5,c6,c7,c8],_ =>
   simp only[List.drop_zero,List.drop_succ_cons,List.take_succ_cons,List.take_zero] at f0 f1 f2 f3 f4 f5 f6 f7
   obtain⟨n0,g0,_,_⟩:=DataW.trod_int Tryz.underlying3 f0
   obtain⟨n1,g1,_,_⟩:=DataW.trod_int Tryz.underlying3 f1
   obtain⟨n2,g2,_,_⟩:=DataW.trod_int Tryz.underlying3 f2
   obtain⟨b,q1,g3,h1⟩:=AoV f3
   obtain⟨q2,g4,h2⟩:=Afa f4
   obtain⟨q3,g5,h3⟩:=Afa f5
   obtain⟨q4,g6,h4⟩:=Afa f6
   obtain⟨q5,g7,h5⟩:=Afa f7
   cases g0;cases g1;cases g2;cases g3;cases g4;cases g5;cases g6;cases g7
   exact⟨n0,n1,n2,b,q1,q2,q3,q4,q5,rfl,h1,h2,h3,h4,h5⟩
theorem Ale {H:Type} {enc:TypeId×Value→H} {w:World} {spare:Nat→Bool} {held:Bool} {fuel:Nat} {cs:List Value} {x:DataW H×List MemPlace}
    (h:DataW.trod enc Tryz.prog w 0 spare held fuel 116 cs=some x):∃(d u:Int) (q1 q2:IntsV),cs=[vI d,vI u,q1.cell,q2.cell]∧q1.ok w∧q2.ok w:=by
 have hl:=AnB Tryz.underlying116 h
 have e4:Tryz.prog.cellsOf 116=4:=by kernel_rfl
 have ei:Tryz.prog.cellsOf 3=1:=by kernel_rfl
 have es:Tryz.prog.cellsOf 87=1:=by kernel_rfl
 rw[e4] at hl
 obtain⟨m0,y0,f0⟩:=Abg Tryz.underlying116 h 0 3 0 1 rfl ei
 obtain⟨m1,y1,f1⟩:=Abg Tryz.underlying116 h 1 3 1 1 rfl ei
 obtain⟨m2,y2,f2⟩:=Abg Tryz.underlying116 h 2 87 2 1 rfl es
 obtain⟨m3,y3,f3⟩:=Abg Tryz.underlying116 h 3 87 3 1 rfl es
 match cs,hl with
 | [c0,c1,c2,c3],_ =>
   simp only[List.drop_zero,List.drop_succ_cons,List.take_succ_cons,List.take_zero] at f0 f1 f2 f3
   obtain⟨n0,g0,_,_⟩:=DataW.trod_int Tryz.underlying3 f0
   obtain⟨n1,g1,_,_⟩:=DataW.trod_int Tryz.underlying3 f1
   obtain⟨q2,g2,h2⟩:=Afa f2
   obtain⟨q3,g3,h3⟩:=Afa f3
   cases g0;cases g1;cases g2;cases g3
   exact⟨n0,n1,q2,q3,rfl,h2,h3⟩
section
set_option maxRecDepth 100000
theorem Av9 {s:Bs} (h:isN s=true):s.length≤40:=by rw[Adt h];omega
end
section
set_option maxRecDepth 100000
def Aap (n lo hi:Int):Int:=lo+n % (hi-lo+1)
theorem AbA {n lo hi:Int} (h:lo≤hi):lo≤Aap n lo hi∧Aap n lo hi≤hi:=by
 have h1:=Int.emod_nonneg n (show hi-lo+1≠0 by omega)
 have h2:=Int.emod_lt_of_pos n (show 0<hi-lo+1 by omega)
 unfold Aap;omega
theorem Apr (n m:Int) (hm:1≤m):(0≤n.tmod m∧n.tmod m=n % m∨n.tmod m<0∧n.tmod m+m=n % m)∧-m<n.tmod m∧n.tmod m<m:=by
 have e1:=Int.emod_nonneg n (show m≠0 by omega)
 have e2:=Int.emod_lt_of_pos n (show 0<m by omega)
 have hd:=Int.emod_emod_of_dvd n (Int.dvd_refl m)
 rcases Int.lt_or_le n 0 with h | h
 · have h2:n.tmod m = -((-n) % m):=by
     have:n = -(-n):=by omega
     conv=>lhs;rw[this]
     rw[Int.neg_tmod,Int.tmod_eq_emod_of_nonneg (by omega)]
   have e3:=Int.emod_nonneg (-n) (show m≠0 by omega)
   have e4:=Int.emod_lt_of_pos (-n) (show 0<m by omega)
   have hs:(n % m+(-n) % m) % m=0:=by
    rw[←Int.add_emod,Int.add_right_neg,Int.zero_emod]
   by_cases hz:(-n) % m=0
   · have:n % m=0:=by
       rw[hz,Int.add_zero,Int.emod_emod_of_dvd n (Int.dvd_refl m)] at hs;exact hs
     rw[h2,hz,this];omega
   · have hsum:n % m+(-n) % m=m:=by
       have hpos:0<n % m+(-n) % m:=by omega
       have hlt:n % m+(-n) % m<m+m:=by omega
       have hge:m≤n % m+(-n) % m:=by
        apply Classical.byContradiction;intro hc
        rw[Int.emod_eq_of_lt (by omega) (by omega)] at hs
        omega
       have:(n % m+(-n) % m-m) % m=0:=by rw[Int.sub_emod,hs];simp
       rw[Int.emod_eq_of_lt (by omega) (by omega)] at this
       omega
     rw[h2];omega
 · rw[Int.tmod_eq_emod_of_nonneg h];omega
theorem Aqn {G:Prop} (h:G:=by exact Aa2 () (vs:=[_]) rfl (.tmp rfl .nil) (by rw[hw];exact congrArg vI (by omega)) trivial Aab):G:=h
theorem Aac (n lo hi:Int) (h1:-1099511627776≤lo) (h2:lo≤hi) (h3:hi≤1099511627776):SpF Tryz.prog 26 [vI n,vI lo,vI hi] (vI (Aap n lo hi)):=by
 have hc:=Apr n (hi-lo+1) (by omega)
 have hw:Aap n lo hi=lo+n % (hi-lo+1):=rfl
 refine Sp.body (n:=24) Tryz.call26 Tryz.func26 rfl rfl rfl ?_
 refine Qc (k:=Vv (k:=Wq (Qc (k:=Qv (k:=Qv (k:=Vv (k:=?_)))))))
 refine Aa5 (Anp rfl rfl (by omega)) rfl ?_
 refine Vv (k:=Wq (Za (k:=Qc (k:=Qv (k:=Wq (Zi (t:=fun h14=>?_) (f:=fun h14=>?_)))))))
 ·
  refine Zr (k:=Qv (k:=Qv (k:=Qv (k:=Vv (k:=Wq (Qc (k:=Vv (k:=?_))))))))
  refine Qv (k:=Vv (k:=Wq (Zt (k:=?_))))
  exact Aqn
 ·
  refine Zk (k:=Ya (Qc (k:=Qv (k:=Qv (k:=Wq (Zt (k:=?_)))))))
  exact Aqn
end
def Afv (l:List Int) (i:Int):Int:=if l.length=0 then 0 else l.getD (i % (l.length:Int)).toNat 0
def piecesL:List Bs:=["line one\n".toUTF8.data.toList, "the second line is longer\n".toUTF8.data.toList, "x".toUTF8.data.toList, "0;".toUTF8.data.toList, "abcabcabc".toUTF8.data.toList, "\n".toUTF8.data.toList, "3:xyz".toUTF8.data.toList, "tail of it all".toUTF8.data.toList]
def beginL:List Bs:=["".toUTF8.data.toList, "a common beginning of some texts, long enough for deltas between these; ".toUTF8.data.toList, "another beginning, of other texts, as long as the first one is, or a bit longer; ".toUTF8.data.toList]
def wordsL:List Bs:=["a".toUTF8.data.toList, "branch".toUTF8.data.toList, "c.txt".toUTF8.data.toList, "d/e".toUTF8.data.toList, "rel-1".toUTF8.data.toList, "zz".toUTF8.data.toList]
def Aff (b x:Int):Bs:=piecesL.getD (Aap (IntKind.i64.wrap (x+bits .and .i64 b 1)) 0 7).toNat []
def Ac4 (b:Int):List Int→Bs→Bs
 | [],out=>out
 | x::r,out=>if out.length<170 then Ac4 b r (out++Aff b x) else out
def Ade (b:Int) (l:List Int):Bs:=Ac4 b l []
def AmH (b:Int) (l:List Int) (n:Int):Bs:=beginL.getD (Aap n 0 2).toNat []++(Ade b l).take 160
def Afd (n:Int):Bs:=AmH 0 [Aap n 0 15,Aap n 0 15 / 2,Aap n 0 15 / 4] (Aap n 0 15 % 3)
def Abk (n:Int):Bs:=AcL (Afd n)
theorem Apv {b:Int} (l:List Int):∀(out:Bs) (j:Nat),j<l.length→(∀i,i≤j→(Ac4 b (l.take i) out).length<170)→Ac4 b (l.take (j+1)) out=Ac4 b (l.take j) out++Aff b (l.getD j 0):=by
 induction l with
 | nil=>intro out j h;simp at h
 | cons x r ih =>
   intro out j h hs
   have h0:=hs 0 (Nat.zero_le _)
   simp only[List.take_zero,Ac4] at h0
   cases j with
   | zero=>simp[Ac4,h0]
   | succ j =>
     simp only[List.take_succ_cons,Ac4,h0,if_true,List.getD_cons_succ]
     refine ih (out++Aff b x) j (by simpa using h) (fun i hi=>?_)
     have:=hs (i+1) (by omega)
     simp only[List.take_succ_cons,Ac4,h0,if_true] at this
     exact this
theorem Apw {b:Int} (l:List Int):∀(out:Bs) (j:Nat),j≤l.length→(∀i,i<j→(Ac4 b (l.take i) out).length<170)→(j<l.length→170≤(Ac4 b (l.take j) out).length)→Ac4 b l out=Ac4 b (l.take j) out:=by
 induction l with
 | nil=>intro out j h _ _;simp
 | cons x r ih =>
   intro out j h hs he
   cases j with
   | zero =>
     have:=he (by simp)
     simp only[List.take_zero,Ac4] at this ⊢
     rw[if_neg (by omega)]
   | succ j =>
     have h0:=hs 0 (by omega)
     simp only[List.take_zero,Ac4] at h0
     simp only[List.take_succ_cons,Ac4,h0,if_true]
     refine ih (out++Aff b x) j (by simpa using h) (fun i hi=>?_) (fun hj=>?_)
     · have:=hs (i+1) (by omega)
       simp only[List.take_succ_cons,Ac4,h0,if_true] at this
       exact this
     · have:=he (by simp;omega)
       simp only[List.take_succ_cons,Ac4,h0,if_true] at this
       exact this
theorem Al1 (b x:Int):(Aff b x).length≤26:=by
 unfold Aff
 have:∀p∈piecesL,p.length≤26:=by decide
 by_cases h:(Aap (IntKind.i64.wrap (x+bits .and .i64 b 1)) 0 7).toNat<piecesL.length
 · exact this _ (by simp[h])
 · simp[h]
theorem ApN (b x:Int):(90:UInt8)∉Aff b x:=by
 unfold Aff
 have:∀p∈piecesL,(90:UInt8)∉p:=by decide
 by_cases h:(Aap (IntKind.i64.wrap (x+bits .and .i64 b 1)) 0 7).toNat<piecesL.length
 · exact this _ (by simp[h])
 · simp[h]
theorem Aob (b:Int) (l:List Int):∀out:Bs,out.length≤195→(90:UInt8)∉out→(Ac4 b l out).length≤195∧(90:UInt8)∉Ac4 b l out:=by
 induction l with
 | nil=>intro out h1 h2;exact⟨h1,h2⟩
 | cons x r ih =>
   intro out h1 h2
   simp only[Ac4]
   split
   · refine ih _ ?_ ?_
     · rw[List.length_append];have:=Al1 b x;omega
     · rw[List.mem_append];exact fun h=>h.elim h2 (ApN b x)
   · exact⟨h1,h2⟩
theorem Amy (b:Int) (l:List Int):(Ade b l).length≤195:=(Aob b l [] (Nat.zero_le _) (by simp)).1
theorem Arn (b:Int) (l:List Int) (n:Int):(AmH b l n).length≤300:=by
 unfold AmH
 have h1:∀p∈beginL,p.length≤90:=by decide
 have h2:(beginL.getD (Aap n 0 2).toNat []).length≤90:=by
  by_cases h:(Aap n 0 2).toNat<beginL.length
  · exact h1 _ (by simp[h])
  · simp[h]
 rw[List.length_append,List.length_take];omega
theorem Ajt (n:Int):(Afd n).length≤300:=Arn _ _ _
section
set_option maxRecDepth 100000
theorem Ahu:Sp Tryz.prog 165 [] [] (X:=Nat) (fun b=>.slice (some ⟨b,0,none⟩) 6 6) (fun _=>True) (fun b=>[Ce b 9 (wordsL.map vS)]):=by
 refine Sp.body (n:=2) Tryz.call165 Tryz.func165 rfl rfl rfl ?_
 refine Qc (k:=Vv (k:=Wq (Qc (k:=Zv [_,_,_,_,_,_] (cs:=[_,_,_,_,_,_]) (k:=fun b1=>Vv (k:=Wq (Zt (k:=?_))))))))
 exact Aa2 b1 (vs:=[_]) (Cs:=[]) rfl (.tmp rfl .nil) rfl trivial (Aaa (AaK (by rfl) (by rfl)) Aab)
theorem Aet {B:HP} {a:Option Addr} (c:Nat) (l:List Int) (i:Int) (hi:0≤i) (hl:l.length≤9223372036854775807) (sh:SlA B a (l.map vI)) :
    Sp1 Tryz.prog 119 [.slice a l.length c,vI i] [B] (vI (Afv l i)) [B]:=by
 haveI:Abm a (l.map vI) [B]:=⟨⟨B,sh,.here⟩⟩
 refine Sp.body (n:=15) Tryz.call119 Tryz.func119 rfl rfl rfl ?_
 refine Qc (k:=Vv (k:=Wq (Za (k:=Qc (k:=Qv (k:=Vv (k:=Wq (Zi (t:=fun h7=>?_) (f:=fun h7=>?_)))))))))
 ·
  refine Qc (k:=Vv (k:=Wq (Zt (k:=Va ?_))))
  rw[Afv,if_pos (by omega)]
  exact Aa2 () (vs:=[_]) (Cs:=[]) rfl (.tmp rfl .nil) rfl trivial Aa0
 ·
  refine Zk (k:=Ya (Za (k:=?_)))
  have hm1:=Int.emod_nonneg i (show (l.length:Int)≠0 by omega)
  have hm2:=Int.emod_lt_of_pos i (show 0<(l.length:Int) by omega)
  have hpk:Afv l i=l.getD (i % (l.length:Int)).toNat 0:=if_neg (by omega)
  rw[hpk]
  generalize hk:(i % (l.length:Int)).toNat=k
  have hik:i % (l.length:Int)=(k:Int):=by omega
  refine Zr (k:=Qv (k:=Qv (k:=Vv (k:=?_))))
  rw[hik]
  refine Ye 1 (k:=Yl (hv:=by exact Aa4 0 (m:=k) (by omega)) (k:=Vv (k:=Wq (Zt (k:=?_)))))
  exact Aa2 () (vs:=[_]) (Cs:=[]) rfl (.tmp rfl .nil) rfl trivial Aa0
theorem Amq {G:Prop} (h:G:=by
    have he:Ade b l=Ac4 b (l.take j) []:=Apw l [] j hj hs (fun h=>by omega)
    rw[he]
    exact Aa2 () (vs:=[_]) (Cs:=[]) rfl (.tmp rfl .nil) rfl trivial Aa0):G:=h
set_option maxHeartbeats 1000000 in
theorem AiB {B:HP} {a:Option Addr} (c:Nat) (b:Int) (l:List Int) (hl:l.length≤9223372036854775807) (sh:SlA B a (l.map vI)) :
    Sp1 Tryz.prog 136 [.agg #[vI b,.slice a l.length c]] [B] (vS (Ade b l)) [B]:=by
 haveI:Abm a (l.map vI) [B]:=⟨⟨B,sh,.here⟩⟩
 refine Sp.body (n:=38) Tryz.call136 Tryz.func136 rfl rfl rfl ?_
 refine Qc (k:=Zx [_,_] (k:=fun b1=>Vv (k:=Wq (Qc (k:=Zv [_,_,_,_,_,_,_,_] (cs:=[_,_,_,_,_,_,_,_]) (k:=fun b6=>Vv (k:=Wq (Qc (k:=?_)))))))))
 refine Vv (k:=Wq (Za (k:=Qc (k:=Vv (k:=Wq (Zb (k:=?_)))))))
 refine Aan (fun (i:{ j:Nat // j≤l.length∧∀i,i<j→(Ac4 b (l.take i) []).length<170 })=>[(1,.pointer (some ⟨b1,0,none⟩)),(3,.slice (some ⟨b6,0,none⟩) 8 8),(4,vS (Ac4 b (l.take i.1) [])),(5,vI i.1)]) (fun (i:{ j:Nat // j≤l.length∧∀i,i<j→(Ac4 b (l.take i) []).length<170 })=>[Ce b6 9 (piecesL.map vS),Ce b1 112 [vI b,.slice a l.length c],B]) (fun (i:{ j:Nat // j≤l.length∧∀i,i<j→(Ac4 b (l.take i) []).length<170 })=>l.length-i.1) rfl (⟨0,Nat.zero_le _,fun i h=>by omega⟩) ?_ ?_ (fun i=>?_)
 · exact⟨rfl,rfl,rfl,rfl,trivial⟩
 ·
  exact Aaa (AaK (by rfl) (by rfl)) Aa0
 obtain⟨j,hj,hs⟩:=i
 dsimp only
 have hz:=(Aob b (l.take j) [] (Nat.zero_le _) (by simp)).1
 try dsimp only
 refine Za (k:=Qc (k:=Vv (k:=Qx 1 87 (k:=Qv (k:=Vv (k:=Gi 5 (t:=fun h12=>?_) (f:=fun h12=>?_)))))))
 ·
  refine J1 (k:=J1 (k:=J1 (k:=P1 (k:=Wq (Zi (t:=fun h16=>?_) (f:=fun h16=>?_))))))
  ·
   refine Zk (k:=Ya (Za (k:=Zb (k:=?_))))
   have hjl:j<l.length:=by omega
   obtain⟨out,hout⟩:∃out,out=Ac4 b (l.take j) []:=⟨_,rfl⟩
   rw[←hout] at hz h16 ⊢
   have hst:Ac4 b (l.take (j+1)) []=out++Aff b (l.getD j 0):=by
    rw[hout]
    refine Apv l [] j hjl (fun i hi=>?_)
    by_cases e:i=j
    · rw[e,←hout];omega
    · exact hs i (by omega)
   have hw:=AbA (n:=IntKind.i64.wrap (l.getD j 0+bits .and .i64 b 1)) (show (0:Int)≤7 by omega)
   have hpl:=Al1 b (l.getD j 0)
   have hpe:Aff b (l.getD j 0)=piecesL.getD (Aap (IntKind.i64.wrap (l.getD j 0+bits .and .i64 b 1)) 0 7).toNat []:=rfl
   generalize hk:(Aap (IntKind.i64.wrap (l.getD j 0+bits .and .i64 b 1)) 0 7).toNat=k at hpe
   have hwk:Aap (IntKind.i64.wrap (l.getD j 0+bits .and .i64 b 1)) 0 7=(k:Int):=by omega
   have hpn:piecesL.length=8:=rfl
   have hk8:k<piecesL.length:=by omega
   refine Dw [Ce b6 9 (piecesL.map vS),Ce b1 112 [vI b,.slice a l.length c],B] (k:=?_)
   refine Dv 0 (k:=Dv 1 (k:=Di 2 (t:=Uf 1 87) (k:=Di 3 (t:=Ul) (k:=Dv 4 (k:=?_)))))
   refine Aa1 5 rfl rfl rfl (by kernel_rfl) (by kernel_rfl) (Aaf (sz:=1) Tryz.underlying87 ti3 rfl rfl rfl rfl (by omega) (by first | (rw[List.length_map];omega) | (rw[Aal (sz:=1) (fun _=>rfl)];omega) | (simp;omega)) (Nat.mul_one _)) ?_
   refine Aa1 6 rfl rfl rfl (by kernel_rfl) (by kernel_rfl) (Aas Tryz.underlying3 rfl rfl (Aa4 0 hjl)) ?_
   refine Di 7 (t:=Uf 0 3) (k:=Di 8 (t:=Ul) (k:=?_))
   refine Aa1 9 rfl rfl rfl (by kernel_rfl) (by kernel_rfl) (Aaq (Al0 rfl rfl)) ?_
   refine Aa1 10 rfl rfl rfl (by kernel_rfl) (by kernel_rfl) (Aaq (Aqz rfl rfl)) ?_
   refine Dv 11 (k:=Dv 12 (k:=Dv 13 (k:=Dn 14 (k:=?_))))
   refine Aai (Aac _ 0 7 (by omega) (by omega) (by omega)) rfl rfl rfl ?_
   rw[hwk]
   refine Aa1 15 rfl rfl rfl (by kernel_rfl) (by kernel_rfl) (Aaf (sz:=1) Tryz.underlying27 ti9 rfl rfl rfl rfl (by omega) (by first | (rw[List.length_map];omega) | (rw[Aal (sz:=1) (fun _=>rfl)];omega) | (simp;omega)) (Nat.mul_one _)) ?_
   refine Aa1 16 rfl rfl rfl (by kernel_rfl) (by kernel_rfl) (Aas Tryz.underlying9 rfl rfl (Aa4 [] hk8)) ?_
   refine Aa1 17 rfl rfl rfl (by kernel_rfl) (by kernel_rfl) (Aaq (AhR rfl rfl (by rw[←hpe];omega))) ?_
   refine Dv 18 (k:=Dd (k:=Yb (Ya (Zr (k:=Qv (k:=Vv (k:=Wn ?_)))))))
   refine Aa6 ⟨j+1,by omega,fun i hi=>?_⟩ (by dsimp only;omega) ⟨rfl,rfl,Avq (by dsimp only;rw[hst,hpe]),rfl,trivial⟩ Aa0
   by_cases e:i=j
   · rw[e,←hout];omega
   · exact hs i (by omega)
  ·
   refine Ze (k:=Xa (Xi (Xb (Ya (Qc (k:=Qv (k:=Wq (Zt (k:=?_)))))))))
   exact Amq
 ·
  refine O0 (k:=O0 (k:=O0 (k:=P0 (k:=Wq (Z0 (k:=Ze (k:=Xa (Xi (Xb (Ya (Za (k:=?_))))))))))))
  refine Zr (k:=Qv (k:=Wq (Zt (k:=?_))))
  exact Amq
theorem Amz (t:Bs) (m:Nat):t.take (min t.length m)=t.take m:=by
 by_cases h:t.length≤m
 · rw[Nat.min_eq_left h,List.take_length,List.take_of_length_le h]
 · rw[Nat.min_eq_right (by omega)]
theorem AnF {B:HP} {a:Option Addr} (c:Nat) (b:Int) (l:List Int) (n:Int) (hl:l.length≤9223372036854775807) (sh:SlA B a (l.map vI)) :
    Sp1 Tryz.prog 96 [.agg #[vI b,.slice a l.length c],vI n] [B] (vS (AmH b l n)) [B]:=by
 have hT:=AiB c b l hl sh
 have hz:=Amy b l
 have hw:=AbA (n:=n) (show (0:Int)≤2 by omega)
 have hlb:AmH b l n=beginL.getD (Aap n 0 2).toNat []++(Ade b l).take 160:=rfl
 have hbl:(beginL.getD (Aap n 0 2).toNat []).length≤90:=by
  have h1:∀p∈beginL,p.length≤90:=by decide
  by_cases h:(Aap n 0 2).toNat<beginL.length
  · exact h1 _ (by simp[h])
  · simp[h]
 generalize hk:(Aap n 0 2).toNat=k at hlb hbl
 have hwk:Aap n 0 2=(k:Int):=by omega
 have hbn:beginL.length=3:=rfl
 have hk3:k<beginL.length:=by omega
 refine Sp.body (n:=21) Tryz.call96 Tryz.func96 rfl rfl rfl ?_
 refine Qc (k:=Zx [_,_] (k:=fun b2=>Vv (k:=Wq (Qc (k:=Zv [_,_,_] (cs:=[_,_,_]) (k:=fun b7=>Vv (k:=Wq (Qc (k:=?_)))))))))
 refine Zm [_,_] (k:=?_)
 refine Aad hT rfl rfl rfl ?_
 refine Vv (k:=Wq (Za (k:=?_)))
 refine wc_ent' (Gs:=[Ce b7 9 (beginL.map vS),B]) (Aaa (AaK (by rfl) (by rfl)) Aa0) ?_
 refine Dw [Ce b7 9 (beginL.map vS)] (k:=?_)
 refine Dv 0 (k:=Dv 1 (k:=Dv 5 (k:=Dv 6 (k:=Dv 7 (k:=Dv 8 (k:=?_))))))
 refine Aa1 9 rfl rfl rfl (by kernel_rfl) (by kernel_rfl) (Aaq (AbW (m:=min (Ade b l).length 160) Tryz.underlying9 rfl rfl (by omega) (by omega))) ?_
 refine Dn 2 (k:=?_)
 refine Aai (Aac n 0 2 (by omega) (by omega) (by omega)) rfl rfl rfl ?_
 rw[hwk]
 refine Aa1 3 rfl rfl rfl (by kernel_rfl) (by kernel_rfl) (Aaf (sz:=1) Tryz.underlying27 ti9 rfl rfl rfl rfl (by omega) (by first | (rw[List.length_map];omega) | (rw[Aal (sz:=1) (fun _=>rfl)];omega) | (simp;omega)) (Nat.mul_one _)) ?_
 refine Aa1 4 rfl rfl rfl (by kernel_rfl) (by kernel_rfl) (Aas Tryz.underlying9 rfl rfl (Aa4 [] hk3)) ?_
 refine Aa1 10 rfl rfl rfl (by kernel_rfl) (by kernel_rfl) (Aaq (AhR rfl rfl (by rw[List.length_take];omega))) ?_
 refine Dv 11 (k:=Dd (k:=Ya (Zt (k:=?_))))
 rw[hlb,←Amz]
 exact Aa2 () (vs:=[_]) (Cs:=[]) rfl (.tmp rfl .nil) rfl trivial Aa0
theorem Aee (n:Int):SpF Tryz.prog 45 [vI n] (vS (Afd n)):=by
 have hw:=AbA (n:=n) (show (0:Int)≤15 by omega)
 have hc:Afd n=AmH 0 [Aap n 0 15,Aap n 0 15 / 2,Aap n 0 15 / 4] (Aap n 0 15 % 3):=rfl
 rw[hc]
 refine Sp.body (n:=16) Tryz.call45 Tryz.func45 rfl rfl rfl ?_
 refine Qc (k:=Vv (k:=Wq (Qc (k:=Vv (k:=?_)))))
 refine Aag (Aac n 0 15 (by omega) (by omega) (by omega)) rfl rfl rfl ?_
 clear hc
 generalize Aap n 0 15=k at hw ⊢
 refine Vv (k:=Wq (Qc (k:=Qv (k:=Qv (k:=Vv (k:=Zv [_,_,_] (cs:=[_,_,_]) (k:=fun b11=>Vx (Ps [.int .i64 0,_]) (k:=Vv (k:=?_)))))))))
 refine Vv (k:=?_)
 refine Aad (AnF (B:=Ce b11 3 [vI k,vI (k / 2),vI (k / 4)]) (a:=some ⟨b11,0,none⟩) 3 0 [k,k / 2,k / 4] (k % 3) (by simp) ApA) rfl rfl rfl ?_
 refine Vv (k:=Wq (Zt (k:=?_)))
 exact Aa2 () (vs:=[_]) (Cs:=[]) rfl (.tmp rfl .nil) rfl trivial Aab
theorem AcR (n:Int):SpF Tryz.prog 116 [vI n] (vS (Abk n)):=by
 have hz:=Ajt n
 refine Sp.body (n:=6) Tryz.call116 Tryz.func116 rfl rfl rfl ?_
 refine Qc (k:=Vv (k:=Wq (Qc (k:=Vv (k:=?_)))))
 refine Aag (Aee n) rfl rfl rfl ?_
 refine Aag (Adj (Afd n) (by omega)) rfl rfl rfl ?_
 refine Vv (k:=Wq (Zt (k:=?_)))
 exact Aa2 () (vs:=[_]) (Cs:=[]) rfl (.tmp rfl .nil) rfl trivial Aab
end
def kindC:Bs:=[43,42,45,42]
def tvalL:List Bs:=["".toUTF8.data.toList, "trunk".toUTF8.data.toList, "b one".toUTF8.data.toList, "x".toUTF8.data.toList]
theorem AeO (n:Int):isN (Abk n)=true:=decide_eq_true ⟨Ae4 _,Ain _⟩
/-- Where a tag of the keeper's points to. -/
abbrev Api (own:Bool) (t:Bs):Prop:=(own=true→t=[42])∧(own=false→∃n,t=Abk n)
structure AvS (own:Bool) (t:Tg):Prop where
 kind:t.kind.toNat=43∨t.kind.toNat=42∨(t.kind.toNat=45∧t.value=[])
 val:t.value.length≤12
 tgt:Api own t.target
structure KTags (own:Bool) (j:Nat) (l:List Tg):Prop where
 len:l.length≤3
 tag:∀t∈l,AvS own t
 name:∀t∈l,∃i,i<j∧t.name=wordsL.getD i []
 rise:l.Pairwise (fun x y=>blt x.name y.name=true)
theorem AkJ:∀i j,i<j→j<6→blt (wordsL.getD i []) (wordsL.getD j [])=true:=by
 have:∀i:Fin 6,∀j:Fin 6,i.1<j.1→blt (wordsL.getD i.1 []) (wordsL.getD j.1 [])=true:=by decide
 exact fun i j h1 h2=>this ⟨i,by omega⟩ ⟨j,h2⟩ h1
theorem Ago:∀i,i<6→Ac3 (wordsL.getD i [])∧(wordsL.getD i []).length≤10:=by
 have:∀i:Fin 6,Ac3 (wordsL.getD i.1 [])∧(wordsL.getD i.1 []).length≤10:=by decide
 exact fun i h=>this ⟨i,h⟩
theorem KTags.snoc {own:Bool} {j:Nat} {l:List Tg} {t:Tg} (h:KTags own j l) (hj:j<6) (hl:l.length≤2) (hk:AvS own t) (hn:t.name=wordsL.getD j []):KTags own (j+1) (l++[t]):=by
 obtain⟨h1,h2,h3,h4⟩:=h
 refine⟨by simp;omega,?_,?_,?_⟩
 · intro x hx
   rcases List.mem_append.1 hx with e | e
   · exact h2 x e
   · rw[List.mem_singleton.1 e];exact hk
 · intro x hx
   rcases List.mem_append.1 hx with e | e
   · obtain⟨i,hi,e2⟩:=h3 x e
     exact⟨i,by omega,e2⟩
   · rw[List.mem_singleton.1 e];exact⟨j,by omega,hn⟩
 · rw[List.pairwise_append]
   refine⟨h4,by simp,fun a ha b hb=>?_⟩
   rw[List.mem_singleton.1 hb,hn]
   obtain⟨i,hi,e2⟩:=h3 a ha
   rw[e2]
   exact AkJ i j hi hj
theorem KTags.more {own:Bool} {j:Nat} {l:List Tg} (h:KTags own j l):KTags own (j+1) l:=⟨h.len,h.tag,fun t ht=>by obtain⟨i,hi,e⟩:=h.name t ht;exact⟨i,by omega,e⟩,h.rise⟩
theorem Auk (a:Bs):blt a a=false:=by
 rw[Avm,decide_eq_false_iff_not];exact List.lt_irrefl a
theorem KTags.right {own:Bool} {l:List Tg} (h:KTags own 6 l):Ad9 own l:=by
 refine⟨fun i hi=>?_,by have:=h.len;omega⟩
 have e:l.getD i tg0=l[i]:=by simp[hi]
 have hm:l[i]∈l:=List.getElem_mem hi
 have hk:=h.tag _ hm
 obtain⟨w,hw,hn⟩:=h.name _ hm
 refine⟨by rw[e];exact hk.kind,by rw[e,hn];exact(Ago w hw).1,by rw[e];exact hk.val,by rw[e];exact⟨hk.tgt.1,fun o=>by obtain⟨n,e⟩:=hk.tgt.2 o;rw[e];exact AeO n⟩,fun h0=>?_⟩
 have e2:l.getD (i-1) tg0=l[i-1]:=by simp[show i-1<l.length by omega]
 have hr:=List.pairwise_iff_getElem.1 h.rise (i-1) i (by omega) hi (by omega)
 rw[e,e2]
 exact⟨.inl hr,fun e3=>by rw[e3,Auk] at hr;cases hr⟩
theorem KTags.z {own:Bool} {j:Nat} {l:List Tg} (h:KTags own j l) (hj:j≤6):TgZ l:=⟨by have:=h.len;omega,fun t ht=>by
 obtain⟨w,hw,hn⟩:=h.name t ht
 have h1:=(Ago w (by omega)).2
 have h2:=(h.tag t ht).val
 have h3:t.target.length≤40:=by
  cases own with
  | true=>rw[(h.tag t ht).tgt.1 rfl];simp
  | false=>obtain⟨n,e⟩:=(h.tag t ht).tgt.2 rfl;rw[e];exact Av9 (AeO n)
 rw[hn];omega⟩
theorem AsU:∀m,m<4→(kindC.getD m 0).toNat=43∨(kindC.getD m 0).toNat=42∨(kindC.getD m 0).toNat=45:=by
 have:∀m:Fin 4,(kindC.getD m.1 0).toNat=43∨(kindC.getD m.1 0).toNat=42∨(kindC.getD m.1 0).toNat=45:=by decide
 exact fun m h=>this ⟨m,h⟩
theorem Ar0:∀m,(tvalL.getD m []).length≤12:=by
 have:∀p∈tvalL,p.length≤12:=by decide
 intro m
 by_cases h:m<tvalL.length
 · exact this _ (by simp[h])
 · simp[h]
section
set_option maxRecDepth 100000
theorem AhC {G:Prop} (h:G:=by
    first
    | exact Aa6 ⟨(((oa,oc),out),j+1),by dsimp only;omega,hK.more⟩ (by dsimp only;omega) ⟨rfl,rfl,rfl,rfl,rfl,rfl,rfl,trivial⟩ Aa0
    | (have hsn:=hK.snoc (t:=⟨kd,w,tg,tv⟩) hj6 (by omega) ⟨by dsimp only;rcases hkd with h | h | h;exact .inl h;exact .inr (.inl h);exact .inr (.inr ⟨h,htv2 h⟩),htv1,htg⟩ hw
       have hql2:(out++[(⟨kd,w,tg,tv⟩:Tg)]).length=out.length+1:=by simp
       refine Aa6 ⟨(((a61,c61),out++[⟨kd,w,tg,tv⟩]),j+1),by dsimp only;omega,hsn⟩ (by dsimp only;omega) ⟨rfl,rfl,rfl,Adi hql2.symm,rfl,rfl,rfl,trivial⟩ ?_
       dsimp only
       rw[hql2]
       exact Aaa (AaS (by rfl) (by rw[AbF];rfl)) Aa0)):G:=h
theorem AjB {G:Prop} (h:G:=by
    first
    | exact Aa6 ⟨tvalL.getD v [],Ar0 v,fun h=>by omega⟩ trivial ⟨rfl,rfl,rfl,rfl,rfl,rfl,rfl,rfl,rfl,rfl,trivial⟩ Aa0
    | exact Aa6 ⟨[],Nat.zero_le _,fun h=>rfl⟩ trivial ⟨rfl,rfl,rfl,rfl,rfl,rfl,rfl,rfl,rfl,rfl,trivial⟩ Aa0):G:=h
theorem AjC {G:Prop} (h:G:=by
    first
    | (have ho:own=false:=by simpa using h41
       have htg:Api own (Abk (Afv vals j)):=⟨(fun h=>by rw[ho] at h;cases h),fun _=>⟨_,rfl⟩⟩
       exact Aa6 ⟨Abk (Afv vals j),htg⟩ trivial ⟨rfl,rfl,rfl,rfl,rfl,rfl,rfl,rfl,rfl,rfl,trivial⟩ Aa0)
    | (have ho:own=true:=by simpa using h41
       have htg:Api own [42]:=⟨fun _=>rfl,(fun h=>by rw[ho] at h;cases h)⟩
       exact Aa6 ⟨[42],htg⟩ trivial ⟨rfl,rfl,rfl,rfl,rfl,rfl,rfl,rfl,rfl,rfl,trivial⟩ Aa0)):G:=h
theorem Akz {G:Prop} (h:G:=by
    first
    | exact Aa6 ⟨Aap (tags.getD j 0) 0 7,hwi⟩ trivial ⟨rfl,rfl,rfl,rfl,rfl,rfl,rfl,rfl,rfl,rfl,trivial⟩ Aa0
    | exact Aa6 ⟨0,by omega,by omega⟩ trivial ⟨rfl,rfl,rfl,rfl,rfl,rfl,rfl,rfl,rfl,rfl,trivial⟩ Aa0):G:=h
set_option maxHeartbeats 2000000 in
theorem AgG {Bt Bv:HP} {ta va:Option Addr} (tc vc:Nat) (tags vals:List Int) (own:Bool) (ht:tags.length≤9223372036854775807) (hv:vals.length≤9223372036854775807) (sht:SlA Bt ta (tags.map vI)) (shv:SlA Bv va (vals.map vI)) :
    Sp Tryz.prog 166 [.slice ta tags.length tc,.slice va vals.length vc,vB own] [Bt,Bv] (X:=(Option Addr×Nat)×List Tg) Aof (fun x=>KTags own 6 x.2) (fun x=>[Aog x,Bt,Bv]):=by
 haveI:Abm ta (tags.map vI) [Bt,Bv]:=⟨⟨Bt,sht,.here⟩⟩
 refine Sp.body (n:=64) Tryz.call166 Tryz.func166 rfl rfl rfl ?_
 refine Qc (k:=Vv (k:=Wq (Qc (k:=Vv (k:=Wq (Za (k:=Qc (k:=?_))))))))
 refine Aar Ahu rfl rfl rfl (fun x12 _=>?_)
 refine Qv (k:=Wq (Zb (k:=?_)))
 refine Aan (fun (i:{ x:((Option Addr×Nat)×List Tg)×Nat // x.2≤6∧KTags own x.2 x.1.2 })=>[(0,.slice ta tags.length tc),(1,.slice va vals.length vc),(2,vB own),(7,.slice i.1.1.1.1 (i.1.1.2).length i.1.1.1.2),(12,.slice (some ⟨x12,0,none⟩) 6 6),(13,vI 6),(14,vI i.1.2)]) (fun (i:{ x:((Option Addr×Nat)×List Tg)×Nat // x.2≤6∧KTags own x.2 x.1.2 })=>[Row 60 4 (.slice i.1.1.1.1 (i.1.1.2).length i.1.1.1.2) (i.1.1.2).length ((i.1.1.2).flatMap Aae),Ce x12 9 (wordsL.map vS),Bt,Bv]) (fun (i:{ x:((Option Addr×Nat)×List Tg)×Nat // x.2≤6∧KTags own x.2 x.1.2 })=>6-i.1.2) rfl (⟨(((none,0),[]),0),Nat.zero_le _,⟨Nat.zero_le _,(fun _ h=>by cases h),(fun _ h=>by cases h),.nil⟩⟩) ?_ ?_ (fun i=>?_)
 · exact⟨rfl,rfl,rfl,rfl,rfl,rfl,rfl,trivial⟩
 ·
  exact(AaV (e:=60) (sz:=4)).trans (show Ent _ [Row 60 4 (.slice none 0 0) 0 [],Ce x12 9 (wordsL.map vS),Bt,Bv] from Aa0)
 obtain⟨⟨⟨⟨oa,oc⟩,out⟩,j⟩,hj,hK⟩:=i
 dsimp only at hj hK ⊢
 have hol:=hK.len
 try dsimp only
 refine Qc (k:=Vv (k:=Wq (Za (k:=Zi (t:=fun h15=>?_) (f:=fun h15=>?_)))))
 ·
  refine Zk (k:=Ya (Za (k:=Zb (k:=Za (k:=?_)))))
  have hj6:j<6:=by omega
  have hwl:wordsL.length=6:=rfl
  obtain⟨w,hw⟩:∃w,w=wordsL.getD j []:=⟨_,rfl⟩
  have hwz:=(Ago j hj6).2
  rw[←hw] at hwz
  refine Zr (k:=Vv (k:=Ye 1 (k:=Yl (hv:=by exact Aa4 [] (m:=j) (by omega)) (k:=?_))))
  rw[←hw]
  refine Qv (k:=Wq (Qc (k:=Vv (k:=Wq ?_))))
  refine Abd (fun (i:{ n:Int // 0≤n∧n≤7 })=>[(0,.slice ta tags.length tc),(1,.slice va vals.length vc),(2,vB own),(7,.slice oa (out).length oc),(8,vI j),(9,vS w),(10,vI i.1),(12,.slice (some ⟨x12,0,none⟩) 6 6),(13,vI 6),(14,vI j)]) (fun (i:{ n:Int // 0≤n∧n≤7 })=>[Row 60 4 (.slice oa (out).length oc) (out).length ((out).flatMap Aae),Ce x12 9 (wordsL.map vS),Bt,Bv]) rfl (fun i=>?_) ?_
  ·
   obtain⟨n,hn0,hn7⟩:=i
   dsimp only
   try dsimp only
   refine Za (k:=Qc (k:=Qv (k:=Vv (k:=Gi 2 (t:=fun h30=>?_) (f:=fun h30=>?_)))))
   ·
    refine O1 (k:=O1 (k:=O1 (k:=P1 (k:=Wq (Z1 (k:=Ze (k:=Xa (Xb (Ya (Zr (k:=Vv (k:=?_))))))))))))
    refine Vv (k:=Wn ?_)
    exact AhC
   ·
    refine J0 (k:=J0 (k:=J0 (k:=P0 (k:=Wq (Zi (t:=fun h34=>?_) (f:=fun h34=>?_))))))
    ·
     refine Ze (k:=Xa (Xb (Ya (Zr (k:=Qv (k:=Wn ?_))))))
     exact AhC
    ·
     refine Zk (k:=Ya (Za (k:=?_)))
     obtain⟨m,hm⟩:∃m:Nat,n=4+(m:Int):=⟨(n-4).toNat,by omega⟩
     have hm4:m<4:=by omega
     have hkd:=AsU m hm4
     refine Zr (k:=Qv (k:=?_))
     refine Aa5 (Abj (m:=m) Tryz.underlying9 rfl rfl (by omega) (show m<4 from hm4)) rfl ?_
     change wo _ _ _ _ _ ((37,vU ((kindC.getD m 0).toNat:Int))::_) _ _
     generalize kindC.getD m 0=kd at hkd ⊢
     refine Vv (k:=Vx (Ps [_,_,_,vS []]) (k:=Zc [.int .u8 0,vS [],vS [],vS []] (k:=fun b11=>Zp (k:=Wq ?_))))
     refine Abd (fun (tg:{ tg:Bs // Api own tg })=>[(0,.slice ta tags.length tc),(1,.slice va vals.length vc),(2,vB own),(7,.slice oa (out).length oc),(8,vI j),(9,vS w),(11,.pointer (some ⟨b11,0,none⟩)),(12,.slice (some ⟨x12,0,none⟩) 6 6),(13,vI 6),(14,vI j)]) (fun (tg:{ tg:Bs // Api own tg })=>[Ce b11 60 [vU (kd.toNat:Int),vS w,vS tg.1,vS []],Row 60 4 (.slice oa (out).length oc) (out).length ((out).flatMap Aae),Ce x12 9 (wordsL.map vS),Bt,Bv]) rfl (fun tg=>?_) ?_
     ·
      obtain⟨tg,htg⟩:=tg
      dsimp only
      try dsimp only
      refine Abd (fun (tv:{ tv:Bs // tv.length≤12∧(kd.toNat=45→tv=[]) })=>[(0,.slice ta tags.length tc),(1,.slice va vals.length vc),(2,vB own),(7,.slice oa (out).length oc),(8,vI j),(9,vS w),(11,.pointer (some ⟨b11,0,none⟩)),(12,.slice (some ⟨x12,0,none⟩) 6 6),(13,vI 6),(14,vI j)]) (fun (tv:{ tv:Bs // tv.length≤12∧(kd.toNat=45→tv=[]) })=>[Ce b11 60 [vU (kd.toNat:Int),vS w,vS tg,vS tv.1],Row 60 4 (.slice oa (out).length oc) (out).length ((out).flatMap Aae),Ce x12 9 (wordsL.map vS),Bt,Bv]) rfl (fun tv=>?_) ?_
      ·
       obtain⟨tv,htv1,htv2⟩:=tv
       dsimp only
       try dsimp only
       refine Zr (k:=Vv (k:=Zm [_,_,_,_] (k:=Zv [_] (cs:=[_,_,_,_]) (k:=fun b60=>?_))))
       refine Aam (sz:=4) (bytes:=56) Tryz.underlying28 AdD rfl rfl rfl rfl rfl rfl rfl (by rfl) (by rfl) (by omega) (by simp only[maxLen];omega) rfl (fun a61 c61=>?_)
       refine Vv (k:=Wn (Yb (Ya (Zr (k:=Qv (k:=Wn ?_))))))
       exact AhC
      ·
       refine Qc (k:=Qx 0 5 (k:=Vv (k:=Wq (Zi (t:=fun h49=>?_) (f:=fun h49=>?_)))))
       ·
        refine Zr (k:=Zv [_,_,_,_] (cs:=[_,_,_,_]) (k:=fun b50=>?_))
        refine wo_ent' (Gs:=[Ce b50 9 (tvalL.map vS),Ce b11 60 [vU (kd.toNat:Int),vS w,vS tg,vS []],Row 60 4 (.slice oa (out).length oc) (out).length ((out).flatMap Aae),Ce x12 9 (wordsL.map vS),Bt,Bv]) (Aaa (AaK (by rfl) (by rfl)) Aa0) ?_
        refine Qv (k:=?_)
        refine Aad (Aet vc vals j (by omega) hv shv) rfl rfl rfl ?_
        refine Aag (Aac (Afv vals j) 0 3 (by omega) (by omega) (by omega)) rfl rfl rfl ?_
        have hwi:=AbA (n:=Afv vals j) (show (0:Int)≤3 by omega)
        obtain⟨v,hv4⟩:∃v:Nat,Aap (Afv vals j) 0 3=(v:Int):=⟨(Aap (Afv vals j) 0 3).toNat,by omega⟩
        have hvl:tvalL.length=4:=rfl
        rw[hv4]
        refine Ye 1 (k:=Yl (hv:=by exact Aa4 [] (m:=v) (by omega)) (k:=Vf 3 9 (k:=Zo (k:=Wn ?_))))
        exact AjB
       ·
        refine Zk (k:=?_)
        exact AjB
     ·
      refine Qc (k:=Qv (k:=Wq (Zi (t:=fun h41=>?_) (f:=fun h41=>?_))))
      ·
       refine Zr (k:=Qv (k:=?_))
       refine Aad (Aet vc vals j (by omega) hv shv) rfl rfl rfl ?_
       refine Aag (AcR _) rfl rfl rfl ?_
       refine Vf 2 9 (k:=Zo (k:=Wn ?_))
       exact AjC
      ·
       refine Zk (k:=?_)
       exact AjC
  ·
   refine Qc (k:=Qv (k:=Qv (k:=Wq (Zi (t:=fun h22=>?_) (f:=fun h22=>?_)))))
   ·
    refine Zr (k:=Qv (k:=Ye 1 (k:=Yl (hv:=by exact Aa4 0 (m:=j) (by omega)) (k:=?_))))
    refine Aag (Aac (tags.getD j 0) 0 7 (by omega) (by omega) (by omega)) rfl rfl rfl ?_
    have hwi:=AbA (n:=tags.getD j 0) (show (0:Int)≤7 by omega)
    refine Vv (k:=Wn ?_)
    exact Akz
   ·
    refine Zk (k:=?_)
    exact Akz
 ·
  refine Ze (k:=Xa (Xi (Xb (Ya (Qc (k:=Qv (k:=Wq (Zt (k:=?_)))))))))
  have hj6:j=6:=by omega
  subst hj6
  exact Aa2 ((oa,oc),out) (vs:=[_]) (Cs:=[]) rfl (.tmp rfl .nil) rfl hK Aa0
end
end Go.Proofs.YtdnoacgopfcpbaaGreat
