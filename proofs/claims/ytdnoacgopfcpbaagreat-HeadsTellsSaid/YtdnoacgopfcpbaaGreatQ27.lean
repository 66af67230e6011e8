/- Texts of this proof, put together: SHeads5, KeepOf, SR10l, SBook, PKeep, SKeep, PKeep2, SKeep2. -/
import Derived.Test.YtdnoacgopfcpbaaGreatQ26
set_option linter.unusedVariables false
set_option linter.unusedSimpArgs false
namespace Go.Proofs.YtdnoacgopfcpbaaGreat
section
set_option maxRecDepth 100000
abbrev BrN:=Bs×(Option Addr×Nat)×List Bs
def Abi (x:BrN):Bs×List Bs:=(x.1,x.2.2)
abbrev BrM (x:BrN):HP:=SlI x.2.1.1 (x.2.2.map vS)
noncomputable def AgI (H:Ks):List Bs:=(AaY H).map (·.1)
noncomputable def AeR (H:Ks):List Bs:=Al1 (AdX ((AgI H).map (brH H)))
noncomputable def AjB (H:Ks) (b:Bs):Bs×List Bs:=(b,(AgI H).filter fun n=>decide (brH H n=b))
noncomputable def brL (H:Ks):List (Bs×List Bs):=(AeR H).map (AjB H)
def Ar4 (H:Ks) (pre:List BrN) (x:BrN):Prop:=∃r,brL H=pre.map Abi++Abi x::r
def Awh (H:Ks) (pre:List BrN):Prop:=pre≠[]∧∃r,brL H=pre.map Abi++r
def Axr (H:Ks) (all:List BrN):Prop:=all.map Abi=brL H
theorem Ajd {e sz k n' c':Nat} {a:Option Addr} {xs:List Value} {M:Kn} {h:Res} (x:(Row e sz (.slice a n' c') k xs).at_ M h) (hk:k≠0):a≠none:=by
 rcases x with ⟨_,h0,_⟩ | ⟨g,cap,cur,e1,_⟩
 · exact absurd h0 hk
 · cases e1;simp
abbrev BrI (br:Bs→Bs) (bm ba:Nat) (pre:List Bs):HP:=Ex fun s:(Option Addr×Nat)×List Gr=>Al [Pu (GOk br pre s.2),Ce ba 27 [.slice s.1.1 s.2.length s.1.2],Row 9 1 (.slice s.1.1 s.2.length s.1.2) s.2.length ((s.2.map (·.b)).map vS),MapS bm (grK s.2),GRs s.2]
theorem AvD {br:Bs→Bs} {pre:List Bs} {G:List Gr} (h:GOk br pre G) (n:Bs):∃oa on oc,(mlook (grK G) n).getD (.slice none 0 0)=.slice oa on oc∧((oa=none∧on=0∧oc=0∧n∉G.map (·.b))∨∃(i:Nat) (hi:i<G.length),G[i].b=n∧oa=G[i].a∧on=G[i].ns.length∧oc=G[i].c∧oa≠none):=by
 by_cases hm:n∈G.map (·.b)
 · obtain⟨g,hg,rfl⟩:=List.mem_map.1 hm
   obtain⟨i,hi,rfl⟩:=List.getElem_of_mem hg;refine⟨_,_,_,by rw[Aqc h.nd hg];rfl,.inr ⟨i,hi,rfl,rfl,rfl,rfl,(h.ns _ hg).2.2⟩⟩
 · exact⟨none,0,0,by rw[Agz (by rw[Afg];exact hm)];rfl,.inl ⟨rfl,rfl,rfl,hm⟩⟩
theorem AnT {H:Ks} {G:List Gr} (h:GOk (brH H) (AgI H) G):AdX (G.map (·.b))=AeR H:=by
 refine AnC ?_ (Ahu _ (AcF _)) fun k=>?_
 · have h1:=AcF (G.map (·.b))
   have h2:(AdX (G.map (·.b))).Nodup:=(AbB _).nodup_iff.2 h.nd;exact(List.Pairwise.and h1 h2).imp fun {a b} ⟨x,y⟩=>Std.lt_of_le_of_ne x y
 · rw [(AbB _).mem_iff,AeR,Ahv,(AbB _).mem_iff]
   constructor
   · intro hk
     obtain⟨g,hg,rfl⟩:=List.mem_map.1 hk;obtain⟨h1,h2,_⟩:=h.ns g hg;obtain⟨n,hn⟩:=List.exists_mem_of_ne_nil _ h2;rw[h1,List.mem_filter,decide_eq_true_iff] at hn;rw[←hn.2];exact List.mem_map_of_mem hn.1
   · intro hk
     obtain⟨n,hn,rfl⟩:=List.mem_map.1 hk;exact h.mem n hn
theorem Axq {H:Ks} {G:List Gr} (h:GOk (brH H) (AgI H) G) {b:Bs} (hb:b∈AeR H):∃g∈G,g.b=b∧(g.b,g.ns)=AjB H b∧(mlook (grK G) b).getD (.slice none 0 0)=.slice g.a g.ns.length g.c:=by
 rw[←AnT h,(AbB _).mem_iff] at hb;obtain⟨g,hg,rfl⟩:=List.mem_map.1 hb;refine⟨g,hg,rfl,?_,by rw[Aqc h.nd hg];rfl⟩;rw[AjB,←(h.ns g hg).1]
theorem AfF (m:Option Nat):Sp Tryz.prog 38 [.map m] [] (X:=Nat) (fun b=>.func (.func 84) #[] #[.pointer (some ⟨b,0,none⟩)]) (fun _=>True) (fun b=>[Ce b 31 [.map m]]):=by
 refine Sp.body (n:=4) Tryz.call38 Tryz.func38 rfl rfl rfl ?_;refine Qc (k:=Zx [_] (k:=fun b1=>Vv (k:=Wq (Qc (k:=Qv (k:=Wq (Zt (k:=?_))))))));exact Aa2 b1 (vs:=[_]) (Cs:=[]) rfl (.tmp rfl .nil) rfl trivial Aa0
set_option maxHeartbeats 16000000 in
theorem AfG (c b:Nat) (H:Ks) (hH:TxtK H) (hnd:(H.map (·.1)).Nodup) (hn:H.length≤1000000) :
    AqA Tryz.prog 84 [.pointer (some ⟨c,0,none⟩)] (fun x:BrN=>[vS x.1,.slice x.2.1.1 x.2.2.length x.2.1.2]) (Ar4 H) (Awh H) BrM (MapS b H) [Ce c 31 [.map (some b)]] [Ce c 31 [.map (some b)]] (Axr H) (fun _=>.tuple #[]):=by
 intro y Jy J0 Jx ys hj1 hj2;refine Sp.body (n:=52) Tryz.call84 Tryz.func84 rfl rfl rfl ?_;refine wc_ent' (Aga (hj1 []) (Ent.refl _)) ?_;refine Qc (k:=Zd (k:=?_));refine Aaq (Agq b H hH (by omega)) rfl rfl rfl (fun x hx=>?_);obtain⟨m1,m2,al⟩:=x;dsimp only at hx ⊢;have hf:=Ark hnd hx;have hB:∀name,Sp1 Tryz.prog 78 [.agg #[.map (some m1),.map (some m2)],vS name] [MX.MapS MX.pairE m1 (lsK (AbO H)),MapS m2 (ckK al),Aeh al] (vS (brH H name)) [MX.MapS MX.pairE m1 (lsK (AbO H)),MapS m2 (ckK al),Aeh al]:=fun name=>by
  have:=AeA m1 m2 al (AbO H) name hf.nd (fun x hx=>by have:=hf.pl x hx;omega) (by have:=hf.le;omega);rw[show al.map Abc=AaY H from hx] at this;exact this
 generalize lsK (AbO H)=lk1 at *;generalize ckK al=lk2 at *;refine Zc [.map none,.map none] (k:=fun b3=>Zp (k:=Wq (Qc (k:=?_))));refine r_mkmap rfl (fun b12=>?_);refine Zc [.map none] (k:=fun b4=>Zo (k:=Wq (Qc (k:=Zc [.slice none 0 0] (k:=fun b5=>Wq (Za (k:=Qc (k:=Zd (k:=?_)))))))));refine Aaq (AcS (some b)) rfl rfl rfl (fun cb _=>?_);refine Wq (Zb (k:=?_));refine Ada (fun pre=>[BrI (brH H) b12 b5 (pre.map (·.1)),Ce b3 140 [.map (some m1),.map (some m2)],Ce b4 150 [.map (some b12)],MX.MapS MX.pairE m1 lk1,MapS m2 lk2,Aeh al,Ce c 31 [.map (some b)],J0 [],MapS b H]) (fun j pre=>[Pu False]) (fun pre=>[BrI (brH H) b12 b5 (pre.map (·.1)),Ce b3 140 [.map (some m1),.map (some m2)],Ce b4 150 [.map (some b12)],MX.MapS MX.pairE m1 lk1,MapS m2 lk2,Aeh al,Ce c 31 [.map (some b)],J0 []]) rfl (AcT cb b H hH (by omega)) rfl (fun _=>by rfl) rfl (fun pre=>?_) (fun pre=>?_) ?_ (fun l pre x hok=>?_) (fun all hfin=>?_) (fun j pre hs=>?_)
 · exact Aa0
 · exact Aa0
 · (refine AdR ?_;refine AbV ((none,0),[]) (Acl (Adl (GOk.nil _) ?_));simp only[List.length_nil,List.map_nil,show grK []=[] from rfl];exact(AaS (e:=9) (sz:=1)).trans (gr_nil.trans Aa0))
 ·
  have hpl:=Aq1 hok;have hmp:(pre++[x]).map (fun x:CkN=>x.1)=pre.map (fun x:CkN=>x.1)++[x.1]:=by rw[List.map_append,List.map_cons,List.map_nil]
  have hpn:(pre.map fun x:CkN=>x.1).length=pre.length:=List.length_map ..;obtain⟨nm,xa,ck⟩:=x;dsimp only[ckV,AaZ] at hmp ⊢;generalize (pre.map fun x:CkN=>x.1)=pn at hmp hpn ⊢;refine wc_ent' (Af2 (.there .here)) ?_;refine AcE fun s=>?_;obtain⟨⟨sa,sc⟩,G⟩:=s;refine AdW (AfR fun hG=>?_);dsimp only at hG ⊢;have hGl:G.length≤pn.length:=hG.len;obtain⟨oa,on,oc,hlk,hoc⟩:=AvD hG (brH H nm);refine Zr (k:=Vv (k:=Wg (Zb (k:=Qc (k:=Zm [_,_] (k:=Vv (k:=?_)))))));refine Aaa (hB nm) rfl rfl rfl ?_;refine Vv (k:=Wq (Za (k:=Qc (k:=Zd (k:=Vv (k:=?_))))));refine r_lookup (v:=.slice oa on oc) Tryz.underlying150 Tryz.underlying9 Aok rfl rfl rfl hlk rfl ?_;refine Aa6 (Aoz Tryz.underlying27 rfl rfl) rfl ?_;refine Wq (Zi (t:=fun h23=>?_) (f:=fun h23=>?_))
  ·
   obtain⟨rfl,rfl,rfl,hno⟩:=hoc.resolve_right (fun ⟨_,_,_,_,_,_,hne⟩=>hne (Option.isNone_iff_eq_none.1 h23));refine wc_ent' (AaS (e:=9) (sz:=1)) ?_;refine Zr (k:=Zd (k:=Vv (k:=Zv [_] (cs:=[_]) (k:=fun b26=>?_))));refine Aao (sz:=1) (bytes:=16) Tryz.underlying27 ti9 rfl rfl rfl rfl rfl rfl rfl (by rfl) (by rfl) (by omega) (by simp only[maxLen];omega) rfl (fun a27 c27=>?_);refine Zo (k:=Wq (Dw [Ce b4 150 [.map (some b12)],MapS b12 (grK G)] (k:=?_)));refine Di 0 (t:=Ul) (k:=Dv 1 (k:=Di 2 (t:=Ul) (k:=Dv 3 (k:=?_))));refine Aa1 4 rfl rfl rfl (by kernel_rfl) (by kernel_rfl) (AhS Tryz.underlying150 Tryz.underlying9 Aok rfl rfl rfl hlk) ?_;refine Dv 5 (k:=Dn 6 (k:=Nl [_] (cs:=[_]) (k:=fun b34=>Dn 7 (k:=?_))));refine AaT (sz:=1) (bytes:=16) Tryz.underlying27 ti9 rfl rfl rfl rfl rfl rfl rfl (by rfl) (by rfl) (by omega) (by simp only[maxLen];omega) rfl (fun a35 c35=>?_);refine AiQ 8 (by kernel_rfl) rfl (by kernel_rfl) (by kernel_rfl) ?_;refine AgJ Tryz.underlying150 Tryz.underlying9 rfl rfl rfl ?_;refine Yb ?_
   first
   | (have hmore:=fun ha=>hG.more hi hbi a35 ha c35
      have hks:=As0 hG.nd hi (g:=⟨brH H nm,a35,c35,G[i].ns++[nm]⟩) hbi;have hmem:brH H nm∈G.map (·.b):=by rw[←hbi];exact List.mem_map_of_mem (f:=fun g:Gr=>g.b) (List.getElem_mem hi)
      have hkb:(G.set i ⟨brH H nm,a35,c35,G[i].ns++[nm]⟩).map (·.b)=G.map (·.b):=by
       have h1:=congrArg (List.map (·.1)) hks;rw[Ak5,Afg,Afg,if_pos hmem] at h1;exact h1.symm
      have hkl:(G.set i ⟨brH H nm,a35,c35,G[i].ns++[nm]⟩).length=G.length:=List.length_set;have hgv:grV ⟨brH H nm,a35,c35,G[i].ns++[nm]⟩=.slice a35 (G[i].ns.length+1) c35:=by rw[grV,List.length_append];rfl
      have hgr:AdQ ⟨brH H nm,a35,c35,G[i].ns++[nm]⟩=Row 9 1 (.slice a35 (G[i].ns.length+1) c35) (G[i].ns.length+1) (G[i].ns.map vS++[vS nm]):=by rw[AdQ,List.length_append,List.map_append];rfl
      rw[hgv] at hks;refine Agp (A:=Row 9 1 (.slice a35 (G[i].ns.length+1) c35) (G[i].ns.length+1) (G[i].ns.map vS++[vS nm])) HasC.get (fun x=>Ajd x (by omega)) (fun hs35=>?_);refine AaV ?_;rw[hmp];refine Ent.trans (AaA (A:=Row 9 1 (.slice a35 (G[i].ns.length+1) c35) (G[i].ns.length+1) (G[i].ns.map vS++[vS nm])) (AaA (A:=GRs (G.eraseIdx i)) (Ent.refl _))) ?_;rw[←hgr];refine Ent.trans (Aw0 hi ⟨brH H nm,a35,c35,G[i].ns++[nm]⟩) ?_;refine AbV ((sa,sc),G.set i ⟨brH H nm,a35,c35,G[i].ns++[nm]⟩) (Acl (Adl (hmore hs35) ?_));dsimp only;rw[←hks,hkb,hkl];exact Aa0)
   | (have hnew:=fun ha=>hG.new hno a35 ha c35
      have hkn:mput (grK G) (brH H nm) (.slice a35 (0+1) c35)=grK (G++[⟨brH H nm,a35,c35,[nm]⟩]):=As1 (g:=⟨brH H nm,a35,c35,[nm]⟩) hno;refine Agp (A:=Row 9 1 (.slice a35 (0+1) c35) (0+1) ([]++[vS nm])) HasC.get (fun x=>Ajd x (by omega)) (fun hs35=>?_);refine AaV ?_;rw[hmp];refine Ent.trans (AaA (A:=Row 9 1 (.slice a35 (0+1) c35) (0+1) ([]++[vS nm])) (AaA (A:=GRs G) (Ent.refl _))) ?_;refine Ent.trans (Aup (G:=G) ⟨brH H nm,a35,c35,[nm]⟩) ?_;refine AbV ((a27,c27),G++[⟨brH H nm,a35,c35,[nm]⟩]) (Acl (Adl (hnew hs35) ?_));dsimp only;rw[←hkn,List.map_append,List.map_append,List.length_append,List.map_cons,List.map_nil,List.map_cons,List.map_nil,List.length_singleton];dsimp only;exact Aa0)
  ·
   obtain⟨i,hi,hbi,rfl,rfl,rfl,hne⟩:=hoc.resolve_left (fun ⟨e,_⟩=>by rw[e] at h23;cases h23);have hnl:G[i].ns.length≤pn.length:=by
    rw[(hG.ns _ (List.getElem_mem hi)).1];exact List.length_filter_le _ _
   refine AdM (GRs G) ?_;refine wc_ent' (AwP hi) ?_;unfold AdQ;refine Zk (k:=Ya (Dw [Ce b4 150 [.map (some b12)],MapS b12 (grK G)] (k:=?_)));refine Di 0 (t:=Ul) (k:=Dv 1 (k:=Di 2 (t:=Ul) (k:=Dv 3 (k:=?_))));refine Aa1 4 rfl rfl rfl (by kernel_rfl) (by kernel_rfl) (AhS Tryz.underlying150 Tryz.underlying9 Aok rfl rfl rfl hlk) ?_;refine Dv 5 (k:=Dn 6 (k:=Nl [_] (cs:=[_]) (k:=fun b34=>Dn 7 (k:=?_))));refine AaT (sz:=1) (bytes:=16) Tryz.underlying27 ti9 rfl rfl rfl rfl rfl rfl rfl (by rfl) (by rfl) (by omega) (by simp only[maxLen];omega) rfl (fun a35 c35=>?_);refine AiQ 8 (by kernel_rfl) rfl (by kernel_rfl) (by kernel_rfl) ?_;refine AgJ Tryz.underlying150 Tryz.underlying9 rfl rfl rfl ?_;refine Yb ?_
   first
   | (have hmore:=fun ha=>hG.more hi hbi a35 ha c35
      have hks:=As0 hG.nd hi (g:=⟨brH H nm,a35,c35,G[i].ns++[nm]⟩) hbi;have hmem:brH H nm∈G.map (·.b):=by rw[←hbi];exact List.mem_map_of_mem (f:=fun g:Gr=>g.b) (List.getElem_mem hi)
      have hkb:(G.set i ⟨brH H nm,a35,c35,G[i].ns++[nm]⟩).map (·.b)=G.map (·.b):=by
       have h1:=congrArg (List.map (·.1)) hks;rw[Ak5,Afg,Afg,if_pos hmem] at h1;exact h1.symm
      have hkl:(G.set i ⟨brH H nm,a35,c35,G[i].ns++[nm]⟩).length=G.length:=List.length_set;have hgv:grV ⟨brH H nm,a35,c35,G[i].ns++[nm]⟩=.slice a35 (G[i].ns.length+1) c35:=by rw[grV,List.length_append];rfl
      have hgr:AdQ ⟨brH H nm,a35,c35,G[i].ns++[nm]⟩=Row 9 1 (.slice a35 (G[i].ns.length+1) c35) (G[i].ns.length+1) (G[i].ns.map vS++[vS nm]):=by rw[AdQ,List.length_append,List.map_append];rfl
      rw[hgv] at hks;refine Agp (A:=Row 9 1 (.slice a35 (G[i].ns.length+1) c35) (G[i].ns.length+1) (G[i].ns.map vS++[vS nm])) HasC.get (fun x=>Ajd x (by omega)) (fun hs35=>?_);refine AaV ?_;rw[hmp];refine Ent.trans (AaA (A:=Row 9 1 (.slice a35 (G[i].ns.length+1) c35) (G[i].ns.length+1) (G[i].ns.map vS++[vS nm])) (AaA (A:=GRs (G.eraseIdx i)) (Ent.refl _))) ?_;rw[←hgr];refine Ent.trans (Aw0 hi ⟨brH H nm,a35,c35,G[i].ns++[nm]⟩) ?_;refine AbV ((sa,sc),G.set i ⟨brH H nm,a35,c35,G[i].ns++[nm]⟩) (Acl (Adl (hmore hs35) ?_));dsimp only;rw[←hks,hkb,hkl];exact Aa0)
   | (have hnew:=fun ha=>hG.new hno a35 ha c35
      have hkn:mput (grK G) (brH H nm) (.slice a35 (0+1) c35)=grK (G++[⟨brH H nm,a35,c35,[nm]⟩]):=As1 (g:=⟨brH H nm,a35,c35,[nm]⟩) hno;refine Agp (A:=Row 9 1 (.slice a35 (0+1) c35) (0+1) ([]++[vS nm])) HasC.get (fun x=>Ajd x (by omega)) (fun hs35=>?_);refine AaV ?_;rw[hmp];refine Ent.trans (AaA (A:=Row 9 1 (.slice a35 (0+1) c35) (0+1) ([]++[vS nm])) (AaA (A:=GRs G) (Ent.refl _))) ?_;refine Ent.trans (Aup (G:=G) ⟨brH H nm,a35,c35,[nm]⟩) ?_;refine AbV ((a27,c27),G++[⟨brH H nm,a35,c35,[nm]⟩]) (Acl (Adl (hnew hs35) ?_));dsimp only;rw[←hkn,List.map_append,List.map_append,List.length_append,List.map_cons,List.map_nil,List.map_cons,List.map_nil,List.length_singleton];dsimp only;exact Aa0)
 ·
  simp only[List.cons_append,List.nil_append];rw[show all.map (fun x:CkN=>x.1)=AgI H from by
   unfold AgI;rw[←show all.map Abc=AaY H from hfin,List.map_map];rfl]
  refine Yb (Ya (Za (k:=?_)));refine AcE fun s=>?_;obtain⟨⟨sa,sc⟩,G⟩:=s;refine AdW (AfR fun hG=>?_);dsimp only at hG ⊢;refine AdM (GRs G) (AuV G ?_);have hGl:G.length≤1000000:=by
   have h1:=hG.len;have h2:=cksL_len' H;have h3:(AgI H).length=(AaY H).length:=List.length_map ..;omega
  have hbl:=AnT hG;have hbn:(AeR H).length=G.length:=by rw[←hbl,AhU,List.length_map]
  refine Zr (k:=Zd (k:=?_));refine Aaa (Ah8 sa G.length sc (G.map (·.b)) (List.length_map ..) (by omega)) rfl rfl rfl ?_;rw[hbl];refine Wq (Qc (k:=Zd (k:=Qv (k:=Wq (Zb (k:=?_))))));refine Aak (fun (i:{ x:Nat×List BrN // x.1≤G.length∧x.2.map Abi=((AeR H).take x.1).map (AjB H) })=>[(0,y),(4,.pointer (some ⟨b4,0,none⟩)),(38,.slice sa G.length sc),(39,vI G.length),(40,vI i.1.1)]) (fun (i:{ x:Nat×List BrN // x.1≤G.length∧x.2.map Abi=((AeR H).take x.1).map (AjB H) })=>[Jy i.1.2,Row 9 1 (.slice sa G.length sc) G.length ((AeR H).map vS),Ce b4 150 [.map (some b12)],MapS b12 (grK G),GIs G,Ce c 31 [.map (some b)]]) (fun (i:{ x:Nat×List BrN // x.1≤G.length∧x.2.map Abi=((AeR H).take x.1).map (AjB H) })=>G.length-i.1.1) rfl (⟨(0,[]),Nat.zero_le _,rfl⟩) ?_ ?_ (fun i=>?_)
  · exact⟨rfl,rfl,rfl,rfl,rfl,trivial⟩
  ·
   dsimp only;refine Af3 (hj2 []) ?_;exact Aa0
  obtain⟨⟨j,pre⟩,hj,hpre⟩:=i;dsimp only at hj hpre ⊢;try dsimp only
  refine Qc (k:=Vv (k:=Wq (Za (k:=Zi (t:=fun h41=>?_) (f:=fun h41=>?_)))))
  ·
   refine Zk (k:=Ya (Za (k:=Zb (k:=Za (k:=?_)))));have hjl:j<(AeR H).length:=by omega
   obtain⟨bb,hbb⟩:∃bb,bb=(AeR H)[j]:=⟨_,rfl⟩
   obtain⟨g,hg,hgb,hgo,hgl⟩:=Axq hG (b:=bb) (by rw[hbb];exact List.getElem_mem hjl);have hst:(AeR H).take (j+1)=(AeR H).take j++[bb]:=by rw[hbb];exact List.take_succ_eq_append_getElem hjl
   have hpre2:(pre++[(bb,(g.a,g.c),g.ns)]).map Abi=((AeR H).take (j+1)).map (AjB H):=by
    rw[hst,List.map_append,List.map_append,hpre];have:Abi (bb,(g.a,g.c),g.ns)=AjB H bb:=by rw[←hgo,←hgb];rfl
    rw[List.map_cons,List.map_nil,this];rfl
   have hall:brL H=((AeR H).take (j+1)).map (AjB H)++((AeR H).drop (j+1)).map (AjB H):=by
    rw[←List.map_append,List.take_append_drop];rfl
   rw[←hpre2] at hall;refine Zr (k:=?_);refine AaQ (m:=j) (sz:=1) Tryz.underlying27 ti9 rfl rfl rfl rfl (by omega) (by rw[List.length_map];omega) (Nat.mul_one _) rfl ?_;refine AbS Tryz.underlying9 rfl rfl ((Adg (m:=j) hjl).trans (by rw[←hbb])) rfl ?_;refine Vv (k:=Wq (Qc (k:=Qv (k:=Zd (k:=Vv (k:=?_))))));refine r_lookup (v:=.slice g.a g.ns.length g.c) Tryz.underlying150 Tryz.underlying9 Aok rfl rfl rfl hgl rfl ?_;refine wo_ent' (AwR hg HasC.get) ?_;refine ApF ys pre (bb,(g.a,g.c),g.ns) ⟨_,by rw[hall,List.map_append,List.append_assoc];rfl⟩ (PersC.get) rfl rfl rfl ?_ ?_
   ·
    refine Vv (k:=Wq (Z0 (k:=Zk (k:=Yb (Ya (Zr (k:=Qv (k:=Wn ?_))))))));refine Aa5 ⟨(j+1,pre++[(bb,(g.a,g.c),g.ns)]),by dsimp only;omega,hpre2⟩ (by dsimp only;omega) ⟨rfl,rfl,rfl,rfl,rfl,trivial⟩ ?_;dsimp only;exact Aa0
   ·
    refine Vv (k:=Wq (Z1 (k:=Zt (k:=Vb (Va (Vi (Vb ?_)))))));refine Aa2 (some (pre++[(bb,(g.a,g.c),g.ns)]),[]) (vs:=[]) (Cs:=[]) rfl .nil rfl ⟨fun q e=>by cases e;exact⟨by simp,_,hall⟩,fun e=>by cases e⟩ ?_;simp only[Acz];exact Aa0
  ·
   refine Ze (k:=Xa (Xi (Xb ?_)));have hjn:j=(AeR H).length:=by omega
   subst hjn;rw[List.take_length] at hpre;refine Acr (none,pre) (vs:=[]) (Cs:=[]) rfl .nil rfl ⟨(fun q e=>by cases e),fun _=>hpre⟩ ?_;simp only[Acz];exact Aa0
 ·
  exact AfS (fun s=>by obtain⟨_,_,_,_,a,_⟩:=s;exact a)
end
structure IntsV where
 a:Option Addr
 c:Nat
 l:List Int
def IntsV.cell (x:IntsV):Value:=.slice x.a x.l.length x.c
def IntsV.ok (w:World) (x:IntsV):Prop:=x.l.length≤9223372036854775807∧At w (SlI x.a (x.l.map vI))
theorem AfE {H:Type} {enc:TypeId×Value→H} {w:World} {spare:Nat→Bool} {held:Bool} {fuel:Nat} {cs:List Value} {x:DataW H×List MemPlace}
    (h:DataW.trod enc Tryz.prog w 0 spare held fuel 87 cs=some x):∃q:IntsV,cs=[q.cell]∧q.ok w:=by
 have ei:Tryz.prog.cellsOf 3=1:=by kernel_rfl
 obtain⟨a,k,l,g,b,s,_⟩:=Avo Tryz.underlying87 Tryz.underlying3 (by rw[ei];decide) h;exact⟨⟨a,k,l⟩,g,b,s⟩
theorem Aq9 {H:Type} {enc:TypeId×Value→H} {w:World} {spare:Nat→Bool} {held:Bool} {fuel:Nat} {cs:List Value} {x:DataW H×List MemPlace}
    (h:DataW.trod enc Tryz.prog w 0 spare held fuel 112 cs=some x):∃(b:Int) (q:IntsV),cs=[vI b,q.cell]∧q.ok w:=by
 have hl:=AoK Tryz.underlying112 h;have e2:Tryz.prog.cellsOf 112=2:=by kernel_rfl
 have ei:Tryz.prog.cellsOf 3=1:=by kernel_rfl
 have es:Tryz.prog.cellsOf 87=1:=by kernel_rfl
 rw[e2] at hl;obtain⟨m0,y0,f0⟩:=Abp Tryz.underlying112 h 0 3 0 1 rfl ei;obtain⟨m1,y1,f1⟩:=Abp Tryz.underlying112 h 1 87 1 1 rfl es
 match cs,hl with
 | [c0,c1],_ =>
   simp only[List.drop_zero,List.drop_succ_cons,List.take_succ_cons,List.take_zero] at f0 f1;obtain⟨n0,g0,_,_⟩:=DataW.trod_int Tryz.underlying3 f0;obtain⟨q,g1,hq⟩:=AfE f1
   cases g0;cases g1;exact⟨n0,q,rfl,hq⟩
theorem Am7 {H:Type} {enc:TypeId×Value→H} {w:World} {spare:Nat→Bool} {held:Bool} {fuel:Nat} {cs:List Value} {x:DataW H×List MemPlace}
    (h:DataW.trod enc Tryz.prog w 0 spare held fuel 114 cs=some x):∃(base d u tb:Int) (q1 q2 q3 q4 q5:IntsV),cs=[vI base,vI d,vI u,vI tb,q1.cell,q2.cell,q3.cell,q4.cell,q5.cell]∧q1.ok w∧q2.ok w∧q3.ok w∧q4.ok w∧q5.ok w:=by
 have hl:=AoK Tryz.underlying114 h;have e9:Tryz.prog.cellsOf 114=9:=by kernel_rfl
 have e2:Tryz.prog.cellsOf 112=2:=by kernel_rfl
 have ei:Tryz.prog.cellsOf 3=1:=by kernel_rfl
 have es:Tryz.prog.cellsOf 87=1:=by kernel_rfl
 rw[e9] at hl;obtain⟨m0,y0,f0⟩:=Abp Tryz.underlying114 h 0 3 0 1 rfl ei;obtain⟨m1,y1,f1⟩:=Abp Tryz.underlying114 h 1 3 1 1 rfl ei;obtain⟨m2,y2,f2⟩:=Abp Tryz.underlying114 h 2 3 2 1 rfl ei;obtain⟨m3,y3,f3⟩:=Abp Tryz.underlying114 h 3 112 3 2 rfl e2;obtain⟨m4,y4,f4⟩:=Abp Tryz.underlying114 h 4 87 5 1 rfl es;obtain⟨m5,y5,f5⟩:=Abp Tryz.underlying114 h 5 87 6 1 rfl es;obtain⟨m6,y6,f6⟩:=Abp Tryz.underlying114 h 6 87 7 1 rfl es;obtain⟨m7,y7,f7⟩:=Abp Tryz.underlying114 h 7 87 8 1 rfl es
 match cs,hl with
 | [c0,c1,c2,c3,c4,c5,c6,c7,c8],_ =>
   simp only[List.drop_zero,List.drop_succ_cons,List.take_succ_cons,List.take_zero] at f0 f1 f2 f3 f4 f5 f6 f7;obtain⟨n0,g0,_,_⟩:=DataW.trod_int Tryz.underlying3 f0;obtain⟨n1,g1,_,_⟩:=DataW.trod_int Tryz.underlying3 f1;obtain⟨n2,g2,_,_⟩:=DataW.trod_int Tryz.underlying3 f2;obtain⟨b,q1,g3,h1⟩:=Aq9 f3;obtain⟨q2,g4,h2⟩:=AfE f4;obtain⟨q3,g5,h3⟩:=AfE f5;obtain⟨q4,g6,h4⟩:=AfE f6;obtain⟨q5,g7,h5⟩:=AfE f7
   cases g0;cases g1;cases g2;cases g3;cases g4;cases g5;cases g6;cases g7;exact⟨n0,n1,n2,b,q1,q2,q3,q4,q5,rfl,h1,h2,h3,h4,h5⟩
theorem Am6 {H:Type} {enc:TypeId×Value→H} {w:World} {spare:Nat→Bool} {held:Bool} {fuel:Nat} {cs:List Value} {x:DataW H×List MemPlace}
    (h:DataW.trod enc Tryz.prog w 0 spare held fuel 116 cs=some x):∃(d u:Int) (q1 q2:IntsV),cs=[vI d,vI u,q1.cell,q2.cell]∧q1.ok w∧q2.ok w:=by
 have hl:=AoK Tryz.underlying116 h;have e4:Tryz.prog.cellsOf 116=4:=by kernel_rfl
 have ei:Tryz.prog.cellsOf 3=1:=by kernel_rfl
 have es:Tryz.prog.cellsOf 87=1:=by kernel_rfl
 rw[e4] at hl;obtain⟨m0,y0,f0⟩:=Abp Tryz.underlying116 h 0 3 0 1 rfl ei;obtain⟨m1,y1,f1⟩:=Abp Tryz.underlying116 h 1 3 1 1 rfl ei;obtain⟨m2,y2,f2⟩:=Abp Tryz.underlying116 h 2 87 2 1 rfl es;obtain⟨m3,y3,f3⟩:=Abp Tryz.underlying116 h 3 87 3 1 rfl es
 match cs,hl with
 | [c0,c1,c2,c3],_ =>
   simp only[List.drop_zero,List.drop_succ_cons,List.take_succ_cons,List.take_zero] at f0 f1 f2 f3;obtain⟨n0,g0,_,_⟩:=DataW.trod_int Tryz.underlying3 f0;obtain⟨n1,g1,_,_⟩:=DataW.trod_int Tryz.underlying3 f1;obtain⟨q2,g2,h2⟩:=AfE f2;obtain⟨q3,g3,h3⟩:=AfE f3
   cases g0;cases g1;cases g2;cases g3;exact⟨n0,n1,q2,q3,rfl,h2,h3⟩
section
set_option maxRecDepth 100000
theorem AwJ {s:Bs} (h:isN s=true):s.length≤40:=by rw[AdP h];omega
end
section
set_option maxRecDepth 100000
def Aar (n lo hi:Int):Int:=lo+n % (hi-lo+1)
theorem AbA {n lo hi:Int} (h:lo≤hi):lo≤Aar n lo hi∧Aar n lo hi≤hi:=by
 have h1:=Int.emod_nonneg n (show hi-lo+1≠0 by omega);have h2:=Int.emod_lt_of_pos n (show 0<hi-lo+1 by omega);unfold Aar;omega
theorem AqF (n m:Int) (hm:1≤m):(0≤n.tmod m∧n.tmod m=n % m∨n.tmod m<0∧n.tmod m+m=n % m)∧-m<n.tmod m∧n.tmod m<m:=by
 have e1:=Int.emod_nonneg n (show m≠0 by omega);have e2:=Int.emod_lt_of_pos n (show 0<m by omega);have hd:=Int.emod_emod_of_dvd n (Int.dvd_refl m);rcases Int.lt_or_le n 0 with h | h
 · have h2:n.tmod m = -((-n) % m):=by
     have:n = -(-n):=by omega
     conv=>lhs;rw[this]
     rw[Int.neg_tmod,Int.tmod_eq_emod_of_nonneg (by omega)]
   have e3:=Int.emod_nonneg (-n) (show m≠0 by omega);have e4:=Int.emod_lt_of_pos (-n) (show 0<m by omega);have hs:(n % m+(-n) % m) % m=0:=by
    rw[←Int.add_emod,Int.add_right_neg,Int.zero_emod]
   by_cases hz:(-n) % m=0
   · have:n % m=0:=by
       rw[hz,Int.add_zero,Int.emod_emod_of_dvd n (Int.dvd_refl m)] at hs;exact hs
     rw[h2,hz,this];omega
   · have hsum:n % m+(-n) % m=m:=by
       have hpos:0<n % m+(-n) % m:=by omega
       have hlt:n % m+(-n) % m<m+m:=by omega
       have hge:m≤n % m+(-n) % m:=by
        apply Classical.byContradiction;intro hc;rw[Int.emod_eq_of_lt (by omega) (by omega)] at hs;omega
       have:(n % m+(-n) % m-m) % m=0:=by rw[Int.sub_emod,hs];simp
       rw[Int.emod_eq_of_lt (by omega) (by omega)] at this;omega
     rw[h2];omega
 · rw[Int.tmod_eq_emod_of_nonneg h];omega
theorem ArC {G:Prop} (h:G:=by exact Aa2 () (vs:=[_]) rfl (.tmp rfl .nil) (by rw[hw];exact congrArg vI (by omega)) trivial Aad):G:=h
theorem Aaf (n lo hi:Int) (h1:-1099511627776≤lo) (h2:lo≤hi) (h3:hi≤1099511627776):SpF Tryz.prog 26 [vI n,vI lo,vI hi] (vI (Aar n lo hi)):=by
 have hc:=AqF n (hi-lo+1) (by omega);have hw:Aar n lo hi=lo+n % (hi-lo+1):=rfl;refine Sp.body (n:=24) Tryz.call26 Tryz.func26 rfl rfl rfl ?_;refine Qc (k:=Vv (k:=Wq (Qc (k:=Qv (k:=Qv (k:=Vv (k:=?_)))))));refine Aa6 (AoA rfl rfl (by omega)) rfl ?_;refine Vv (k:=Wq (Za (k:=Qc (k:=Qv (k:=Wq (Zi (t:=fun h14=>?_) (f:=fun h14=>?_)))))))
 ·
  refine Zr (k:=Qv (k:=Qv (k:=Qv (k:=Vv (k:=Wq (Qc (k:=Vv (k:=?_))))))));refine Qv (k:=Vv (k:=Wq (Zt (k:=?_))));exact ArC
 ·
  refine Zk (k:=Ya (Qc (k:=Qv (k:=Qv (k:=Wq (Zt (k:=?_)))))));exact ArC
end
def Ag3 (l:List Int) (i:Int):Int:=if l.length=0 then 0 else l.getD (i % (l.length:Int)).toNat 0
def piecesL:List Bs:=["line one\n".toUTF8.data.toList, "the second line is longer\n".toUTF8.data.toList, "x".toUTF8.data.toList, "0;".toUTF8.data.toList, "abcabcabc".toUTF8.data.toList, "\n".toUTF8.data.toList, "3:xyz".toUTF8.data.toList, "tail of it all".toUTF8.data.toList]
def beginL:List Bs:=["".toUTF8.data.toList, "a common beginning of some texts, long enough for deltas between these; ".toUTF8.data.toList, "another beginning, of other texts, as long as the first one is, or a bit longer; ".toUTF8.data.toList]
def wordsL:List Bs:=["a".toUTF8.data.toList, "branch".toUTF8.data.toList, "c.txt".toUTF8.data.toList, "d/e".toUTF8.data.toList, "rel-1".toUTF8.data.toList, "zz".toUTF8.data.toList]
def AfL (b x:Int):Bs:=piecesL.getD (Aar (IntKind.i64.wrap (x+bits .and .i64 b 1)) 0 7).toNat []
def Acn (b:Int):List Int→Bs→Bs
 | [],out=>out
 | x::r,out=>if out.length<170 then Acn b r (out++AfL b x) else out
def AdD (b:Int) (l:List Int):Bs:=Acn b l []
def AnM (b:Int) (l:List Int) (n:Int):Bs:=beginL.getD (Aar n 0 2).toNat []++(AdD b l).take 160
def AfJ (n:Int):Bs:=AnM 0 [Aar n 0 15,Aar n 0 15 / 2,Aar n 0 15 / 4] (Aar n 0 15 % 3)
def Abx (n:Int):Bs:=AcX (AfJ n)
theorem AqI {b:Int} (l:List Int):∀(out:Bs) (j:Nat),j<l.length→(∀i,i≤j→(Acn b (l.take i) out).length<170)→Acn b (l.take (j+1)) out=Acn b (l.take j) out++AfL b (l.getD j 0):=by
 induction l with
 | nil=>intro out j h;simp at h
 | cons x r ih =>
   intro out j h hs;have h0:=hs 0 (Nat.zero_le _);simp only[List.take_zero,Acn] at h0
   cases j with
   | zero=>simp[Acn,h0]
   | succ j =>
     simp only[List.take_succ_cons,Acn,h0,if_true,List.getD_cons_succ];refine ih (out++AfL b x) j (by simpa using h) (fun i hi=>?_);have:=hs (i+1) (by omega);simp only[List.take_succ_cons,Acn,h0,if_true] at this;exact this
theorem AqJ {b:Int} (l:List Int):∀(out:Bs) (j:Nat),j≤l.length→(∀i,i<j→(Acn b (l.take i) out).length<170)→(j<l.length→170≤(Acn b (l.take j) out).length)→Acn b l out=Acn b (l.take j) out:=by
 induction l with
 | nil=>intro out j h _ _;simp
 | cons x r ih =>
   intro out j h hs he
   cases j with
   | zero =>
     have:=he (by simp);simp only[List.take_zero,Acn] at this ⊢;rw[if_neg (by omega)]
   | succ j =>
     have h0:=hs 0 (by omega);simp only[List.take_zero,Acn] at h0;simp only[List.take_succ_cons,Acn,h0,if_true];refine ih (out++AfL b x) j (by simpa using h) (fun i hi=>?_) (fun hj=>?_)
     · have:=hs (i+1) (by omega)
       simp only[List.take_succ_cons,Acn,h0,if_true] at this;exact this
     · have:=he (by simp;omega)
       simp only[List.take_succ_cons,Acn,h0,if_true] at this;exact this
theorem AlU (b x:Int):(AfL b x).length≤26:=by
 unfold AfL;have:∀p∈piecesL,p.length≤26:=by decide
 by_cases h:(Aar (IntKind.i64.wrap (x+bits .and .i64 b 1)) 0 7).toNat<piecesL.length
 · exact this _ (by simp[h])
 · simp[h]
theorem Ar0 (b x:Int):(90:UInt8)∉AfL b x:=by
 unfold AfL;have:∀p∈piecesL,(90:UInt8)∉p:=by decide
 by_cases h:(Aar (IntKind.i64.wrap (x+bits .and .i64 b 1)) 0 7).toNat<piecesL.length
 · exact this _ (by simp[h])
 · simp[h]
theorem App (b:Int) (l:List Int):∀out:Bs,out.length≤195→(90:UInt8)∉out→(Acn b l out).length≤195∧(90:UInt8)∉Acn b l out:=by
 induction l with
 | nil=>intro out h1 h2;exact⟨h1,h2⟩
 | cons x r ih =>
   intro out h1 h2;simp only[Acn];split
   · refine ih _ ?_ ?_
     · rw[List.length_append];have:=AlU b x;omega
     · rw[List.mem_append];exact fun h=>h.elim h2 (Ar0 b x)
   · exact⟨h1,h2⟩
theorem AnA (b:Int) (l:List Int):(AdD b l).length≤195:=(App b l [] (Nat.zero_le _) (by simp)).1
theorem AsK (b:Int) (l:List Int) (n:Int):(AnM b l n).length≤300:=by
 unfold AnM;have h1:∀p∈beginL,p.length≤90:=by decide
 have h2:(beginL.getD (Aar n 0 2).toNat []).length≤90:=by
  by_cases h:(Aar n 0 2).toNat<beginL.length
  · exact h1 _ (by simp[h])
  · simp[h]
 rw[List.length_append,List.length_take];omega
theorem Akd (n:Int):(AfJ n).length≤300:=AsK _ _ _
section
set_option maxRecDepth 100000
theorem Aii:Sp Tryz.prog 165 [] [] (X:=Nat) (fun b=>.slice (some ⟨b,0,none⟩) 6 6) (fun _=>True) (fun b=>[Ce b 9 (wordsL.map vS)]):=by
 refine Sp.body (n:=2) Tryz.call165 Tryz.func165 rfl rfl rfl ?_;refine Qc (k:=Vv (k:=Wq (Qc (k:=Zv [_,_,_,_,_,_] (cs:=[_,_,_,_,_,_]) (k:=fun b1=>Vv (k:=Wq (Zt (k:=?_))))))));exact Aa2 b1 (vs:=[_]) (Cs:=[]) rfl (.tmp rfl .nil) rfl trivial (Aac (AaH (by rfl) (by rfl)) Aad)
theorem AeQ {B:HP} {a:Option Addr} (c:Nat) (l:List Int) (i:Int) (hi:0≤i) (hl:l.length≤9223372036854775807) (sh:SlA B a (l.map vI)) :
    Sp1 Tryz.prog 119 [.slice a l.length c,vI i] [B] (vI (Ag3 l i)) [B]:=by
 haveI:Abu a (l.map vI) [B]:=⟨⟨B,sh,.here⟩⟩
 refine Sp.body (n:=15) Tryz.call119 Tryz.func119 rfl rfl rfl ?_;refine Qc (k:=Vv (k:=Wq (Za (k:=Qc (k:=Qv (k:=Vv (k:=Wq (Zi (t:=fun h7=>?_) (f:=fun h7=>?_)))))))))
 ·
  refine Qc (k:=Vv (k:=Wq (Zt (k:=Va ?_))));rw[Ag3,if_pos (by omega)];exact Aa2 () (vs:=[_]) (Cs:=[]) rfl (.tmp rfl .nil) rfl trivial Aa0
 ·
  refine Zk (k:=Ya (Za (k:=?_)));have hm1:=Int.emod_nonneg i (show (l.length:Int)≠0 by omega);have hm2:=Int.emod_lt_of_pos i (show 0<(l.length:Int) by omega);have hpk:Ag3 l i=l.getD (i % (l.length:Int)).toNat 0:=if_neg (by omega);rw[hpk];generalize hk:(i % (l.length:Int)).toNat=k;have hik:i % (l.length:Int)=(k:Int):=by omega
  refine Zr (k:=Qv (k:=Qv (k:=Vv (k:=?_))));rw[hik];refine Ye 1 (k:=Yl (hv:=by exact Aa4 0 (m:=k) (by omega)) (k:=Vv (k:=Wq (Zt (k:=?_)))));exact Aa2 () (vs:=[_]) (Cs:=[]) rfl (.tmp rfl .nil) rfl trivial Aa0
theorem Anr {G:Prop} (h:G:=by
    have he:AdD b l=Acn b (l.take j) []:=AqJ l [] j hj hs (fun h=>by omega);rw[he];exact Aa2 () (vs:=[_]) (Cs:=[]) rfl (.tmp rfl .nil) rfl trivial Aa0):G:=h
set_option maxHeartbeats 1000000 in
theorem Ajo {B:HP} {a:Option Addr} (c:Nat) (b:Int) (l:List Int) (hl:l.length≤9223372036854775807) (sh:SlA B a (l.map vI)) :
    Sp1 Tryz.prog 136 [.agg #[vI b,.slice a l.length c]] [B] (vS (AdD b l)) [B]:=by
 haveI:Abu a (l.map vI) [B]:=⟨⟨B,sh,.here⟩⟩
 refine Sp.body (n:=38) Tryz.call136 Tryz.func136 rfl rfl rfl ?_;refine Qc (k:=Zx [_,_] (k:=fun b1=>Vv (k:=Wq (Qc (k:=Zv [_,_,_,_,_,_,_,_] (cs:=[_,_,_,_,_,_,_,_]) (k:=fun b6=>Vv (k:=Wq (Qc (k:=?_)))))))));refine Vv (k:=Wq (Za (k:=Qc (k:=Vv (k:=Wq (Zb (k:=?_)))))));refine Aak (fun (i:{ j:Nat // j≤l.length∧∀i,i<j→(Acn b (l.take i) []).length<170 })=>[(1,.pointer (some ⟨b1,0,none⟩)),(3,.slice (some ⟨b6,0,none⟩) 8 8),(4,vS (Acn b (l.take i.1) [])),(5,vI i.1)]) (fun (i:{ j:Nat // j≤l.length∧∀i,i<j→(Acn b (l.take i) []).length<170 })=>[Ce b6 9 (piecesL.map vS),Ce b1 112 [vI b,.slice a l.length c],B]) (fun (i:{ j:Nat // j≤l.length∧∀i,i<j→(Acn b (l.take i) []).length<170 })=>l.length-i.1) rfl (⟨0,Nat.zero_le _,fun i h=>by omega⟩) ?_ ?_ (fun i=>?_)
 · exact⟨rfl,rfl,rfl,rfl,trivial⟩
 ·
  exact Aac (AaH (by rfl) (by rfl)) Aa0
 obtain⟨j,hj,hs⟩:=i;dsimp only;have hz:=(App b (l.take j) [] (Nat.zero_le _) (by simp)).1;try dsimp only
 refine Za (k:=Qc (k:=Vv (k:=Qx 1 87 (k:=Qv (k:=Vv (k:=Gi 5 (t:=fun h12=>?_) (f:=fun h12=>?_)))))))
 ·
  refine J1 (k:=J1 (k:=J1 (k:=P1 (k:=Wq (Zi (t:=fun h16=>?_) (f:=fun h16=>?_))))))
  ·
   refine Zk (k:=Ya (Za (k:=Zb (k:=?_))));have hjl:j<l.length:=by omega
   obtain⟨out,hout⟩:∃out,out=Acn b (l.take j) []:=⟨_,rfl⟩
   rw[←hout] at hz h16 ⊢;have hst:Acn b (l.take (j+1)) []=out++AfL b (l.getD j 0):=by
    rw[hout];refine AqI l [] j hjl (fun i hi=>?_);by_cases e:i=j
    · rw[e,←hout];omega
    · exact hs i (by omega)
   have hw:=AbA (n:=IntKind.i64.wrap (l.getD j 0+bits .and .i64 b 1)) (show (0:Int)≤7 by omega);have hpl:=AlU b (l.getD j 0);have hpe:AfL b (l.getD j 0)=piecesL.getD (Aar (IntKind.i64.wrap (l.getD j 0+bits .and .i64 b 1)) 0 7).toNat []:=rfl;generalize hk:(Aar (IntKind.i64.wrap (l.getD j 0+bits .and .i64 b 1)) 0 7).toNat=k at hpe;have hwk:Aar (IntKind.i64.wrap (l.getD j 0+bits .and .i64 b 1)) 0 7=(k:Int):=by omega
   have hpn:piecesL.length=8:=rfl;have hk8:k<piecesL.length:=by omega
   refine Dw [Ce b6 9 (piecesL.map vS),Ce b1 112 [vI b,.slice a l.length c],B] (k:=?_);refine Dv 0 (k:=Dv 1 (k:=Di 2 (t:=Uf 1 87) (k:=Di 3 (t:=Ul) (k:=Dv 4 (k:=?_)))));refine Aa1 5 rfl rfl rfl (by kernel_rfl) (by kernel_rfl) (Aae (sz:=1) Tryz.underlying87 ti3 rfl rfl rfl rfl (by omega) (by first | (rw[List.length_map];omega) | (rw[Aaj (sz:=1) (fun _=>rfl)];omega) | (simp;omega)) (Nat.mul_one _)) ?_;refine Aa1 6 rfl rfl rfl (by kernel_rfl) (by kernel_rfl) (Aas Tryz.underlying3 rfl rfl (Aa4 0 hjl)) ?_;refine Di 7 (t:=Uf 0 3) (k:=Di 8 (t:=Ul) (k:=?_));refine Aa1 9 rfl rfl rfl (by kernel_rfl) (by kernel_rfl) (Aat (AlS rfl rfl)) ?_;refine Aa1 10 rfl rfl rfl (by kernel_rfl) (by kernel_rfl) (Aat (ArQ rfl rfl)) ?_;refine Dv 11 (k:=Dv 12 (k:=Dv 13 (k:=Dn 14 (k:=?_))));refine Aal (Aaf _ 0 7 (by omega) (by omega) (by omega)) rfl rfl rfl ?_;rw[hwk];refine Aa1 15 rfl rfl rfl (by kernel_rfl) (by kernel_rfl) (Aae (sz:=1) Tryz.underlying27 ti9 rfl rfl rfl rfl (by omega) (by first | (rw[List.length_map];omega) | (rw[Aaj (sz:=1) (fun _=>rfl)];omega) | (simp;omega)) (Nat.mul_one _)) ?_;refine Aa1 16 rfl rfl rfl (by kernel_rfl) (by kernel_rfl) (Aas Tryz.underlying9 rfl rfl (Aa4 [] hk8)) ?_;refine Aa1 17 rfl rfl rfl (by kernel_rfl) (by kernel_rfl) (Aat (AiI rfl rfl (by rw[←hpe];omega))) ?_;refine Dv 18 (k:=Dd (k:=Yb (Ya (Zr (k:=Qv (k:=Vv (k:=Wn ?_)))))));refine Aa5 ⟨j+1,by omega,fun i hi=>?_⟩ (by dsimp only;omega) ⟨rfl,rfl,Ax1 (by dsimp only;rw[hst,hpe]),rfl,trivial⟩ Aa0;by_cases e:i=j
   · rw[e,←hout];omega
   · exact hs i (by omega)
  ·
   refine Ze (k:=Xa (Xi (Xb (Ya (Qc (k:=Qv (k:=Wq (Zt (k:=?_)))))))));exact Anr
 ·
  refine O0 (k:=O0 (k:=O0 (k:=P0 (k:=Wq (Z0 (k:=Ze (k:=Xa (Xi (Xb (Ya (Za (k:=?_))))))))))));refine Zr (k:=Qv (k:=Wq (Zt (k:=?_))));exact Anr
theorem AnB (t:Bs) (m:Nat):t.take (min t.length m)=t.take m:=by
 by_cases h:t.length≤m
 · rw[Nat.min_eq_left h,List.take_length,List.take_of_length_le h]
 · rw[Nat.min_eq_right (by omega)]
theorem AoR {B:HP} {a:Option Addr} (c:Nat) (b:Int) (l:List Int) (n:Int) (hl:l.length≤9223372036854775807) (sh:SlA B a (l.map vI)) :
    Sp1 Tryz.prog 96 [.agg #[vI b,.slice a l.length c],vI n] [B] (vS (AnM b l n)) [B]:=by
 have hT:=Ajo c b l hl sh;have hz:=AnA b l;have hw:=AbA (n:=n) (show (0:Int)≤2 by omega);have hlb:AnM b l n=beginL.getD (Aar n 0 2).toNat []++(AdD b l).take 160:=rfl;have hbl:(beginL.getD (Aar n 0 2).toNat []).length≤90:=by
  have h1:∀p∈beginL,p.length≤90:=by decide
  by_cases h:(Aar n 0 2).toNat<beginL.length
  · exact h1 _ (by simp[h])
  · simp[h]
 generalize hk:(Aar n 0 2).toNat=k at hlb hbl;have hwk:Aar n 0 2=(k:Int):=by omega
 have hbn:beginL.length=3:=rfl;have hk3:k<beginL.length:=by omega
 refine Sp.body (n:=21) Tryz.call96 Tryz.func96 rfl rfl rfl ?_;refine Qc (k:=Zx [_,_] (k:=fun b2=>Vv (k:=Wq (Qc (k:=Zv [_,_,_] (cs:=[_,_,_]) (k:=fun b7=>Vv (k:=Wq (Qc (k:=?_)))))))));refine Zm [_,_] (k:=?_);refine Aaa hT rfl rfl rfl ?_;refine Vv (k:=Wq (Za (k:=?_)));refine wc_ent' (Gs:=[Ce b7 9 (beginL.map vS),B]) (Aac (AaH (by rfl) (by rfl)) Aa0) ?_;refine Dw [Ce b7 9 (beginL.map vS)] (k:=?_);refine Dv 0 (k:=Dv 1 (k:=Dv 5 (k:=Dv 6 (k:=Dv 7 (k:=Dv 8 (k:=?_))))));refine Aa1 9 rfl rfl rfl (by kernel_rfl) (by kernel_rfl) (Aat (Acd (m:=min (AdD b l).length 160) Tryz.underlying9 rfl rfl (by omega) (by omega))) ?_;refine Dn 2 (k:=?_);refine Aal (Aaf n 0 2 (by omega) (by omega) (by omega)) rfl rfl rfl ?_;rw[hwk];refine Aa1 3 rfl rfl rfl (by kernel_rfl) (by kernel_rfl) (Aae (sz:=1) Tryz.underlying27 ti9 rfl rfl rfl rfl (by omega) (by first | (rw[List.length_map];omega) | (rw[Aaj (sz:=1) (fun _=>rfl)];omega) | (simp;omega)) (Nat.mul_one _)) ?_;refine Aa1 4 rfl rfl rfl (by kernel_rfl) (by kernel_rfl) (Aas Tryz.underlying9 rfl rfl (Aa4 [] hk3)) ?_;refine Aa1 10 rfl rfl rfl (by kernel_rfl) (by kernel_rfl) (Aat (AiI rfl rfl (by rw[List.length_take];omega))) ?_;refine Dv 11 (k:=Dd (k:=Ya (Zt (k:=?_))));rw[hlb,←AnB];exact Aa2 () (vs:=[_]) (Cs:=[]) rfl (.tmp rfl .nil) rfl trivial Aa0
theorem Aez (n:Int):SpF Tryz.prog 45 [vI n] (vS (AfJ n)):=by
 have hw:=AbA (n:=n) (show (0:Int)≤15 by omega);have hc:AfJ n=AnM 0 [Aar n 0 15,Aar n 0 15 / 2,Aar n 0 15 / 4] (Aar n 0 15 % 3):=rfl;rw[hc];refine Sp.body (n:=16) Tryz.call45 Tryz.func45 rfl rfl rfl ?_;refine Qc (k:=Vv (k:=Wq (Qc (k:=Vv (k:=?_)))));refine Aag (Aaf n 0 15 (by omega) (by omega) (by omega)) rfl rfl rfl ?_;clear hc;generalize Aar n 0 15=k at hw ⊢;refine Vv (k:=Wq (Qc (k:=Qv (k:=Qv (k:=Vv (k:=Zv [_,_,_] (cs:=[_,_,_]) (k:=fun b11=>Vx (Ps [.int .i64 0,_]) (k:=Vv (k:=?_)))))))));refine Vv (k:=?_);refine Aaa (AoR (B:=Ce b11 3 [vI k,vI (k / 2),vI (k / 4)]) (a:=some ⟨b11,0,none⟩) 3 0 [k,k / 2,k / 4] (k % 3) (by simp) AqN) rfl rfl rfl ?_;refine Vv (k:=Wq (Zt (k:=?_)));exact Aa2 () (vs:=[_]) (Cs:=[]) rfl (.tmp rfl .nil) rfl trivial Aad
theorem Adf (n:Int):SpF Tryz.prog 116 [vI n] (vS (Abx n)):=by
 have hz:=Akd n;refine Sp.body (n:=6) Tryz.call116 Tryz.func116 rfl rfl rfl ?_;refine Qc (k:=Vv (k:=Wq (Qc (k:=Vv (k:=?_)))));refine Aag (Aez n) rfl rfl rfl ?_;refine Aag (AdH (AfJ n) (by omega)) rfl rfl rfl ?_;refine Vv (k:=Wq (Zt (k:=?_)));exact Aa2 () (vs:=[_]) (Cs:=[]) rfl (.tmp rfl .nil) rfl trivial Aad
end
def kindC:Bs:=[43,42,45,42]
def tvalL:List Bs:=["".toUTF8.data.toList, "trunk".toUTF8.data.toList, "b one".toUTF8.data.toList, "x".toUTF8.data.toList]
theorem Afe (n:Int):isN (Abx n)=true:=decide_eq_true ⟨Aeq _,Ajb _⟩
abbrev Aqx (own:Bool) (t:Bs):Prop:=(own=true→t=[42])∧(own=false→∃n,t=Abx n)
structure Axv (own:Bool) (t:Tg):Prop where
 kind:t.kind.toNat=43∨t.kind.toNat=42∨(t.kind.toNat=45∧t.value=[])
 val:t.value.length≤12
 tgt:Aqx own t.target
structure KTags (own:Bool) (j:Nat) (l:List Tg):Prop where
 len:l.length≤3
 tag:∀t∈l,Axv own t
 name:∀t∈l,∃i,i<j∧t.name=wordsL.getD i []
 rise:l.Pairwise (fun x y=>blt x.name y.name=true)
theorem AlB:∀i j,i<j→j<6→blt (wordsL.getD i []) (wordsL.getD j [])=true:=by
 have:∀i:Fin 6,∀j:Fin 6,i.1<j.1→blt (wordsL.getD i.1 []) (wordsL.getD j.1 [])=true:=by decide
 exact fun i j h1 h2=>this ⟨i,by omega⟩ ⟨j,h2⟩ h1
theorem Ah1:∀i,i<6→Acm (wordsL.getD i [])∧(wordsL.getD i []).length≤10:=by
 have:∀i:Fin 6,Acm (wordsL.getD i.1 [])∧(wordsL.getD i.1 []).length≤10:=by decide
 exact fun i h=>this ⟨i,h⟩
theorem KTags.snoc {own:Bool} {j:Nat} {l:List Tg} {t:Tg} (h:KTags own j l) (hj:j<6) (hl:l.length≤2) (hk:Axv own t) (hn:t.name=wordsL.getD j []):KTags own (j+1) (l++[t]):=by
 obtain⟨h1,h2,h3,h4⟩:=h;refine⟨by simp;omega,?_,?_,?_⟩
 · intro x hx
   rcases List.mem_append.1 hx with e | e
   · exact h2 x e
   · rw[List.mem_singleton.1 e];exact hk
 · intro x hx
   rcases List.mem_append.1 hx with e | e
   · obtain⟨i,hi,e2⟩:=h3 x e
     exact⟨i,by omega,e2⟩
   · rw[List.mem_singleton.1 e];exact⟨j,by omega,hn⟩
 · rw[List.pairwise_append]
   refine⟨h4,by simp,fun a ha b hb=>?_⟩;rw[List.mem_singleton.1 hb,hn];obtain⟨i,hi,e2⟩:=h3 a ha;rw[e2];exact AlB i j hi hj
theorem KTags.more {own:Bool} {j:Nat} {l:List Tg} (h:KTags own j l):KTags own (j+1) l:=⟨h.len,h.tag,fun t ht=>by obtain⟨i,hi,e⟩:=h.name t ht;exact⟨i,by omega,e⟩,h.rise⟩
theorem AvR (a:Bs):blt a a=false:=by
 rw[AuG,decide_eq_false_iff_not];exact List.lt_irrefl a
theorem KTags.right {own:Bool} {l:List Tg} (h:KTags own 6 l):RightT own l:=by
 refine⟨fun i hi=>?_,by have:=h.len;omega⟩;have e:l.getD i tg0=l[i]:=by simp[hi]
 have hm:l[i]∈l:=List.getElem_mem hi;have hk:=h.tag _ hm;obtain⟨w,hw,hn⟩:=h.name _ hm;refine⟨by rw[e];exact hk.kind,by rw[e,hn];exact(Ah1 w hw).1,by rw[e];exact hk.val,by rw[e];exact⟨hk.tgt.1,fun o=>by obtain⟨n,e⟩:=hk.tgt.2 o;rw[e];exact Afe n⟩,fun h0=>?_⟩;have e2:l.getD (i-1) tg0=l[i-1]:=by simp[show i-1<l.length by omega]
 have hr:=List.pairwise_iff_getElem.1 h.rise (i-1) i (by omega) hi (by omega);rw[e,e2];exact⟨.inl hr,fun e3=>by rw[e3,AvR] at hr;cases hr⟩
theorem KTags.z {own:Bool} {j:Nat} {l:List Tg} (h:KTags own j l) (hj:j≤6):TgZ l:=⟨by have:=h.len;omega,fun t ht=>by
 obtain⟨w,hw,hn⟩:=h.name t ht;have h1:=(Ah1 w (by omega)).2;have h2:=(h.tag t ht).val;have h3:t.target.length≤40:=by
  cases own with
  | true=>rw[(h.tag t ht).tgt.1 rfl];simp
  | false=>obtain⟨n,e⟩:=(h.tag t ht).tgt.2 rfl;rw[e];exact AwJ (Afe n)
 rw[hn];omega⟩
theorem Aug:∀m,m<4→(kindC.getD m 0).toNat=43∨(kindC.getD m 0).toNat=42∨(kindC.getD m 0).toNat=45:=by
 have:∀m:Fin 4,(kindC.getD m.1 0).toNat=43∨(kindC.getD m.1 0).toNat=42∨(kindC.getD m.1 0).toNat=45:=by decide
 exact fun m h=>this ⟨m,h⟩
theorem Asl:∀m,(tvalL.getD m []).length≤12:=by
 have:∀p∈tvalL,p.length≤12:=by decide
 intro m;by_cases h:m<tvalL.length
 · exact this _ (by simp[h])
 · simp[h]
section
set_option maxRecDepth 100000
theorem Air {G:Prop} (h:G:=by
    first
    | exact Aa5 ⟨(((oa,oc),out),j+1),by dsimp only;omega,hK.more⟩ (by dsimp only;omega) ⟨rfl,rfl,rfl,rfl,rfl,rfl,rfl,trivial⟩ Aa0
    | (have hsn:=hK.snoc (t:=⟨kd,w,tg,tv⟩) hj6 (by omega) ⟨by dsimp only;rcases hkd with h | h | h;exact .inl h;exact .inr (.inl h);exact .inr (.inr ⟨h,htv2 h⟩),htv1,htg⟩ hw
       have hql2:(out++[(⟨kd,w,tg,tv⟩:Tg)]).length=out.length+1:=by simp
       refine Aa5 ⟨(((a61,c61),out++[⟨kd,w,tg,tv⟩]),j+1),by dsimp only;omega,hsn⟩ (by dsimp only;omega) ⟨rfl,rfl,rfl,Adk hql2.symm,rfl,rfl,rfl,trivial⟩ ?_;dsimp only;rw[hql2];exact Aac (AaW (by rfl) (by rw[AbU];rfl)) Aa0)):G:=h
theorem Akl {G:Prop} (h:G:=by
    first
    | exact Aa5 ⟨tvalL.getD v [],Asl v,fun h=>by omega⟩ trivial ⟨rfl,rfl,rfl,rfl,rfl,rfl,rfl,rfl,rfl,rfl,trivial⟩ Aa0
    | exact Aa5 ⟨[],Nat.zero_le _,fun h=>rfl⟩ trivial ⟨rfl,rfl,rfl,rfl,rfl,rfl,rfl,rfl,rfl,rfl,trivial⟩ Aa0):G:=h
theorem Akm {G:Prop} (h:G:=by
    first
    | (have ho:own=false:=by simpa using h41
       have htg:Aqx own (Abx (Ag3 vals j)):=⟨(fun h=>by rw[ho] at h;cases h),fun _=>⟨_,rfl⟩⟩
       exact Aa5 ⟨Abx (Ag3 vals j),htg⟩ trivial ⟨rfl,rfl,rfl,rfl,rfl,rfl,rfl,rfl,rfl,rfl,trivial⟩ Aa0)
    | (have ho:own=true:=by simpa using h41
       have htg:Aqx own [42]:=⟨fun _=>rfl,(fun h=>by rw[ho] at h;cases h)⟩
       exact Aa5 ⟨[42],htg⟩ trivial ⟨rfl,rfl,rfl,rfl,rfl,rfl,rfl,rfl,rfl,rfl,trivial⟩ Aa0)):G:=h
theorem Alq {G:Prop} (h:G:=by
    first
    | exact Aa5 ⟨Aar (tags.getD j 0) 0 7,hwi⟩ trivial ⟨rfl,rfl,rfl,rfl,rfl,rfl,rfl,rfl,rfl,rfl,trivial⟩ Aa0
    | exact Aa5 ⟨0,by omega,by omega⟩ trivial ⟨rfl,rfl,rfl,rfl,rfl,rfl,rfl,rfl,rfl,rfl,trivial⟩ Aa0):G:=h
set_option maxHeartbeats 2000000 in
theorem Ahl {Bt Bv:HP} {ta va:Option Addr} (tc vc:Nat) (tags vals:List Int) (own:Bool) (ht:tags.length≤9223372036854775807) (hv:vals.length≤9223372036854775807) (sht:SlA Bt ta (tags.map vI)) (shv:SlA Bv va (vals.map vI)) :
    Sp Tryz.prog 166 [.slice ta tags.length tc,.slice va vals.length vc,vB own] [Bt,Bv] (X:=(Option Addr×Nat)×List Tg) Aom (fun x=>KTags own 6 x.2) (fun x=>[Aon x,Bt,Bv]):=by
 haveI:Abu ta (tags.map vI) [Bt,Bv]:=⟨⟨Bt,sht,.here⟩⟩
 refine Sp.body (n:=64) Tryz.call166 Tryz.func166 rfl rfl rfl ?_;refine Qc (k:=Vv (k:=Wq (Qc (k:=Vv (k:=Wq (Za (k:=Qc (k:=?_))))))));refine Aaq Aii rfl rfl rfl (fun x12 _=>?_);refine Qv (k:=Wq (Zb (k:=?_)));refine Aak (fun (i:{ x:((Option Addr×Nat)×List Tg)×Nat // x.2≤6∧KTags own x.2 x.1.2 })=>[(0,.slice ta tags.length tc),(1,.slice va vals.length vc),(2,vB own),(7,.slice i.1.1.1.1 (i.1.1.2).length i.1.1.1.2),(12,.slice (some ⟨x12,0,none⟩) 6 6),(13,vI 6),(14,vI i.1.2)]) (fun (i:{ x:((Option Addr×Nat)×List Tg)×Nat // x.2≤6∧KTags own x.2 x.1.2 })=>[Row 60 4 (.slice i.1.1.1.1 (i.1.1.2).length i.1.1.1.2) (i.1.1.2).length ((i.1.1.2).flatMap Aab),Ce x12 9 (wordsL.map vS),Bt,Bv]) (fun (i:{ x:((Option Addr×Nat)×List Tg)×Nat // x.2≤6∧KTags own x.2 x.1.2 })=>6-i.1.2) rfl (⟨(((none,0),[]),0),Nat.zero_le _,⟨Nat.zero_le _,(fun _ h=>by cases h),(fun _ h=>by cases h),.nil⟩⟩) ?_ ?_ (fun i=>?_)
 · exact⟨rfl,rfl,rfl,rfl,rfl,rfl,rfl,trivial⟩
 ·
  exact(AaS (e:=60) (sz:=4)).trans (show Ent _ [Row 60 4 (.slice none 0 0) 0 [],Ce x12 9 (wordsL.map vS),Bt,Bv] from Aa0)
 obtain⟨⟨⟨⟨oa,oc⟩,out⟩,j⟩,hj,hK⟩:=i;dsimp only at hj hK ⊢;have hol:=hK.len;try dsimp only
 refine Qc (k:=Vv (k:=Wq (Za (k:=Zi (t:=fun h15=>?_) (f:=fun h15=>?_)))))
 ·
  refine Zk (k:=Ya (Za (k:=Zb (k:=Za (k:=?_)))));have hj6:j<6:=by omega
  have hwl:wordsL.length=6:=rfl;obtain⟨w,hw⟩:∃w,w=wordsL.getD j []:=⟨_,rfl⟩
  have hwz:=(Ah1 j hj6).2;rw[←hw] at hwz;refine Zr (k:=Vv (k:=Ye 1 (k:=Yl (hv:=by exact Aa4 [] (m:=j) (by omega)) (k:=?_))));rw[←hw];refine Qv (k:=Wq (Qc (k:=Vv (k:=Wq ?_))));refine Abg (fun (i:{ n:Int // 0≤n∧n≤7 })=>[(0,.slice ta tags.length tc),(1,.slice va vals.length vc),(2,vB own),(7,.slice oa (out).length oc),(8,vI j),(9,vS w),(10,vI i.1),(12,.slice (some ⟨x12,0,none⟩) 6 6),(13,vI 6),(14,vI j)]) (fun (i:{ n:Int // 0≤n∧n≤7 })=>[Row 60 4 (.slice oa (out).length oc) (out).length ((out).flatMap Aab),Ce x12 9 (wordsL.map vS),Bt,Bv]) rfl (fun i=>?_) ?_
  ·
   obtain⟨n,hn0,hn7⟩:=i;dsimp only;try dsimp only
   refine Za (k:=Qc (k:=Qv (k:=Vv (k:=Gi 2 (t:=fun h30=>?_) (f:=fun h30=>?_)))))
   ·
    refine O1 (k:=O1 (k:=O1 (k:=P1 (k:=Wq (Z1 (k:=Ze (k:=Xa (Xb (Ya (Zr (k:=Vv (k:=?_))))))))))));refine Vv (k:=Wn ?_);exact Air
   ·
    refine J0 (k:=J0 (k:=J0 (k:=P0 (k:=Wq (Zi (t:=fun h34=>?_) (f:=fun h34=>?_))))))
    ·
     refine Ze (k:=Xa (Xb (Ya (Zr (k:=Qv (k:=Wn ?_))))));exact Air
    ·
     refine Zk (k:=Ya (Za (k:=?_)));obtain⟨m,hm⟩:∃m:Nat,n=4+(m:Int):=⟨(n-4).toNat,by omega⟩
     have hm4:m<4:=by omega
     have hkd:=Aug m hm4;refine Zr (k:=Qv (k:=?_));refine Aa6 (Abt (m:=m) Tryz.underlying9 rfl rfl (by omega) (show m<4 from hm4)) rfl ?_;change wo _ _ _ _ _ ((37,vU ((kindC.getD m 0).toNat:Int))::_) _ _;generalize kindC.getD m 0=kd at hkd ⊢;refine Vv (k:=Vx (Ps [_,_,_,vS []]) (k:=Zc [.int .u8 0,vS [],vS [],vS []] (k:=fun b11=>Zp (k:=Wq ?_))));refine Abg (fun (tg:{ tg:Bs // Aqx own tg })=>[(0,.slice ta tags.length tc),(1,.slice va vals.length vc),(2,vB own),(7,.slice oa (out).length oc),(8,vI j),(9,vS w),(11,.pointer (some ⟨b11,0,none⟩)),(12,.slice (some ⟨x12,0,none⟩) 6 6),(13,vI 6),(14,vI j)]) (fun (tg:{ tg:Bs // Aqx own tg })=>[Ce b11 60 [vU (kd.toNat:Int),vS w,vS tg.1,vS []],Row 60 4 (.slice oa (out).length oc) (out).length ((out).flatMap Aab),Ce x12 9 (wordsL.map vS),Bt,Bv]) rfl (fun tg=>?_) ?_
     ·
      obtain⟨tg,htg⟩:=tg;dsimp only;try dsimp only
      refine Abg (fun (tv:{ tv:Bs // tv.length≤12∧(kd.toNat=45→tv=[]) })=>[(0,.slice ta tags.length tc),(1,.slice va vals.length vc),(2,vB own),(7,.slice oa (out).length oc),(8,vI j),(9,vS w),(11,.pointer (some ⟨b11,0,none⟩)),(12,.slice (some ⟨x12,0,none⟩) 6 6),(13,vI 6),(14,vI j)]) (fun (tv:{ tv:Bs // tv.length≤12∧(kd.toNat=45→tv=[]) })=>[Ce b11 60 [vU (kd.toNat:Int),vS w,vS tg,vS tv.1],Row 60 4 (.slice oa (out).length oc) (out).length ((out).flatMap Aab),Ce x12 9 (wordsL.map vS),Bt,Bv]) rfl (fun tv=>?_) ?_
      ·
       obtain⟨tv,htv1,htv2⟩:=tv;dsimp only;try dsimp only
       refine Zr (k:=Vv (k:=Zm [_,_,_,_] (k:=Zv [_] (cs:=[_,_,_,_]) (k:=fun b60=>?_))));refine Aao (sz:=4) (bytes:=56) Tryz.underlying28 Adx rfl rfl rfl rfl rfl rfl rfl (by rfl) (by rfl) (by omega) (by simp only[maxLen];omega) rfl (fun a61 c61=>?_);refine Vv (k:=Wn (Yb (Ya (Zr (k:=Qv (k:=Wn ?_))))));exact Air
      ·
       refine Qc (k:=Qx 0 5 (k:=Vv (k:=Wq (Zi (t:=fun h49=>?_) (f:=fun h49=>?_)))))
       ·
        refine Zr (k:=Zv [_,_,_,_] (cs:=[_,_,_,_]) (k:=fun b50=>?_));refine wo_ent' (Gs:=[Ce b50 9 (tvalL.map vS),Ce b11 60 [vU (kd.toNat:Int),vS w,vS tg,vS []],Row 60 4 (.slice oa (out).length oc) (out).length ((out).flatMap Aab),Ce x12 9 (wordsL.map vS),Bt,Bv]) (Aac (AaH (by rfl) (by rfl)) Aa0) ?_;refine Qv (k:=?_);refine Aaa (AeQ vc vals j (by omega) hv shv) rfl rfl rfl ?_;refine Aag (Aaf (Ag3 vals j) 0 3 (by omega) (by omega) (by omega)) rfl rfl rfl ?_;have hwi:=AbA (n:=Ag3 vals j) (show (0:Int)≤3 by omega);obtain⟨v,hv4⟩:∃v:Nat,Aar (Ag3 vals j) 0 3=(v:Int):=⟨(Aar (Ag3 vals j) 0 3).toNat,by omega⟩
        have hvl:tvalL.length=4:=rfl;rw[hv4];refine Ye 1 (k:=Yl (hv:=by exact Aa4 [] (m:=v) (by omega)) (k:=Vf 3 9 (k:=Zo (k:=Wn ?_))));exact Akl
       ·
        refine Zk (k:=?_);exact Akl
     ·
      refine Qc (k:=Qv (k:=Wq (Zi (t:=fun h41=>?_) (f:=fun h41=>?_))))
      ·
       refine Zr (k:=Qv (k:=?_));refine Aaa (AeQ vc vals j (by omega) hv shv) rfl rfl rfl ?_;refine Aag (Adf _) rfl rfl rfl ?_;refine Vf 2 9 (k:=Zo (k:=Wn ?_));exact Akm
      ·
       refine Zk (k:=?_);exact Akm
  ·
   refine Qc (k:=Qv (k:=Qv (k:=Wq (Zi (t:=fun h22=>?_) (f:=fun h22=>?_)))))
   ·
    refine Zr (k:=Qv (k:=Ye 1 (k:=Yl (hv:=by exact Aa4 0 (m:=j) (by omega)) (k:=?_))));refine Aag (Aaf (tags.getD j 0) 0 7 (by omega) (by omega) (by omega)) rfl rfl rfl ?_;have hwi:=AbA (n:=tags.getD j 0) (show (0:Int)≤7 by omega);refine Vv (k:=Wn ?_);exact Alq
   ·
    refine Zk (k:=?_);exact Alq
 ·
  refine Ze (k:=Xa (Xi (Xb (Ya (Qc (k:=Qv (k:=Wq (Zt (k:=?_)))))))));have hj6:j=6:=by omega
  subst hj6;exact Aa2 ((oa,oc),out) (vs:=[_]) (Cs:=[]) rfl (.tmp rfl .nil) rfl hK Aa0
end
end Go.Proofs.YtdnoacgopfcpbaaGreat
