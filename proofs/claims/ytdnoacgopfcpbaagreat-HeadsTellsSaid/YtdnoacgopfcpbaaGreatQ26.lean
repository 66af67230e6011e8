/- Texts of this proof, put together: SHeads2, SHeads3, P19, SHeads4. -/
import Derived.Test.YtdnoacgopfcpbaaGreatQ25
set_option linter.unusedVariables false
set_option linter.unusedSimpArgs false
namespace Go.Proofs.YtdnoacgopfcpbaaGreat
section
set_option maxRecDepth 100000
structure Lf where
 branch:Bs
 name:Bs
 deriving DecidableEq
instance:Inhabited Lf:=⟨⟨[],[]⟩⟩
def Aai (p:Lf):List Value:=[vS p.branch,vS p.name]
def Ad0 (p:Lf):Bs×Bs:=(p.branch,p.name)
theorem An3 (x y:Lf):SpF Tryz.prog 80 [.agg (Aai x).toArray,.agg (Aai y).toArray] (vI (Al3 (Ad0 x) (Ad0 y))):=by
 obtain⟨c1,p1⟩:=x;obtain⟨c2,p2⟩:=y;refine Sp.body (n:=17) Tryz.call80 Tryz.func80 rfl rfl rfl ?_;refine Qc (k:=Zx [_,_] (k:=fun b2=>Zx [_,_] (k:=fun b3=>Vv (k:=Wq (Za (k:=Dw [Ce b2 63 [vS c1,vS p1],Ce b3 63 [vS c2,vS p2]] (k:=?_)))))));refine Di 0 (t:=Uf 0 9) (k:=Di 1 (t:=Ul) (k:=Di 2 (t:=Uf 0 9) (k:=Di 3 (t:=Ul) (k:=Di 5 (t:=Uf 1 9) (k:=Di 6 (t:=Ul) (k:=Di 7 (t:=Uf 1 9) (k:=Di 8 (t:=Ul) (k:=Dn 4 (k:=?_)))))))));refine Aal (Ahx _ _) rfl rfl rfl ?_;refine Dn 9 (k:=?_);refine Aal (Ahx _ _) rfl rfl rfl ?_;refine Dn 10 (k:=Nl [_,_] (cs:=[_,_]) (k:=fun b15=>Dn 11 (k:=?_)));refine AcL (Arn b15 (Ahy c1 c2) (Ahy p1 p2)) rfl rfl rfl ?_;refine Dv 12 (k:=Dd (k:=Ya (Zt (k:=?_))));exact Aa2 () (vs:=[_]) (Cs:=[]) rfl (.tmp rfl .nil) rfl trivial Aad
theorem AsP (g:Nat):SpF Tryz.prog 171 [.slice none 0 0,vI 0,vI 0,.func (.func g) #[] #[]] (.tuple #[]):=by
 refine Sp.body (n:=53) Tryz.call171 Tryz.func171 rfl rfl rfl ?_;refine Qc (k:=Qv (k:=Vv (k:=Wq (Zb (k:=?_)))));refine Aak (fun (i:Unit)=>[(0,.slice none 0 0),(1,vI 0),(2,vI 0),(8,vI 1)]) (fun (i:Unit)=>[]) (fun (i:Unit)=>0) rfl (()) ?_ ?_ (fun i=>?_)
 · exact⟨rfl,rfl,rfl,rfl,trivial⟩
 ·
  exact Ent.refl _
 try dsimp only
 refine Za (k:=Qc (k:=Qv (k:=Vv (k:=Wq (Zi (t:=fun h14=>?_) (f:=fun h14=>?_))))))
 ·
  simp at h14
  --done
 ·
  refine Ze (k:=Xa (Xi (Xb ?_)));exact Acr () (vs:=[]) (Cs:=[]) rfl .nil rfl trivial Aad
theorem AsA (g:Nat):SpF Tryz.prog 129 [.slice none 0 0,vI 0,vI 0,vI 0,.func (.func g) #[] #[]] (.tuple #[]):=by
 refine Sp.body (n:=148) Tryz.call129 Tryz.func129 rfl rfl rfl ?_;refine Qc (k:=Vv (k:=Wq (Qc (k:=Vv (k:=Wq (Zb (k:=?_)))))));refine Aak (fun (i:Unit)=>[(0,.slice none 0 0),(1,vI 0),(2,vI 0),(3,vI 0),(4,.func (.func g) #[] #[])]) (fun (i:Unit)=>[]) (fun (i:Unit)=>0) rfl (()) ?_ ?_ (fun i=>?_)
 · exact⟨rfl,rfl,rfl,rfl,rfl,trivial⟩
 ·
  exact Ent.refl _
 try dsimp only
 refine Zb (k:=Qc (k:=Qv (k:=Qv (k:=Wq (Za (k:=Qc (k:=Vv (k:=?_))))))));refine Vv (k:=Wq (Zi (t:=fun h25=>?_) (f:=fun h25=>?_)))
 ·
  refine Qc (k:=Qv (k:=Qv (k:=?_)));refine Aag (AsP g) rfl rfl rfl ?_;refine Wq (Zt (k:=Va (Vb (Vi (Vb ?_)))));exact Aa2 () (vs:=[]) (Cs:=[]) rfl .nil rfl trivial Aad
 ·
  simp at h25
  --done
theorem Arz (g:Nat):SpF Tryz.prog 79 [.slice none 0 0,.func (.func g) #[] #[]] (.tuple #[]):=by
 refine Sp.body (n:=14) Tryz.call79 Tryz.func79 rfl rfl rfl ?_;refine Qc (k:=Qv (k:=Vv (k:=Wq (Zr (k:=Qv (k:=Vv (k:=?_)))))));refine Aa6 (Agx (i:=0) rfl Tryz.underlying3 Tryz.underlying97 (by decide)) rfl ?_;refine Aag Ain rfl rfl rfl ?_;refine Vv (k:=?_);refine Aag (AsA g) rfl rfl rfl ?_;refine Wn ?_;exact Acr () (vs:=[]) (Cs:=[]) rfl .nil rfl trivial Aad
theorem AjT (a:Option Addr) (n c:Nat) (l:List Lf) (hl:l.length=n) (hb:n<4611686018427387904) :
    Sp Tryz.prog 79 [.slice a n c,.func (.func 80) #[] #[]] [Row 63 2 (.slice a n c) n (l.flatMap Aai)] (X:=List Lf) (fun _=>.tuple #[]) (fun q=>q.Perm l∧q.Pairwise fun x y=>ltOf (fun x y=>Al3 (Ad0 x) (Ad0 y)) y x=false) (fun q=>[Row 63 2 (.slice a n c) n (q.flatMap Aai)]) :=
 Atv (T:=63) (k:=2) (enc:=Aai) (fun _=>rfl) _ Tryz.call79 (Arz _) (fun blk cap d w hH hb hs=>by
  have hcon:=AnyQ.slices_SortFunc Tryz.sortFL 2 Tryz.isAgg63 Tryz.sizeOf63 Aai (fun _=>rfl) (fun x v hv=>by
   simp only[Aai,List.mem_cons,List.not_mem_nil,or_false] at hv;rcases hv with rfl | rfl<;>rfl) (fun x y=>Al3 (Ad0 x) (Ad0 y)) (AxH Ad0) 80 #[] blk 0 cap d w Tryz.call80 (fun m os dk hs x y=>by
    have:=Sp.grown (An3 x y) (sortWorldK Aai 2 w blk 0 m dk os);simpa using this) hH hb hs
  exact hcon) a n c l hl hb
def inC (br:Bs→Bs) (n:Bs) (x:Bs×Ck):Prop:=Abk x.2=n∧Abk x.2≠x.1∧br (Abk x.2)=br x.1
instance {br:Bs→Bs} {n:Bs} {x:Bs×Ck}:Decidable (inC br n x):=inferInstanceAs (Decidable (_∧_∧_))
def inB (br:Bs→Bs) (l:List (Bs×Ck)) (n:Bs):Bool:=decide (∃x∈l,inC br n x)
def AgF (br:Bs→Bs) (m:Ks) (x:Bs×Ck):Ks:=if Abk x.2≠x.1∧br (Abk x.2)=br x.1 then mput m (Abk x.2) (vB true) else m
def inK (br:Bs→Bs) (l:List (Bs×Ck)):Ks:=l.foldl (AgF br) []
theorem Aui (br:Bs→Bs) (l:List (Bs×Ck)) (x:Bs×Ck):inK br (l++[x])=AgF br (inK br l) x:=by simp[inK]
theorem Auj (br:Bs→Bs) (n:Bs) (l:List (Bs×Ck)):(mlook (inK br l) n).getD (vB false)=vB (inB br l n):=by
 have key:∀(l:List (Bs×Ck)) (m:Ks) (b:Bool),(mlook m n).getD (vB false)=vB b→(mlook (l.foldl (AgF br) m) n).getD (vB false)=vB (b || inB br l n):=by
  intro l
  induction l with
  | nil=>intro m b h;rw[List.foldl_nil,h];simp[inB]
  | cons a l ih =>
    intro m b h;rw[List.foldl_cons];have h2:(mlook (AgF br m a) n).getD (vB false)=vB (b || decide (inC br n a)):=by
     unfold AgF;by_cases hc:Abk a.2≠a.1∧br (Abk a.2)=br a.1
     · rw[if_pos hc,Am0]
       by_cases hn:Abk a.2=n
       · rw[if_pos hn,show decide (inC br n a)=true from decide_eq_true ⟨hn,hc⟩];simp
       · rw[if_neg hn,show decide (inC br n a)=false from decide_eq_false (fun x=>hn x.1),h];simp
     · rw[if_neg hc,show decide (inC br n a)=false from decide_eq_false (fun x=>hc x.2),h];simp
    rw[ih _ _ h2];congr 1;rw[Bool.or_assoc];congr 1;rw[Bool.eq_iff_iff];simp[inB]
 have:=key l [] false rfl;rw[Bool.false_or] at this;exact this
def AmR (br:Bs→Bs) (C:List (Bs×Ck)) (x:Bs×Ck):List Lf:=if inB br C x.1 then [] else [⟨br x.1,x.1⟩]
def lvF (br:Bs→Bs) (C l:List (Bs×Ck)):List Lf:=l.flatMap (AmR br C)
theorem Au9 (br:Bs→Bs) (C l:List (Bs×Ck)) (x:Bs×Ck):lvF br C (l++[x])=lvF br C l++AmR br C x:=by simp[lvF]
theorem Alb (br:Bs→Bs) (C l:List (Bs×Ck)):(lvF br C l).length≤l.length:=by
 induction l with
 | nil=>exact Nat.le_refl _
 | cons a l ih =>
   unfold lvF at *;rw[List.flatMap_cons,List.length_append,List.length_cons];have:(AmR br C a).length≤1:=by unfold AmR;split<;>simp
   omega
noncomputable def lvL (H:Ks):List Lf:=lvF (brH H) (AaY H) (AaY H)
theorem cksL_len' (H:Ks):(AaY H).length≤H.length:=by
 have h1:=(Ahz H (Ab6 H)).length_le;rw[Ai2,List.length_map] at h1;exact h1
theorem Aq1 {H:Ks} {pre:List CkN} {x:CkN} (h:okC H pre x):pre.length<H.length:=by
 obtain⟨⟨r,e⟩,_,_⟩:=h;have h1:=cksL_len' H;have h2:=congrArg List.length e;rw[List.length_append,List.length_cons,List.length_map] at h2;omega
abbrev LvI (b:Nat) (acc:List Lf):HP:=Ex fun s:Option Addr×Nat=>Al [Ce b 64 [.slice s.1 acc.length s.2],Row 63 2 (.slice s.1 acc.length s.2) acc.length (acc.flatMap Aai)]
set_option maxHeartbeats 8000000 in
theorem AeB (b:Nat) (H:Ks) (hH:TxtK H) (hnd:(H.map (·.1)).Nodup) (hn:H.length≤1000000) :
    Sp Tryz.prog 32 [.map (some b)] [MapS b H] (X:=(Option Addr×Nat)×List Lf) (fun x=>.slice x.1.1 x.2.length x.1.2) (fun x=>x.2.Perm (lvL H)∧x.2.Pairwise fun x y=>ltOf (fun x y=>Al3 (Ad0 x) (Ad0 y)) y x=false) (fun x=>[Row 63 2 (.slice x.1.1 x.2.length x.1.2) x.2.length (x.2.flatMap Aai),MapS b H]):=by
 refine Sp.body (n:=52) Tryz.call32 Tryz.func32 rfl rfl rfl ?_;refine Qc (k:=Vv (k:=Wq (Qc (k:=Vv (k:=?_)))));refine Aaq (Agq b H hH (by omega)) rfl rfl rfl (fun x hx=>?_);obtain⟨m1,m2,al⟩:=x;dsimp only at hx ⊢;have hf:=Ark hnd hx;have hB:∀name,Sp1 Tryz.prog 78 [.agg #[.map (some m1),.map (some m2)],vS name] [MX.MapS MX.pairE m1 (lsK (AbO H)),MapS m2 (ckK al),Aeh al] (vS (brH H name)) [MX.MapS MX.pairE m1 (lsK (AbO H)),MapS m2 (ckK al),Aeh al]:=fun name=>by
  have:=AeA m1 m2 al (AbO H) name hf.nd (fun x hx=>by have:=hf.pl x hx;omega) (by have:=hf.le;omega);rw[show al.map Abc=AaY H from hx] at this;exact this
 have hlv:lvL H=lvF (brH H) (AaY H) (AaY H):=rfl;generalize brH H=br at *;generalize lsK (AbO H)=lk1 at *;generalize ckK al=lk2 at *;refine Zc [.map none,.map none] (k:=fun b3=>Zp (k:=Wq (Qc (k:=?_))));refine r_mkmap rfl (fun b12=>?_);refine Zc [.map none] (k:=fun b4=>Zo (k:=Wq (Za (k:=Qc (k:=Vv (k:=?_))))));refine Aaq (AcS (some b)) rfl rfl rfl (fun cb _=>?_);refine Wq (Zb (k:=?_));refine Ada (fun pre=>[MapS b12 (inK br (pre.map Abc)),Ce b3 140 [.map (some m1),.map (some m2)],Ce b4 71 [.map (some b12)],MX.MapS MX.pairE m1 lk1,MapS m2 lk2,Aeh al,MapS b H]) (fun j pre=>[Pu False]) (fun pre=>[MapS b12 (inK br (pre.map Abc)),Ce b3 140 [.map (some m1),.map (some m2)],Ce b4 71 [.map (some b12)],MX.MapS MX.pairE m1 lk1,MapS m2 lk2,Aeh al]) rfl (AcT cb b H hH (by omega)) rfl (fun _=>by rfl) rfl (fun pre=>?_) (fun pre=>?_) ?_ (fun l pre x hok=>?_) (fun all hfin=>?_) (fun j pre hs=>?_)
 · exact Aa0
 · exact Aa0
 · (rw[show inK br (([]:List CkN).map Abc)=[] from rfl];exact Aa0)
 ·
  have hsn:inK br ((pre++[x]).map Abc)=AgF br (inK br (pre.map Abc)) (Abc x):=by rw[List.map_append,List.map_cons,List.map_nil,Aui]
  obtain⟨nm,xa,ck⟩:=x;dsimp only[ckV,AaZ,Abc] at hsn ⊢;generalize inK br (pre.map Abc)=ik at hsn ⊢;have hpl2:ck.parents.length≤3:=by
   have:=(readK_iff.1 hok.2.2).1.parents.len;dsimp only at this;omega
  have hFi:=Ahi (B:=SlI xa.pa (ck.parents.map vS)) xa ck (by omega) Abo;unfold CkM;refine AdW ?_;refine Qc (k:=Vv (k:=Wq (Zr (k:=Zc [vS [],vS [],.int .i64 0,.slice none 0 0,.slice none 0 0,.slice none 0 0,vS []] (k:=fun b6=>Zp (k:=Wg (Zb (k:=Qc (k:=Zm [_,_,_,_,_,_,_] (k:=?_))))))))));refine Aaa hFi rfl rfl rfl ?_;refine Vv (k:=Wq (Za (k:=Dw [Ce b3 140 [.map (some m1),.map (some m2)]] (k:=?_))));refine Dv 0 (k:=Dv 1 (k:=Dv 2 (k:=Dv 3 (k:=Gd 3 (t:=fun h22=>?_) (f:=fun h22=>?_)))))
  ·
   refine Aa1 4 rfl rfl rfl (by kernel_rfl) (by kernel_rfl) (Aau (b:=true) rfl (Ah5 (vs:=[_,_]) Tryz.underlying140 rfl Apl rfl (by exact Nat.le_of_ble_eq_true rfl) (by rfl))) ?_;refine Di 5 (t:=U1 (h:=Uv)) (k:=?_);refine Aa1 7 rfl rfl rfl (by kernel_rfl) (by kernel_rfl) (Aau (b:=true) rfl (Ah5 (vs:=[_,_]) Tryz.underlying140 rfl Apl rfl (by exact Nat.le_of_ble_eq_true rfl) (by rfl))) ?_;refine Di 8 (t:=U1 (h:=Uv)) (k:=Dn 6 (k:=?_));refine AjC (b:=true) rfl ?_;refine AcL (hB _) rfl rfl rfl ?_;refine Dn 9 (k:=?_);refine AjC (b:=true) rfl ?_;refine AcL (hB _) rfl rfl rfl ?_;refine Di 10 (t:=U1 (h:=Uv)) (k:=DP1 11 (k:=Dd (k:=Ya (Zi (t:=fun h30=>?_) (f:=fun h30=>?_)))))
   ·
    refine Zr (k:=Zd (k:=Vv (k:=?_)));refine r_mapUpdate Tryz.underlying71 Tryz.underlying9 rfl rfl rfl ?_;refine Wn (Yb ?_);refine AaV ?_;rw[hsn,AgF]
    first
    | (rw[if_pos ⟨h22,h30⟩];exact Aa0)
    | (rw[if_neg (fun hh=>h30 hh.2)];exact Aa0)
    | (rw[if_neg (fun hh=>h22 hh.1)];exact Aa0)
   ·
    refine Zk (k:=Yb ?_);refine AaV ?_;rw[hsn,AgF]
    first
    | (rw[if_pos ⟨h22,h30⟩];exact Aa0)
    | (rw[if_neg (fun hh=>h30 hh.2)];exact Aa0)
    | (rw[if_neg (fun hh=>h22 hh.1)];exact Aa0)
  ·
   refine D0 4 (k:=D0 5 (k:=D0 6 (k:=D0 7 (k:=D0 8 (k:=D0 9 (k:=D0 10 (k:=DP0 11 (k:=Dd (k:=Ya (Z0 (k:=Zk (k:=?_))))))))))));refine Yb ?_;refine AaV ?_;rw[hsn,AgF]
   first
   | (rw[if_pos ⟨h22,h30⟩];exact Aa0)
   | (rw[if_neg (fun hh=>h30 hh.2)];exact Aa0)
   | (rw[if_neg (fun hh=>h22 hh.1)];exact Aa0)
 ·
  rw[show all.map Abc=AaY H from hfin];have hik:=fun n=>Auj br n (AaY H);generalize inK br (AaY H)=ik at hik ⊢;refine Yb (Ya (Qc (k:=Zc [.slice none 0 0] (k:=fun b8=>Wq (Za (k:=Qc (k:=Vv (k:=?_))))))));refine Aaq (AcS (some b)) rfl rfl rfl (fun cb2 _=>?_);refine Wq (Zb (k:=?_));refine Ada (fun pre=>[LvI b8 (lvF br (AaY H) (pre.map Abc)),MapS b12 ik,Ce b3 140 [.map (some m1),.map (some m2)],Ce b4 71 [.map (some b12)],MX.MapS MX.pairE m1 lk1,MapS m2 lk2,Aeh al,MapS b H]) (fun j pre=>[Pu False]) (fun pre=>[LvI b8 (lvF br (AaY H) (pre.map Abc)),MapS b12 ik,Ce b3 140 [.map (some m1),.map (some m2)],Ce b4 71 [.map (some b12)],MX.MapS MX.pairE m1 lk1,MapS m2 lk2,Aeh al]) rfl (AcT cb2 b H hH (by omega)) rfl (fun _=>by rfl) rfl (fun pre=>?_) (fun pre=>?_) ?_ (fun l pre x hok=>?_) (fun all hfin=>?_) (fun j pre hs=>?_)
  · exact Aa0
  · exact Aa0
  · (refine AdR ?_;refine AbV (none,0) (Acl ?_);dsimp only;rw[show lvF br (AaY H) (([]:List CkN).map Abc)=[] from rfl];exact AaA (Aac AaS Aa0))
  ·
   have hpl:=Aq1 hok;have hcl:(lvF br (AaY H) (pre.map Abc)).length≤pre.length:=by
    have:=Alb br (AaY H) (pre.map Abc);rwa [List.length_map] at this
   have hsn:lvF br (AaY H) ((pre++[x]).map Abc)=lvF br (AaY H) (pre.map Abc)++AmR br (AaY H) (Abc x):=by rw[List.map_append,List.map_cons,List.map_nil,Au9]
   obtain⟨nm,xa,ck⟩:=x;dsimp only[ckV,AaZ,Abc] at hsn ⊢;generalize lvF br (AaY H) (pre.map Abc)=acc0 at hsn hcl ⊢;unfold CkM;refine AdW ?_;refine wc_ent' (Af2 (.there (.there (.there .here)))) ?_;refine AcE fun s=>AdW ?_;refine Zr (k:=Vv (k:=Wg (Zb (k:=Qc (k:=Zd (k:=Vv (k:=?_)))))));refine r_lookup (v:=vB (inB br (AaY H) nm)) Tryz.underlying71 Tryz.underlying9 ti4 rfl rfl rfl (hik nm) rfl ?_;refine Vv (k:=Wq (Zi (t:=fun h40=>?_) (f:=fun h40=>?_)))
   ·
    refine Dw [Ce b8 64 [.slice s.1 acc0.length s.2],Ce b3 140 [.map (some m1),.map (some m2)]] (k:=?_);refine Di 0 (t:=Ul) (k:=?_);refine Aa1 1 rfl rfl rfl (by kernel_rfl) (by kernel_rfl) (Ah5 (vs:=[_,_]) Tryz.underlying140 rfl Apl rfl (by exact Nat.le_of_ble_eq_true rfl) (by rfl)) ?_;refine Dv 2 (k:=Dv 4 (k:=Dn 3 (k:=?_)));refine AcL (hB _) rfl rfl rfl ?_;refine Di 5 (t:=Ux (Ps [_,_])) (k:=Dn 6 (k:=Nl [_] (cs:=[_,_]) (k:=fun b47=>Dn 7 (k:=?_))));refine AaT (sz:=2) (bytes:=32) Tryz.underlying64 AeL rfl rfl rfl rfl rfl rfl rfl (by rfl) (by rfl) (by omega) (by simp only[maxLen];omega) rfl (fun a48 c48=>?_);refine AiQ 8 (by kernel_rfl) rfl (by kernel_rfl) (by kernel_rfl) ?_;refine No (k:=Yb ?_);refine AaV ?_;rw[hsn,AmR]
    first
    | (rw[if_neg (by rw[inB,decide_eq_false h40];simp)]
       refine AbV (a48,c48) (Acl ?_);simp only[List.length_append,List.length_cons,List.length_nil,Nat.zero_add,List.flatMap_append,List.flatMap_cons,List.flatMap_nil,List.append_nil,Aai];exact Aa0)
    | (rw[if_pos (show inB br (AaY H) nm=true from decide_eq_true (Classical.not_not.1 h40)),List.append_nil]
       refine AbV s (Acl ?_);exact Aa0)
   ·
    refine Zk (k:=Yb ?_);refine AaV ?_;rw[hsn,AmR]
    first
    | (rw[if_neg (by rw[inB,decide_eq_false h40];simp)]
       refine AbV (a48,c48) (Acl ?_);simp only[List.length_append,List.length_cons,List.length_nil,Nat.zero_add,List.flatMap_append,List.flatMap_cons,List.flatMap_nil,List.append_nil,Aai];exact Aa0)
    | (rw[if_pos (show inB br (AaY H) nm=true from decide_eq_true (Classical.not_not.1 h40)),List.append_nil]
       refine AbV s (Acl ?_);exact Aa0)
  ·
   simp only[List.cons_append,List.nil_append];rw[show all.map Abc=AaY H from hfin,←hlv];have hal:(lvL H).length≤H.length:=by
    rw[hlv];exact Nat.le_trans (Alb _ _ _) (cksL_len' H)
   refine Yb (Ya (Za (k:=?_)));refine AcE fun s=>AdW ?_;refine Zr (k:=Zd (k:=?_));refine Aaq (AjT s.1 _ s.2 (lvL H) rfl (by omega)) rfl rfl rfl (fun q hq=>?_);have hql:=hq.1.length_eq;refine Wq (Qc (k:=Zd (k:=Vv (k:=Wq (Zt (k:=?_))))));refine Aa2 ((s.1,s.2),q) (vs:=[.slice s.1 (lvL H).length s.2]) (Cs:=[]) rfl (.tmp rfl .nil) (by rw[←hql];rfl) hq ?_;dsimp only;rw[hql];exact Aa0
  ·
   exact AfS (fun s=>by obtain⟨_,_,_,_,a,_⟩:=s;exact a)
 ·
  exact AfS (fun s=>by obtain⟨_,_,_,_,a,_⟩:=s;exact a)
end
section
set_option maxRecDepth 100000
theorem AqB (b:Nat) (name:Bs) (x:Lf):Sp1 Tryz.prog 82 [.agg (Aai x).toArray,.pointer (some ⟨b,0,none⟩)] [Ce b 9 [vS name]] (vB (decide (x.name=name))) [Ce b 9 [vS name]]:=by
 obtain⟨x1,x2⟩:=x;refine Sp.body (n:=8) Tryz.call82 Tryz.func82 rfl rfl rfl ?_;refine Qc (k:=Zx [_,_] (k:=fun b2=>Vv (k:=Wq (Qc (k:=Qx 1 9 (k:=Zd (k:=Qv (k:=?_))))))));refine Wq (Zt (k:=?_));exact Aa2 () (vs:=[_]) (Cs:=[]) rfl (.tmp rfl .nil) rfl trivial Aa0
theorem Amv {g:Nat} {lb:List Value} {Bx:HP} {p:Lf→Bool} (hg:∀x,Sp1 Tryz.prog g ([.agg (Aai x).toArray]++lb) [Bx] (vB (p x)) [Bx]) (a:Option Addr) (c:Nat) (l:List Lf) (hl:l.length≤1000000) [hp:AeJ Bx [Bx] []] :
    Sp Tryz.prog 130 [.slice a l.length c,.func (.func g) #[] lb.toArray] [Row 63 2 (.slice a l.length c) l.length (l.flatMap Aai),Bx] (X:=Int) (fun i=>vI i) (fun i=>(0≤i↔l.any p=true)) (fun _=>[Row 63 2 (.slice a l.length c) l.length (l.flatMap Aai),Bx]):=by
 refine Sp.body (n:=19) Tryz.call130 Tryz.func130 rfl rfl rfl ?_;refine Qc (k:=Vv (k:=Wq (Za (k:=Qc (k:=Qv (k:=Vv (k:=Wq (Zb (k:=?_)))))))));refine Aak (fun (i:{ j:Nat // j≤l.length∧(l.take j).any p=false })=>[(0,.slice a l.length c),(1,.func (.func g) #[] lb.toArray),(7,vI l.length),(8,vI i.1)]) (fun (i:{ j:Nat // j≤l.length∧(l.take j).any p=false })=>[Row 63 2 (.slice a l.length c) l.length (l.flatMap Aai),Bx]) (fun (i:{ j:Nat // j≤l.length∧(l.take j).any p=false })=>l.length-i.1) rfl (⟨0,Nat.zero_le _,rfl⟩) ?_ ?_ (fun i=>?_)
 · exact⟨rfl,rfl,rfl,rfl,trivial⟩
 ·
  exact Aa0
 obtain⟨j,hj,ho⟩:=i;try dsimp only
 refine Qc (k:=Vv (k:=Wq (Za (k:=Zi (t:=fun h9=>?_) (f:=fun h9=>?_)))))
 ·
  refine Zk (k:=Ya (Za (k:=Zb (k:=Qc (k:=Qv (k:=Wq (Qc (k:=Vv (k:=?_)))))))));refine Qv (k:=Ye 2 (k:=?_));refine Abb (vs:=[vS (l[j]'(by omega)).branch,vS (l[j]'(by omega)).name]) (sz:=2) Tryz.underlying63 rfl AeL rfl rfl (by rw[Aaj (sz:=2) (fun _=>rfl)];omega) rfl (Ab1 (f:=Aai) (fun _=>rfl) (by omega)) rfl ?_;refine AhR (cap:=lb) (Rs:=[Row 63 2 (.slice a l.length c) l.length (l.flatMap Aai)]) (hg (l[j]'(by omega))) rfl rfl rfl (.cons (.there .here) .nil) (fun _ _=>?_);refine Wq (Zi (t:=fun h16=>?_) (f:=fun h16=>?_))
  ·
   refine Qc (k:=Qv (k:=Wq (Zt (k:=Vb (Va (Vi (Vb (Va ?_))))))));refine Aa2 (j:Int) (vs:=[_]) (Cs:=[]) rfl (.tmp rfl .nil) rfl ⟨fun _=>?_,fun _=>by omega⟩ (AaA (AaA Aad));exact List.any_eq_true.2 ⟨l[j]'(by omega),List.getElem_mem _,h16⟩
  ·
   refine Zk (k:=Yb (Ya (Zr (k:=Qv (k:=Wn ?_)))));have hjl:j<l.length:=by omega
   refine Aa5 ⟨j+1,by omega,?_⟩ (by dsimp only;omega) ⟨rfl,rfl,rfl,rfl,trivial⟩ (AaA (AaA Aad));rw[List.take_succ_eq_append_getElem hjl,List.any_append,ho];simpa using h16
 ·
  refine Ze (k:=Xa (Xi (Xb (Ya (Qc (k:=Vv (k:=Wq (Zt (k:=?_)))))))));have hjl:j=l.length:=by omega
  subst hjl;rw[List.take_length] at ho;exact Aa2 (-1) (vs:=[_]) (Cs:=[]) rfl (.tmp rfl .nil) rfl ⟨fun h=>by omega,fun h=>by rw[ho] at h;cases h⟩ (AaA (AaA Aad))
noncomputable def AkX (H:Ks) (name:Bs):Bool:=(lvL H).any fun x=>decide (x.name=name)
theorem AjF (b:Nat) (name:Bs) (a:Option Addr) (c:Nat) (l:List Lf) (hl:l.length≤1000000) :
    Sp1 Tryz.prog 81 [.slice a l.length c,.func (.func 82) #[] #[.pointer (some ⟨b,0,none⟩)]] [Row 63 2 (.slice a l.length c) l.length (l.flatMap Aai),Ce b 9 [vS name]] (vB (l.any fun x=>decide (x.name=name))) [Row 63 2 (.slice a l.length c) l.length (l.flatMap Aai),Ce b 9 [vS name]]:=by
 have hI:=Amv (lb:=[.pointer (some ⟨b,0,none⟩)]) (AqB b name) a c l hl;generalize l.any (fun x=>decide (x.name=name))=ans at *;refine Sp.body (n:=9) Tryz.call81 Tryz.func81 rfl rfl rfl ?_;refine Qc (k:=Vv (k:=Wq (Qc (k:=Qv (k:=?_)))));refine Aaq hI rfl rfl rfl (fun i hi=>?_);refine Qv (k:=Wq (Zt (k:=?_)));refine Aa2 () (vs:=[_]) (Cs:=[]) rfl (.tmp rfl .nil) ?_ trivial Aa0;rw[show decide (i≥0)=ans from by rw[Bool.eq_iff_iff,decide_eq_true_iff];exact hi];rfl
theorem AgR (b:Nat) (H:Ks) (hH:TxtK H) (hnd:(H.map (·.1)).Nodup) (hn:H.length≤1000000) (name:Bs) :
    Sp1 Tryz.prog 34 [.map (some b),vS name] [MapS b H] (vB (AkX H name)) [MapS b H]:=by
 refine Sp.body (n:=9) Tryz.call34 Tryz.func34 rfl rfl rfl ?_;refine Qc (k:=Zx [_] (k:=fun b3=>Vv (k:=Wq (Qc (k:=Vv (k:=?_))))));refine Aaq (AeB b H hH hnd hn) rfl rfl rfl (fun x hx=>?_);obtain⟨⟨a,c⟩,q⟩:=x;dsimp only at hx ⊢;have hql:q.length≤1000000:=by
  rw[hx.1.length_eq];exact Nat.le_trans (Alb _ _ _) (Nat.le_trans (cksL_len' H) hn)
 refine Vv (k:=?_);refine Aaa (AjF b3 name a c q hql) rfl rfl rfl ?_;refine Vv (k:=Wq (Zt (k:=?_)));rw[show AkX H name=q.any (fun x=>decide (x.name=name)) from (hx.1.any_eq).symm];exact Aa2 () (vs:=[_]) (Cs:=[]) rfl (.tmp rfl .nil) rfl trivial Aa0
end
theorem AuY {C:List (Bs×Ck)} {l:Ls} {tag name:Bs} (P:Bs→Prop) (h1:∀n,P n→Ab0 l (tag,n)=none) (h2:∀n c,P n→Ac7 C n=some c→P (Abk c)):∀(k:Nat) (n:Bs),P n→Adw C l tag name k n=none:=by
 intro k
 induction k with
 | zero=>intro n _;rfl
 | succ k ih =>
   intro n hn;rw[Adw]
   cases e:Ac7 C n with
   | none=>rfl
   | some c =>
     dsimp only;rw[h1 n hn];exact ih _ (h2 n c hn e)
theorem Ati {C:List (Bs×Ck)} {l:Ls} {tag name n:Bs} {k:Nat} {c:Ck} {s:Sd} (h1:Ac7 C n=some c) (h2:Ab0 l (tag,n)=some s) (h3:s.op.kind=42):Adw C l tag name (k+1) n=some ⟨tag,name,s.op.value,s.src,true,decide (n=name)⟩:=by
 rw[Adw,h1];dsimp only;rw[h2];dsimp only;rw[if_neg (by rw[h3];rintro(e | ⟨e,_⟩)<;>revert e<;>decide)];simp[h3]
theorem Aqq {C:List (Bs×Ck)} {l:Ls} {n:Bs} (h:ofT C l brB n=none):brF C l n=trB:=by rw[brF,h];simp[Ai5]
theorem AuF {C:List (Bs×Ck)} {l:Ls} {n:Bs} {t:Tgd} (h:ofT C l brB n=some t) (hv:t.value≠[]):brF C l n=t.value:=by rw[brF,h];simp[hv]
theorem AwX {K:Ks} (P:Bs→Prop) (h1:∀n,P n→Ab0 (AbO K) (brB,n)=none) (h2:∀n c,P n→Ac7 (AaY K) n=some c→P (Abk c)) {n:Bs} (hn:P n):brH K n=trB:=Aqq (AuY P h1 h2 _ _ hn)
theorem mem_lvL {K:Ks} {y:Lf}:y∈lvL K↔∃x∈AaY K,(∀z∈AaY K,¬inC (brH K) x.1 z)∧y=⟨brH K x.1,x.1⟩:=by
 unfold lvL lvF;rw[List.mem_flatMap];constructor
 · rintro ⟨x,hx,hy⟩
   unfold AmR inB at hy;split at hy
   · cases hy
   · rename_i h
     rw[List.mem_singleton] at hy;refine⟨x,hx,fun z hz hc=>h (decide_eq_true ⟨z,hz,hc⟩),hy⟩
 · rintro⟨x,hx,h,rfl⟩
   refine⟨x,hx,?_⟩;rw[AmR,if_neg (by rw[inB,decide_eq_true_iff];rintro⟨z,hz,hc⟩;exact h z hz hc)];exact List.mem_singleton.2 rfl
theorem AsH {K:Ks} (hc:((AaY K).map (·.1)).Nodup):((lvL K).map Ad0).Nodup:=by
 unfold lvL;generalize AaY K=C at hc ⊢;have key:∀(D l:List (Bs×Ck)),(l.map (·.1)).Nodup→((lvF (brH K) D l).map Ad0).Nodup:=by
  intro D l
  induction l with
  | nil=>intro _;simp[lvF]
  | cons a l ih =>
    intro h;simp only[List.map_cons,List.nodup_cons] at h;have h2:=ih h.2;unfold lvF at *;rw[List.flatMap_cons,List.map_append];unfold AmR;split
    · exact h2
    · simp only [List.map_cons,List.map_nil,List.cons_append,List.nil_append,List.nodup_cons]
      refine⟨fun hm=>?_,h2⟩;obtain⟨y,hy,e⟩:=List.mem_map.1 hm;obtain⟨x,hx,hy⟩:=List.mem_flatMap.1 hy;split at hy
      · cases hy
      · rw[List.mem_singleton] at hy
        subst hy;have:x.1=a.1:=congrArg Prod.snd e;exact h.1 (by rw[←this];exact List.mem_map_of_mem (f:=fun p:Bs×Ck=>p.1) hx)
 exact key C C hc
theorem AnQ {K:Ks} (hc:((AaY K).map (·.1)).Nodup) {E q:List Lf} (hE:E.Pairwise fun x y=>lt2 (Ad0 x) (Ad0 y)) (hm:∀y,y∈E↔y∈lvL K) (hq:q.Perm (lvL K)∧q.Pairwise fun x y=>ltOf (fun x y=>Al3 (Ad0 x) (Ad0 y)) y x=false):q=E:=by
 have hn:=AsH hc;have hEn:E.Nodup:=hE.imp fun {x y} h e=>by subst e;exact Ai0 _ h
 have hp:E.Perm (lvL K):=(List.perm_ext_iff_of_nodup hEn (List.Pairwise.of_map Ad0 (fun a b h e=>h (by rw[e])) hn)).2 hm;have hp2:q.Perm E:=hq.1.trans hp.symm;exact AqL hp2 ((hp.map Ad0).nodup_iff.2 hn) hq.2 hE
theorem isLf_iff {K:Ks} {n:Bs}:AkX K n=true↔∃x∈AaY K,x.1=n∧∀z∈AaY K,¬inC (brH K) n z:=by
 unfold AkX;rw[List.any_eq_true];constructor
 · rintro⟨y,hy,e⟩
   obtain⟨x,hx,h,rfl⟩:=mem_lvL.1 hy;have e:=of_decide_eq_true e;dsimp only at e;exact⟨x,hx,e,by rw[←e];exact h⟩
 · rintro⟨x,hx,rfl,h⟩
   exact⟨_,mem_lvL.2 ⟨x,hx,h,rfl⟩,decide_eq_true rfl⟩
def hA:Ck:=Ake [] [] me 0
def hX:Bs:=AcX (ckB hA)
def hT:List Tg:=[⟨42,brB,[42],[98]⟩]
def hB:Ck:=Ake [hX] hT me 0
def hC:Ck:=Ake [hX] [] me 0
def hL:List (Bs×Bs):=[(hX,ckB hA),([98],ckB hB),([99],ckB hC)]
theorem Ag9:AbD hA:=AlK (by simp) List.nodup_nil (by decide) ApB AoN (by decide)
theorem AwN:isN hX=true:=Avv _
theorem Are:hX.length=40:=AdP AwN
theorem Aho:AbD hB:=AlK (by simpa using AwN) (by simp) (by simp) (by decide) AoN (by decide)
theorem Ahn:AbD hC:=AlK (by simpa using AwN) (by simp) (by simp) ApB AoN (by decide)
def hK:Ks:=mput (mput (mput [] hX (vS (ckB hA))) [98] (vS (ckB hB))) [99] (vS (ckB hC))
theorem AwO:hX≠[98]:=fun e=>by have:=Are;rw[e] at this;simp at this
theorem AvB:hX≠[99]:=fun e=>by have:=Are;rw[e] at this;simp at this
theorem Ard:hX≠[]:=fun e=>by have:=Are;rw[e] at this;simp at this
theorem HeldP.nil:HeldP [] []:=⟨List.Perm.nil,List.nodup_nil,fun p h=>by cases h⟩
theorem h_held:HeldP hK hL:=by
 have h1:=HeldP.nil.put (n:=hX) (s:=ckB hA) (by simp) (Nat.le_trans (Ale Ag9) (by decide));have h2:=h1.put (n:=[98]) (s:=ckB hB) (by simp[Ne.symm AwO]) (Nat.le_trans (Ale Aho) (by decide));exact h2.put (n:=[99]) (s:=ckB hC) (by simp[Ne.symm AvB]) (Nat.le_trans (Ale Ahn) (by decide))
theorem AwK (s:Sd):s∈sdL hK↔s=⟨⟨42,brB,[98],[98]⟩,0,[98]⟩:=by
 rw[h_held.sd];have e1:=AoJ Ag9 hX;have e2:=AoJ Aho [98];have e3:=AoJ Ahn [99];simp only[hL,List.mem_cons,List.not_mem_nil,or_false,exists_eq_or_imp,exists_eq_left];rw[e1,e2,e3];simp[hA,hB,hC,Ake,hT]
theorem h_ck:Ac7 (AaY hK) hX=some hA∧Ac7 (AaY hK) [98]=some hB∧Ac7 (AaY hK) [99]=some hC :=
 ⟨h_held.ck (s:=ckB hA) (by simp[hL]) (Ady Ag9),h_held.ck (s:=ckB hB) (by simp[hL]) (Ady Aho),h_held.ck (s:=ckB hC) (by simp[hL]) (Ady Ahn)⟩
theorem Ajr (x:Bs×Ck):x∈AaY hK↔x=(hX,hA)∨x=([98],hB)∨x=([99],hC):=by
 rw[h_held.cks];simp only[hL,List.mem_cons,List.not_mem_nil,or_false,exists_eq_or_imp,exists_eq_left,Ady Ag9,Ady Aho,Ady Ahn,Option.some.injEq];constructor
 · rintro(⟨h1,h2⟩ | ⟨h1,h2⟩ | ⟨h1,h2⟩)
   · exact .inl (Prod.ext h1.symm h2.symm)
   · exact .inr (.inl (Prod.ext h1.symm h2.symm))
   · exact .inr (.inr (Prod.ext h1.symm h2.symm))
 · rintro(rfl | rfl | rfl)
   · exact .inl ⟨rfl,rfl⟩
   · exact .inr (.inl ⟨rfl,rfl⟩)
   · exact .inr (.inr ⟨rfl,rfl⟩)
theorem Axn:Ac7 (AaY hK) []=none:=h_held.nock fun p hp e=>by
 simp only[hL,List.mem_cons,List.not_mem_nil,or_false] at hp;rcases hp with rfl | rfl | rfl
 · exact absurd e Ard
 · cases e
 · cases e
theorem AwL (n:Bs) (hn:n≠[98]):Ab0 (AbO hK) (brB,n)=none:=Am5 fun s hs e=>by
 rw[(AwK s).1 hs] at e;exact hn (congrArg Prod.snd e).symm
theorem Avy:Ab0 (AbO hK) (brB,[98])=some ⟨⟨42,brB,[98],[98]⟩,0,[98]⟩:=AsN ((AwK _).2 rfl) rfl fun o ho _=>(AwK o).1 ho
theorem h_bx:brH hK hX=trB∧brH hK [99]=trB:=by
 have key:∀n,(n=hX∨n=[99]∨n=[])→brH hK n=trB:=fun n hn=>AwX (fun n=>n=hX∨n=[99]∨n=[]) (fun n hn=>AwL n (by rcases hn with rfl | rfl | rfl;exact AwO;decide;decide)) (fun n c hn hc=>by
  rcases hn with rfl | rfl | rfl
  · rw[h_ck.1] at hc;cases hc;exact .inr (.inr rfl)
  · rw[h_ck.2.2] at hc;cases hc;exact .inl rfl
  · rw[Axn] at hc;cases hc) hn
 exact⟨key _ (.inl rfl),key _ (.inr (.inl rfl))⟩
theorem Axp:0<(AaY hK).length:=List.length_pos_of_mem ((Ajr (hX,hA)).2 (.inl rfl))
theorem AvA:brH hK [98]=[98]:=by
 have:=Ati (tag:=brB) (name:=[98]) (k:=(AaY hK).length-1) h_ck.2.1 Avy rfl;rw[←AwC (k:=0) Axp] at this;exact AuF this (by simp)
theorem Avz {n:Bs} {z:Bs×Ck} (hz:z∈AaY hK) (hn:n≠[]):inC (brH hK) n z↔n=hX∧z.1=[99]:=by
 unfold inC;rcases (Ajr z).1 hz with rfl | rfl | rfl
 · rw[show Abk ((hX,hA):Bs×Ck).2=[] from rfl]
   exact⟨fun h=>absurd h.1.symm hn,fun h=>absurd h.2 AvB⟩
 · rw[show Abk (([98],hB):Bs×Ck).2=hX from rfl,h_bx.1,AvA]
   exact⟨fun h=>absurd h.2.2 (by decide),fun h=>by cases h.2⟩
 · rw[show Abk (([99],hC):Bs×Ck).2=hX from rfl,h_bx.1,h_bx.2]
   exact⟨fun h=>⟨h.1.symm,rfl⟩,fun h=>⟨h.1.symm,AvB,rfl⟩⟩
theorem Axo (y:Lf):y∈lvL hK↔y=⟨[98],[98]⟩∨y=⟨trB,[99]⟩:=by
 rw[mem_lvL];constructor
 · rintro⟨x,hx,h,rfl⟩
   rcases (Ajr x).1 hx with rfl | rfl | rfl
   · exact absurd ((Avz ((Ajr ([99],hC)).2 (.inr (.inr rfl))) Ard).2 ⟨rfl,rfl⟩) (h _ ((Ajr _).2 (.inr (.inr rfl))))
   · left;rw[AvA]
   · right;rw[h_bx.2]
 · rintro (rfl | rfl)
   · refine⟨([98],hB),(Ajr _).2 (.inr (.inl rfl)),fun z hz hc=>?_,by rw[AvA]⟩
     exact AwO ((Avz hz (by simp)).1 hc).1.symm
   · refine⟨([99],hC),(Ajr _).2 (.inr (.inr rfl)),fun z hz hc=>?_,by rw[h_bx.2]⟩
     exact AvB ((Avz hz (by simp)).1 hc).1.symm
theorem Auo {q:List Lf} (hq:q.Perm (lvL hK)∧q.Pairwise fun x y=>ltOf (fun x y=>Al3 (Ad0 x) (Ad0 y)) y x=false):q=[⟨[98],[98]⟩,⟨trB,[99]⟩]:=by
 refine AnQ h_held.cnd ?_ (fun y=>?_) hq
 · refine List.Pairwise.cons (fun y hy=>?_) (List.pairwise_singleton _ _)
   rw[List.mem_singleton.1 hy];exact .inl (by decide)
 · rw[Axo];simp
theorem AwM:AkX hK hX=false:=by
 cases e:AkX hK hX with
 | false=>rfl
 | true =>
   obtain⟨x,_,_,h⟩:=isLf_iff.1 e;exact absurd ((Avz ((Ajr ([99],hC)).2 (.inr (.inr rfl))) Ard).2 ⟨rfl,rfl⟩) (h _ ((Ajr _).2 (.inr (.inr rfl))))
section
set_option maxRecDepth 100000
theorem SL.perm {As Bs:List HP} (p:As.Perm Bs):∀{M:Kn} {h:Res},SL As M h→SL Bs M h:=by
 induction p with
 | nil=>intro M h s;exact s
 | cons A _ ih =>
   intro M h s;obtain⟨h1,h2,d,e,a,t⟩:=s;exact⟨h1,h2,d,e,a,ih t⟩
 | swap A B l =>
   intro M h s;obtain⟨h1,h2,d,e,b,k1,k2,d',e',a,t⟩:=s;subst e';obtain⟨d1,d2⟩:=Res.dj_add_right.1 d;exact⟨k1,h1.add k2,Res.dj_add_right.2 ⟨Res.dj_comm d1,d'⟩,by rw[e,←Res.add_assoc,Res.add_comm d1,Res.add_assoc],a,h1,k2,d2,rfl,b,t⟩
 | trans _ _ ih1 ih2=>intro M h s;exact ih2 (ih1 s)
theorem Aik {α:Type}:∀{l:List α} {i:Nat} (h:i<l.length),(l[i]::l.eraseIdx i).Perm l:=by
 intro l
 induction l with
 | nil=>intro i h;simp at h
 | cons a r ih =>
   intro i h
   cases i with
   | zero=>exact List.Perm.refl _
   | succ i =>
     have h':i<r.length:=by simpa using h
     show (r[i]::a::r.eraseIdx i).Perm (a::r);exact(List.Perm.swap _ _ _).trans ((ih h').cons a)
structure Gr where
 b:Bs
 a:Option Addr
 c:Nat
 ns:List Bs
def grV (g:Gr):Value:=.slice g.a g.ns.length g.c
def AdQ (g:Gr):HP:=Row 9 1 (.slice g.a g.ns.length g.c) g.ns.length (g.ns.map vS)
def grK (G:List Gr):Ks:=G.map fun g=>(g.b,grV g)
def GRs (G:List Gr):HP:=Al (G.map AdQ)
theorem sl_cons_al {A:HP} {As Hs:List HP} {M:Kn} {h:Res}:SL (Al (A::As)::Hs) M h↔SL (A::Al As::Hs) M h:=by
 constructor
 · rintro⟨h1,h2,d,e,⟨k1,k2,d',e',a,t⟩,s⟩
   subst e';obtain⟨d1,d2⟩:=Res.dj_add_left.1 d;exact⟨k1,k2.add h2,Res.dj_add_right.2 ⟨d',d1⟩,by rw[e,Res.add_assoc],a,k2,h2,d2,rfl,t,s⟩
 · rintro⟨h1,h2,d,e,a,k1,k2,d',e',t,s⟩
   subst e';obtain⟨d1,d2⟩:=Res.dj_add_right.1 d;exact⟨h1.add k1,k2,Res.dj_add_left.2 ⟨d2,d'⟩,by rw[e,Res.add_assoc],⟨h1,k1,d1,rfl,a,t⟩,s⟩
theorem Aht {As Bs Hs:List HP} (p:As.Perm Bs):Ent (Al As::Hs) (Al Bs::Hs):=⟨fun s=>by
 obtain⟨h1,h2,d,e,a,t⟩:=s;exact⟨h1,h2,d,e,SL.perm p a,t⟩⟩
theorem AwP {G:List Gr} {i:Nat} (hi:i<G.length) {Hs:List HP}:Ent (GRs G::Hs) (AdQ G[i]::GRs (G.eraseIdx i)::Hs):=by
 have hp:(G.map AdQ).Perm (AdQ G[i]::(G.eraseIdx i).map AdQ):=by
  rw[←List.map_cons];exact(Aik hi).symm.map _
 exact(Aht hp).trans ⟨fun s=>sl_cons_al.1 s⟩
theorem Aw0 {G:List Gr} {i:Nat} (hi:i<G.length) (g:Gr) {Hs:List HP}:Ent (AdQ g::GRs (G.eraseIdx i)::Hs) (GRs (G.set i g)::Hs):=by
 have hi2:i<(G.set i g).length:=by rw[List.length_set];exact hi
 have hp:(AdQ g::(G.eraseIdx i).map AdQ).Perm ((G.set i g).map AdQ):=by
  rw[←List.map_cons];refine List.Perm.map _ ?_;have:=Aik hi2;rwa [List.getElem_set_self,List.eraseIdx_set_eq] at this
 exact Ent.trans ⟨fun s=>sl_cons_al.2 s⟩ (Aht hp)
theorem Aup {G:List Gr} (g:Gr) {Hs:List HP}:Ent (AdQ g::GRs G::Hs) (GRs (G++[g])::Hs):=by
 have hp:(AdQ g::G.map AdQ).Perm ((G++[g]).map AdQ):=by
  rw[List.map_append,List.map_cons,List.map_nil];exact(List.perm_append_singleton _ _).symm
 exact Ent.trans ⟨fun s=>sl_cons_al.2 s⟩ (Aht hp)
theorem gr_nil {Hs:List HP}:Ent Hs (GRs []::Hs):=⟨fun {M h} s=>⟨Res.emp,h,Res.emp_dj _,rfl,trivial,s⟩⟩
def GIs (G:List Gr):HP:=⟨fun M _=>∀g∈G,AuL g.a (g.ns.map vS) M Res.emp,fun le h g hg=>(SlI g.a (g.ns.map vS)).mono (h:=Res.emp) le (h g hg)⟩
instance {G:List Gr}:PersC (GIs G):=⟨fun e=>e⟩
theorem AwR {G:List Gr} {g:Gr} {Hs:List HP} (h:g∈G) (hp:Has (GIs G) Hs):Ent Hs (SlI g.a (g.ns.map vS)::Hs):=⟨fun {M h0} s=>by
 obtain⟨_,_,a⟩:=hp.sat s;exact⟨Res.emp,h0,Res.emp_dj _,rfl,a g h,s⟩⟩
theorem AuV {r:Option Nat} {P:Program} {n:Nat} {L:Loc} {Q:Out} {c:Code}:∀(G:List Gr) {Hs:List HP},wc r P n c L (GIs G::Hs) Q→wc r P n c L (GRs G::Hs) Q:=by
 intro G
 induction G with
 | nil =>
   intro Hs K;refine wc_ent' ⟨fun {M h} s=>?_⟩ K;obtain⟨h1,h2,d,e,_,t⟩:=s;refine⟨h1,h2,d,e,(fun g hg=>by cases hg),t⟩
 | cons g G ih =>
   intro Hs K;refine wc_ent' (Hs:=GRs (g::G)::Hs) (Gs:=AdQ g::GRs G::Hs) ⟨fun s=>sl_cons_al.1 s⟩ ?_;refine Aob (e:=9) (sz:=1) (k:=g.ns.length) (n':=g.ns.length) (c':=g.c) (a:=g.a) (xs:=g.ns.map vS) .here ?_;refine wc_ent' (Hs:=SlI g.a (g.ns.map vS)::GRs G::Hs) (Gs:=GRs G::SlI g.a (g.ns.map vS)::Hs) ⟨fun s=>SL.perm (List.Perm.swap _ _ _) s⟩ ?_;refine ih (wc_ent' ⟨fun {M h} s=>?_⟩ K);obtain⟨h1,h2,d,e,a,k1,k2,d',e',b,t⟩:=s;subst e';refine⟨h1.add k1,k2,?_,by rw[e,Res.add_assoc],fun q hq=>?_,t⟩
   · obtain⟨d1,d2⟩:=Res.dj_add_right.1 d
     exact Res.dj_add_left.2 ⟨d2,d'⟩
   · rcases List.mem_cons.1 hq with rfl | hq
     · exact b
     · exact a q hq
structure GOk (br:Bs→Bs) (pre:List Bs) (G:List Gr):Prop where
 nd:(G.map (·.b)).Nodup
 ns:∀g∈G,g.ns=pre.filter (fun n=>decide (br n=g.b))∧g.ns≠[]∧g.a≠none
 mem:∀n∈pre,br n∈G.map (·.b)
 len:G.length≤pre.length
theorem GOk.nil (br:Bs→Bs):GOk br [] []:=⟨List.nodup_nil,(fun g h=>by cases h),(fun n h=>by cases h),Nat.le_refl _⟩
theorem GOk.new {br:Bs→Bs} {pre:List Bs} {G:List Gr} (h:GOk br pre G) {n:Bs} (hn:br n∉G.map (·.b)) (a:Option Addr) (ha:a≠none) (c:Nat):GOk br (pre++[n]) (G++[⟨br n,a,c,[n]⟩]):=by
 have hno:∀m∈pre,br m≠br n:=fun m hm e=>hn (by rw[←e];exact h.mem m hm);refine⟨?_,fun g hg=>?_,fun m hm=>?_,by simp[h.len]⟩
 · rw[List.map_append,List.nodup_append]
   exact⟨h.nd,by simp,fun x hx y hy e=>by simp at hy;subst hy;subst e;exact hn hx⟩
 · rw [List.filter_append]
   rcases List.mem_append.1 hg with hg | hg
   · obtain⟨h1,h2,h3⟩:=h.ns g hg
     have:br n≠g.b:=fun e=>hn (by rw[e];exact List.mem_map_of_mem (f:=fun g:Gr=>g.b) hg);refine⟨?_,h2,h3⟩;rw[←h1];simp[this]
   · rw[List.mem_singleton.1 hg]
     refine⟨?_,by simp,ha⟩;dsimp only;rw[List.filter_eq_nil_iff.2 (fun m hm=>by simpa using hno m hm)]
     simp
 · rw[List.map_append,List.mem_append]
   rcases List.mem_append.1 hm with hm | hm
   · exact .inl (h.mem m hm)
   · rw[List.mem_singleton.1 hm];exact .inr (by simp)
theorem GOk.more {br:Bs→Bs} {pre:List Bs} {G:List Gr} (h:GOk br pre G) {n:Bs} {i:Nat} (hi:i<G.length) (hb:G[i].b=br n) (a:Option Addr) (ha:a≠none) (c:Nat):GOk br (pre++[n]) (G.set i ⟨br n,a,c,G[i].ns++[n]⟩):=by
 have hk:(G.set i ⟨br n,a,c,G[i].ns++[n]⟩).map (·.b)=G.map (·.b):=by
  rw[List.map_set];apply List.ext_getElem?;intro j;rw[List.getElem?_set];by_cases e:i=j
  · subst e;simp[hi,hb]
  · rw[if_neg e]
 refine⟨by rw[hk];exact h.nd,fun g hg=>?_,fun m hm=>?_,by rw[List.length_set,List.length_append];have:=h.len;omega⟩
 · rw [List.filter_append]
   obtain⟨j,hj,rfl⟩:=List.getElem_of_mem hg;rw[List.length_set] at hj;rw[List.getElem_set];by_cases e:i=j
   · subst e
     rw[if_pos rfl];obtain⟨h1,_,_⟩:=h.ns _ (List.getElem_mem hi);refine⟨?_,by simp,ha⟩;dsimp only;rw[hb] at h1;rw[h1];simp
   · rw [if_neg e]
     obtain⟨h1,h2,h3⟩:=h.ns _ (List.getElem_mem hj);have hne:br n≠G[j].b:=fun e2=>by
      have hl:i<(G.map (·.b)).length:=by simpa using hi
      have hl2:j<(G.map (·.b)).length:=by simpa using hj
      exact e (Adb h.nd hl hl2 (by simp[hb,e2]))
     refine⟨?_,h2,h3⟩;rw[←h1];simp[hne]
 · rw [hk]
   rcases List.mem_append.1 hm with hm | hm
   · exact h.mem m hm
   · rw[List.mem_singleton.1 hm,←hb]
     exact List.mem_map_of_mem (f:=fun g:Gr=>g.b) (List.getElem_mem hi)
theorem Afg (G:List Gr):(grK G).map (·.1)=G.map (·.b):=by simp[grK]
theorem Aqc {G:List Gr} (hn:(G.map (·.b)).Nodup) {g:Gr} (hg:g∈G):mlook (grK G) g.b=some (grV g):=by
 refine AdN (by rw[Afg];exact hn) ?_;exact List.mem_map_of_mem (f:=fun g:Gr=>(g.b,grV g)) hg
theorem As1 {G:List Gr} {g:Gr} (h:g.b∉G.map (·.b)):mput (grK G) g.b (grV g)=grK (G++[g]):=by
 have hp:∀(ks:Ks),g.b∉ks.map (·.1)→mput ks g.b (grV g)=ks++[(g.b,grV g)]:=by
  intro ks
  induction ks with
  | nil=>intro _;rfl
  | cons p r ih =>
    intro hn;simp only[List.map_cons,List.mem_cons,not_or] at hn;rw[mput,if_neg (fun e=>hn.1 e.symm),ih hn.2];rfl
 rw[hp _ (by rw[Afg];exact h)];simp[grK]
theorem As0 {G:List Gr} (hn:(G.map (·.b)).Nodup) {i:Nat} (hi:i<G.length) {g:Gr} (hb:G[i].b=g.b):mput (grK G) g.b (grV g)=grK (G.set i g):=by
 induction G generalizing i with
 | nil=>simp at hi
 | cons q G ih =>
   simp only[List.map_cons,List.nodup_cons] at hn
   cases i with
   | zero =>
     have hb:q.b=g.b:=hb;simp[grK,mput,hb]
   | succ i =>
     have hi':i<G.length:=by simpa using hi
     have hb':G[i].b=g.b:=hb;have hne:q.b≠g.b:=fun e=>hn.1 (by rw[e,←hb'];exact List.mem_map_of_mem (f:=fun g:Gr=>g.b) (List.getElem_mem hi'));have:=ih hn.2 hi' hb';simp only[grK,List.map_cons,mput,if_neg hne,List.set_cons_succ] at this ⊢;rw[this]
end
end Go.Proofs.YtdnoacgopfcpbaaGreat
