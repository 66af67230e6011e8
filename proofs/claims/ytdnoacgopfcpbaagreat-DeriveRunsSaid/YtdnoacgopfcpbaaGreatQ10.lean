/- Texts of this proof, put together: SCard, SCard2, SCard3, SRead. -/
import Derived.Test.YtdnoacgopfcpbaaGreatQ09
set_option linter.unusedVariables false
set_option linter.unusedSimpArgs false
namespace Go.Proofs.YtdnoacgopfcpbaaGreat
section
set_option maxRecDepth 100000
/-- A card in memory. -/
structure CdV where
 l : UInt8
 a : Option Addr
 c : Nat
 args : List Bs
def CdV.cells (q : CdV) : List Value := [vU q.l.toNat, .slice q.a q.args.length q.c]
def CdV.cd (q : CdV) : Cd := ⟨q.l, q.args⟩
def cdsOf (qs : List CdV) : List Cd := qs.map CdV.cd
/-- What some cards point at: it never turns. -/
def CdM (qs : List CdV) : HP := ⟨fun M _ => ∀ q ∈ qs, (SlI q.a (q.args.map vS)).at_ M Res.emp ∧ q.args.length ≤ q.c, fun le h q hq => ⟨(SlI q.a (q.args.map vS)).mono le (h q hq).1, (h q hq).2⟩⟩
theorem cdm_cap {qs : List CdV} {M : Kn} {h : Res} (x : (CdM qs).at_ M h) : ∀ q ∈ qs, q.args.length ≤ q.c := fun q hq => (x q hq).2
theorem CdM.pers (qs : List CdV) : Pers (CdM qs) := fun e => e
instance {qs : List CdV} : PersC (CdM qs) := ⟨CdM.pers qs⟩
theorem ent_cd {qs : List CdV} {q : CdV} {Hs : List HP} (h : q ∈ qs) (hp : Has (CdM qs) Hs) : Ent Hs (SlI q.a (q.args.map vS) :: Hs) := ⟨fun {M g} s => by
 obtain ⟨h1, _, a⟩ := hp.sat s
 exact ⟨Res.emp, g, Res.emp_dj _, rfl, (a q h).1, s⟩⟩
theorem ent_cdm_nil {Hs : List HP} : Ent Hs (CdM [] :: Hs) := ⟨fun {M g} s => ⟨Res.emp, g, Res.emp_dj _, rfl, (fun q hq => by cases hq), s⟩⟩
theorem ent_cdm_snoc {qs : List CdV} {q : CdV} {Hs : List HP} (hp : Has (CdM qs) Hs) (hq : Has (SlI q.a (q.args.map vS)) Hs) (hc : q.args.length ≤ q.c) : Ent Hs (CdM (qs ++ [q]) :: Hs) := ⟨fun {M g} s => by
 obtain ⟨h1, _, a⟩ := hp.sat s
 obtain ⟨h2, _, b⟩ := hq.sat s
 refine ⟨Res.emp, g, Res.emp_dj _, rfl, fun x hx => ?_, s⟩
 rcases List.mem_append.1 hx with hx | hx
 · exact a x hx
 · rw [List.mem_singleton.1 hx]; exact ⟨b, hc⟩⟩
theorem ent_cdm_app {qs rs : List CdV} {Hs : List HP} (hp : Has (CdM qs) Hs) (hq : Has (CdM rs) Hs) : Ent Hs (CdM (qs ++ rs) :: Hs) := ⟨fun {M g} s => by
 obtain ⟨h1, _, a⟩ := hp.sat s
 obtain ⟨h2, _, b⟩ := hq.sat s
 refine ⟨Res.emp, g, Res.emp_dj _, rfl, fun x hx => ?_, s⟩
 rcases List.mem_append.1 hx with hx | hx
 · exact a x hx
 · exact b x hx⟩
theorem get_field {α : Type} {f : α → List Value} {sz : Nat} (hf : ∀ x, (f x).length = sz) {l : List α} {m k : Nat} (hk : k < sz) (h : m < l.length) : (l.flatMap f)[m * sz + k]? = (f l[m])[k]? := by
 rw [← get_flat hf h, List.getElem?_take_of_lt hk, List.getElem?_drop]
theorem cdget {qs : List CdV} {j : Nat} (h : j < qs.length) : (qs.flatMap CdV.cells)[2 * j]? = some (vU (qs[j].l.toNat : Int)) ∧ (qs.flatMap CdV.cells)[2 * j + 1]? = some (.slice qs[j].a qs[j].args.length qs[j].c) := by
 constructor
 · have := get_field (f := CdV.cells) (sz := 2) (fun _ => rfl) (k := 0) (by decide) h; rw [Nat.mul_comm]; exact this
 · have := get_field (f := CdV.cells) (sz := 2) (fun _ => rfl) (k := 1) (by decide) h; rw [Nat.mul_comm]; exact this
theorem slices_Index_sp {B : HP} {a : Option Addr} (n c : Nat) (l : List Bs) (x : Bs) (sh : SlA B a (l.map vS)) (hn : l.length = n) (hb : n ≤ 140737488355328) :
    Sp Tryz.prog 243 [.slice a n c, vS x] [B] (X := Int) (fun i => vI i) (fun i => (0 ≤ i ↔ x ∈ l)) (fun _ => [B]) := by
 subst hn
 haveI : RdSl a (l.map vS) [B] := ⟨⟨B, sh, .here⟩⟩
 refine Sp.body (n := 19) Tryz.call243 Tryz.func243 rfl rfl rfl ?_
 refine Qc (k:=Vv (k:=Wq (Za (k:=Qc (k:=Qv (k:=Vv (k:=Wq (Zb (k:=?_)))))))))
 refine p_loop (fun (i : { j : Nat // j ≤ l.length ∧ x ∉ l.take j }) => [(0, .slice a l.length c), (1, vS x), (6, .slice a l.length c), (7, vI l.length), (8, vI i.1)]) (fun (i : { j : Nat // j ≤ l.length ∧ x ∉ l.take j }) => [B]) (fun (i : { j : Nat // j ≤ l.length ∧ x ∉ l.take j }) => l.length - i.1) rfl (⟨0, Nat.zero_le _, by simp⟩) ?_ ?_ (fun i => ?_)
 · exact ⟨rfl, rfl, rfl, rfl, rfl, trivial⟩
 ·
  exact ent_pick
 obtain ⟨j, hj, hx⟩ := i
 dsimp only
 try dsimp only
 refine Qc (k:=Vv (k:=Wq (Za (k:=Zi (t:=fun h9 => ?_) (f:=fun h9 => ?_)))))
 ·
  refine Zk (k:=Ya (Za (k:=Zb (k:=Qc (k:=Qv (k:=Wq (Za (k:=?_))))))))
  have hjl : j < l.length := by omega
  have hg : l.getD j [] = l[j] := by simp [hjl]
  refine Zr (k:=Qv (k:=Vv (k:=Ye 1 (k:=Yl (hv:=by exact get_mapD [] hjl) (k:=Vv (k:=Wq (Zi (t:=fun h16 => ?_) (f:=fun h16 => ?_))))))))
  ·
   refine Qc (k:=Qv (k:=Wq (Zt (k:=Vb (Va (Vi (Vb (Va ?_))))))))
   refine fin_ret (j : Int) (vs := [_]) (Cs := []) rfl (.tmp rfl .nil) rfl ⟨fun _ => ?_, fun _ => by omega⟩ ent_pick
   have : x = l[j] := by rw [← hg]; simpa using h16
   rw [this]; exact List.getElem_mem _
  ·
   refine Zk (k:=Yb (Ya (Zr (k:=Qv (k:=Wn ?_)))))
   refine to_inv ⟨j + 1, by omega, ?_⟩ (by dsimp only; omega) ⟨rfl, rfl, rfl, rfl, rfl, trivial⟩ ent_pick
   rw [List.take_succ_eq_append_getElem hjl]
   simp only [List.mem_append, List.mem_singleton, not_or]
   exact ⟨hx, fun e => h16 (by rw [hg, e])⟩
 ·
  refine Ze (k:=Xa (Xi (Xb (Ya (Qc (k:=Vv (k:=Wq (Zt (k:=?_)))))))))
  refine fin_ret (-1) (vs := [_]) (Cs := []) rfl (.tmp rfl .nil) rfl ⟨fun h => by omega, fun h => ?_⟩ ent_pick
  rw [List.take_of_length_le (by omega)] at hx
  exact absurd h hx
theorem slices_Contains_sp {B : HP} {a : Option Addr} (n c : Nat) (l : List Bs) (x : Bs) (sh : SlA B a (l.map vS)) (hn : l.length = n) (hb : n ≤ 140737488355328) :
    Sp1 Tryz.prog 230 [.slice a n c, vS x] [B] (vB (decide (x ∈ l))) [B] := by
 refine Sp.body (n := 9) Tryz.call230 Tryz.func230 rfl rfl rfl ?_
 refine Qc (k:=Vv (k:=Wq (Qc (k:=Qv (k:=?_)))))
 refine r_callX (slices_Index_sp n c l x sh hn hb) rfl rfl rfl (fun i hi => ?_)
 refine Qv (k:=Wq (Zt (k:=?_)))
 refine fin_ret () (vs := [_]) (Cs := []) rfl (.tmp rfl .nil) ?_ trivial ent_pick
 rw [← decide_eq_decide.2 hi]; rfl
theorem card_Of_sp (a : Option Addr) (n cap : Nat) (c : UInt8) : Sp Tryz.prog 111 [.slice a n cap, vU c.toNat] [] (X := Nat × Nat) (fun b => .func (.func 160) #[] #[.pointer (some ⟨b.1, 0, none⟩), .pointer (some ⟨b.2, 0, none⟩)]) (fun _ => True) (fun b => [Ce b.1 170 [.slice a n cap], Ce b.2 5 [vU c.toNat]]) := by
 refine Sp.body (n := 6) Tryz.call111 Tryz.func111 rfl rfl rfl ?_
 refine Qc (k:=Zx [_] (k:=fun b2 => Zx [_] (k:=fun b3 => Vv (k:=Wq (Qc (k:=Qv (k:=Wq (Zt (k:=?_)))))))))
 refine fin_ret (b2, b3) (vs := [_]) (Cs := []) rfl (.tmp rfl .nil) rfl trivial ?_
 exact ent_pick
def ofL (c : UInt8) : List CdV → Nat → List (Nat × CdV)
 | [], _ => []
 | q :: r, i => if q.l = c then (i, q) :: ofL c r (i + 1) else ofL c r (i + 1)
theorem ofL_app (c : UInt8) (l m : List CdV) (i : Nat) : ofL c (l ++ m) i = ofL c l i ++ ofL c m (i + l.length) := by
 induction l generalizing i with
 | nil => rfl
 | cons q l ih =>
   simp only [List.cons_append, ofL, ih, List.length_cons, show i + 1 + l.length = i + (l.length + 1) from by omega]
   split <;> simp
theorem ofL_take {c : UInt8} {qs : List CdV} {j : Nat} (h : j < qs.length) : ofL c (qs.take (j + 1)) 0 = ofL c (qs.take j) 0 ++ (if qs[j].l = c then [(j, qs[j])] else []) := by
 rw [List.take_succ_eq_append_getElem h, ofL_app, List.length_take]
 have : 0 + min j qs.length = j := by omega
 rw [this]
 simp only [ofL]
theorem ofL_mem {c : UInt8} {qs : List CdV} {i : Nat} {p : Nat × CdV} (h : p ∈ ofL c qs i) : p.2 ∈ qs ∧ p.2.l = c := by
 induction qs generalizing i with
 | nil => cases h
 | cons q r ih =>
   simp only [ofL] at h
   split at h
   · rcases List.mem_cons.1 h with rfl | h
     · rename_i e; exact ⟨by simp, e⟩
     · have := ih h; exact ⟨by simp [this.1], this.2⟩
   · have := ih h; exact ⟨by simp [this.1], this.2⟩
theorem ofL_args {c : UInt8} (qs : List CdV) (i : Nat) : (ofL c qs i).map (fun p => p.2.args) = ((cdsOf qs).filter (fun x => x.l = c)).map (·.args) := by
 induction qs generalizing i with
 | nil => rfl
 | cons q r ih =>
   simp only [ofL, cdsOf, List.map_cons, List.filter_cons]
   have e : q.cd.l = q.l := rfl
   by_cases h : q.l = c
   · rw [if_pos h, e, if_pos (by simp [h]), List.map_cons, List.map_cons, ih]; rfl
   · rw [if_neg h, e, if_neg (by simp [h]), ih]; rfl
abbrev okO (c : UInt8) (qs : List CdV) : List (Nat × CdV) → Nat × CdV → Prop := fun pre x => ∃ r, ofL c qs 0 = pre ++ x :: r
abbrev stopO (c : UInt8) (qs : List CdV) : List (Nat × CdV) → Prop := fun pre => ∃ r, ofL c qs 0 = pre ++ r
abbrev encO (p : Nat × CdV) : List Value := [vI p.1, .slice p.2.a p.2.args.length p.2.c]
theorem ofL_split {c : UInt8} {qs : List CdV} {j : Nat} (h : j < qs.length) : ∃ r, ofL c qs 0 = ofL c (qs.take (j + 1)) 0 ++ r := by
 conv => enter [1, r, 1]; rw [← List.take_append_drop (j + 1) qs, ofL_app]
 exact ⟨_, rfl⟩
theorem zb160next0 {G : Prop} (h : G := by
    refine to_inv ⟨j + 1, by omega⟩ (by dsimp only; omega) ⟨rfl, rfl, rfl, rfl, rfl, rfl, trivial⟩ ?_
    dsimp only
    rw [htk]
    exact ent_pick) : G := h
theorem card_Of_it {B : HP} {a : Option Addr} (n cap b2 b3 : Nat) (qs : List CdV) (c : UInt8) (sh : SlA B a (qs.flatMap CdV.cells)) (hn : qs.length = n) (hb : n ≤ 140737488355328) :
    Iter Tryz.prog 160 [.pointer (some ⟨b2, 0, none⟩), .pointer (some ⟨b3, 0, none⟩)] encO (okO c qs) (stopO c qs) [Ce b2 170 [.slice a n cap], Ce b3 5 [vU c.toNat], B] [Ce b2 170 [.slice a n cap], Ce b3 5 [vU c.toNat], B] (ofL c qs 0) (fun _ => .tuple #[]) := by
 intro y J Jx ys
 subst hn
 haveI : RdSl a (qs.flatMap CdV.cells) [B] := ⟨⟨B, sh, .here⟩⟩
 refine Sp.body (n := 26) Tryz.call160 Tryz.func160 rfl rfl rfl ?_
 refine Qc (k:=Zd (k:=Qv (k:=Wq (Zb (k:=?_)))))
 refine p_loop (fun (i : { j : Nat // j ≤ qs.length }) => [(0, y), (1, .pointer (some ⟨b2, 0, none⟩)), (2, .pointer (some ⟨b3, 0, none⟩)), (6, .slice a qs.length cap), (7, vI qs.length), (8, vI i.1)]) (fun (i : { j : Nat // j ≤ qs.length }) => [J (ofL c (qs.take i.1) 0), Ce b2 170 [.slice a qs.length cap], Ce b3 5 [vU c.toNat], B]) (fun (i : { j : Nat // j ≤ qs.length }) => qs.length - i.1) rfl (⟨0, Nat.zero_le _⟩) ?_ ?_ (fun i => ?_)
 · exact ⟨rfl, rfl, rfl, rfl, rfl, rfl, trivial⟩
 ·
  exact Ent.refl _
 obtain ⟨j, hj⟩ := i
 dsimp only
 try dsimp only
 refine Qc (k:=Vv (k:=Wq (Za (k:=Zi (t:=fun h9 => ?_) (f:=fun h9 => ?_)))))
 ·
  refine Zk (k:=Ya (Za (k:=Zb (k:=Za (k:=?_)))))
  have hjl : j < qs.length := by omega
  have htk := ofL_take (c := c) hjl
  obtain ⟨rr, hrr⟩ := ofL_split (c := c) hjl
  refine Zr (k:=Vv (k:=Ye 2 (k:=?_)))
  refine r_eloada (vs := [_, _]) (sz := 2) Tryz.underlying220 rfl ti220 rfl rfl (by rw [flat_len (sz := 2) (fun _ => rfl)]; omega) rfl (by refine get_flat (fun x => ?_) ?_ <;> first | rfl | omega) rfl ?_
  refine Zc [.int .u8 0, .slice none 0 0] (k:=fun b5 => Vv (k:=Zp (k:=Wq (Qc (k:=Qx 0 5 (k:=Zd (k:=Qv (k:=Gi 4 (t:=fun h17 => ?_) (f:=fun h17 => ?_)))))))))
  ·
   have hlc : qs[j].l = c := u8eq.2 (by omega)
   rw [if_pos hlc] at htk
   refine J1 (k:=J1 (k:=I1 (k:=Vf 1 27 (k:=I1 (k:=Zd (k:=I1 (k:=?_)))))))
   refine r_yield ys (ofL c (qs.take j) 0) (j, qs[j]) ⟨rr, by rw [hrr, htk, List.append_assoc]; rfl⟩ rfl rfl rfl ?_ ?_
   ·
    refine J1 (k:=P1 (k:=Wq (Z0 (k:=Zk (k:=Yb (Ya (Zr (k:=Qv (k:=Wn ?_)))))))))
    exact zb160next0
   ·
    refine J1 (k:=P1 (k:=Wq (Z1 (k:=Zt (k:=Vb (Va (Vi (Vb ?_))))))))
    refine fin_ret (some (ofL c (qs.take (j + 1)) 0)) (vs := []) (Cs := []) rfl .nil rfl (fun p e => by cases e; exact ⟨rr, hrr⟩) ?_
    simp only [endsAt]
    rw [htk]
    exact ent_pick
  ·
   have hlc : ¬ qs[j].l = c := fun e => h17 (by rw [e])
   rw [if_neg hlc, List.append_nil] at htk
   refine O0 (k:=O0 (k:=O0 (k:=O0 (k:=O0 (k:=O0 (k:=P0 (k:=Wq (Z0 (k:=Zk (k:=Yb (Ya ?_)))))))))))
   refine Zr (k:=Qv (k:=Wn ?_))
   exact zb160next0
 ·
  refine Ze (k:=Xa (Xi (Xb ?_)))
  have hjl : j = qs.length := by omega
  subst hjl
  rw [List.take_length]
  refine fin_end none (vs := []) (Cs := []) rfl .nil rfl (fun pre e => by cases e) ?_
  simp only [endsAt]
  exact ent_pick
def oneS (l : List (Nat × CdV)) : Value := match l with
 | [] => .slice none 0 0
 | p :: _ => .slice p.2.a p.2.args.length p.2.c
theorem card_One_sp {B : HP} {a : Option Addr} (n cap : Nat) (qs : List CdV) (c : UInt8) (sh : SlA B a (qs.flatMap CdV.cells)) (hn : qs.length = n) (hb : n ≤ 140737488355328) :
    Sp1 Tryz.prog 112 [.slice a n cap, vU c.toNat] [B] (.tuple #[oneS (ofL c qs 0), vI (ofL c qs 0).length]) [B] := by
 have hle : ∀ (l : List CdV) i, (ofL c l i).length ≤ l.length := by
  intro l
  induction l with
  | nil => intro i; exact Nat.le_refl _
  | cons q r ih => intro i; have := ih (i + 1); simp only [ofL, List.length_cons]; split <;> (try simp only [List.length_cons]) <;> omega
 have hl0 := hle qs 0
 refine Sp.body (n := 22) Tryz.call112 Tryz.func112 rfl rfl rfl ?_
 refine Qc (k:=Qv (k:=Wq (Qc (k:=Zc [.slice none 0 0] (k:=fun b6 => Wq (Qc (k:=Zc [.int .i64 0] (k:=fun b7 => ?_))))))))
 refine Zo (k:=Wq (Za (k:=Qc (k:=Qv (k:=?_)))))
 refine r_callX (card_Of_sp a n cap c) rfl rfl rfl (fun x12 _ => ?_)
 refine Wq (Zb (k:=?_))
 refine p_rangeFunc (fun pre => [Ce b6 27 [oneS pre], Ce b7 3 [vI pre.length]]) (fun j pre => [Pu False]) rfl (card_Of_it n cap x12.1 x12.2 qs c sh hn hb) rfl (fun _ => by rfl) rfl ?_ (fun l pre q hok => ?_) ?_ (fun j pre hs => ?_)
 · (refine ent_app ?_; exact ent_step (ce_norm (by rfl) (by rfl)) (ent_step (ce_norm (by rfl) (by rfl)) ent_pick))
 ·
  obtain ⟨rr, hrr⟩ := hok
  have hpl := congrArg List.length hrr
  rw [List.length_append, List.length_cons] at hpl
  refine Zr (k:=Vv (k:=Wg (Zb (k:=Za (k:=Qc (k:=Zd (k:=Vv (k:=Wq (Zi (t:=fun h16 => ?_) (f:=fun h16 => ?_))))))))))
  ·
   have hp0 : pre = [] := List.eq_nil_of_length_eq_zero (by omega)
   have e1 : oneS (pre ++ [q]) = .slice q.2.a q.2.args.length q.2.c := by rw [hp0]; rfl
   refine Zr (k:=Vv (k:=Zo (k:=Wq (Zr (k:=Zd (k:=Vv (k:=Zo (k:=Wn (Yb ?_)))))))))
   refine to_round ?_
   rw [e1, List.length_append, List.length_singleton]
   exact ent_step (ce_norm (by rfl) (by rfl)) (ent_step (ce_norm (by rfl) (by rfl)) ent_nil)
  ·
   have e1 : oneS (pre ++ [q]) = oneS pre := by
    cases pre with
    | nil => simp at h16
    | cons p r => rfl
   refine Zk (k:=Ya (Zr (k:=Zd (k:=Vv (k:=Zo (k:=Wn (Yb ?_)))))))
   refine to_round ?_
   rw [e1, List.length_append, List.length_singleton]
   exact ent_step (ce_norm (by rfl) (by rfl)) (ent_step (ce_norm (by rfl) (by rfl)) ent_nil)
 ·
  skip
  refine Yb (Ya (Za (k:=Dw [Ce b6 27 [oneS (ofL c qs 0)], Ce b7 3 [vI (ofL c qs 0).length]] (k:=?_))))
  refine Di 0 (t:=Ul) (k:=Di 1 (t:=Ul) (k:=Dv 2 (k:=Dv 3 (k:=Dd (k:=Ya (Zt (k:=?_)))))))
  refine fin_ret () (vs := [_, _]) (Cs := []) rfl (.tmp rfl (.tmp rfl .nil)) rfl trivial ?_
  exact ent_pick
 ·
  exact wc_no (fun s => by obtain ⟨_, _, _, _, a, _⟩ := s; exact a)
end
section
set_option maxRecDepth 100000
theorem card_sealed_sp (s : Bs) (hs : s.length ≤ 1099511627776) : SpF Tryz.prog 152 [vS s] (vS (sealB s)) := by
 have h40 := shaB_len s
 refine Sp.body (n := 9) Tryz.call152 Tryz.func152 rfl rfl rfl ?_
 refine Qc (k:=Vv (k:=Wq (Qc (k:=Qv (k:=Vv (k:=?_))))))
 refine r_callF (hash_Sum_sp s hs) rfl rfl rfl ?_
 refine Qv (k:=Vv (k:=Wq (Zt (k:=?_))))
 refine fin_ret () (vs := [_]) (Cs := []) rfl (.tmp rfl .nil) ?_ trivial ent_nil
 rfl
theorem argsB_ge (l : List Bs) : l.length ≤ (argsB l).length := by rw [argsB_len]; omega
theorem bodyB_ge : ∀ (l : List Cd), l.length ≤ (bodyB l).length ∧ ∀ c ∈ l, (argsB c.args).length + 2 ≤ (bodyB l).length := by
 intro l
 induction l with
 | nil => exact ⟨Nat.zero_le _, fun c hc => by cases hc⟩
 | cons c l ih =>
   rw [bodyB_cons, List.length_append, List.length_cons, List.length_cons]
   have e : (lineB c).length = (argsB c.args).length + 1 := by simp [lineB]
   refine ⟨by omega, fun x hx => ?_⟩
   rcases List.mem_cons.1 hx with rfl | hx
   · omega
   · have := ih.2 x hx; omega
theorem cds_sizes {qs : List CdV} {N : Nat} (h : (bodyB (cdsOf qs)).length ≤ N) : qs.length ≤ N ∧ ∀ q ∈ qs, (argsB q.args).length ≤ N ∧ q.args.length ≤ N := by
 obtain ⟨h1, h2⟩ := bodyB_ge (cdsOf qs)
 have e0 : (cdsOf qs).length = qs.length := by simp [cdsOf]
 rw [e0] at h1
 refine ⟨by omega, fun q hq => ?_⟩
 have h3 := h2 q.cd (List.mem_map.2 ⟨q, hq, rfl⟩)
 have h4 := argsB_ge q.args
 have e : q.cd.args = q.args := rfl
 rw [e] at h3
 omega
theorem cds_getD {qs : List CdV} {j : Nat} (h : j < qs.length) : (cdsOf qs).getD j cd0 = qs[j].cd := by simp [cdsOf, h]
theorem zb201ret5 {G : Prop} (h : G := by
    have hn : ¬ OkC l j := fun ok => by
     have h1 := ok.lo
     have h2 := ok.hi
     have h3 := ok.rise
     first
     | omega
     | (have h4 := h3 (by omega); omega)
    refine fin_ret () (vs := [_]) (Cs := []) rfl (.tmp rfl .nil) ?_ trivial ent_pick
    rw [decide_eq_false (right_not (by omega) hn)]; rfl) : G := h
theorem zb201ret10 {G : Prop} (h : G := by
    have hn : ¬ OkC l j := fun ok => by
     obtain ⟨o1, o2, o3⟩ := ok.args x hxm
     simp_all
    refine fin_ret () (vs := [_]) (Cs := []) rfl (.tmp rfl .nil) ?_ trivial ent_pick
    rw [decide_eq_false (right_not (by omega) hn)]; rfl) : G := h
theorem zb201next1 {G : Prop} (h : G := by
    have hxo : argOk x := by
     refine ⟨?_, ?_, ?_⟩ <;> simp_all
    refine to_inv ⟨m + 1, by omega, fun i hi => ?_⟩ (by dsimp only; omega) ⟨rfl, rfl, rfl, rfl, rfl, rfl, rfl, trivial⟩ ent_pick
    by_cases he : i = m
    · rw [he, ← hx]; exact hxo
    · exact hma i (by omega)) : G := h
theorem zb201next0 {G : Prop} (h : G := by
    have hokj : OkC l j := by
     refine ⟨by omega, by omega, fun h => by omega, fun x hx => ?_⟩
     rw [hlj, ← hq] at hx
     obtain ⟨i, hi, rfl⟩ := mem_getD (d := []) (show x ∈ q.args from hx)
     exact hma i (by omega)
    refine to_inv ⟨j + 1, by omega, fun i hi => ?_⟩ (by dsimp only; omega) ⟨rfl, rfl, rfl, rfl, trivial⟩ ent_pick
    by_cases he : i = j
    · rw [he]; exact hokj
    · exact hok i (by omega)) : G := h
set_option maxHeartbeats 1000000 in
theorem card_Right_sp {B : HP} {a : Option Addr} (n cap : Nat) (qs : List CdV) (sh : SlA B a (qs.flatMap CdV.cells)) (hn : qs.length = n) (hz : (bodyB (cdsOf qs)).length ≤ 1073741824) :
    Sp1 Tryz.prog 201 [.slice a n cap] [B, CdM qs] (vB (decide (RightC (cdsOf qs)))) [B] := by
 subst hn
 obtain ⟨hb, hqa⟩ := cds_sizes hz
 haveI : RdSl a (qs.flatMap CdV.cells) [B, CdM qs] := ⟨⟨B, sh, .here⟩⟩
 haveI : RdSl a (qs.flatMap CdV.cells) [B] := ⟨⟨B, sh, .here⟩⟩
 obtain ⟨l, hl⟩ : ∃ l, l = cdsOf qs := ⟨_, rfl⟩
 have hll : l.length = qs.length := by rw [hl]; simp [cdsOf]
 rw [← hl]
 refine Sp.body (n := 59) Tryz.call201 Tryz.func201 rfl rfl rfl ?_
 refine Qc (k:=Vv (k:=Wq (Za (k:=Qc (k:=Qv (k:=Vv (k:=Wq (Zb (k:=?_)))))))))
 refine p_loop (fun (i : { j : Nat // j ≤ qs.length ∧ ∀ i, i < j → OkC l i }) => [(0, .slice a qs.length cap), (7, .slice a qs.length cap), (8, vI qs.length), (9, vI i.1)]) (fun (i : { j : Nat // j ≤ qs.length ∧ ∀ i, i < j → OkC l i }) => [B, CdM qs]) (fun (i : { j : Nat // j ≤ qs.length ∧ ∀ i, i < j → OkC l i }) => qs.length - i.1) rfl (⟨0, Nat.zero_le _, fun i h => by omega⟩) ?_ ?_ (fun i => ?_)
 · exact ⟨rfl, rfl, rfl, rfl, trivial⟩
 ·
  exact ent_pick
 obtain ⟨j, hj, hok⟩ := i
 dsimp only
 try dsimp only
 refine Qc (k:=Vv (k:=Wq (Za (k:=Zi (t:=fun h10 => ?_) (f:=fun h10 => ?_)))))
 ·
  refine Zk (k:=Ya (Za (k:=Zb (k:=Za (k:=?_)))))
  have hjl : j < qs.length := by omega
  have hlj : l.getD j cd0 = qs[j].cd := by rw [hl]; exact cds_getD hjl
  have hll1 : (l.getD j cd0).l.toNat = qs[j].l.toNat := by rw [hlj]; rfl
  have hfl : (qs.flatMap CdV.cells).length = qs.length * 2 := flat_len (f := CdV.cells) (sz := 2) (fun _ => rfl) qs
  refine Zr (k:=Vv (k:=Ye 2 (k:=?_)))
  refine r_eloada (vs := [_, _]) (sz := 2) Tryz.underlying220 rfl ti220 rfl rfl (by rw [flat_len (sz := 2) (fun _ => rfl)]; omega) rfl (by refine get_flat (fun x => ?_) ?_ <;> first | rfl | omega) rfl ?_
  refine Zc [.int .u8 0, .slice none 0 0] (k:=fun b4 => Vv (k:=Zp (k:=Wq (Za (k:=Za (k:=Dw [Ce b4 220 [vU (qs[j].l.toNat : Int), .slice qs[j].a qs[j].args.length qs[j].c], B] (k:=?_)))))))
  refine Di 0 (t:=Uf 0 5) (k:=Di 1 (t:=Ul) (k:=Dv 2 (k:=Dv 3 (k:=Gd 3 (t:=fun h17 => ?_) (f:=fun h17 => ?_)))))
  ·
   refine D1 4 (k:=D1 5 (k:=D1 6 (k:=DP1 7 (k:=Dv 8 (k:=D1 9 (k:=D1 10 (k:=D1 11 (k:=Di 12 (t:=Uu) (k:=Di 13 (t:=Uu) (k:=Di 14 (t:=Uu) (k:=Di 15 (t:=Uu) (k:=?_))))))))))))
   refine Di 16 (t:=Uu) (k:=Di 17 (t:=Uu) (k:=Di 18 (t:=Uu) (k:=Di 19 (t:=Uu) (k:=Di 20 (t:=Uu) (k:=D1 21 (k:=DP1 22 (k:=Dd (k:=Ya (Z1 (k:=Qc (k:=?_)))))))))))
   refine Vv (k:=Wq (Zt (k:=Va (Vb (Va (Vi (Vb (Va ?_))))))))
   exact zb201ret5
  ·
   refine Di 4 (t:=U0 (h:=Uf 0 5)) (k:=Di 5 (t:=U0 (h:=Ul)) (k:=Di 6 (t:=U0 (h:=Uv)) (k:=DP0 7 (k:=Dv 8 (k:=Gd 8 (t:=fun h22 => ?_) (f:=fun h22 => ?_))))))
   ·
    refine D1 9 (k:=D1 10 (k:=D1 11 (k:=Di 12 (t:=Uu) (k:=Di 13 (t:=Uu) (k:=Di 14 (t:=Uu) (k:=Di 15 (t:=Uu) (k:=Di 16 (t:=Uu) (k:=Di 17 (t:=Uu) (k:=Di 18 (t:=Uu) (k:=Di 19 (t:=Uu) (k:=Di 20 (t:=Uu) (k:=?_))))))))))))
    refine D1 21 (k:=DP1 22 (k:=Dd (k:=Ya (Z1 (k:=Qc (k:=Vv (k:=Wq (Zt (k:=Va (Vb ?_))))))))))
    refine Va (Vi (Vb (Va ?_)))
    exact zb201ret5
   ·
    refine Di 9 (t:=U0 (h:=Uv)) (k:=Di 10 (t:=U0 (h:=Uv)) (k:=Di 11 (t:=U0 (h:=Uv)) (k:=Gd 11 (t:=fun h25 => ?_) (f:=fun h25 => ?_))))
    ·
     have hlp : (l.getD (j - 1) cd0).l.toNat = qs[j - 1].l.toNat := by
      have e := cds_getD (show j - 1 < qs.length by omega)
      rw [← hl] at e
      rw [e]; rfl
     refine Di 12 (t:=U1 (h:=Uv)) (k:=Di 13 (t:=U1 (h:=Uv)) (k:=Di 14 (t:=U1 (h:=Uv)) (k:=?_)))
     refine d_first 15 rfl rfl rfl (by kernel_rfl) (by kernel_rfl) (tl_in (b := true) rfl (tl_elemAddr (sz := 2) (m := j - 1) (kk := 2 * (j - 1)) Tryz.underlying170 ti220 rfl rfl rfl (by omega) (by omega) (by omega) (Nat.mul_comm _ _))) ?_
     refine d_first 16 rfl rfl rfl (by kernel_rfl) (by kernel_rfl) (tl_in (b := true) rfl (tl_efield (kk := 2 * (j - 1)) Tryz.underlying220 rfl ti5 rfl rfl rfl rfl (by omega))) ?_
     refine d_first 17 rfl rfl rfl (by kernel_rfl) (by kernel_rfl) (tl_in (b := true) rfl (tl_eload Tryz.underlying5 rfl rfl (cdget (j := j - 1) (by omega)).1)) ?_
     refine Di 18 (t:=U1 (h:=Uf 0 5)) (k:=Di 19 (t:=U1 (h:=Ul)) (k:=Di 20 (t:=U1 (h:=Uv)) (k:=Di 21 (t:=U0 (h:=UP1)) (k:=DP0 22 (k:=Dd (k:=Ya (Zi (t:=fun h36 => ?_) (f:=fun h36 => ?_))))))))
     ·
      refine Qc (k:=Vv (k:=Wq (Zt (k:=Va (Vb (Va (Vi (Vb (Va ?_)))))))))
      exact zb201ret5
     ·
      refine Zk (k:=Ya (Qc (k:=Vf 1 27 (k:=?_))))
      refine wo_ent' (ent_cd (q := qs[j]) (List.getElem_mem hjl) HasC.get) ?_
      obtain ⟨q, hq⟩ : ∃ q, q = qs[j] := ⟨_, rfl⟩
      have hqal := (hqa qs[j] (List.getElem_mem hjl)).2
      rw [← hq] at hqal ⊢
      refine Zd (k:=Qv (k:=Wq (Zb (k:=?_))))
      refine p_loop (fun (i : { m : Nat // m ≤ q.args.length ∧ ∀ i, i < m → argOk (q.args.getD i []) }) => [(0, .slice a qs.length cap), (7, .slice a qs.length cap), (8, vI qs.length), (9, vI j), (38, .slice q.a q.args.length q.c), (39, vI q.args.length), (40, vI i.1)]) (fun (i : { m : Nat // m ≤ q.args.length ∧ ∀ i, i < m → argOk (q.args.getD i []) }) => [SlI q.a (q.args.map vS), B, CdM qs]) (fun (i : { m : Nat // m ≤ q.args.length ∧ ∀ i, i < m → argOk (q.args.getD i []) }) => q.args.length - i.1) rfl (⟨0, Nat.zero_le _, fun i h => by omega⟩) ?_ ?_ (fun i => ?_)
      · exact ⟨rfl, rfl, rfl, rfl, rfl, rfl, rfl, trivial⟩
      ·
       exact ent_pick
      obtain ⟨m, hm, hma⟩ := i
      dsimp only
      try dsimp only
      refine Qc (k:=Vv (k:=Wq (Za (k:=Zi (t:=fun h41 => ?_) (f:=fun h41 => ?_)))))
      ·
       refine Zk (k:=Ya (Za (k:=Zb (k:=Qc (k:=Ye 1 (k:=Yl (hv:=by exact get_mapD [] (by omega)) (k:=Vv (k:=Wq (Za (k:=?_))))))))))
       obtain ⟨x, hx⟩ : ∃ x, x = q.args.getD m [] := ⟨_, rfl⟩
       have hxm : x ∈ (l.getD j cd0).args := by
        rw [hlj, ← hq, hx]
        show _ ∈ q.args
        have hmm : m < q.args.length := by omega
        simp [hmm]
       rw [← hx]
       refine Zr (k:=Qv (k:=Vv (k:=Gi 2 (t:=fun h46 => ?_) (f:=fun h46 => ?_))))
       ·
        refine O1 (k:=O1 (k:=P1 (k:=Vv (k:=O1 (k:=O1 (k:=P1 (k:=Wq (Z1 (k:=Qc (k:=Vv (k:=?_)))))))))))
        refine Wq (Zt (k:=Vb (Va (Vi (Vb (Vb (Va (Vi (Vb (Va ?_))))))))))
        exact zb201ret10
       ·
        refine J0 (k:=I0 (k:=?_))
        refine r_callF (Contains_one_sp x 32) rfl rfl rfl ?_
        refine P0 (k:=Vv (k:=Gi 6 (t:=fun h50 => ?_) (f:=fun h50 => ?_)))
        ·
         refine O1 (k:=O1 (k:=P1 (k:=Wq (Z1 (k:=Qc (k:=Vv (k:=Wq (Zt (k:=Vb (Va ?_))))))))))
         refine Vi (Vb (Vb (Va (Vi (Vb (Va ?_))))))
         exact zb201ret10
        ·
         refine J0 (k:=I0 (k:=?_))
         refine r_callF (Contains_one_sp x 10) rfl rfl rfl ?_
         refine P0 (k:=Wq (Zi (t:=fun h53 => ?_) (f:=fun h53 => ?_)))
         ·
          refine Qc (k:=Vv (k:=Wq (Zt (k:=Vb (Va (Vi (Vb (Vb (Va (Vi ?_))))))))))
          refine Vb (Va ?_)
          exact zb201ret10
         ·
          refine Zk (k:=Yb (Ya (Zr (k:=Qv (k:=Wn ?_)))))
          exact zb201next1
      ·
       refine Ze (k:=Xa (Xi (Xb (Yb (Ya (Zr (k:=Qv (k:=Wn ?_))))))))
       exact zb201next0
    ·
     refine D0 12 (k:=D0 13 (k:=D0 14 (k:=D0 15 (k:=D0 16 (k:=D0 17 (k:=D0 18 (k:=D0 19 (k:=D0 20 (k:=Di 21 (t:=U0 (h:=UP0)) (k:=DP0 22 (k:=Dd (k:=?_))))))))))))
     refine Ya (Z0 (k:=Zk (k:=Ya (Qc (k:=Vf 1 27 (k:=?_))))))
     refine wo_ent' (ent_cd (q := qs[j]) (List.getElem_mem hjl) HasC.get) ?_
     obtain ⟨q, hq⟩ : ∃ q, q = qs[j] := ⟨_, rfl⟩
     have hqal := (hqa qs[j] (List.getElem_mem hjl)).2
     rw [← hq] at hqal ⊢
     refine Zd (k:=Qv (k:=Wq (Zb (k:=?_))))
     refine p_loop (fun (i : { m : Nat // m ≤ q.args.length ∧ ∀ i, i < m → argOk (q.args.getD i []) }) => [(0, .slice a qs.length cap), (7, .slice a qs.length cap), (8, vI qs.length), (9, vI j), (38, .slice q.a q.args.length q.c), (39, vI q.args.length), (40, vI i.1)]) (fun (i : { m : Nat // m ≤ q.args.length ∧ ∀ i, i < m → argOk (q.args.getD i []) }) => [SlI q.a (q.args.map vS), B, CdM qs]) (fun (i : { m : Nat // m ≤ q.args.length ∧ ∀ i, i < m → argOk (q.args.getD i []) }) => q.args.length - i.1) rfl (⟨0, Nat.zero_le _, fun i h => by omega⟩) ?_ ?_ (fun i => ?_)
     · exact ⟨rfl, rfl, rfl, rfl, rfl, rfl, rfl, trivial⟩
     ·
      exact ent_pick
     obtain ⟨m, hm, hma⟩ := i
     dsimp only
     try dsimp only
     refine Qc (k:=Vv (k:=Wq (Za (k:=Zi (t:=fun h41 => ?_) (f:=fun h41 => ?_)))))
     ·
      refine Zk (k:=Ya (Za (k:=Zb (k:=Qc (k:=Ye 1 (k:=Yl (hv:=by exact get_mapD [] (by omega)) (k:=Vv (k:=Wq (Za (k:=?_))))))))))
      obtain ⟨x, hx⟩ : ∃ x, x = q.args.getD m [] := ⟨_, rfl⟩
      have hxm : x ∈ (l.getD j cd0).args := by
       rw [hlj, ← hq, hx]
       show _ ∈ q.args
       have hmm : m < q.args.length := by omega
       simp [hmm]
      rw [← hx]
      refine Zr (k:=Qv (k:=Vv (k:=Gi 2 (t:=fun h46 => ?_) (f:=fun h46 => ?_))))
      ·
       refine O1 (k:=O1 (k:=P1 (k:=Vv (k:=O1 (k:=O1 (k:=P1 (k:=Wq (Z1 (k:=Qc (k:=Vv (k:=?_)))))))))))
       refine Wq (Zt (k:=Vb (Va (Vi (Vb (Vb (Va (Vi (Vb (Va ?_))))))))))
       exact zb201ret10
      ·
       refine J0 (k:=I0 (k:=?_))
       refine r_callF (Contains_one_sp x 32) rfl rfl rfl ?_
       refine P0 (k:=Vv (k:=Gi 6 (t:=fun h50 => ?_) (f:=fun h50 => ?_)))
       ·
        refine O1 (k:=O1 (k:=P1 (k:=Wq (Z1 (k:=Qc (k:=Vv (k:=Wq (Zt (k:=Vb (Va ?_))))))))))
        refine Vi (Vb (Vb (Va (Vi (Vb (Va ?_))))))
        exact zb201ret10
       ·
        refine J0 (k:=I0 (k:=?_))
        refine r_callF (Contains_one_sp x 10) rfl rfl rfl ?_
        refine P0 (k:=Wq (Zi (t:=fun h53 => ?_) (f:=fun h53 => ?_)))
        ·
         refine Qc (k:=Vv (k:=Wq (Zt (k:=Vb (Va (Vi (Vb (Vb (Va (Vi ?_))))))))))
         refine Vb (Va ?_)
         exact zb201ret10
        ·
         refine Zk (k:=Yb (Ya (Zr (k:=Qv (k:=Wn ?_)))))
         exact zb201next1
     ·
      refine Ze (k:=Xa (Xi (Xb (Yb (Ya (Zr (k:=Qv (k:=Wn ?_))))))))
      exact zb201next0
 ·
  refine Ze (k:=Xa (Xi (Xb (Ya (Qc (k:=Qv (k:=Qv (k:=Wq ?_))))))))
  refine Zt (k:=?_)
  refine fin_ret () (vs := [_]) (Cs := []) rfl (.tmp rfl .nil) ?_ trivial ent_pick
  show vB _ = vB _
  congr 1
  refine decide_eq_decide.2 ⟨fun h => ⟨fun e => ?_, fun i hi => hok i (by omega)⟩, fun h => ?_⟩
  · rw [e] at hll; simp at hll; omega
  · have := List.length_pos_iff.2 h.ne; omega
theorem body_take {l : List Cd} {j : Nat} (h : j < l.length) : bodyB (l.take (j + 1)) = bodyB (l.take j) ++ cardB (l.getD j cd0) := by
 rw [List.take_succ_eq_append_getElem h, bodyB_app]; simp [bodyB, h]
theorem body_take_le (l : List Cd) (j : Nat) : (bodyB (l.take j)).length ≤ (bodyB l).length := by
 conv => rhs; rw [← List.take_append_drop j l, bodyB_app, List.length_append]
 omega
/-- What cards print. -/
def prB (l : List Cd) : Bs := if RightC l then printB l else []
set_option maxHeartbeats 1000000 in
theorem card_Print_sp {B : HP} {a : Option Addr} (n cap : Nat) (qs : List CdV) (sh : SlA B a (qs.flatMap CdV.cells)) (hn : qs.length = n) (hz : (bodyB (cdsOf qs)).length ≤ 1073741824) :
    Sp1 Tryz.prog 155 [.slice a n cap] [B, CdM qs] (vS (prB (cdsOf qs))) [B] := by
 have hR := card_Right_sp n cap qs sh hn hz
 subst hn
 obtain ⟨hb, hqa⟩ := cds_sizes hz
 haveI : RdSl a (qs.flatMap CdV.cells) [B, CdM qs] := ⟨⟨B, sh, .here⟩⟩
 obtain ⟨l, hl⟩ : ∃ l, l = cdsOf qs := ⟨_, rfl⟩
 have hll : l.length = qs.length := by rw [hl]; simp [cdsOf]
 rw [← hl] at hz hR ⊢
 refine Sp.body (n := 29) Tryz.call155 Tryz.func155 rfl rfl rfl ?_
 refine Qc (k:=Vv (k:=Wq (Za (k:=Qc (k:=Vv (k:=?_))))))
 refine r_call1 hR rfl rfl rfl ?_
 refine Vv (k:=Wq (Zi (t:=fun h8 => ?_) (f:=fun h8 => ?_)))
 ·
  refine Qc (k:=Vv (k:=Wq (Zt (k:=Va ?_))))
  have hn : ¬ RightC l := by simpa using h8
  refine fin_ret () (vs := [_]) (Cs := []) rfl (.tmp rfl .nil) ?_ trivial ent_pick
  rw [prB, if_neg hn]; rfl
 ·
  refine Zk (k:=Ya (Qc (k:=Zc [.pointer none, .slice none 0 0] (k:=fun b3 => ?_))))
  refine wo_ent' (fold_newB (p := b3) (by rfl) (by rfl) (by rfl)) ?_
  refine Wq (Za (k:=Qc (k:=Qv (k:=Vv (k:=Wq (Zb (k:=?_)))))))
  refine p_loop (fun (i : { j : Nat // j ≤ qs.length }) => [(3, .pointer (some ⟨b3, 0, none⟩)), (9, .slice a qs.length cap), (10, vI qs.length), (11, vI i.1)]) (fun (i : { j : Nat // j ≤ qs.length }) => [IsB b3 (bodyB (l.take i.1)), B, CdM qs]) (fun (i : { j : Nat // j ≤ qs.length }) => qs.length - i.1) rfl (⟨0, Nat.zero_le _⟩) ?_ ?_ (fun i => ?_)
  · exact ⟨rfl, rfl, rfl, rfl, trivial⟩
  ·
   dsimp only
   rw [List.take_zero, show bodyB [] = [] from rfl]
   exact ent_pick
  obtain ⟨j, hj⟩ := i
  dsimp only
  have hle := body_take_le l j
  try dsimp only
  refine Qc (k:=Vv (k:=Wq (Za (k:=Zi (t:=fun h12 => ?_) (f:=fun h12 => ?_)))))
  ·
   refine Zk (k:=Ya (Za (k:=Zb (k:=Za (k:=?_)))))
   have hjl : j < qs.length := by omega
   have hlj : l.getD j cd0 = qs[j].cd := by rw [hl]; exact cds_getD hjl
   have hbt := body_take (l := l) (j := j) (by omega)
   have hle2 := body_take_le l (j + 1)
   obtain ⟨q, hq⟩ : ∃ q, q = qs[j] := ⟨_, rfl⟩
   have hqm : q ∈ qs := by rw [hq]; exact List.getElem_mem _
   have hqal := hqa q hqm
   rw [hlj, ← hq] at hbt
   have hbl := congrArg List.length hbt
   have hcb : cardB q.cd = q.l :: argsB q.args ++ [10] := rfl
   rw [hcb] at hbt hbl
   simp only [List.length_append, List.length_cons, List.length_nil] at hbl
   refine Zr (k:=Ye 2 (k:=?_))
   refine r_eloada (vs := [_, _]) (sz := 2) Tryz.underlying220 rfl ti220 rfl rfl (by rw [flat_len (sz := 2) (fun _ => rfl)]; omega) rfl (by refine get_flat (fun x => ?_) ?_ <;> first | rfl | omega) rfl ?_
   refine Zc [.int .u8 0, .slice none 0 0] (k:=fun b5 => Zp (k:=?_))
   rw [← hq]
   refine Wq (Zr (k:=Qx 0 5 (k:=Zv [_] (cs := [_]) (k:=fun b17 => ?_))))
   refine r_b2s (l := [q.l]) Tryz.underlying56 Tryz.underlying9 Tryz.underlying5 rfl (by simp [vUs]) (by simp) rfl ?_
   refine Zv [_] (cs := [_]) (k:=fun b19 => Qx 1 27 (k:=?_))
   refine wo_ent' (ent_cd hqm HasC.get) ?_
   refine wo_ent' (ent_row (k := 1) (cap := 1) (sz := 1) (e := 9) (g := b19) (xs := [vS [q.l]]) (cur := [vS [q.l]]) (Nat.le_refl _) (by simp [maxLen]) rfl rfl rfl) ?_
   refine r_appendA (sz := 1) (bytes := 16) Tryz.underlying27 ti9 rfl rfl rfl rfl rfl rfl rfl (by first | rfl | (rw [List.length_map, Nat.mul_one]; try omega) | (rw [flat_len (fun _ => rfl)]; try omega) | (simp; try omega)) (by first | rfl | (simp [oneCell]; done) | (simp [List.all_flatMap, oneCell]; done)) (by omega) (by simp only [maxLen]; omega) rfl (fun a22 c22 => ?_)
   refine wo_ent' (row_norm (v := .slice a22 (1 + q.args.length) c22) (xs := [vS [q.l]] ++ q.args.map vS) (n := 1 + q.args.length) (n' := q.args.length + 1) (xs' := ([q.l] :: q.args).map vS) (by omega) rfl) ?_
   rw [Nat.add_comm 1]
   refine r_call1 (strings_Join_sp c22 [q.l] q.args (by simp) (by omega) (by rw [List.length_singleton]; omega)) rfl rfl rfl ?_
   rw [show joinB ([q.l] :: q.args) = q.l :: argsB q.args from rfl]
   refine Vv (k:=?_)
   refine r_call1 (WriteString_sp b3 (bodyB (l.take j)) (q.l :: argsB q.args ++ [10]) (by simp only [List.length_append, List.length_cons, List.length_nil]; omega)) rfl rfl rfl ?_
   refine Wn (Yb (Ya (Zr (k:=Qv (k:=Wn ?_)))))
   refine to_inv ⟨j + 1, by omega⟩ (by dsimp only; omega) ⟨rfl, rfl, rfl, rfl, trivial⟩ ?_
   dsimp only
   rw [hbt]
   exact ent_pick
  ·
   refine Ze (k:=Xa (Xi (Xb (Ya (Za (k:=?_))))))
   have hjl : j = qs.length := by omega
   subst hjl
   rw [List.take_of_length_le (by omega)]
   refine Zr (k:=?_)
   refine r_call1 (String_sp b3 (bodyB l) (by omega)) rfl rfl rfl ?_
   refine r_callF (card_sealed_sp (bodyB l) (by omega)) rfl rfl rfl ?_
   refine Vv (k:=Wq (Zt (k:=?_)))
   have hn : RightC l := by simpa using h8
   refine fin_ret () (vs := [_]) (Cs := []) rfl (.tmp rfl .nil) ?_ trivial ent_pick
   rw [prB, if_pos hn]; rfl
end
section
set_option maxRecDepth 100000
theorem reads_len {s : Bs} {l : List Cd} (h : ReadsC s l) : 43 ≤ s.length ∧ s.take (s.length - 43) = bodyB l ∧ sealB (s.take (s.length - 43)) = s := by
 have e : s = sealB (bodyB l) := h.2.symm
 subst e
 rw [sealB_len]
 have ht : (sealB (bodyB l)).take (bodyB l).length = bodyB l := by
  rw [sealB, List.append_assoc, List.append_assoc]
  exact List.take_left
 rw [Nat.add_sub_cancel, ht]
 exact ⟨by omega, rfl, rfl⟩
/-- What stands ahead is what has been read so far. -/
def Upto (s : Bs) (m : List Cd) (rest : Bs) : Prop := ∀ l, ReadsC s l → ∃ l2, l = m ++ l2 ∧ bodyB l2 = rest
theorem upto_end {s : Bs} {m : List Cd} (h : Upto s m []) {l : List Cd} (k : ReadsC s l) : l = m := by
 obtain ⟨l2, e, e2⟩ := h l k
 cases l2 with
 | nil => rw [e, List.append_nil]
 | cons c l2 => rw [bodyB_cons] at e2; simp at e2
/-- A right line ahead. -/
theorem upto_line {s : Bs} {m : List Cd} {rest : Bs} (h : Upto s m rest) (hr : rest ≠ []) {l : List Cd} (k : ReadsC s l) : ∃ c l3, l = (m ++ [c]) ++ l3 ∧ rest = lineB c ++ 10 :: bodyB l3 ∧ 10 ∉ lineB c ∧ foldW (splitB 32 (lineB c)) = some (c.l, c.args) := by
 obtain ⟨l2, e, e2⟩ := h l k
 cases l2 with
 | nil => exact absurd e2.symm hr
 | cons c l2 =>
   have hb := k.1.both c (by rw [e]; simp)
   exact ⟨c, l2, by rw [e]; simp, by rw [← e2, bodyB_cons], lineB_no10 hb.1 hb.2, foldW_line hb.1 hb.2⟩
theorem upto_nocut {s : Bs} {m : List Cd} {rest : Bs} (h : Upto s m rest) (hr : rest ≠ []) (hn : (10 : UInt8) ∉ rest) : ∀ l, ¬ ReadsC s l := fun l k => by
 obtain ⟨c, l3, _, e, _, _⟩ := upto_line h hr k
 exact hn (by rw [e]; simp)
theorem upto_step {s : Bs} {m : List Cd} {line rest : Bs} (h : Upto s m (line ++ 10 :: rest)) (hn : (10 : UInt8) ∉ line) {c : UInt8} {xs : List Bs} (hf : foldW (splitB 32 line) = some (c, xs)) : Upto s (m ++ [⟨c, xs⟩]) rest := fun l k => by
 obtain ⟨d, l3, e1, e2, e3, e4⟩ := upto_line h (by simp) k
 obtain ⟨q1, q2⟩ := cut_uniq hn e3 e2
 rw [q1, e4] at hf
 cases hf
 exact ⟨l3, by rw [e1], q2.symm⟩
theorem upto_bad {s : Bs} {m : List Cd} {line rest : Bs} (h : Upto s m (line ++ 10 :: rest)) (hn : (10 : UInt8) ∉ line) (hf : foldW (splitB 32 line) = none) : ∀ l, ¬ ReadsC s l := fun l k => by
 obtain ⟨d, l3, e1, e2, e3, e4⟩ := upto_line h (by simp) k
 obtain ⟨q1, q2⟩ := cut_uniq hn e3 e2
 rw [q1, e4] at hf
 cases hf
theorem foldW_none {pre r : List Bs} {w : Bs} {st : UInt8 × List Bs} (h : foldW pre = some st) (hw : stepW st w = none) : foldW (pre ++ w :: r) = none := by
 have e : pre ++ w :: r = (pre ++ [w]) ++ r := by simp
 have h1 : foldW (pre ++ [w]) = none := by rw [foldW_snoc, h]; exact hw
 rw [e, foldW, List.foldlM_append]
 rw [foldW] at h1
 rw [h1]; rfl
/-- A card that is being made. -/
def CdB (b : Nat) (pre : List Bs) : HP := Ex fun z : UInt8 × List Bs × Option Addr × Nat => Al [Pu (foldW pre = some (z.1, z.2.1)), Ce b 220 [vU z.1.toNat, .slice z.2.2.1 z.2.1.length z.2.2.2], Row 9 1 (.slice z.2.2.1 z.2.1.length z.2.2.2) z.2.1.length (z.2.1.map vS)]
theorem fold_cdb {b T : Nat} {pre : List Bs} {v0 v1 : Value} {Hs R1 Rs : List HP} (c : UInt8) (xs : List Bs) (a : Option Addr) (k m : Nat) (hf : foldW pre = some (c, xs)) (hm : m = xs.length) [q : OwnC b T [v0, v1] Hs R1] (hT : T = 220) (h0 : v0 = vU c.toNat) (h1 : v1 = .slice a m k) {n : Nat} {ys : List Value} {e sz : Nat} [q2 : RowC (.slice a m k) e sz n ys R1 Rs] (he : e = 9) (hsz : sz = 1) (hn : n = m) (hy : ys = xs.map vS) : Ent Hs (CdB b pre :: Rs) := by
 subst hT; subst h0; subst h1; subst he; subst hsz; subst hn; subst hy; subst hm
 refine ent_ex (c, xs, a, k) ?_
 refine ent_al (ent_pu hf ?_)
 exact Picks.ent (.cons q.get (.cons q2.get .nil))
theorem cds_snoc (qs : List CdV) (q : CdV) : cdsOf (qs ++ [q]) = cdsOf qs ++ [q.cd] := by simp [cdsOf]
abbrev cardV (x : (Option Addr × Nat) × List CdV) : Value := .slice x.1.1 x.2.length x.1.2
abbrev cardH (x : (Option Addr × Nat) × List CdV) : List HP := [Row 220 2 (.slice x.1.1 x.2.length x.1.2) x.2.length (x.2.flatMap CdV.cells), CdM x.2]
theorem ent_nocards {Hs : List HP} : Ent Hs (cardH ((none, 0), [])) := (row_nil (e := 220) (sz := 2)).trans (ent_cdm_nil.trans (show Ent _ [Row 220 2 (.slice none 0 0) 0 [], CdM []] from ent_pick))
theorem zb105ret2 {G : Prop} (h : G := by
    have hn : readC s = none := readC_none.2 fun l h => by
     have := hrl l h
     first
     | omega
     | (exact absurd this.2.2 (by simpa using h23))
    refine fin_ret ((none, 0), []) (vs := [_, _]) (Cs := []) rfl (.tmp rfl (.tmp rfl .nil)) ?_ (by rw [hn]; rfl) ent_nocards
    rw [hn]; rfl) : G := h
theorem zb105ret17 {G : Prop} (h : G := by
    have hn : readC s = none := readC_none.2 fun l h => by
     first
     | exact hnr (by simpa using h66) l h
     | (have he : rest = [] := by simpa using h66
        have e := upto_end (hu he) h
        rw [← e] at h71
        have e2 : prB l = s := by rw [prB, if_pos h.1]; exact h.2
        exact absurd e2 (by simpa using h71))
    refine fin_ret ((none, 0), []) (vs := [_, _]) (Cs := []) rfl (.tmp rfl (.tmp rfl .nil)) ?_ (by rw [hn]; rfl) ent_nocards
    rw [hn]; rfl) : G := h
theorem zb105join16 {G : Prop} (h : G := by
    first
    | (have he : rest = [] := by simpa using h30
       subst he
       exact to_inv ⟨((a, ac), qs, []), by dsimp only; omega, fun _ => hu, fun h => absurd rfl h⟩ trivial ⟨rfl, rfl, rfl, trivial⟩ ent_pick)
    | (have hm : more = false := by simpa using h38
       exact to_inv ⟨((a, ac), qs, rest), by dsimp only; omega, fun h => absurd h hne, fun _ => upto_nocut hu hne (hcc.1 hm)⟩ trivial ⟨rfl, rfl, rfl, trivial⟩ ent_pick)
    | exact to_inv ⟨((a, ac), qs, rest), by dsimp only; omega, fun h => absurd h hne, fun _ => hbad⟩ trivial ⟨rfl, rfl, rfl, trivial⟩ ent_pick) : G := h
set_option maxHeartbeats 2000000 in
theorem card_Read_sp (s : Bs) (hs : s.length ≤ 1073741824) : Sp Tryz.prog 105 [vS s] [] (X := (Option Addr × Nat) × List CdV) (fun x => .tuple #[cardV x, vB (readC s).isSome]) (fun x => cdsOf x.2 = (readC s).getD []) cardH := by
 have hrl := fun l (h : ReadsC s l) => reads_len h
 refine Sp.body (n := 73) Tryz.call105 Tryz.func105 rfl rfl rfl ?_
 refine Qc (k:=Qv (k:=Wq (Zs (k:=Za (k:=Qc (k:=Qv (k:=Vv (k:=?_))))))))
 refine Vv (k:=Gi 3 (t:=fun h14 => ?_) (f:=fun h14 => ?_))
 ·
  refine O1 (k:=O1 (k:=O1 (k:=O1 (k:=O1 (k:=O1 (k:=O1 (k:=O1 (k:=P1 (k:=Wq (Z1 (k:=Za (k:=?_))))))))))))
  refine Zr (k:=Qv (k:=Wq (Zt (k:=Va (Vs ?_)))))
  exact zb105ret2
 ·
  refine J0 (k:=J0 (k:=J0 (k:=J0 (k:=I0 (k:=?_)))))
  refine wo_pv (pv_slice_tom (m := s.length - 43) Tryz.underlying9 rfl rfl (by omega) (by omega)) rfl ?_
  refine I0 (k:=?_)
  refine r_callF (card_sealed_sp (s.take (s.length - 43)) (by rw [List.length_take]; omega)) rfl rfl rfl ?_
  refine J0 (k:=J0 (k:=P0 (k:=Wq (Zi (t:=fun h23 => ?_) (f:=fun h23 => ?_)))))
  ·
   refine Qc (k:=Qv (k:=Wq (Zt (k:=Va (Vs ?_)))))
   exact zb105ret2
  ·
   refine Zk (k:=Ya (Za (k:=?_)))
   have h43 : 43 ≤ s.length := by omega
   refine Zr (k:=Vv (k:=Wq (Qc (k:=Qv (k:=Qv (k:=?_))))))
   refine wo_pv (pv_slice_tom (m := s.length - 43) Tryz.underlying9 rfl rfl (by omega) (by omega)) rfl ?_
   refine Vv (k:=Wq (Za (k:=Zl (k:=Ya ?_))))
   refine p_cut (fun (i : { x : (Option Addr × Nat) × List CdV × Bs // (bodyB (cdsOf x.2.1)).length ≤ s.length ∧ (x.2.2 = [] → Upto s (cdsOf x.2.1) []) ∧ (x.2.2 ≠ [] → ∀ l, ¬ ReadsC s l) }) => [(0, vS s), (4, .slice i.1.1.1 i.1.2.1.length i.1.1.2), (5, vS i.1.2.2)]) (fun (i : { x : (Option Addr × Nat) × List CdV × Bs // (bodyB (cdsOf x.2.1)).length ≤ s.length ∧ (x.2.2 = [] → Upto s (cdsOf x.2.1) []) ∧ (x.2.2 ≠ [] → ∀ l, ¬ ReadsC s l) }) => [Row 220 2 (.slice i.1.1.1 i.1.2.1.length i.1.1.2) i.1.2.1.length (i.1.2.1.flatMap CdV.cells), CdM i.1.2.1]) rfl (fun i => ?_) ?_
   ·
    obtain ⟨⟨⟨a, ac⟩, qs, rest⟩, hz, hu, hnr⟩ := i
    dsimp only at hz hu hnr
    have hP := card_Print_sp (B := Row 220 2 (.slice a qs.length ac) qs.length (qs.flatMap CdV.cells)) qs.length ac qs sla_row rfl (by omega)
    try dsimp only
    refine Za (k:=Qc (k:=Qv (k:=Vv (k:=Gi 2 (t:=fun h66 => ?_) (f:=fun h66 => ?_)))))
    ·
     refine O1 (k:=O1 (k:=O1 (k:=O1 (k:=P1 (k:=Wq (Z1 (k:=Qc (k:=Qv (k:=Wq ?_)))))))))
     refine Zt (k:=Va (Vs ?_))
     exact zb105ret17
    ·
     refine J0 (k:=I0 (k:=?_))
     refine r_call1 hP rfl rfl rfl ?_
     refine J0 (k:=J0 (k:=P0 (k:=Wq (Zi (t:=fun h71 => ?_) (f:=fun h71 => ?_)))))
     ·
      refine Qc (k:=Qv (k:=Wq (Zt (k:=Va (Vs ?_)))))
      exact zb105ret17
     ·
      refine Zk (k:=Ya (Qc (k:=Qv (k:=Vv (k:=Wq (Zt (k:=Vs ?_)))))))
      have he : prB (cdsOf qs) = s := by simpa using h71
      have hr : readC s = some (cdsOf qs) := readC_iff.2 (by
       rw [prB] at he
       split at he
       · rename_i hR; exact ⟨hR, he⟩
       · rw [← he] at h43; simp at h43)
      refine fin_ret ((a, ac), qs) (vs := [_, _]) (Cs := []) rfl (.tmp rfl (.tmp rfl .nil)) ?_ (by rw [hr]; rfl) ent_pick
      rw [hr]; rfl
   ·
    refine Zb (k:=?_)
    refine p_loop (fun (i : { x : (Option Addr × Nat) × List CdV × Bs // Upto s (cdsOf x.2.1) x.2.2 ∧ (bodyB (cdsOf x.2.1)).length + x.2.2.length ≤ s.length }) => [(0, vS s), (4, .slice i.1.1.1 i.1.2.1.length i.1.1.2), (5, vS i.1.2.2)]) (fun (i : { x : (Option Addr × Nat) × List CdV × Bs // Upto s (cdsOf x.2.1) x.2.2 ∧ (bodyB (cdsOf x.2.1)).length + x.2.2.length ≤ s.length }) => [Row 220 2 (.slice i.1.1.1 i.1.2.1.length i.1.1.2) i.1.2.1.length (i.1.2.1.flatMap CdV.cells), CdM i.1.2.1]) (fun (i : { x : (Option Addr × Nat) × List CdV × Bs // Upto s (cdsOf x.2.1) x.2.2 ∧ (bodyB (cdsOf x.2.1)).length + x.2.2.length ≤ s.length }) => i.1.2.2.length) rfl (⟨((none, 0), [], s.take (s.length - 43)), fun l h => ⟨l, rfl, (hrl l h).2.1.symm⟩, by show 0 + (s.take _).length ≤ _; rw [List.length_take]; omega⟩) ?_ ?_ (fun i => ?_)
    · exact ⟨rfl, rfl, rfl, trivial⟩
    ·
     exact ent_nocards
    obtain ⟨⟨⟨a, ac⟩, qs, rest⟩, hu, hz⟩ := i
    dsimp only at hu hz ⊢
    try dsimp only
    refine Za (k:=Qc (k:=Qv (k:=Wq (Zi (t:=fun h30 => ?_) (f:=fun h30 => ?_)))))
    ·
     refine Zk (k:=Ya (Zb (k:=Za (k:=?_))))
     have hne : rest ≠ [] := by simpa using h30
     have hqn : qs.length ≤ 1073741824 := (cds_sizes (N := 1073741824) (by omega)).1
     obtain ⟨line, hln⟩ : ∃ w, (cutP 10 rest).1 = w := ⟨_, rfl⟩
     obtain ⟨behind, hbh⟩ : ∃ w, (cutP 10 rest).2.1 = w := ⟨_, rfl⟩
     obtain ⟨more, hmo⟩ : ∃ w, (cutP 10 rest).2.2 = w := ⟨_, rfl⟩
     have hcc : (more = false → (10 : UInt8) ∉ rest) ∧ (more = true → rest = line ++ 10 :: behind ∧ (10 : UInt8) ∉ line) := by
      rcases cutP_cases 10 rest with ⟨hn, hc⟩ | ⟨x, r, he, hn, hc⟩
      · rw [hc] at hmo hln hbh
        subst hmo
        exact ⟨fun _ => hn, fun h => (by cases h)⟩
      · rw [hc] at hmo hln hbh
        subst hmo; subst hln; subst hbh
        exact ⟨fun h => (by cases h), fun _ => ⟨he, hn⟩⟩
     refine Zr (k:=Vv (k:=?_))
     refine r_callF (Cut_sp rest 10 (by omega)) rfl rfl rfl ?_
     rw [cutV, hln, hbh, hmo]
     refine Vv (k:=?_)
     refine wo_pv (pv_extract (v := vS line) rfl rfl) rfl ?_
     refine wo_pv (pv_extract (v := vS behind) rfl rfl) rfl ?_
     refine wo_pv (pv_extract (v := vB more) rfl rfl) rfl ?_
     refine Qv (k:=Vv (k:=Wq (Za (k:=Qc (k:=Qv (k:=Wq (Zi (t:=fun h38 => ?_) (f:=fun h38 => ?_))))))))
     ·
      refine Ze (k:=Xa (Xo (k:=Xi (Xb ?_))))
      exact zb105join16
     ·
      refine Zk (k:=Ya (Za (k:=?_)))
      have hm : more = true := by simpa using h38
      obtain ⟨hrest, hn10⟩ := hcc.2 hm
      have hrl2 := congrArg List.length hrest
      rw [List.length_append, List.length_cons] at hrl2
      rw [hrest] at hu
      refine Zr (k:=Zc [.int .u8 0, .slice none 0 0] (k:=fun b9 => Wq (Za (k:=Qc (k:=Vv (k:=?_))))))
      refine r_callX (escape_Words_sp line) rfl rfl rfl (fun x40 _ => ?_)
      refine Wq (Zb (k:=?_))
      refine p_rangeFunc (fun pre => [CdB b9 pre, Row 220 2 (.slice a qs.length ac) qs.length (qs.flatMap CdV.cells), CdM qs]) (fun j pre => match j with | some 0 => [Pu (∀ l, ¬ ReadsC s l), Row 220 2 (.slice a qs.length ac) qs.length (qs.flatMap CdV.cells), CdM qs] | _ => [Pu False]) rfl (escape_Words_it line (by omega) x40) rfl (fun _ => by rfl) rfl ?_ (fun l pre w hok => ?_) ?_ (fun j pre hs => ?_)
      · (refine ent_app ?_; refine Ent.trans (row_nil (e := 9) (sz := 1)) ?_; exact ent_step (fold_cdb 0 [] none 0 0 (by rfl) (by rfl) (by rfl) (by rfl) (by rfl) (by rfl) (by rfl) (by rfl) (by rfl)) ent_pick)
      ·
       obtain ⟨rr, hrr⟩ := hok
       refine wc_front (CdB b9 pre) (wc_exi fun z => wc_al (wc_pu fun hq => ?_))
       obtain ⟨c, xs, za, zc⟩ := z
       dsimp only at hq
       dsimp only
       have hxl : xs.length ≤ line.length + 1 := by
        have h1 := (foldW_len pre (0, []) (c, xs) hq).1
        have h2 := congrArg (fun l => (argsB l).length) hrr
        have h3 := congrArg List.length (splitB_join line)
        have h4 := argsB_ge xs
        dsimp only at h1 h2
        rw [argsB_app, List.length_append] at h2
        rw [List.length_cons] at h3
        rw [argsB_nil, List.length_nil] at h1
        omega
       have hsn : foldW (pre ++ [w]) = stepW (c, xs) w := by rw [foldW_snoc, hq]; rfl
       refine Zr (k:=Vv (k:=Wg (Zb (k:=Zb (k:=Qc (k:=Qx 0 5 (k:=Qv (k:=Wq ?_))))))))
       refine Zi (t:=fun h42 => ?_) (f:=fun h42 => ?_)
       ·
        refine Zr (k:=Qx 1 27 (k:=Vv (k:=Zv [_] (cs := [_]) (k:=fun b49 => ?_))))
        refine r_append1 (sz := 1) (bytes := 16) Tryz.underlying27 ti9 rfl rfl rfl rfl rfl rfl rfl (by rfl) (by rfl) (by omega) (by simp only [maxLen]; omega) rfl (fun a50 c50 => ?_)
        refine Vf 1 27 (k:=Zo (k:=Wn (Yb (Yb ?_))))
        refine to_round ?_
        first
        | (rw [stepW, if_pos (show 0 < c.toNat by omega)] at hsn
           exact ent_step (fold_cdb c (xs ++ [w]) a50 c50 (xs.length + 1) hsn (by simp) (by rfl) (by rfl) (by rfl) (by rfl) (by rfl) (by rfl) (by simp)) ent_pick)
        | (rw [stepW, if_neg (show ¬ 0 < c.toNat by omega), if_pos (show w.length = 1 by omega)] at hsn
           exact ent_step (fold_cdb (w.getD 0 0) xs za zc xs.length hsn (by rfl) (by rfl) (by rfl) (by rfl) (by rfl) (by rfl) (by rfl) (by rfl)) ent_pick)
       ·
        refine Qc (k:=Qv (k:=Qv (k:=Wq (Zi (t:=fun h52 => ?_) (f:=fun h52 => ?_)))))
        ·
         refine Zr (k:=Vv (k:=?_))
         refine wo_pv (pv_indexm (m := 0) Tryz.underlying9 rfl rfl rfl (by omega)) rfl ?_
         refine Vf 0 5 (k:=Zo (k:=Wn (Yb (Yb ?_))))
         refine to_round ?_
         first
         | (rw [stepW, if_pos (show 0 < c.toNat by omega)] at hsn
            exact ent_step (fold_cdb c (xs ++ [w]) a50 c50 (xs.length + 1) hsn (by simp) (by rfl) (by rfl) (by rfl) (by rfl) (by rfl) (by rfl) (by simp)) ent_pick)
         | (rw [stepW, if_neg (show ¬ 0 < c.toNat by omega), if_pos (show w.length = 1 by omega)] at hsn
            exact ent_step (fold_cdb (w.getD 0 0) xs za zc xs.length hsn (by rfl) (by rfl) (by rfl) (by rfl) (by rfl) (by rfl) (by rfl) (by rfl)) ent_pick)
        ·
         refine Ze (k:=Xo (k:=Xo (k:=?_)))
         refine to_round_exit 0 ?_
         rw [stepW, if_neg (show ¬ 0 < c.toNat by omega), if_neg (show ¬ w.length = 1 by omega)] at hsn
         have hbad : ∀ l, ¬ ReadsC s l := upto_bad hu hn10 (by rw [hrr]; exact foldW_none hq (by rw [← hsn, foldW_snoc, hq]; rfl))
         exact ent_pu hbad ent_pick
      ·
       skip
       refine Yb (Ya ?_)
       refine wc_front (CdB b9 (splitB 32 line)) (wc_exi fun z => wc_al (wc_pu fun hq => ?_))
       obtain ⟨c, xs, za, zc⟩ := z
       dsimp only at hq
       dsimp only
       have hst := upto_step hu hn10 hq
       have hcl := foldW_card hq
       refine wc_know (A := Row 9 1 (.slice za xs.length zc) xs.length (xs.map vS)) HasC.get row_know (fun hk => ?_)
       refine Zr (k:=?_)
       refine wo_frz za ?_
       refine Vv (k:=Zm [_, _] (k:=Zv [_] (cs := [_, _]) (k:=fun b61 => ?_)))
       refine r_append1 (sz := 2) (bytes := 32) Tryz.underlying170 ti220 rfl rfl rfl rfl rfl rfl rfl (by rfl) (by rfl) (by omega) (by simp only [maxLen]; omega) rfl (fun a62 c62 => ?_)
       refine Qv (k:=Vv (k:=Wn (Yb ?_)))
       obtain ⟨q, hqq⟩ : ∃ q : CdV, q = ⟨c, za, zc, xs⟩ := ⟨_, rfl⟩
       have hqc : q.cd = ⟨c, xs⟩ := by rw [hqq]; rfl
       refine to_inv ⟨((a62, c62), qs ++ [q], behind), ?_, ?_⟩ ?_ ⟨rfl, sl_eq (by simp), rfl, trivial⟩ ?_
       · dsimp only; rw [cds_snoc, hqc]; exact hst
       · dsimp only
         rw [cds_snoc, hqc, bodyB_app, List.length_append]
         have : (bodyB [⟨c, xs⟩] : Bs).length = (cardB ⟨c, xs⟩).length := by simp [bodyB]
         omega
       · dsimp only; omega
       · dsimp only
         rw [show (qs ++ [q]).length = qs.length + 1 from by simp]
         refine (ent_cdm_snoc (qs := qs) (q := q) HasC.get (by rw [hqq]; exact HasC.get) (by rw [hqq]; exact hk.1)).trans ?_
         exact ent_step (row_norm (by rfl) (by rw [hqq]; simp [CdV.cells])) ent_pick
      ·
       rcases j with _ | _ | j
       · exact wc_no (fun s => by obtain ⟨_, _, _, _, a, _⟩ := s; exact a)
       · refine wc_ent0 (Gs := [Pu (∀ l, ¬ ReadsC s l), Row 220 2 (.slice a qs.length ac) qs.length (qs.flatMap CdV.cells), CdM qs]) (show Ent ([Pu (∀ l, ¬ ReadsC s l), Row 220 2 (.slice a qs.length ac) qs.length (qs.flatMap CdV.cells), CdM qs] ++ _) _ from ent_pick) (wc_pu fun hbad => ?_)
         refine Ze (k:=Xo (k:=Xa (Xo (k:=Xi (Xb ?_)))))
         exact zb105join16
       · exact wc_no (fun s => by obtain ⟨_, _, _, _, a, _⟩ := s; exact a)
    ·
     refine Ze (k:=Xa (Xi (Xb ?_)))
     exact zb105join16
end
section
set_option maxRecDepth 100000
def rdI (s : Bs) : Int := match readDec s with | some n => (n : Int) | none => -1
end
end Go.Proofs.YtdnoacgopfcpbaaGreat
