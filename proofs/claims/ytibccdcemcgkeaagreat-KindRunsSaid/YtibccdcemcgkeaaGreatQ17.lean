/- Texts of this proof, put together: PCk3, SCk6. -/
import Derived.Test.YtibccdcemcgkeaaGreatQ12
import Derived.Test.YtibccdcemcgkeaaGreatQ10
import Derived.Test.YtibccdcemcgkeaaGreatQ16
set_option linter.unusedVariables false
set_option linter.unusedSimpArgs false
section
namespace Go.Proofs.YtibccdcemcgkeaaGreat
def prgText (l : List Cd) : Option Bs := unescB (Lib.trimPrefix ((one1 (argsOf 67 l)).getD []) [46])
def prgDay (l : List Cd) : Option Nat := readDec ((one1 (argsOf 68 l)).getD [])
def prgC (l : List Cd) : Ck := ⟨(one1 (argsOf 66 l)).getD [], (prgText l).getD [], (((prgDay l).getD 0 : Nat) : Int), (argsOf 70 l).map flOf, (argsOf 80 l).headD [], (readT (argsOf 84 l)).getD [], (one1 (argsOf 85 l)).getD []⟩
theorem prgCk_some {l : List Cd} {c : Ck} (h : prgCk l = some c) : (one1 (argsOf 67 l)).isSome = true ∧ (one1 (argsOf 68 l)).isSome = true ∧ (one1 (argsOf 85 l)).isSome = true ∧ (prgText l).isSome = true ∧ (prgDay l).isSome = true ∧ (readT (argsOf 84 l)).isSome = true ∧ c = prgC l := by
 unfold prgCk at h
 split at h
 · rename_i a b d e1 e2 e3
   split at h
   · rename_i x y z f1 f2 f3
     cases h
     have g1 : prgText l = some x := by rw [prgText, e1]; exact f1
     have g2 : prgDay l = some y := by rw [prgDay, e2]; exact f2
     rw [e1, e2, e3, g1, g2, f3]
     refine ⟨rfl, rfl, rfl, rfl, rfl, rfl, ?_⟩
     rw [prgC, g1, g2, f3, e3]; rfl
   · cases h
 · cases h
theorem reads_prg {s : Bs} {l : List Cd} (hl : ReadsC s l) {c : Ck} (h : ReadsK s c) : prgCk l = some c := by
 rw [hl.uniq h.reads]; exact prgCk_cards h.1
theorem mem_le_args {xs : List Bs} {a : Bs} (h : a ∈ xs) : a.length ≤ (argsB xs).length := by
 obtain ⟨i, hi, rfl⟩ := mem_getD (d := []) h
 have h1 := argsB_len xs
 have h2 := sumL_succ (l := xs) hi
 have h3 := sumL_le (l := xs) (j := i + 1)
 omega
theorem bodyB_args : ∀ (l : List Cd), l.length ≤ (bodyB l).length ∧ ∀ c ∈ l, (argsB c.args).length ≤ (bodyB l).length := by
 intro l
 induction l with
 | nil => exact ⟨Nat.zero_le _, fun c hc => by cases hc⟩
 | cons c l ih =>
   rw [bodyB_cons, List.length_append, List.length_cons, List.length_cons]
   have e : (lineB c).length = (argsB c.args).length + 1 := by simp [lineB]
   refine ⟨by omega, fun x hx => ?_⟩
   rcases List.mem_cons.1 hx with rfl | hx
   · omega
   · have := ih.2 x hx; omega
theorem argsOf_sizes {l : List Cd} {N : Nat} (h : (bodyB l).length ≤ N) (x : UInt8) : (argsOf x l).length ≤ N ∧ ∀ xs ∈ argsOf x l, xs.length ≤ N ∧ ∀ a ∈ xs, a.length ≤ N := by
 obtain ⟨h1, h2⟩ := bodyB_args l
 constructor
 · simp only [argsOf, List.length_map]
   exact Nat.le_trans (List.length_filter_le _ _) (by omega)
 · intro xs hxs
   simp only [argsOf, List.mem_map, List.mem_filter] at hxs
   obtain ⟨c, ⟨hc, _⟩, rfl⟩ := hxs
   have h3 := h2 c hc
   have h4 := argsB_len c.args
   exact ⟨by omega, fun a ha => by have := mem_le_args ha; omega⟩
theorem one1_le {l : List (List Bs)} {N : Nat} (h : ∀ xs ∈ l, ∀ a ∈ xs, a.length ≤ N) : ((one1 l).getD []).length ≤ N := by
 match l, h with
 | [], _ => simp [one1]
 | [[]], _ => simp [one1]
 | [[a]], h => simpa [one1] using h [a] (by simp) a (by simp)
 | [a :: b :: r], _ => simp [one1]
 | a :: b :: r, _ => simp [one1]
theorem trim_le (s p : Bs) : (Lib.trimPrefix s p).length ≤ s.length := by
 unfold Lib.trimPrefix
 split <;> simp
theorem readT_le {N : Nat} : ∀ {l : List (List Bs)} {ts : List Tg}, (∀ xs ∈ l, ∀ a ∈ xs, a.length ≤ N) → readT l = some ts → ts.length = l.length ∧ ∀ t ∈ ts, t.name.length ≤ N ∧ t.target.length ≤ N ∧ t.value.length ≤ N := by
 intro l
 induction l with
 | nil => intro ts _ h; cases h; exact ⟨rfl, fun t ht => by cases ht⟩
 | cons x l ih =>
   intro ts hz h
   simp only [readT] at h
   cases e : tgOf x with
   | none => rw [e] at h; cases h
   | some t =>
     rw [e] at h
     dsimp only at h
     cases e2 : readT l with
     | none => rw [e2] at h; cases h
     | some us =>
       rw [e2] at h
       cases h
       obtain ⟨i1, i2⟩ := ih (fun xs hxs => hz xs (by simp [hxs])) e2
       refine ⟨by simp [i1], fun u hu => ?_⟩
       rcases List.mem_cons.1 hu with rfl | hu
       · have hx : ∀ i, (x.getD i []).length ≤ N := fun i => by
           by_cases hi : i < x.length
           · exact hz x (by simp) _ (by simp [hi])
           · simp [hi]
         unfold tgOf at e
         split at e
         · cases e
         · split at e
           · cases e3 : unescB (x.getD 2 []) with
             | none => rw [e3] at e; cases e
             | some v =>
               rw [e3] at e
               cases e
               dsimp only
               have := unescB_len e3
               have := hx 2
               have := hx 0
               have := hx 1
               simp only [List.length_drop]; omega
           · cases e
             dsimp only
             have := hx 0
             have := hx 1
             simp only [List.length_drop, List.length_nil]; omega
       · exact i2 u hu
end Go.Proofs.YtibccdcemcgkeaaGreat
end
section
set_option maxRecDepth 100000
namespace Go.Proofs.YtibccdcemcgkeaaGreat
theorem ckZ_prg {l : List Cd} {N : Nat} (h : (bodyB l).length ≤ N) (hN : N ≤ 1073741824) : CkZ (prgC l) := by
 have hz := fun x => argsOf_sizes h x
 have h1 : ∀ x, ((one1 (argsOf x l)).getD []).length ≤ N := fun x => one1_le fun xs hx a ha => ((hz x).2 xs hx).2 a ha
 have hd : ∀ (xs : List Bs) i, xs ∈ argsOf 70 l → (xs.getD i []).length ≤ N := fun xs i hx => by
  by_cases hi : i < xs.length
  · exact ((hz 70).2 xs hx).2 _ (by simp [hi])
  · simp [hi]
 refine ⟨?_, ?_, ?_, ?_, ?_, ?_, ?_, ?_, ?_⟩
 · exact Nat.le_trans (h1 66) (by omega)
 · show ((prgText l).getD []).length ≤ _
   cases e : prgText l with
   | none => simp
   | some t =>
     have h2 := unescB_len e
     have h3 := trim_le ((one1 (argsOf 67 l)).getD []) [46]
     have := h1 67
     simp only [Option.getD_some]; omega
 · exact Nat.le_trans (h1 85) (by omega)
 · show ((argsOf 70 l).map flOf).length ≤ _
   rw [List.length_map]; have := (hz 70).1; omega
 · intro f hf
   obtain ⟨xs, hx, rfl⟩ := List.mem_map.1 (show f ∈ (argsOf 70 l).map flOf from hf)
   have := hd xs 0 hx
   have := hd xs 1 hx
   unfold flOf
   split
   · dsimp only; omega
   · split
     · dsimp only [List.length_nil]; omega
     · simp
 · show ((argsOf 80 l).headD []).length ≤ _
   have := (hz 80).2
   cases e : argsOf 80 l with
   | nil => simp
   | cons a r => rw [e] at this; have := (this a (by simp)).1; simp only [List.headD_cons]; omega
 · intro p hp
   have h3 : p ∈ (argsOf 80 l).headD [] := hp
   have := (hz 80).2
   cases e : argsOf 80 l with
   | nil => rw [e] at h3; simp at h3
   | cons a r => rw [e] at this h3; have := (this a (by simp)).2 p h3; omega
 · show ((readT (argsOf 84 l)).getD []).length ≤ _
   cases e : readT (argsOf 84 l) with
   | none => simp
   | some ts =>
     have := (readT_le (N := N) (fun xs hx a ha => ((hz 84).2 xs hx).2 a ha) e).1
     have := (hz 84).1
     simp only [Option.getD_some]; omega
 · intro t ht
   have h3 : t ∈ (readT (argsOf 84 l)).getD [] := ht
   cases e : readT (argsOf 84 l) with
   | none => rw [e] at h3; simp at h3
   | some ts =>
     rw [e] at h3
     have := (readT_le (N := N) (fun xs hx a ha => ((hz 84).2 xs hx).2 a ha) e).2 t h3
     omega
abbrev ckH (x : CkA × Ck) : List HP := [Row 25 2 (.slice x.1.fa x.2.files.length x.1.fc) x.2.files.length (x.2.files.flatMap flCells), SlI x.1.pa (x.2.parents.map vS), Row 66 4 (.slice x.1.ta x.2.tags.length x.1.tc) x.2.tags.length (x.2.tags.flatMap tgCells)]
theorem sli_nil {Hs : List HP} : Ent Hs (SlI none [] :: Hs) := ⟨fun {M g} s => ⟨Res.emp, g, Res.emp_dj _, rfl, .inl rfl, s⟩⟩
def ka0 : CkA := ⟨none, 0, none, 0, none, 0⟩
theorem ent_noCk {Hs : List HP} : Ent Hs (Row 25 2 (.slice none 0 0) 0 [] :: SlI none [] :: Row 66 4 (.slice none 0 0) 0 [] :: Hs) := (row_nil (e := 66) (sz := 4)).trans (sli_nil.trans row_nil)
/-- The files that have been read so far. -/
def FlB (b : Nat) (base text : Bs) (day : Int) (tv : Value) (user : Bs) (fl : List (Bs × Bs)) : HP := Ex fun z : Option Addr × Nat => Al [Ce b 30 [vS base, vS text, vI day, .slice z.1 fl.length z.2, .slice none 0 0, tv, vS user], Row 25 2 (.slice z.1 fl.length z.2) fl.length (fl.flatMap flCells)]
theorem fold_flb {b T : Nat} {base text : Bs} {day : Int} {tv : Value} {user : Bs} {fl : List (Bs × Bs)} {vs : List Value} {Hs R1 Rs : List HP} (a : Option Addr) (k m : Nat) (hm : m = fl.length) [q : OwnC b T vs Hs R1] (hT : T = 30) (h1 : vs = [vS base, vS text, vI day, .slice a m k, .slice none 0 0, tv, vS user]) {n : Nat} {ys : List Value} {e sz : Nat} [q2 : RowC (.slice a m k) e sz n ys R1 Rs] (he : e = 25) (hsz : sz = 2) (hn : n = m) (hy : ys = fl.flatMap flCells) : Ent Hs (FlB b base text day tv user fl :: Rs) := by
 subst hT; subst h1; subst he; subst hsz; subst hn; subst hy; subst hm
 refine ent_ex (a, k) ?_
 refine ent_al ?_
 exact Picks.ent (.cons q.get (.cons q2.get .nil))
/-- Where a parent list lies. -/
def OneAt (qs : List CdV) (pa : Option Addr) (pc : Nat) (xs : List Bs) : Prop := (pa = none ∧ xs = [] ∧ pc = 0) ∨ ∃ q ∈ qs, q.a = pa ∧ q.args = xs ∧ q.c = pc
theorem oneS_at (x : UInt8) (qs : List CdV) : ∃ pa pc, oneS (ofL x qs 0) = .slice pa ((argsOf x (cdsOf qs)).headD []).length pc ∧ OneAt qs pa pc ((argsOf x (cdsOf qs)).headD []) := by
 have h := ofL_argsOf x qs
 have hm : ∀ p ∈ ofL x qs 0, p.2 ∈ qs := fun p hp => (ofL_mem hp).1
 cases e : ofL x qs 0 with
 | nil =>
   rw [e] at h
   rw [← h]
   exact ⟨none, 0, rfl, .inl ⟨rfl, rfl, rfl⟩⟩
 | cons p r =>
   rw [e] at h hm
   rw [← h]
   exact ⟨p.2.a, p.2.c, rfl, .inr ⟨p.2, hm p (by simp), rfl, rfl, rfl⟩⟩
theorem ent_one {qs : List CdV} {pa : Option Addr} {pc : Nat} {xs : List Bs} {Hs : List HP} (h : OneAt qs pa pc xs) (hp : Has (CdM qs) Hs) : Ent Hs (SlI pa (xs.map vS) :: Hs) := by
 rcases h with ⟨rfl, rfl, _⟩ | ⟨q, hq, rfl, rfl, _⟩
 · exact sli_nil
 · exact ent_cd hq hp
theorem one_cap {qs : List CdV} {pa : Option Addr} {pc : Nat} {xs : List Bs} (h : OneAt qs pa pc xs) (hc : ∀ q ∈ qs, q.args.length ≤ q.c) : xs.length ≤ pc := by
 rcases h with ⟨_, rfl, _⟩ | ⟨q, hq, _, rfl, rfl⟩
 · exact Nat.zero_le _
 · exact hc q hq
set_option maxHeartbeats 4000000 in
theorem checkin_Read_sp (s : Bs) (hs : s.length ≤ 1073741824) : Sp Tryz.prog 23 [vS s] [] (X := CkA × Ck) (fun x => .tuple #[.agg (ckVals x.1 x.2).toArray, vB (readK s).isSome]) (fun x => x.2 = (readK s).getD ck0 ∧ x.2.parents.length ≤ x.1.pc) ckH := by
 refine Sp.body (n := 135) Tryz.call23 Tryz.func23 rfl rfl rfl ?_
 refine p_seq rfl ?_
 refine p_region rfl ?_
 refine wo_alloc (zs := [vS [], vS [], .int .i64 0, .slice none 0 0, .slice none 0 0, .slice none 0 0, vS []]) ti30 rfl rfl rfl (fun b2 => ?_)
 refine wo_pv (pv_assign rfl) rfl ?_
 refine q_seq ?_
 refine p_seq rfl ?_
 refine p_region rfl ?_
 refine wo_pv (pv_move rfl) rfl ?_
 refine r_callX (card_Read_sp s hs) rfl rfl rfl (fun x24 hx24 => ?_)
 obtain ⟨⟨ca, cc⟩, qs⟩ := x24
 dsimp only [cardV, cardH] at hx24 ⊢
 refine wo_pv (pv_move rfl) rfl ?_
 refine wo_pv (pv_extract (v := .slice ca qs.length cc) rfl rfl) rfl ?_
 refine wo_pv (pv_extract (v := vB (readC s).isSome) rfl rfl) rfl ?_
 refine wo_pv (pv_assign rfl) rfl ?_
 refine wo_pv (pv_assign rfl) rfl ?_
 refine q_seq ?_
 refine p_seq rfl ?_
 refine p_seq rfl ?_
 refine p_region rfl ?_
 refine wo_pv (pv_move rfl) rfl ?_
 refine wo_pv (by first | exact pv_notd rfl | exact pv_not rfl) rfl ?_
 refine q_seq ?_
 first | refine p_ite rfl rfl (fun h28 => ?_) (fun h28 => ?_) | refine p_cond rfl rfl (fun h28 => ?_) (fun h28 => ?_)
 ·
  refine p_seq rfl ?_
  refine p_region rfl ?_
  refine wo_pv (pv_buildS (vs := [vS [], vS [], .int .i64 0, .slice none 0 0, .slice none 0 0, .slice none 0 0, vS []]) Tryz.underlying30 ti30 rfl rfl rfl rfl rfl) rfl ?_
  refine r_storea ti30 rfl rfl rfl rfl (by simp; try omega) ?_
  refine wo_pv (pv_assign rfl) rfl ?_
  refine q_seq ?_
  refine p_ret rfl ?_
  refine t_seq_ret ?_
  have hn : readK s = none := the_none fun c h => by
   rw [readC_iff.2 h.reads] at h28; simp at h28
  rw [hn]
  refine fin_ret (ka0, ck0) (vs := [_, _]) (Cs := [Ce b2 30 (ckVals ka0 ck0)]) rfl (.cell (l := ckVals ka0 ck0) (us := ckVals ka0 ck0) rfl (shows_ce (T := 30)) Tryz.underlying30 rfl ti30 (by exact Nat.le_of_ble_eq_true rfl) rfl (.tmp rfl .nil)) rfl ⟨rfl, Nat.le_refl _⟩ ?_
  exact ent_noCk.trans (show Ent _ [Row 25 2 (.slice none 0 0) 0 [], SlI none [], Row 66 4 (.slice none 0 0) 0 [], Ce b2 30 [vS [], vS [], vI 0, .slice none 0 0, .slice none 0 0, .slice none 0 0, vS []]] from ent_pick)
 ·
  have hl : readC s = some (cdsOf qs) := by cases e : readC s with
   | none => rw [e] at h28; simp at h28
   | some l => rw [e] at hx24; rw [hx24]; rfl
  have hrd := readC_iff.1 hl
  have hbz : (bodyB (cdsOf qs)).length ≤ 1073741824 := by
   have h1 := congrArg List.length hrd.2
   rw [printB, sealB_len] at h1; omega
  obtain ⟨hqn, hqz⟩ := cds_sizes hbz
  have hz := fun x => argsOf_sizes hbz x
  have h1z : ∀ x, ((one1 (argsOf x (cdsOf qs))).getD []).length ≤ 1073741824 := fun x => one1_le fun xs hx a ha => ((hz x).2 xs hx).2 a ha
  have hS := fun c => checkin_single_sp (B := Row 133 2 (.slice ca qs.length cc) qs.length (qs.flatMap CdV.cells)) (a := ca) qs.length cc qs c sla_row rfl hqn
  have htz := trim_le ((one1 (argsOf 67 (cdsOf qs))).getD []) [46]
  have hz67 := h1z 67
  have hz68 := h1z 68
  have hnone : ∀ (h : ∀ c, ReadsK s c → False), readK s = none := fun h => the_none h
  refine p_skip rfl ?_
  refine t_seq ?_
  refine p_seq rfl ?_
  refine p_region rfl ?_
  refine wo_alloc (zs := [vS [], vS [], .int .i64 0, .slice none 0 0, .slice none 0 0, .slice none 0 0, vS []]) ti30 rfl rfl rfl (fun b6 => ?_)
  refine q_seq ?_
  refine p_seq rfl ?_
  refine p_region rfl ?_
  refine wo_pv (pv_move rfl) rfl ?_
  refine r_call1 (hS 67) rfl rfl rfl ?_
  refine wo_pv (pv_move rfl) rfl ?_
  refine wo_pv (pv_extract (v := vS ((one1 (argsOf 67 (cdsOf qs))).getD [])) rfl rfl) rfl ?_
  refine wo_pv (pv_extract (v := vB (one1 (argsOf 67 (cdsOf qs))).isSome) rfl rfl) rfl ?_
  refine wo_pv (pv_assign rfl) rfl ?_
  refine wo_pv (pv_assign rfl) rfl ?_
  refine q_seq ?_
  refine p_seq rfl ?_
  refine p_region rfl ?_
  refine wo_pv (pv_move rfl) rfl ?_
  refine r_call1 (hS 68) rfl rfl rfl ?_
  refine wo_pv (pv_move rfl) rfl ?_
  refine wo_pv (pv_extract (v := vS ((one1 (argsOf 68 (cdsOf qs))).getD [])) rfl rfl) rfl ?_
  refine wo_pv (pv_extract (v := vB (one1 (argsOf 68 (cdsOf qs))).isSome) rfl rfl) rfl ?_
  refine wo_pv (pv_assign rfl) rfl ?_
  refine wo_pv (pv_assign rfl) rfl ?_
  refine q_seq ?_
  refine p_seq rfl ?_
  refine p_region rfl ?_
  refine wo_pv (pv_move rfl) rfl ?_
  refine r_call1 (hS 85) rfl rfl rfl ?_
  refine wo_pv (pv_move rfl) rfl ?_
  refine wo_pv (pv_extract (v := vS ((one1 (argsOf 85 (cdsOf qs))).getD [])) rfl rfl) rfl ?_
  refine wo_pv (pv_extract (v := vB (one1 (argsOf 85 (cdsOf qs))).isSome) rfl rfl) rfl ?_
  refine wo_pv (pv_assign rfl) rfl ?_
  refine wo_pv (pv_assign rfl) rfl ?_
  refine q_seq ?_
  refine p_seq rfl ?_
  refine p_region rfl ?_
  refine wo_pv (pv_move rfl) rfl ?_
  refine r_callF (TrimPrefix_sp ((one1 (argsOf 67 (cdsOf qs))).getD []) [46]) rfl rfl rfl ?_
  refine r_callF (escape_Read_sp _ (by omega)) rfl rfl rfl ?_
  refine wo_pv (pv_move rfl) rfl ?_
  refine wo_pv (pv_extract (v := vS ((prgText (cdsOf qs)).getD [])) rfl rfl) rfl ?_
  refine wo_pv (pv_extract (v := vB (prgText (cdsOf qs)).isSome) rfl rfl) rfl ?_
  refine wo_pv (pv_assign rfl) rfl ?_
  refine wo_pv (pv_assign rfl) rfl ?_
  refine q_seq ?_
  refine p_seq rfl ?_
  refine p_region rfl ?_
  refine wo_pv (pv_move rfl) rfl ?_
  refine r_callF (digit_ReadDec_sp _ (by omega)) rfl rfl rfl ?_
  refine wo_pv (pv_move rfl) rfl ?_
  refine wo_pv (pv_extract (v := vI (((prgDay (cdsOf qs)).getD 0 : Nat) : Int)) rfl rfl) rfl ?_
  refine wo_pv (pv_extract (v := vB (prgDay (cdsOf qs)).isSome) rfl rfl) rfl ?_
  refine wo_pv (pv_assign rfl) rfl ?_
  refine wo_pv (pv_assign rfl) rfl ?_
  refine q_seq ?_
  refine p_seq rfl ?_
  refine p_region rfl ?_
  refine wo_pv (pv_move rfl) rfl ?_
  refine r_callX (checkin_ReadTags_sp (B := Row 133 2 (.slice ca qs.length cc) qs.length (qs.flatMap CdV.cells)) (a := ca) qs.length cc qs sla_row rfl hbz) rfl rfl rfl (fun x58 hx58 => ?_)
  obtain ⟨⟨ta, tc⟩, ts⟩ := x58
  dsimp only [tagV, tagH] at hx58 ⊢
  refine wo_pv (pv_move rfl) rfl ?_
  refine wo_pv (pv_extract (v := .slice ta ts.length tc) rfl rfl) rfl ?_
  refine wo_pv (pv_extract (v := vB (readT (argsOf 84 (cdsOf qs))).isSome) rfl rfl) rfl ?_
  refine wo_pv (pv_assign rfl) rfl ?_
  refine wo_pv (pv_assign rfl) rfl ?_
  refine q_seq ?_
  refine p_seq rfl ?_
  refine p_seq rfl ?_
  refine p_region rfl ?_
  refine wo_pv (pv_move rfl) rfl ?_
  refine wo_pv (by first | exact pv_notd rfl | exact pv_not rfl) rfl ?_
  refine wo_pv (pv_move rfl) rfl ?_
  first | refine wo_gite (j := 2) rfl rfl (fun h63 => ?_) (fun h63 => ?_) | refine wo_gsplit (j := 2) rfl rfl (fun h63 => ?_) (fun h63 => ?_)
  ·
   refine wo_out (b := true) rfl rfl rfl ?_
   refine wo_out (b := true) rfl rfl rfl ?_
   refine wo_pv (pv_pick_t rfl rfl) rfl ?_
   refine wo_pv (pv_move rfl) rfl ?_
   refine wo_out (b := true) rfl rfl rfl ?_
   refine wo_out (b := true) rfl rfl rfl ?_
   refine wo_pv (pv_pick_t rfl rfl) rfl ?_
   refine wo_pv (pv_move rfl) rfl ?_
   refine wo_out (b := true) rfl rfl rfl ?_
   refine wo_out (b := true) rfl rfl rfl ?_
   refine wo_pv (pv_pick_t rfl rfl) rfl ?_
   refine wo_pv (pv_move rfl) rfl ?_
   refine wo_out (b := true) rfl rfl rfl ?_
   refine wo_out (b := true) rfl rfl rfl ?_
   refine wo_pv (pv_pick_t rfl rfl) rfl ?_
   refine wo_pv (pv_move rfl) rfl ?_
   refine wo_out (b := true) rfl rfl rfl ?_
   refine wo_out (b := true) rfl rfl rfl ?_
   refine wo_pv (pv_pick_t rfl rfl) rfl ?_
   refine q_seq ?_
   refine p_true rfl rfl ?_
   refine p_seq rfl ?_
   refine p_region rfl ?_
   refine wo_pv (pv_buildS (vs := [vS [], vS [], .int .i64 0, .slice none 0 0, .slice none 0 0, .slice none 0 0, vS []]) Tryz.underlying30 ti30 rfl rfl rfl rfl rfl) rfl ?_
   refine r_storea ti30 rfl rfl rfl rfl (by simp; try omega) ?_
   refine wo_pv (pv_assign rfl) rfl ?_
   refine q_seq ?_
   refine p_ret rfl ?_
   refine t_seq_ret ?_
   have hn : readK s = none := hnone fun c h => by
    obtain ⟨o1, o2, o3, o4, o5, o6, _⟩ := prgCk_some (reads_prg hrd h)
    first
    | (rw [o6] at h82; exact absurd h82 (by decide))
    | (rw [o5] at h79; exact absurd h79 (by decide))
    | (rw [o4] at h75; exact absurd h75 (by decide))
    | (rw [o3] at h71; exact absurd h71 (by decide))
    | (rw [o2] at h67; exact absurd h67 (by decide))
    | (rw [o1] at h63; exact absurd h63 (by decide))
   rw [hn]
   refine fin_ret (ka0, ck0) (vs := [_, _]) (Cs := [Ce b2 30 (ckVals ka0 ck0)]) rfl (.cell (l := ckVals ka0 ck0) (us := ckVals ka0 ck0) rfl (shows_ce (T := 30)) Tryz.underlying30 rfl ti30 (by exact Nat.le_of_ble_eq_true rfl) rfl (.tmp rfl .nil)) rfl ⟨rfl, Nat.le_refl _⟩ ?_
   exact ent_noCk.trans (show Ent _ [Row 25 2 (.slice none 0 0) 0 [], SlI none [], Row 66 4 (.slice none 0 0) 0 [], Ce b2 30 [vS [], vS [], vI 0, .slice none 0 0, .slice none 0 0, .slice none 0 0, vS []]] from ent_pick)
  ·
   refine wo_in (b := false) rfl ?_
   refine wo_pv (pv_move rfl) rfl ?_
   refine wo_in (b := false) rfl ?_
   refine wo_pv (by first | exact pv_notd rfl | exact pv_not rfl) rfl ?_
   refine wo_pv (pv_pick_f rfl rfl) rfl ?_
   refine wo_pv (pv_move rfl) rfl ?_
   first | refine wo_gite (j := 6) rfl rfl (fun h67 => ?_) (fun h67 => ?_) | refine wo_gsplit (j := 6) rfl rfl (fun h67 => ?_) (fun h67 => ?_)
   ·
    refine wo_out (b := true) rfl rfl rfl ?_
    refine wo_out (b := true) rfl rfl rfl ?_
    refine wo_pv (pv_pick_t rfl rfl) rfl ?_
    refine wo_pv (pv_move rfl) rfl ?_
    refine wo_out (b := true) rfl rfl rfl ?_
    refine wo_out (b := true) rfl rfl rfl ?_
    refine wo_pv (pv_pick_t rfl rfl) rfl ?_
    refine wo_pv (pv_move rfl) rfl ?_
    refine wo_out (b := true) rfl rfl rfl ?_
    refine wo_out (b := true) rfl rfl rfl ?_
    refine wo_pv (pv_pick_t rfl rfl) rfl ?_
    refine wo_pv (pv_move rfl) rfl ?_
    refine wo_out (b := true) rfl rfl rfl ?_
    refine wo_out (b := true) rfl rfl rfl ?_
    refine wo_pv (pv_pick_t rfl rfl) rfl ?_
    refine q_seq ?_
    refine p_true rfl rfl ?_
    refine p_seq rfl ?_
    refine p_region rfl ?_
    refine wo_pv (pv_buildS (vs := [vS [], vS [], .int .i64 0, .slice none 0 0, .slice none 0 0, .slice none 0 0, vS []]) Tryz.underlying30 ti30 rfl rfl rfl rfl rfl) rfl ?_
    refine r_storea ti30 rfl rfl rfl rfl (by simp; try omega) ?_
    refine wo_pv (pv_assign rfl) rfl ?_
    refine q_seq ?_
    refine p_ret rfl ?_
    refine t_seq_ret ?_
    have hn : readK s = none := hnone fun c h => by
     obtain ⟨o1, o2, o3, o4, o5, o6, _⟩ := prgCk_some (reads_prg hrd h)
     first
     | (rw [o6] at h82; exact absurd h82 (by decide))
     | (rw [o5] at h79; exact absurd h79 (by decide))
     | (rw [o4] at h75; exact absurd h75 (by decide))
     | (rw [o3] at h71; exact absurd h71 (by decide))
     | (rw [o2] at h67; exact absurd h67 (by decide))
     | (rw [o1] at h63; exact absurd h63 (by decide))
    rw [hn]
    refine fin_ret (ka0, ck0) (vs := [_, _]) (Cs := [Ce b2 30 (ckVals ka0 ck0)]) rfl (.cell (l := ckVals ka0 ck0) (us := ckVals ka0 ck0) rfl (shows_ce (T := 30)) Tryz.underlying30 rfl ti30 (by exact Nat.le_of_ble_eq_true rfl) rfl (.tmp rfl .nil)) rfl ⟨rfl, Nat.le_refl _⟩ ?_
    exact ent_noCk.trans (show Ent _ [Row 25 2 (.slice none 0 0) 0 [], SlI none [], Row 66 4 (.slice none 0 0) 0 [], Ce b2 30 [vS [], vS [], vI 0, .slice none 0 0, .slice none 0 0, .slice none 0 0, vS []]] from ent_pick)
   ·
    refine wo_in (b := false) rfl ?_
    refine wo_pv (pv_move rfl) rfl ?_
    refine wo_in (b := false) rfl ?_
    refine wo_pv (by first | exact pv_notd rfl | exact pv_not rfl) rfl ?_
    refine wo_pv (pv_pick_f rfl rfl) rfl ?_
    refine wo_pv (pv_move rfl) rfl ?_
    first | refine wo_gite (j := 10) rfl rfl (fun h71 => ?_) (fun h71 => ?_) | refine wo_gsplit (j := 10) rfl rfl (fun h71 => ?_) (fun h71 => ?_)
    ·
     refine wo_out (b := true) rfl rfl rfl ?_
     refine wo_out (b := true) rfl rfl rfl ?_
     refine wo_pv (pv_pick_t rfl rfl) rfl ?_
     refine wo_pv (pv_move rfl) rfl ?_
     refine wo_out (b := true) rfl rfl rfl ?_
     refine wo_out (b := true) rfl rfl rfl ?_
     refine wo_pv (pv_pick_t rfl rfl) rfl ?_
     refine wo_pv (pv_move rfl) rfl ?_
     refine wo_out (b := true) rfl rfl rfl ?_
     refine wo_out (b := true) rfl rfl rfl ?_
     refine wo_pv (pv_pick_t rfl rfl) rfl ?_
     refine q_seq ?_
     refine p_true rfl rfl ?_
     refine p_seq rfl ?_
     refine p_region rfl ?_
     refine wo_pv (pv_buildS (vs := [vS [], vS [], .int .i64 0, .slice none 0 0, .slice none 0 0, .slice none 0 0, vS []]) Tryz.underlying30 ti30 rfl rfl rfl rfl rfl) rfl ?_
     refine r_storea ti30 rfl rfl rfl rfl (by simp; try omega) ?_
     refine wo_pv (pv_assign rfl) rfl ?_
     refine q_seq ?_
     refine p_ret rfl ?_
     refine t_seq_ret ?_
     have hn : readK s = none := hnone fun c h => by
      obtain ⟨o1, o2, o3, o4, o5, o6, _⟩ := prgCk_some (reads_prg hrd h)
      first
      | (rw [o6] at h82; exact absurd h82 (by decide))
      | (rw [o5] at h79; exact absurd h79 (by decide))
      | (rw [o4] at h75; exact absurd h75 (by decide))
      | (rw [o3] at h71; exact absurd h71 (by decide))
      | (rw [o2] at h67; exact absurd h67 (by decide))
      | (rw [o1] at h63; exact absurd h63 (by decide))
     rw [hn]
     refine fin_ret (ka0, ck0) (vs := [_, _]) (Cs := [Ce b2 30 (ckVals ka0 ck0)]) rfl (.cell (l := ckVals ka0 ck0) (us := ckVals ka0 ck0) rfl (shows_ce (T := 30)) Tryz.underlying30 rfl ti30 (by exact Nat.le_of_ble_eq_true rfl) rfl (.tmp rfl .nil)) rfl ⟨rfl, Nat.le_refl _⟩ ?_
     exact ent_noCk.trans (show Ent _ [Row 25 2 (.slice none 0 0) 0 [], SlI none [], Row 66 4 (.slice none 0 0) 0 [], Ce b2 30 [vS [], vS [], vI 0, .slice none 0 0, .slice none 0 0, .slice none 0 0, vS []]] from ent_pick)
    ·
     refine wo_in (b := false) rfl ?_
     refine wo_pv (pv_move rfl) rfl ?_
     refine wo_in (b := false) rfl ?_
     refine wo_pv (by first | exact pv_notd rfl | exact pv_not rfl) rfl ?_
     refine wo_pv (pv_pick_f rfl rfl) rfl ?_
     refine wo_pv (pv_move rfl) rfl ?_
     first | refine wo_gite (j := 14) rfl rfl (fun h75 => ?_) (fun h75 => ?_) | refine wo_gsplit (j := 14) rfl rfl (fun h75 => ?_) (fun h75 => ?_)
     ·
      refine wo_out (b := true) rfl rfl rfl ?_
      refine wo_out (b := true) rfl rfl rfl ?_
      refine wo_pv (pv_pick_t rfl rfl) rfl ?_
      refine wo_pv (pv_move rfl) rfl ?_
      refine wo_out (b := true) rfl rfl rfl ?_
      refine wo_out (b := true) rfl rfl rfl ?_
      refine wo_pv (pv_pick_t rfl rfl) rfl ?_
      refine q_seq ?_
      refine p_true rfl rfl ?_
      refine p_seq rfl ?_
      refine p_region rfl ?_
      refine wo_pv (pv_buildS (vs := [vS [], vS [], .int .i64 0, .slice none 0 0, .slice none 0 0, .slice none 0 0, vS []]) Tryz.underlying30 ti30 rfl rfl rfl rfl rfl) rfl ?_
      refine r_storea ti30 rfl rfl rfl rfl (by simp; try omega) ?_
      refine wo_pv (pv_assign rfl) rfl ?_
      refine q_seq ?_
      refine p_ret rfl ?_
      refine t_seq_ret ?_
      have hn : readK s = none := hnone fun c h => by
       obtain ⟨o1, o2, o3, o4, o5, o6, _⟩ := prgCk_some (reads_prg hrd h)
       first
       | (rw [o6] at h82; exact absurd h82 (by decide))
       | (rw [o5] at h79; exact absurd h79 (by decide))
       | (rw [o4] at h75; exact absurd h75 (by decide))
       | (rw [o3] at h71; exact absurd h71 (by decide))
       | (rw [o2] at h67; exact absurd h67 (by decide))
       | (rw [o1] at h63; exact absurd h63 (by decide))
      rw [hn]
      refine fin_ret (ka0, ck0) (vs := [_, _]) (Cs := [Ce b2 30 (ckVals ka0 ck0)]) rfl (.cell (l := ckVals ka0 ck0) (us := ckVals ka0 ck0) rfl (shows_ce (T := 30)) Tryz.underlying30 rfl ti30 (by exact Nat.le_of_ble_eq_true rfl) rfl (.tmp rfl .nil)) rfl ⟨rfl, Nat.le_refl _⟩ ?_
      exact ent_noCk.trans (show Ent _ [Row 25 2 (.slice none 0 0) 0 [], SlI none [], Row 66 4 (.slice none 0 0) 0 [], Ce b2 30 [vS [], vS [], vI 0, .slice none 0 0, .slice none 0 0, .slice none 0 0, vS []]] from ent_pick)
     ·
      refine wo_in (b := false) rfl ?_
      refine wo_pv (pv_move rfl) rfl ?_
      refine wo_in (b := false) rfl ?_
      refine wo_pv (by first | exact pv_notd rfl | exact pv_not rfl) rfl ?_
      refine wo_pv (pv_pick_f rfl rfl) rfl ?_
      refine wo_pv (pv_move rfl) rfl ?_
      first | refine wo_gite (j := 18) rfl rfl (fun h79 => ?_) (fun h79 => ?_) | refine wo_gsplit (j := 18) rfl rfl (fun h79 => ?_) (fun h79 => ?_)
      ·
       refine wo_out (b := true) rfl rfl rfl ?_
       refine wo_out (b := true) rfl rfl rfl ?_
       refine wo_pv (pv_pick_t rfl rfl) rfl ?_
       refine q_seq ?_
       refine p_true rfl rfl ?_
       refine p_seq rfl ?_
       refine p_region rfl ?_
       refine wo_pv (pv_buildS (vs := [vS [], vS [], .int .i64 0, .slice none 0 0, .slice none 0 0, .slice none 0 0, vS []]) Tryz.underlying30 ti30 rfl rfl rfl rfl rfl) rfl ?_
       refine r_storea ti30 rfl rfl rfl rfl (by simp; try omega) ?_
       refine wo_pv (pv_assign rfl) rfl ?_
       refine q_seq ?_
       refine p_ret rfl ?_
       refine t_seq_ret ?_
       have hn : readK s = none := hnone fun c h => by
        obtain ⟨o1, o2, o3, o4, o5, o6, _⟩ := prgCk_some (reads_prg hrd h)
        first
        | (rw [o6] at h82; exact absurd h82 (by decide))
        | (rw [o5] at h79; exact absurd h79 (by decide))
        | (rw [o4] at h75; exact absurd h75 (by decide))
        | (rw [o3] at h71; exact absurd h71 (by decide))
        | (rw [o2] at h67; exact absurd h67 (by decide))
        | (rw [o1] at h63; exact absurd h63 (by decide))
       rw [hn]
       refine fin_ret (ka0, ck0) (vs := [_, _]) (Cs := [Ce b2 30 (ckVals ka0 ck0)]) rfl (.cell (l := ckVals ka0 ck0) (us := ckVals ka0 ck0) rfl (shows_ce (T := 30)) Tryz.underlying30 rfl ti30 (by exact Nat.le_of_ble_eq_true rfl) rfl (.tmp rfl .nil)) rfl ⟨rfl, Nat.le_refl _⟩ ?_
       exact ent_noCk.trans (show Ent _ [Row 25 2 (.slice none 0 0) 0 [], SlI none [], Row 66 4 (.slice none 0 0) 0 [], Ce b2 30 [vS [], vS [], vI 0, .slice none 0 0, .slice none 0 0, .slice none 0 0, vS []]] from ent_pick)
      ·
       refine wo_in (b := false) rfl ?_
       refine wo_pv (pv_move rfl) rfl ?_
       refine wo_in (b := false) rfl ?_
       refine wo_pv (by first | exact pv_notd rfl | exact pv_not rfl) rfl ?_
       refine wo_pv (pv_pick_f rfl rfl) rfl ?_
       refine q_seq ?_
       first | refine p_ite rfl rfl (fun h82 => ?_) (fun h82 => ?_) | refine p_cond rfl rfl (fun h82 => ?_) (fun h82 => ?_)
       ·
        refine p_seq rfl ?_
        refine p_region rfl ?_
        refine wo_pv (pv_buildS (vs := [vS [], vS [], .int .i64 0, .slice none 0 0, .slice none 0 0, .slice none 0 0, vS []]) Tryz.underlying30 ti30 rfl rfl rfl rfl rfl) rfl ?_
        refine r_storea ti30 rfl rfl rfl rfl (by simp; try omega) ?_
        refine wo_pv (pv_assign rfl) rfl ?_
        refine q_seq ?_
        refine p_ret rfl ?_
        refine t_seq_ret ?_
        have hn : readK s = none := hnone fun c h => by
         obtain ⟨o1, o2, o3, o4, o5, o6, _⟩ := prgCk_some (reads_prg hrd h)
         first
         | (rw [o6] at h82; exact absurd h82 (by decide))
         | (rw [o5] at h79; exact absurd h79 (by decide))
         | (rw [o4] at h75; exact absurd h75 (by decide))
         | (rw [o3] at h71; exact absurd h71 (by decide))
         | (rw [o2] at h67; exact absurd h67 (by decide))
         | (rw [o1] at h63; exact absurd h63 (by decide))
        rw [hn]
        refine fin_ret (ka0, ck0) (vs := [_, _]) (Cs := [Ce b2 30 (ckVals ka0 ck0)]) rfl (.cell (l := ckVals ka0 ck0) (us := ckVals ka0 ck0) rfl (shows_ce (T := 30)) Tryz.underlying30 rfl ti30 (by exact Nat.le_of_ble_eq_true rfl) rfl (.tmp rfl .nil)) rfl ⟨rfl, Nat.le_refl _⟩ ?_
        exact ent_noCk.trans (show Ent _ [Row 25 2 (.slice none 0 0) 0 [], SlI none [], Row 66 4 (.slice none 0 0) 0 [], Ce b2 30 [vS [], vS [], vI 0, .slice none 0 0, .slice none 0 0, .slice none 0 0, vS []]] from ent_pick)
       ·
        refine p_skip rfl ?_
        refine t_seq ?_
        refine p_seq rfl ?_
        refine p_region rfl ?_
        refine wo_pv (pv_move rfl) rfl ?_
        refine r_call1 (hS 66) rfl rfl rfl ?_
        refine wo_pv (pv_move rfl) rfl ?_
        refine wo_pv (pv_extract (v := vS ((one1 (argsOf 66 (cdsOf qs))).getD [])) rfl rfl) rfl ?_
        refine wo_pv (pv_extract (v := vB (one1 (argsOf 66 (cdsOf qs))).isSome) rfl rfl) rfl ?_
        refine wo_pv (pv_fieldAddrk Tryz.underlying30 rfl ti9 rfl rfl (k := 0) rfl (by first | exact Nat.zero_add _ | exact Nat.add_zero _ | exact rfl)) rfl ?_
        refine r_store ti9 rfl rfl rfl rfl (by simp; try omega) ?_
        refine q_seq ?_
        refine p_seq rfl ?_
        refine p_region rfl ?_
        refine wo_pv (pv_move rfl) rfl ?_
        refine wo_pv (pv_move rfl) rfl ?_
        refine wo_pv (pv_move rfl) rfl ?_
        refine wo_pv (pv_move rfl) rfl ?_
        refine wo_pv (pv_fieldAddrk Tryz.underlying30 rfl ti9 rfl rfl (k := 1) rfl (by first | exact Nat.zero_add _ | exact Nat.add_zero _ | exact rfl)) rfl ?_
        refine r_store ti9 rfl rfl rfl rfl (by simp; try omega) ?_
        refine wo_pv (pv_fieldAddrk Tryz.underlying30 rfl ti3 rfl rfl (k := 2) rfl (by first | exact Nat.zero_add _ | exact Nat.add_zero _ | exact rfl)) rfl ?_
        refine r_store ti3 rfl rfl rfl rfl (by simp; try omega) ?_
        refine wo_pv (pv_fieldAddrk Tryz.underlying30 rfl ti9 rfl rfl (k := 6) rfl (by first | exact Nat.zero_add _ | exact Nat.add_zero _ | exact rfl)) rfl ?_
        refine r_store ti9 rfl rfl rfl rfl (by simp; try omega) ?_
        refine wo_pv (pv_fieldAddrk Tryz.underlying30 rfl ti28 rfl rfl (k := 5) rfl (by first | exact Nat.zero_add _ | exact Nat.add_zero _ | exact rfl)) rfl ?_
        refine r_store ti28 rfl rfl rfl rfl (by simp; try omega) ?_
        refine q_seq ?_
        refine p_seq rfl ?_
        refine p_seq rfl ?_
        refine p_region rfl ?_
        refine wo_pv (pv_move rfl) rfl ?_
        refine r_callX (card_Of_sp ca qs.length cc 70) rfl rfl rfl (fun x99 _ => ?_)
        refine q_seq ?_
        refine p_block 0 rfl ?_
        refine p_rangeFunc (fun pre => [FlB b6 ((one1 (argsOf 66 (cdsOf qs))).getD []) ((prgText (cdsOf qs)).getD []) (((prgDay (cdsOf qs)).getD 0 : Nat) : Int) (.slice ta ts.length tc) ((one1 (argsOf 85 (cdsOf qs))).getD []) (pre.map (fun p => flOf p.2.args)), CdM qs, Row 66 4 (.slice ta ts.length tc) ts.length (ts.flatMap tgCells), Ce b2 30 [vS [], vS [], vI 0, .slice none 0 0, .slice none 0 0, .slice none 0 0, vS []]]) (fun j pre => [Pu False]) rfl (card_Of_it qs.length cc x99.1 x99.2 qs 70 (B := Row 133 2 (.slice ca qs.length cc) qs.length (qs.flatMap CdV.cells)) sla_row rfl (by omega)) rfl (fun _ => by rfl) rfl ?_ (fun l pre q hok => ?_) ?_ (fun j pre hs => ?_)
        · (refine ent_app ?_; simp only [List.map_nil]; refine Ent.trans (row_nil (e := 25) (sz := 2)) ?_; exact (fold_flb (b := b6) (fl := []) none 0 0 (by rfl) (by rfl) (by rfl) (by rfl) (by rfl) (by rfl) (by rfl)).trans ent_pick)
        ·
         obtain ⟨rr, hrr⟩ := hok
         obtain ⟨hqm, _⟩ := ofL_mem (p := q) (by rw [hrr]; simp)
         have hqzz := hqz q.2 hqm
         have hpl : pre.length ≤ 1073741824 := by
          have h1 := congrArg List.length (ofL_argsOf 70 qs)
          have h2 := (hz 70).1
          have h3 := congrArg List.length hrr
          rw [List.length_map] at h1
          simp at h3; omega
         refine wc_ent' (ent_cd hqm HasC.get) ?_
         refine wc_front (FlB b6 ((one1 (argsOf 66 (cdsOf qs))).getD []) ((prgText (cdsOf qs)).getD []) (((prgDay (cdsOf qs)).getD 0 : Nat) : Int) (.slice ta ts.length tc) ((one1 (argsOf 85 (cdsOf qs))).getD []) (pre.map (fun p => flOf p.2.args))) (wc_exi fun z => wc_al ?_)
         obtain ⟨za, zc⟩ := z
         obtain ⟨qi, ql, qa, qc, xs⟩ := q
         dsimp only at hqzz hqm
         dsimp only [encO]
         obtain ⟨fl, hfl⟩ : ∃ fl, fl = pre.map (fun p => flOf p.2.args) := ⟨_, rfl⟩
         have hfll : fl.length ≤ 1073741824 := by rw [hfl, List.length_map]; exact hpl
         rw [← hfl]
         have hfo : flOf xs = if xs.length = 2 then (xs.getD 0 [], xs.getD 1 []) else if xs.length = 1 then (xs.getD 0 [], []) else ([], []) := rfl
         refine p_region rfl ?_
         refine wo_pv (pv_assign rfl) rfl ?_
         refine q_asg ?_
         refine p_block 1 rfl ?_
         refine p_seq rfl ?_
         refine p_region rfl ?_
         refine wo_pv (pv_buildS (vs := [vS [], vS []]) Tryz.underlying25 ti25 rfl rfl rfl rfl rfl) rfl ?_
         refine wo_alloc (zs := [vS [], vS []]) ti25 rfl rfl rfl (fun b21 => ?_)
         refine r_storea ti25 rfl rfl rfl rfl (by simp; try omega) ?_
         refine q_seq ?_
         refine p_seq rfl ?_
         refine p_seq rfl ?_
         refine p_region rfl ?_
         refine wo_pv (pv_move rfl) rfl ?_
         refine wo_pv (pv_call_len_sl Tryz.underlying27 rfl) rfl ?_
         refine q_seq ?_
         refine p_block 2 rfl ?_
         refine p_seq rfl ?_
         refine p_block 4 rfl ?_
         refine p_seq rfl ?_
         refine p_block 3 rfl ?_
         refine p_seq rfl ?_
         refine p_seq rfl ?_
         refine p_seq rfl ?_
         refine p_region rfl ?_
         refine wo_pv (pv_eql rfl rfl) rfl ?_
         refine wo_pv (pv_assign rfl) rfl ?_
         refine q_seq ?_
         first | refine p_ite rfl rfl (fun h105 => ?_) (fun h105 => ?_) | refine p_cond rfl rfl (fun h105 => ?_) (fun h105 => ?_)
         ·
          refine p_exit 3 rfl ?_
          refine t_seq_exit ?_
          refine t_seq_exit ?_
          refine to_block_here ?_
          refine t_seq ?_
          refine p_region rfl ?_
          refine wo_pv (pv_move rfl) rfl ?_
          refine r_elemAddr (m := 1) (sz := 1) Tryz.underlying27 ti9 rfl rfl rfl rfl (by omega) (by first | (rw [List.length_map]; omega) | (rw [flat_len (sz := 1) (fun _ => rfl)]; omega) | (simp; omega)) (Nat.mul_one _) rfl ?_
          refine r_eload Tryz.underlying9 rfl rfl (get_mapD [] (m := 1) (by omega)) rfl ?_
          refine wo_pv (pv_fieldAddrk Tryz.underlying25 rfl ti9 rfl rfl (k := 1) rfl (by first | exact Nat.zero_add _ | exact Nat.add_zero _ | exact rfl)) rfl ?_
          refine r_store ti9 rfl rfl rfl rfl (by simp; try omega) ?_
          refine wo_nil ?_
          refine to_block ?_
          refine t_seq ?_
          refine p_seq rfl ?_
          refine p_region rfl ?_
          refine wo_pv (pv_move rfl) rfl ?_
          refine r_elemAddr (m := 0) (sz := 1) Tryz.underlying27 ti9 rfl rfl rfl rfl (by omega) (by first | (rw [List.length_map]; omega) | (rw [flat_len (sz := 1) (fun _ => rfl)]; omega) | (simp; omega)) (Nat.mul_one _) rfl ?_
          refine r_eload Tryz.underlying9 rfl rfl (get_mapD [] (m := 0) (by omega)) rfl ?_
          refine wo_pv (pv_fieldAddrk Tryz.underlying25 rfl ti9 rfl rfl (k := 0) rfl (by first | exact Nat.zero_add _ | exact Nat.add_zero _ | exact rfl)) rfl ?_
          refine r_store ti9 rfl rfl rfl rfl (by simp; try omega) ?_
          refine q_seq ?_
          refine p_exit 2 rfl ?_
          refine to_block_here ?_
          refine t_seq ?_
          refine p_region rfl ?_
          refine wo_pv (pv_fieldAddrk Tryz.underlying30 rfl ti26 rfl rfl (k := 3) rfl (by first | exact Nat.zero_add _ | exact Nat.add_zero _ | exact rfl)) rfl ?_
          refine r_load Tryz.underlying26 rfl rfl rfl rfl ?_
          refine r_loada (vs := [_, _]) Tryz.underlying25 rfl ti25 rfl (by exact Nat.le_of_ble_eq_true rfl) (by rfl) rfl ?_
          refine r_buildSliceL [_] (cs := [_, _]) Tryz.underlying26 ti25 rfl rfl rfl rfl rfl rfl rfl rfl (fun b120 => ?_)
          refine r_append1 (sz := 2) (bytes := 32) Tryz.underlying26 ti25 rfl rfl rfl rfl rfl rfl rfl (by rfl) (by rfl) (by omega) (by simp only [maxLen]; omega) rfl (fun a121 c121 => ?_)
          refine wo_pv (pv_fieldAddrk Tryz.underlying30 rfl ti26 rfl rfl (k := 3) rfl (by first | exact Nat.zero_add _ | exact Nat.add_zero _ | exact rfl)) rfl ?_
          refine r_store ti26 rfl rfl rfl rfl (by simp; try omega) ?_
          refine wo_nil ?_
          refine to_block ?_
          refine to_round ?_
          rw [List.map_append, List.map_singleton, ← hfl]
          first
          | (rw [if_pos (by omega)] at hfo
             exact ent_step (fold_flb a121 c121 (fl.length + 1) (by simp) (by rfl) (by rfl) (by rfl) (by rfl) (by rfl) (by rw [fm_snoc, hfo]; rfl)) ent_pick)
          | (rw [if_neg (by omega), if_pos (by omega)] at hfo
             exact ent_step (fold_flb a121 c121 (fl.length + 1) (by simp) (by rfl) (by rfl) (by rfl) (by rfl) (by rfl) (by rw [fm_snoc, hfo]; rfl)) ent_pick)
          | (rw [if_neg (by omega), if_neg (by omega)] at hfo
             exact ent_step (fold_flb a121 c121 (fl.length + 1) (by simp) (by rfl) (by rfl) (by rfl) (by rfl) (by rfl) (by rw [fm_snoc, hfo]; rfl)) ent_pick)
         ·
          refine p_skip rfl ?_
          refine t_seq ?_
          refine p_seq rfl ?_
          refine p_region rfl ?_
          refine wo_pv (pv_eql rfl rfl) rfl ?_
          refine wo_pv (pv_assign rfl) rfl ?_
          refine q_seq ?_
          first | refine p_ite rfl rfl (fun h107 => ?_) (fun h107 => ?_) | refine p_cond rfl rfl (fun h107 => ?_) (fun h107 => ?_)
          ·
           refine p_exit 4 rfl ?_
           refine t_seq_exit ?_
           refine to_block_other rfl ?_
           refine t_seq_exit ?_
           refine to_block_here ?_
           refine t_seq ?_
           refine p_seq rfl ?_
           refine p_region rfl ?_
           refine wo_pv (pv_move rfl) rfl ?_
           refine r_elemAddr (m := 0) (sz := 1) Tryz.underlying27 ti9 rfl rfl rfl rfl (by omega) (by first | (rw [List.length_map]; omega) | (rw [flat_len (sz := 1) (fun _ => rfl)]; omega) | (simp; omega)) (Nat.mul_one _) rfl ?_
           refine r_eload Tryz.underlying9 rfl rfl (get_mapD [] (m := 0) (by omega)) rfl ?_
           refine wo_pv (pv_fieldAddrk Tryz.underlying25 rfl ti9 rfl rfl (k := 0) rfl (by first | exact Nat.zero_add _ | exact Nat.add_zero _ | exact rfl)) rfl ?_
           refine r_store ti9 rfl rfl rfl rfl (by simp; try omega) ?_
           refine q_seq ?_
           refine p_exit 2 rfl ?_
           refine to_block_here ?_
           refine t_seq ?_
           refine p_region rfl ?_
           refine wo_pv (pv_fieldAddrk Tryz.underlying30 rfl ti26 rfl rfl (k := 3) rfl (by first | exact Nat.zero_add _ | exact Nat.add_zero _ | exact rfl)) rfl ?_
           refine r_load Tryz.underlying26 rfl rfl rfl rfl ?_
           refine r_loada (vs := [_, _]) Tryz.underlying25 rfl ti25 rfl (by exact Nat.le_of_ble_eq_true rfl) (by rfl) rfl ?_
           refine r_buildSliceL [_] (cs := [_, _]) Tryz.underlying26 ti25 rfl rfl rfl rfl rfl rfl rfl rfl (fun b120 => ?_)
           refine r_append1 (sz := 2) (bytes := 32) Tryz.underlying26 ti25 rfl rfl rfl rfl rfl rfl rfl (by rfl) (by rfl) (by omega) (by simp only [maxLen]; omega) rfl (fun a121 c121 => ?_)
           refine wo_pv (pv_fieldAddrk Tryz.underlying30 rfl ti26 rfl rfl (k := 3) rfl (by first | exact Nat.zero_add _ | exact Nat.add_zero _ | exact rfl)) rfl ?_
           refine r_store ti26 rfl rfl rfl rfl (by simp; try omega) ?_
           refine wo_nil ?_
           refine to_block ?_
           refine to_round ?_
           rw [List.map_append, List.map_singleton, ← hfl]
           first
           | (rw [if_pos (by omega)] at hfo
              exact ent_step (fold_flb a121 c121 (fl.length + 1) (by simp) (by rfl) (by rfl) (by rfl) (by rfl) (by rfl) (by rw [fm_snoc, hfo]; rfl)) ent_pick)
           | (rw [if_neg (by omega), if_pos (by omega)] at hfo
              exact ent_step (fold_flb a121 c121 (fl.length + 1) (by simp) (by rfl) (by rfl) (by rfl) (by rfl) (by rfl) (by rw [fm_snoc, hfo]; rfl)) ent_pick)
           | (rw [if_neg (by omega), if_neg (by omega)] at hfo
              exact ent_step (fold_flb a121 c121 (fl.length + 1) (by simp) (by rfl) (by rfl) (by rfl) (by rfl) (by rfl) (by rw [fm_snoc, hfo]; rfl)) ent_pick)
          ·
           refine p_skip rfl ?_
           refine t_seq ?_
           refine p_exit 2 rfl ?_
           refine to_block_other rfl ?_
           refine t_seq_exit ?_
           refine to_block_other rfl ?_
           refine t_seq_exit ?_
           refine to_block_here ?_
           refine t_seq ?_
           refine p_region rfl ?_
           refine wo_pv (pv_fieldAddrk Tryz.underlying30 rfl ti26 rfl rfl (k := 3) rfl (by first | exact Nat.zero_add _ | exact Nat.add_zero _ | exact rfl)) rfl ?_
           refine r_load Tryz.underlying26 rfl rfl rfl rfl ?_
           refine r_loada (vs := [_, _]) Tryz.underlying25 rfl ti25 rfl (by exact Nat.le_of_ble_eq_true rfl) (by rfl) rfl ?_
           refine r_buildSliceL [_] (cs := [_, _]) Tryz.underlying26 ti25 rfl rfl rfl rfl rfl rfl rfl rfl (fun b120 => ?_)
           refine r_append1 (sz := 2) (bytes := 32) Tryz.underlying26 ti25 rfl rfl rfl rfl rfl rfl rfl (by rfl) (by rfl) (by omega) (by simp only [maxLen]; omega) rfl (fun a121 c121 => ?_)
           refine wo_pv (pv_fieldAddrk Tryz.underlying30 rfl ti26 rfl rfl (k := 3) rfl (by first | exact Nat.zero_add _ | exact Nat.add_zero _ | exact rfl)) rfl ?_
           refine r_store ti26 rfl rfl rfl rfl (by simp; try omega) ?_
           refine wo_nil ?_
           refine to_block ?_
           refine to_round ?_
           rw [List.map_append, List.map_singleton, ← hfl]
           first
           | (rw [if_pos (by omega)] at hfo
              exact ent_step (fold_flb a121 c121 (fl.length + 1) (by simp) (by rfl) (by rfl) (by rfl) (by rfl) (by rfl) (by rw [fm_snoc, hfo]; rfl)) ent_pick)
           | (rw [if_neg (by omega), if_pos (by omega)] at hfo
              exact ent_step (fold_flb a121 c121 (fl.length + 1) (by simp) (by rfl) (by rfl) (by rfl) (by rfl) (by rfl) (by rw [fm_snoc, hfo]; rfl)) ent_pick)
           | (rw [if_neg (by omega), if_neg (by omega)] at hfo
              exact ent_step (fold_flb a121 c121 (fl.length + 1) (by simp) (by rfl) (by rfl) (by rfl) (by rfl) (by rfl) (by rw [fm_snoc, hfo]; rfl)) ent_pick)
        ·
         skip
         refine to_block ?_
         refine t_seq ?_
         refine p_seq rfl ?_
         have hfiles : (ofL 70 qs 0).map (fun p => flOf p.2.args) = (prgC (cdsOf qs)).files := by
          show _ = (argsOf 70 (cdsOf qs)).map flOf
          rw [← ofL_argsOf 70 qs, List.map_map]; rfl
         rw [hfiles]
         refine wc_front (FlB b6 ((one1 (argsOf 66 (cdsOf qs))).getD []) ((prgText (cdsOf qs)).getD []) (((prgDay (cdsOf qs)).getD 0 : Nat) : Int) (.slice ta ts.length tc) ((one1 (argsOf 85 (cdsOf qs))).getD []) ((prgC (cdsOf qs)).files)) (wc_exi fun z => wc_al ?_)
         obtain ⟨za, zc⟩ := z
         dsimp only
         refine wc_know (A := CdM qs) HasC.get cdm_cap (fun hcap => ?_)
         obtain ⟨pa, pc, hone, hat⟩ := oneS_at 80 qs
         have hpcap := one_cap hat hcap
         refine wc_ent' (ent_one hat HasC.get) ?_
         refine p_region rfl ?_
         refine wo_pv (pv_move rfl) rfl ?_
         refine r_call1 (card_One_sp (B := Row 133 2 (.slice ca qs.length cc) qs.length (qs.flatMap CdV.cells)) (a := ca) qs.length cc qs 80 sla_row rfl (by omega)) rfl rfl rfl ?_
         rw [hone]
         refine wo_pv (pv_move rfl) rfl ?_
         refine wo_pv (pv_extract (v := .slice pa ((argsOf 80 (cdsOf qs)).headD []).length pc) rfl rfl) rfl ?_
         refine wo_pv (pv_extract rfl rfl) rfl ?_
         refine wo_pv (pv_fieldAddrk Tryz.underlying30 rfl ti27 rfl rfl (k := 4) rfl (by first | exact Nat.zero_add _ | exact Nat.add_zero _ | exact rfl)) rfl ?_
         refine r_store ti27 rfl rfl rfl rfl (by simp; try omega) ?_
         refine q_seq ?_
         refine p_seq rfl ?_
         refine p_seq rfl ?_
         refine p_region rfl ?_
         have hPr := checkin_Print_sp (Bf := Row 25 2 (.slice za ((prgC (cdsOf qs)).files).length zc) ((prgC (cdsOf qs)).files).length (((prgC (cdsOf qs)).files).flatMap flCells)) (Bt := Row 66 4 (.slice ta ts.length tc) ts.length (ts.flatMap tgCells)) ⟨za, zc, pa, pc, ta, tc⟩ (prgC (cdsOf qs)) (ckZ_prg hbz (by omega)) sla_row (by rw [show (prgC (cdsOf qs)).tags = ts from hx58.symm]; exact sla_row) hpcap
         rw [show (prgC (cdsOf qs)).parents = (argsOf 80 (cdsOf qs)).headD [] from rfl] at hPr
         have hcv : (Value.agg #[vS ((one1 (argsOf 66 (cdsOf qs))).getD []), vS ((prgText (cdsOf qs)).getD []), vI (((prgDay (cdsOf qs)).getD 0 : Nat) : Int), .slice za ((prgC (cdsOf qs)).files).length zc, .slice pa ((argsOf 80 (cdsOf qs)).headD []).length pc, .slice ta ts.length tc, vS ((one1 (argsOf 85 (cdsOf qs))).getD [])]) = .agg (ckVals ⟨za, zc, pa, pc, ta, tc⟩ (prgC (cdsOf qs))).toArray := by rw [hx58]; rfl
         rw [← hcv] at hPr
         refine r_loada (vs := [_, _, _, _, _, _, _]) Tryz.underlying30 rfl ti30 rfl (by exact Nat.le_of_ble_eq_true rfl) (by rfl) rfl ?_
         refine r_call1 hPr rfl rfl rfl ?_
         refine wo_pv (pv_move rfl) rfl ?_
         refine wo_pv (pv_sneq rfl rfl) rfl ?_
         refine q_seq ?_
         first | refine p_ite rfl rfl (fun h132 => ?_) (fun h132 => ?_) | refine p_cond rfl rfl (fun h132 => ?_) (fun h132 => ?_)
         ·
          refine p_seq rfl ?_
          refine p_region rfl ?_
          refine wo_pv (pv_buildS (vs := [vS [], vS [], .int .i64 0, .slice none 0 0, .slice none 0 0, .slice none 0 0, vS []]) Tryz.underlying30 ti30 rfl rfl rfl rfl rfl) rfl ?_
          refine r_storea ti30 rfl rfl rfl rfl (by simp; try omega) ?_
          refine wo_pv (pv_assign rfl) rfl ?_
          refine q_seq ?_
          refine p_ret rfl ?_
          refine t_seq_ret ?_
          have hn : readK s = none := hnone fun c h => by
           obtain ⟨_, _, _, _, _, _, o7⟩ := prgCk_some (reads_prg hrd h)
           have e : prK (prgC (cdsOf qs)) = s := by rw [← o7, prK, if_pos h.1]; exact h.2
           exact h132 e
          rw [hn]
          refine fin_ret (ka0, ck0) (vs := [_, _]) (Cs := [Ce b2 30 (ckVals ka0 ck0)]) rfl (.cell (l := ckVals ka0 ck0) (us := ckVals ka0 ck0) rfl (shows_ce (T := 30)) Tryz.underlying30 rfl ti30 (by exact Nat.le_of_ble_eq_true rfl) rfl (.tmp rfl .nil)) rfl ⟨rfl, Nat.le_refl _⟩ ?_
          exact ent_noCk.trans (show Ent _ [Row 25 2 (.slice none 0 0) 0 [], SlI none [], Row 66 4 (.slice none 0 0) 0 [], Ce b2 30 [vS [], vS [], vI 0, .slice none 0 0, .slice none 0 0, .slice none 0 0, vS []]] from ent_pick)
         ·
          refine p_skip rfl ?_
          refine t_seq ?_
          refine p_seq rfl ?_
          refine p_region rfl ?_
          refine r_loada (vs := [_, _, _, _, _, _, _]) Tryz.underlying30 rfl ti30 rfl (by exact Nat.le_of_ble_eq_true rfl) (by rfl) rfl ?_
          refine r_storea ti30 rfl rfl rfl rfl (by simp; try omega) ?_
          refine wo_pv (pv_assign rfl) rfl ?_
          refine q_seq ?_
          refine p_ret rfl ?_
          have he : prK (prgC (cdsOf qs)) = s := Classical.not_not.1 h132
          have hk : readK s = some (prgC (cdsOf qs)) := readK_iff.2 (by
           rw [prK] at he
           split at he
           · rename_i hR; exact ⟨hR, he⟩
           · have := (reads_len hrd).1
             rw [← he] at this; simp at this)
          rw [hk]
          refine fin_ret (⟨za, zc, pa, pc, ta, tc⟩, prgC (cdsOf qs)) (vs := [_, _]) (Cs := [Ce b2 30 [vS ((one1 (argsOf 66 (cdsOf qs))).getD []), vS ((prgText (cdsOf qs)).getD []), vI (((prgDay (cdsOf qs)).getD 0 : Nat) : Int), .slice za ((prgC (cdsOf qs)).files).length zc, .slice pa ((argsOf 80 (cdsOf qs)).headD []).length pc, .slice ta ts.length tc, vS ((one1 (argsOf 85 (cdsOf qs))).getD [])]]) rfl (.cell (l := [vS ((one1 (argsOf 66 (cdsOf qs))).getD []), vS ((prgText (cdsOf qs)).getD []), vI (((prgDay (cdsOf qs)).getD 0 : Nat) : Int), .slice za ((prgC (cdsOf qs)).files).length zc, .slice pa ((argsOf 80 (cdsOf qs)).headD []).length pc, .slice ta ts.length tc, vS ((one1 (argsOf 85 (cdsOf qs))).getD [])]) rfl (shows_ce (T := 30)) Tryz.underlying30 rfl ti30 (by exact Nat.le_of_ble_eq_true rfl) rfl (.tmp rfl .nil)) ?_ ⟨rfl, hpcap⟩ ?_
          · show Value.tuple #[_, _] = Value.tuple #[_, _]
            rw [← hcv]; rfl
          · show Ent _ [Row 25 2 (.slice za ((prgC (cdsOf qs)).files).length zc) ((prgC (cdsOf qs)).files).length (((prgC (cdsOf qs)).files).flatMap flCells), SlI pa (((argsOf 80 (cdsOf qs)).headD []).map vS), Row 66 4 (.slice ta ((readT (argsOf 84 (cdsOf qs))).getD []).length tc) ((readT (argsOf 84 (cdsOf qs))).getD []).length (((readT (argsOf 84 (cdsOf qs))).getD []).flatMap tgCells), _]
            rw [← hx58]
            exact ent_pick
        ·
         exact wc_no (fun s => by obtain ⟨_, _, _, _, a, _⟩ := s; exact a)
end Go.Proofs.YtibccdcemcgkeaaGreat
end
