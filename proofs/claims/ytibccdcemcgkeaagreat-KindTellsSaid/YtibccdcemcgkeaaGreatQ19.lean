/- Texts of this proof, put together: PCards, SR10c. -/
import Derived.Test.YtibccdcemcgkeaaGreatQ18
set_option linter.unusedVariables false
set_option linter.unusedSimpArgs false
namespace Go.Proofs.YtibccdcemcgkeaaGreat
def lineArgs (line : Bs) : List Bs := if 1 < line.length then splitB 32 (line.drop 2) else []
structure CardsI (s : Bs) (m : List Cd) (b : Nat) : Prop where
 body : bodyB m = s.take b
 ok : ∀ i, i < m.length → OkC m i
 up : ∀ l, ReadsC s l → ∃ l2, l = m ++ l2 ∧ bodyB l2 ++ ([90, 32] ++ shaB (s.take b ++ bodyB l2) ++ [10]) = s.drop b
theorem cardsI_0 (s : Bs) : CardsI s [] 0 := ⟨rfl, fun i h => by simp at h, fun l k => ⟨l, rfl, by
 have := k.2
 rw [printB, sealB] at this
 simpa using this⟩⟩
theorem sha_no10 (s : Bs) : (10 : UInt8) ∉ [90, 32] ++ shaB s := by
 intro h
 simp only [List.mem_append, List.mem_cons, List.not_mem_nil, or_false] at h
 rcases h with (h | h) | h
 · exact absurd h (by decide)
 · exact absurd h (by decide)
 · exact absurd (shaB_mem s _ h) (by decide)
theorem sha_no32 (s : Bs) : (32 : UInt8) ∉ shaB s := fun h => absurd (shaB_mem s _ h) (by decide)
theorem cards_line {s : Bs} {m : List Cd} {b : Nat} (I : CardsI s m b) {line rest : Bs} (hn : (10 : UInt8) ∉ line) (hl : s.drop b = line ++ 10 :: rest) {l : List Cd} (k : ReadsC s l) :
    (∃ c l3, l = m ++ c :: l3 ∧ line = lineB c) ∨ (l = m ∧ line = [90, 32] ++ shaB (s.take b) ∧ rest = []) := by
 obtain ⟨l2, e1, e2⟩ := I.up l k
 rw [hl] at e2
 cases l2 with
 | nil =>
   right
   rw [show bodyB [] = [] from rfl, List.nil_append, List.append_nil] at e2
   have e3 : ([90, 32] ++ shaB (s.take b)) ++ 10 :: [] = line ++ 10 :: rest := by simpa using e2
   obtain ⟨q1, q2⟩ := cut_uniq (sha_no10 _) hn e3
   exact ⟨by rw [e1, List.append_nil], q1.symm, q2.symm⟩
 | cons c l3 =>
   left
   have hb := k.1.both c (by rw [e1]; simp)
   rw [bodyB_cons, List.append_assoc, List.cons_append] at e2
   obtain ⟨q1, q2⟩ := cut_uniq (lineB_no10 hb.1 hb.2) hn e2
   exact ⟨c, l3, e1, q1.symm⟩
theorem lineArgs_line {c : Cd} (h : ∀ a ∈ c.args, argOk a) : lineArgs (lineB c) = c.args := by
 unfold lineArgs lineB
 cases e : c.args with
 | nil => simp [argsB]
 | cons a r =>
   rw [argsB_cons, if_pos (by simp)]
   show splitB 32 (a ++ argsB r) = _
   rw [e] at h
   exact splitB_args (h a (by simp)).2.1 fun x hx => (h x (by simp [hx])).2.1
theorem line_args {line : Bs} (h0 : 1 ≤ line.length) (h1 : 1 < line.length → line.getD 1 0 = 32) : lineB ⟨line.getD 0 0, lineArgs line⟩ = line := by
 match line, h0, h1 with
 | [c], _, _ => simp [lineB, lineArgs, argsB]
 | c :: d :: r, _, h1 =>
   have hd : d = 32 := by simpa using h1 (by simp)
   subst hd
   have e : lineArgs (c :: 32 :: r) = splitB 32 r := by simp [lineArgs]
   rw [lineB, e, splitB_join]; rfl
theorem lineArgs_sha (s : Bs) : lineArgs ([90, 32] ++ shaB s) = [shaB s] := by
 unfold lineArgs
 rw [if_pos (by simp)]
 exact splitB_one (sha_no32 s)
theorem cards_must {s : Bs} {m : List Cd} {b : Nat} (I : CardsI s m b) {line rest : Bs} (hn : (10 : UInt8) ∉ line) (hl : s.drop b = line ++ 10 :: rest) {l : List Cd} (k : ReadsC s l) :
    (1 ≤ line.length ∧ 65 ≤ (line.getD 0 0).toNat ∧ (line.getD 0 0).toNat ≤ 90 ∧ (1 < line.length → line.getD 1 0 = 32)) ∧ (∀ a ∈ lineArgs line, a ≠ []) ∧
    ((line.getD 0 0).toNat = 90 → rest = [] ∧ lineArgs line = [shaB (s.take b)] ∧ m.length ≠ 0) ∧ ((line.getD 0 0).toNat ≠ 90 → 0 < m.length → (m.getD (m.length - 1) cd0).l.toNat ≤ (line.getD 0 0).toNat) := by
 rcases cards_line I hn hl k with ⟨c, l3, e1, e2⟩ | ⟨e1, e2, e3⟩
 · have hc : c ∈ l := by rw [e1]; simp
   have hlet := k.1.lets c hc
   have harg := k.1.args c hc
   subst e2
   have h0 : (lineB c).getD 0 0 = c.l := rfl
   rw [h0, lineArgs_line harg]
   refine ⟨⟨by simp [lineB], hlet.1, by omega, fun h => ?_⟩, fun a ha => (harg a ha).1, fun h => by omega, fun _ hm => ?_⟩
   · unfold lineB
     cases e : c.args with
     | nil => simp [lineB, e, argsB] at h
     | cons a r => rw [argsB_cons]; rfl
   · have hp := k.1.rise
     rw [e1, List.pairwise_append] at hp
     have hlast : m.getD (m.length - 1) cd0 ∈ m := by simp [show m.length - 1 < m.length by omega]
     exact hp.2.2 _ hlast c (by simp)
 · subst e2
   rw [lineArgs_sha]
   have h0 : ([90, 32] ++ shaB (s.take b)).getD 0 0 = 90 := rfl
   rw [h0]
   refine ⟨⟨by simp, by decide, by decide, fun _ => rfl⟩, fun a ha => ?_, fun _ => ⟨e3, rfl, fun e => k.1.ne (by rw [e1]; exact List.eq_nil_of_length_eq_zero e)⟩, fun h => absurd rfl h⟩
   rw [List.mem_singleton.1 ha]
   intro e
   have := congrArg List.length e
   rw [shaB_len] at this; simp at this
theorem cards_step {s : Bs} {m : List Cd} {b a : Nat} (I : CardsI s m b) (hba : b ≤ a) (ha : a < s.length) (hn : (10 : UInt8) ∉ (s.drop b).take (a - b)) (h10 : s.getD a 0 = 10) {line : Bs} (hline : line = (s.drop b).take (a - b))
    (h1 : 1 ≤ line.length) (h2 : 65 ≤ (line.getD 0 0).toNat) (h3 : (line.getD 0 0).toNat ≤ 89) (h4 : 1 < line.length → line.getD 1 0 = 32) (h5 : ∀ x ∈ lineArgs line, x ≠ []) (h6 : 0 < m.length → (m.getD (m.length - 1) cd0).l.toNat ≤ (line.getD 0 0).toNat) :
    CardsI s (m ++ [⟨line.getD 0 0, lineArgs line⟩]) (a + 1) := by
 have hd := drop_at hba ha
 rw [h10, ← hline] at hd
 rw [← hline] at hn
 have hl := line_args h1 h4
 have hargs : ∀ x ∈ lineArgs line, argOk x := by
  intro x hx
  refine ⟨h5 x hx, ?_, ?_⟩
  · unfold lineArgs at hx
    split at hx
    · exact splitB_mem x hx
    · cases hx
  · intro hm
    apply hn
    rw [← hl]
    unfold lineB
    refine List.mem_cons_of_mem _ ?_
    show _ ∈ argsB (lineArgs line)
    exact List.mem_flatMap.2 ⟨x, hx, List.mem_cons_of_mem _ hm⟩
 refine ⟨?_, fun i hi => ?_, fun l k => ?_⟩
 · have e1 : bodyB [⟨line.getD 0 0, lineArgs line⟩] = line ++ [10] := by rw [bodyB_cons, hl]; rfl
   rw [bodyB_app, I.body, e1]
   have h7 : s.take (a + 1) = s.take b ++ (s.drop b).take (a + 1 - b) := by
    rw [← List.take_append_drop b (s.take (a + 1)), List.take_take, Nat.min_eq_left (by omega), List.drop_take]
   rw [h7]
   congr 1
   rw [hd]
   have hll : line.length = a - b := by rw [hline, List.length_take, List.length_drop]; omega
   rw [show a + 1 - b = line.length + 1 from by omega, List.take_length_add_append]
   rfl
 · rw [List.length_append, List.length_singleton] at hi
   by_cases he : i = m.length
   · subst he
     have e0 : (m ++ [(⟨line.getD 0 0, lineArgs line⟩ : Cd)]).getD m.length cd0 = ⟨line.getD 0 0, lineArgs line⟩ := by simp
     refine ⟨by rw [e0]; exact h2, by rw [e0]; exact h3, fun h0 => ?_, fun x hx => ?_⟩
     · have e3 : (m ++ [(⟨line.getD 0 0, lineArgs line⟩ : Cd)]).getD (m.length - 1) cd0 = m.getD (m.length - 1) cd0 := by
         rw [List.getD_eq_getElem?_getD, List.getElem?_append_left (by omega), ← List.getD_eq_getElem?_getD]
       rw [e0, e3]
       exact h6 h0
     · rw [e0] at hx; exact hargs x hx
   · have hlt : i < m.length := by omega
     have o := I.ok i hlt
     have e3 : ∀ j, j < m.length → (m ++ [(⟨line.getD 0 0, lineArgs line⟩ : Cd)]).getD j cd0 = m.getD j cd0 := fun j hj => by
      rw [List.getD_eq_getElem?_getD, List.getElem?_append_left hj, ← List.getD_eq_getElem?_getD]
     exact ⟨by rw [e3 i hlt]; exact o.lo, by rw [e3 i hlt]; exact o.hi, fun h0 => by rw [e3 i hlt, e3 (i - 1) (by omega)]; exact o.rise h0, by rw [e3 i hlt]; exact o.args⟩
 · rcases cards_line I hn hd k with ⟨c, l3, e1, e2⟩ | ⟨e1, e2, e3⟩
   · have hc : c ∈ l := by rw [e1]; simp
     have hb := k.1.both c hc
     have hcc : (⟨line.getD 0 0, lineArgs line⟩ : Cd) = c := lineB_inj h2 hargs hb.1 hb.2 (by rw [hl, e2])
     refine ⟨l3, by rw [hcc, e1]; simp, ?_⟩
     obtain ⟨l2, f1, f2⟩ := I.up l k
     have e4 : l2 = c :: l3 := by rw [e1] at f1; exact (List.append_cancel_left f1).symm
     subst e4
     rw [bodyB_cons, hd, ← e2, List.append_assoc, List.cons_append] at f2
     have f3 := (List.append_cancel_left f2)
     have f4 : bodyB l3 ++ ([90, 32] ++ shaB (s.take b ++ (line ++ 10 :: bodyB l3)) ++ [10]) = s.drop (a + 1) := by simpa using f3
     rw [← f4]
     have h7 : s.take (a + 1) = s.take b ++ (line ++ [10]) := by
      have h8 : s.take (a + 1) = s.take b ++ (s.drop b).take (a + 1 - b) := by
       rw [← List.take_append_drop b (s.take (a + 1)), List.take_take, Nat.min_eq_left (by omega), List.drop_take]
      rw [h8]
      congr 1
      rw [hd]
      have hll : line.length = a - b := by rw [hline, List.length_take, List.length_drop]; omega
      rw [show a + 1 - b = line.length + 1 from by omega, List.take_length_add_append]
      rfl
     rw [h7]; simp
   · have h0 : ([90, 32] ++ shaB (s.take b)).getD 0 0 = 90 := rfl
     rw [e2, h0] at h3
     exact absurd h3 (by decide)
theorem cards_done {s : Bs} {m : List Cd} {b a : Nat} (I : CardsI s m b) (hba : b ≤ a) (ha : a < s.length) (hn : (10 : UInt8) ∉ (s.drop b).take (a - b)) (h10 : s.getD a 0 = 10) {line : Bs} (hline : line = (s.drop b).take (a - b))
    (h1 : 1 ≤ line.length) (h2 : (line.getD 0 0).toNat = 90) (h4 : 1 < line.length → line.getD 1 0 = 32) (h5 : a + 1 = s.length) (h6 : lineArgs line = [shaB (s.take b)]) (h7 : m.length ≠ 0) : ReadsC s m := by
 have hd := drop_at hba ha
 rw [h10, ← hline, h5, List.drop_length] at hd
 have hl := line_args h1 h4
 refine ⟨⟨fun e => h7 (by rw [e]; rfl), I.ok⟩, ?_⟩
 have h0 : line.getD 0 0 = 90 := u8eq.2 h2
 rw [printB, I.body, sealB]
 conv => rhs; rw [← List.take_append_drop b s, hd, ← hl, h6, h0]
 simp [lineB, argsB]
theorem cards_none {s : Bs} {m : List Cd} {b : Nat} (I : CardsI s m b) (hn : (10 : UInt8) ∉ s.drop b) : ∀ l, ¬ ReadsC s l := fun l k => by
 obtain ⟨l2, e1, e2⟩ := I.up l k
 exact hn (by rw [← e2]; simp)
section
set_option maxRecDepth 100000
abbrev rcardH (x : (Option Addr × Nat) × List CdV) : List HP := [Row 109 2 (.slice x.1.1 x.2.length x.1.2) x.2.length (x.2.flatMap CdV.cells), CdM x.2]
theorem ent_norcards {Hs : List HP} : Ent Hs (rcardH ((none, 0), [])) := (row_nil (e := 109) (sz := 2)).trans (ent_cdm_nil.trans (show Ent _ [Row 109 2 (.slice none 0 0) 0 [], CdM []] from ent_pick))
theorem cards_fail {s : Bs} (h : ∀ l, ReadsC s l → False) : readC s = none := readC_none.2 h
theorem zb60next0 {G : Prop} (h : G := by
    first
    | (have hn10' : s.getD a 0 ≠ 10 := fun e => by rw [e] at h18; simp at h18
       refine to_inv ⟨((oa, oc), qs, b, a + 1), ?_, ?_, ?_, hI⟩ ?_ ⟨rfl, rfl, rfl, rfl, trivial⟩ ent_pick
       · dsimp only; omega
       · dsimp only; omega
       · dsimp only; exact not_mem_take_succ hba hal (by rw [← hline]; exact hn10) hn10'
       · dsimp only; omega)
    | (obtain ⟨q, hqq⟩ : ∃ q : CdV, q = ⟨line.getD 0 0, ga, gc, xs⟩ := ⟨_, rfl⟩
       have hqc : q.cd = ⟨line.getD 0 0, lineArgs line⟩ := by rw [hqq, ← hxs]; rfl
       have hql : (qs ++ [q]).length = qs.length + 1 := by simp
       have hst := cards_step hI hba hal (by rw [← hline]; exact hn10) h10 hline hc1 hc2 (by omega) hc4 hxa (fun h => by
        rw [hll] at h
        first
        | omega
        | (rw [hlast]; omega))
       refine to_inv ⟨((a117, c117), qs ++ [q], a + 1, a + 1), Nat.le_refl _, ?_, ?_, ?_⟩ ?_ ⟨rfl, sl_eq hql.symm, rfl, rfl, trivial⟩ ?_
       · dsimp only; omega
       · simp
       · dsimp only; rw [cds_snoc, hqc]; exact hst
       · dsimp only; omega
       · dsimp only
         rw [hql]
         refine (ent_cdm_snoc (qs := qs) (q := q) HasC.get (by rw [hqq]; exact HasC.get) (by rw [hqq]; exact hxc)).trans ?_
         exact ent_step (row_norm (by rfl) (by rw [fm_snoc, hqq]; rfl)) ent_pick)) : G := h
theorem zb60ret8 {G : Prop} (h : G := by
    have hn : readC s = none := cards_fail fun l k => by
     obtain ⟨⟨m1, m2, m3, m4⟩, _⟩ := hmust l k
     first
     | omega
     | (have m5 := m4 (by omega); rw [m5] at h47; exact absurd h47 (by simp))
    rw [hn]
    exact fin_ret ((none, 0), []) (vs := [_, _]) (Cs := []) rfl (.tmp rfl (.tmp rfl .nil)) rfl rfl ent_norcards) : G := h
theorem zb60ret16 {G : Prop} (h : G := by
    have hn : readC s = none := cards_fail fun l k => by
     have hm2 := (hmust l k).2.1 (xs.getD m []) (by rw [← hxs]; simp [show m < xs.length by omega])
     exact hm2 h66
    rw [hn]
    exact fin_ret ((none, 0), []) (vs := [_, _]) (Cs := []) rfl (.tmp rfl (.tmp rfl .nil)) rfl rfl ent_norcards) : G := h
theorem zb60next1 {G : Prop} (h : G := by
    refine to_inv ⟨m + 1, by omega, fun i hi => ?_⟩ (by dsimp only; omega) ⟨rfl, rfl, rfl, rfl, rfl, rfl, rfl, rfl, trivial⟩ ent_pick
    by_cases he : i = m
    · rw [he]; exact h66
    · exact hma i (by omega)) : G := h
theorem zb60ret20 {G : Prop} (h : G := by
    have hn : readC s = none := cards_fail fun l k => by
     obtain ⟨o1, o2, o3⟩ := (hmust l k).2.2.1 (by omega)
     rw [← hxs] at o2
     have o4 : a + 1 = s.length := by
      have := congrArg List.length hdp
      rw [o1, List.length_append, List.length_drop] at this
      simp at this; omega
     have o5 : xs.length = 1 := by rw [o2]; rfl
     have o6 : xs.getD 0 [] = shaB (s.take b) := by rw [o2]; rfl
     rw [hll] at o3
     first
     | omega
     | exact absurd o6 h93
     | exact absurd o6 (by simpa using h93)
    rw [hn]
    exact fin_ret ((none, 0), []) (vs := [_, _]) (Cs := []) rfl (.tmp rfl (.tmp rfl .nil)) rfl rfl ent_norcards) : G := h
theorem zb60ret21 {G : Prop} (h : G := by
    have o2 : lineArgs line = [shaB (s.take b)] := by
     rw [← hxs]
     have h1 : xs.length = 1 := by omega
     obtain ⟨x, hx⟩ : ∃ x, xs = [x] := List.length_eq_one_iff.1 h1
     have h2 : xs.getD 0 [] = shaB (s.take b) := Classical.not_not.1 h93
     rw [hx] at h2 ⊢
     rw [← h2]; rfl
    have hr : readC s = some (cdsOf qs) := readC_iff.2 (cards_done hI hba hal (by rw [← hline]; exact hn10) h10 hline hc1 (by omega) hc4 (by omega) o2 (by rw [hll]; omega))
    rw [hr]
    exact fin_ret ((oa, oc), qs) (vs := [_, _]) (Cs := []) rfl (.tmp rfl (.tmp rfl .nil)) rfl rfl ent_pick) : G := h
theorem zb60ret23 {G : Prop} (h : G := by
    have hn : readC s = none := cards_fail fun l k => by
     have o4 := (hmust l k).2.2.2 (by omega) (by rw [hll]; omega)
     rw [hlast] at o4
     omega
    rw [hn]
    exact fin_ret ((none, 0), []) (vs := [_, _]) (Cs := []) rfl (.tmp rfl (.tmp rfl .nil)) rfl rfl ent_norcards) : G := h
theorem zb60join12 {G : Prop} (h : G := by
    first
    | (have hla : lineArgs line = splitB 32 (line.drop 2) := by rw [lineArgs, if_pos (by omega)]
       exact to_inv ⟨((wa, wc), splitB 32 (line.drop 2)), hla.symm, hk56.1⟩ trivial ⟨rfl, rfl, rfl, rfl, rfl, trivial⟩ ent_pick)
    | (have hla : lineArgs line = [] := by rw [lineArgs, if_neg (by omega)]
       exact to_inv ⟨((none, 0), []), hla.symm, Nat.le_refl _⟩ trivial ⟨rfl, rfl, rfl, rfl, rfl, trivial⟩ (sli_nil.trans (show Ent _ [SlI none [], Ce b8 109 [vU ((line.getD 0 0).toNat : Int), .slice none 0 0], Row 109 2 (.slice oa qs.length oc) qs.length (qs.flatMap CdV.cells), CdM qs] from ent_pick)))) : G := h
set_option maxHeartbeats 4000000 in
theorem ref10_Cards_sp (s : Bs) (hs : s.length ≤ 1073741824) : Sp Tryz.prog 60 [vS s] [] (X := (Option Addr × Nat) × List CdV) (fun x => .tuple #[cardV x, vB (readC s).isSome]) (fun x => cdsOf x.2 = (readC s).getD []) rcardH := by
 refine Sp.body (n := 121) Tryz.call60 Tryz.func60 rfl rfl rfl ?_
 refine Qc (k:=Qv (k:=Wq (Qc (k:=Vv (k:=Wq (Qc (k:=Vv (k:=?_))))))))
 refine Vv (k:=Wq (Za (k:=Zb (k:=?_))))
 refine p_loop (fun (i : { x : (Option Addr × Nat) × List CdV × Nat × Nat // x.2.2.1 ≤ x.2.2.2 ∧ x.2.2.2 ≤ s.length ∧ (10 : UInt8) ∉ (s.drop x.2.2.1).take (x.2.2.2 - x.2.2.1) ∧ CardsI s (cdsOf x.2.1) x.2.2.1 }) => [(0, vS s), (4, .slice i.1.1.1 i.1.2.1.length i.1.1.2), (5, vI i.1.2.2.2), (6, vI i.1.2.2.1)]) (fun (i : { x : (Option Addr × Nat) × List CdV × Nat × Nat // x.2.2.1 ≤ x.2.2.2 ∧ x.2.2.2 ≤ s.length ∧ (10 : UInt8) ∉ (s.drop x.2.2.1).take (x.2.2.2 - x.2.2.1) ∧ CardsI s (cdsOf x.2.1) x.2.2.1 }) => [Row 109 2 (.slice i.1.1.1 i.1.2.1.length i.1.1.2) i.1.2.1.length (i.1.2.1.flatMap CdV.cells), CdM i.1.2.1]) (fun (i : { x : (Option Addr × Nat) × List CdV × Nat × Nat // x.2.2.1 ≤ x.2.2.2 ∧ x.2.2.2 ≤ s.length ∧ (10 : UInt8) ∉ (s.drop x.2.2.1).take (x.2.2.2 - x.2.2.1) ∧ CardsI s (cdsOf x.2.1) x.2.2.1 }) => s.length - i.1.2.2.2) rfl (⟨((none, 0), [], 0, 0), Nat.le_refl _, Nat.zero_le _, by simp, cardsI_0 s⟩) ?_ ?_ (fun i => ?_)
 · exact ⟨rfl, rfl, rfl, rfl, trivial⟩
 ·
  exact ent_norcards
 obtain ⟨⟨⟨oa, oc⟩, qs, b, a⟩, hba, has, hn10, hI⟩ := i
 dsimp only at hba has hn10 hI ⊢
 have hll : (cdsOf qs).length = qs.length := by simp [cdsOf]
 have hqb : qs.length ≤ s.length := by
  have h1 := (bodyB_ge (cdsOf qs)).1
  rw [hI.body, List.length_take] at h1; omega
 try dsimp only
 refine Za (k:=Qc (k:=Qv (k:=Qv (k:=Wq (Zi (t:=fun h14 => ?_) (f:=fun h14 => ?_))))))
 ·
  refine Zk (k:=Ya (Zb (k:=Za (k:=Za (k:=?_)))))
  have hal : a < s.length := by omega
  obtain ⟨line, hline⟩ : ∃ line, line = (s.drop b).take (a - b) := ⟨_, rfl⟩
  have hlen : line.length = a - b := by rw [hline, List.length_take, List.length_drop]; omega
  have hdp := drop_at hba hal
  rw [← hline] at hdp hn10
  refine Zr (k:=Qv (k:=Qv (k:=Wq (Zi (t:=fun h18 => ?_) (f:=fun h18 => ?_)))))
  ·
   refine Qc (k:=Qv (k:=Vv (k:=Wq (Ze (k:=Xa (Xb ?_))))))
   exact zb60next0
  ·
   refine Zk (k:=Ya (Za (k:=?_)))
   have h10 : s.getD a 0 = 10 := u8eq.2 (show _ = 10 by omega)
   rw [h10] at hdp
   have hmust := fun l (k : ReadsC s l) => cards_must hI hn10 hdp k
   refine Zr (k:=Qv (k:=Vv (k:=?_)))
   refine wo_pv (pv_slice_inm (m := b) (o := a) Tryz.underlying9 rfl rfl rfl rfl rfl hba (by omega)) rfl ?_
   rw [← hline]
   refine Vv (k:=Wq (Za (k:=Qc (k:=Qv (k:=Qv (k:=Gi 3 (t:=fun h28 => ?_) (f:=fun h28 => ?_)))))))
   ·
    refine O1 (k:=O1 (k:=O1 (k:=P1 (k:=Vv (k:=O1 (k:=O1 (k:=O1 (k:=P1 (k:=Vv (k:=O1 (k:=O1 (k:=?_))))))))))))
    refine O1 (k:=O1 (k:=Ou (k:=Ou (k:=Ou (k:=O1 (k:=P1 (k:=Wq (Z1 (k:=Qc (k:=Vv (k:=?_)))))))))))
    refine Vv (k:=Wq (Zt (k:=Va (Vb (Vi (Vb (Va ?_)))))))
    exact zb60ret8
   ·
    refine J0 (k:=I0 (k:=?_))
    refine wo_pv (pv_indexm (m := 0) Tryz.underlying9 rfl rfl rfl (by omega)) rfl ?_
    refine J0 (k:=P0 (k:=Vv (k:=Gi 8 (t:=fun h33 => ?_) (f:=fun h33 => ?_))))
    ·
     refine O1 (k:=O1 (k:=O1 (k:=P1 (k:=Vv (k:=O1 (k:=O1 (k:=O1 (k:=O1 (k:=Ou (k:=Ou (k:=Ou (k:=?_))))))))))))
     refine O1 (k:=P1 (k:=Wq (Z1 (k:=Qc (k:=Qv (k:=Wq (Zt (k:=Va (Vb ?_)))))))))
     refine Vi (Vb (Va ?_))
     exact zb60ret8
    ·
     refine J0 (k:=I0 (k:=?_))
     refine wo_pv (pv_indexm (m := 0) Tryz.underlying9 rfl rfl rfl (by omega)) rfl ?_
     refine J0 (k:=P0 (k:=Vv (k:=Gi 13 (t:=fun h38 => ?_) (f:=fun h38 => ?_))))
     ·
      refine O1 (k:=O1 (k:=O1 (k:=O1 (k:=Ou (k:=Ou (k:=Ou (k:=O1 (k:=P1 (k:=Wq (Z1 (k:=Za (k:=?_))))))))))))
      refine Zr (k:=Qv (k:=Wq (Zt (k:=Va (Vb (Vi (Vb (Va ?_))))))))
      exact zb60ret8
     ·
      refine J0 (k:=J0 (k:=J0 (k:=J0 (k:=Gi 17 (t:=fun h42 => ?_) (f:=fun h42 => ?_)))))
      ·
       refine J1 (k:=I1 (k:=?_))
       refine wo_pv (pv_indexm (m := 1) Tryz.underlying9 rfl rfl rfl (by omega)) rfl ?_
       refine J1 (k:=I0 (k:=P1 (k:=P0 (k:=Wq (Zi (t:=fun h47 => ?_) (f:=fun h47 => ?_))))))
       ·
        refine Qc (k:=Qv (k:=Wq (Zt (k:=Va (Vb (Vi (Vb (Va ?_))))))))
        exact zb60ret8
       ·
        refine Zk (k:=Ya (Za (k:=?_)))
        have hc1 : 1 ≤ line.length := by omega
        have hc2 : 65 ≤ (line.getD 0 0).toNat := by omega
        have hc3 : (line.getD 0 0).toNat ≤ 90 := by omega
        have hc4 : 1 < line.length → line.getD 1 0 = 32 := fun h => by
         first
         | (exfalso; omega)
         | exact u8eq.2 (show _ = 32 by omega)
        refine Zr (k:=Vv (k:=?_))
        refine wo_pv (pv_indexm (m := 0) Tryz.underlying9 rfl rfl rfl (by omega)) rfl ?_
        refine Vx (Ps [_, .slice none 0 0]) (k:=Zc [.int .u8 0, .slice none 0 0] (k:=fun b8 => Zp (k:=Wq ?_)))
        refine p_cut (fun (i : { x : (Option Addr × Nat) × List Bs // x.2 = lineArgs line ∧ x.2.length ≤ x.1.2 }) => [(0, vS s), (4, .slice oa qs.length oc), (5, vI a), (6, vI b), (8, .pointer (some ⟨b8, 0, none⟩))]) (fun (i : { x : (Option Addr × Nat) × List Bs // x.2 = lineArgs line ∧ x.2.length ≤ x.1.2 }) => [SlI i.1.1.1 (i.1.2.map vS), Ce b8 109 [vU ((line.getD 0 0).toNat : Int), .slice i.1.1.1 i.1.2.length i.1.1.2], Row 109 2 (.slice oa qs.length oc) qs.length (qs.flatMap CdV.cells), CdM qs]) rfl (fun i => ?_) ?_
        ·
         obtain ⟨⟨⟨ga, gc⟩, xs⟩, hxs, hxc⟩ := i
         dsimp only at hxs hxc ⊢
         have hxl : xs.length ≤ 1073741824 := by
          have h1 := splitB_len 32 (line.drop 2)
          rw [hxs, lineArgs]
          split
          · rw [List.length_drop] at h1; omega
          · simp
         try dsimp only
         refine Za (k:=Qc (k:=Qx 1 27 (k:=Qv (k:=Wq (Zb (k:=?_))))))
         refine p_loop (fun (i : { m : Nat // m ≤ xs.length ∧ ∀ i, i < m → xs.getD i [] ≠ [] }) => [(0, vS s), (4, .slice oa qs.length oc), (5, vI a), (6, vI b), (8, .pointer (some ⟨b8, 0, none⟩)), (59, .slice ga xs.length gc), (60, vI xs.length), (61, vI i.1)]) (fun (i : { m : Nat // m ≤ xs.length ∧ ∀ i, i < m → xs.getD i [] ≠ [] }) => [SlI ga (xs.map vS), Ce b8 109 [vU ((line.getD 0 0).toNat : Int), .slice ga xs.length gc], Row 109 2 (.slice oa qs.length oc) qs.length (qs.flatMap CdV.cells), CdM qs]) (fun (i : { m : Nat // m ≤ xs.length ∧ ∀ i, i < m → xs.getD i [] ≠ [] }) => xs.length - i.1) rfl (⟨0, Nat.zero_le _, fun i h => by omega⟩) ?_ ?_ (fun i => ?_)
         · exact ⟨rfl, rfl, rfl, rfl, rfl, rfl, rfl, rfl, trivial⟩
         ·
          exact ent_pick
         obtain ⟨m, hm, hma⟩ := i
         dsimp only
         try dsimp only
         refine Qc (k:=Vv (k:=Wq (Za (k:=Zi (t:=fun h62 => ?_) (f:=fun h62 => ?_)))))
         ·
          refine Zk (k:=Ya (Za (k:=Zb (k:=Qc (k:=Ye 1 (k:=Yl (hv:=by exact get_mapD [] (m := m) (by omega)) (k:=Vv (k:=Wq (Qc (k:=?_))))))))))
          refine Qv (k:=Wq (Zi (t:=fun h66 => ?_) (f:=fun h66 => ?_)))
          ·
           refine Qc (k:=Qv (k:=Wq (Zt (k:=Vb (Va (Vi (Vb (Va (Vb ?_)))))))))
           refine Vi (Vb (Va ?_))
           exact zb60ret16
          ·
           refine Zk (k:=Yb (Ya (Zr (k:=Qv (k:=Wn ?_)))))
           exact zb60next1
         ·
          refine Ze (k:=Xa (Xi (Xb (Ya (Za (k:=Za (k:=?_)))))))
          have hxa : ∀ x ∈ lineArgs line, x ≠ [] := by
           rw [← hxs]
           intro x hx
           obtain ⟨i, hi, rfl⟩ := mem_getD (d := []) hx
           exact hma i (by omega)
          refine Zr (k:=Qx 0 5 (k:=Vv (k:=Wq (Zi (t:=fun h70 => ?_) (f:=fun h70 => ?_)))))
          ·
           refine Za (k:=Za (k:=Dw [Ce b8 109 [vU ((line.getD 0 0).toNat : Int), .slice ga xs.length gc], SlI ga (xs.map vS)] (k:=?_)))
           refine Dv 0 (k:=Dv 1 (k:=Dv 2 (k:=Dv 3 (k:=Dv 4 (k:=Dv 5 (k:=Gd 5 (t:=fun h76 => ?_) (f:=fun h76 => ?_)))))))
           ·
            refine D1 6 (k:=D1 7 (k:=D1 8 (k:=D1 9 (k:=DP1 10 (k:=Dv 11 (k:=D1 12 (k:=D1 13 (k:=D1 14 (k:=D1 15 (k:=D1 16 (k:=D1 17 (k:=?_))))))))))))
            refine D1 18 (k:=D1 19 (k:=D1 20 (k:=DP1 21 (k:=Dv 22 (k:=D1 23 (k:=D1 24 (k:=D1 25 (k:=DP1 26 (k:=Dd (k:=Ya (Z1 (k:=?_))))))))))))
            refine Qc (k:=Qv (k:=Wq (Zt (k:=Va (Va (Vb (Vi (Vb (Va ?_)))))))))
            exact zb60ret20
           ·
            refine Di 6 (t:=U0 (h:=Uf 1 27)) (k:=Di 7 (t:=U0 (h:=Ul)) (k:=Di 8 (t:=U0 (h:=Uv)) (k:=Di 9 (t:=U0 (h:=Uv)) (k:=DP0 10 (k:=Dv 11 (k:=Gd 11 (t:=fun h82 => ?_) (f:=fun h82 => ?_)))))))
            ·
             refine D1 12 (k:=D1 13 (k:=D1 14 (k:=D1 15 (k:=D1 16 (k:=D1 17 (k:=D1 18 (k:=D1 19 (k:=D1 20 (k:=DP1 21 (k:=Dv 22 (k:=D1 23 (k:=?_))))))))))))
             refine D1 24 (k:=D1 25 (k:=DP1 26 (k:=Dd (k:=Ya (Z1 (k:=Qc (k:=Qv (k:=Wq (Zt (k:=?_))))))))))
             refine Va (Va (Vb (Vi (Vb (Va ?_)))))
             exact zb60ret20
            ·
             refine Di 12 (t:=U0 (h:=Uf 1 27)) (k:=Di 13 (t:=U0 (h:=Ul)) (k:=?_))
             refine d_first 14 rfl rfl rfl (by kernel_rfl) (by kernel_rfl) (tl_in (b := false) rfl (tl_elemAddr (m := 0) (sz := 1) Tryz.underlying27 ti9 rfl rfl rfl rfl (by omega) (by first | (rw [List.length_map]; omega) | (rw [flat_len (sz := 1) (fun _ => rfl)]; omega) | (simp; omega)) (Nat.mul_one _))) ?_
             refine d_first 15 rfl rfl rfl (by kernel_rfl) (by kernel_rfl) (tl_in (b := false) rfl (tl_eload Tryz.underlying9 rfl rfl (get_mapD [] (m := 0) (by omega)))) ?_
             refine Di 16 (t:=U0 (h:=Uv)) (k:=Di 17 (t:=U0 (h:=Uv)) (k:=?_))
             refine d_first 18 rfl rfl rfl (by kernel_rfl) (by kernel_rfl) (tl_in (b := false) rfl (tl_pv (pv_slice_tom (m := b) Tryz.underlying9 rfl rfl rfl (by omega)))) ?_
             refine Dn 19 (k:=?_)
             refine an_in (b := false) rfl ?_
             refine an_callF (ref1_Sum_sp (s.take b) (by rw [List.length_take]; omega)) rfl rfl rfl ?_
             refine Di 20 (t:=U0 (h:=Uv)) (k:=DP0 21 (k:=Dv 22 (k:=Gd 22 (t:=fun h93 => ?_) (f:=fun h93 => ?_))))
             ·
              refine D1 23 (k:=D1 24 (k:=D1 25 (k:=DP1 26 (k:=Dd (k:=Ya (Z1 (k:=Qc (k:=Qv (k:=Wq ?_)))))))))
              refine Zt (k:=Va (Va (Vb (Vi (Vb (Va ?_))))))
              exact zb60ret20
             ·
              refine Di 23 (t:=U0 (h:=Uv)) (k:=Di 24 (t:=U0 (h:=Uv)) (k:=Di 25 (t:=U0 (h:=Uv)) (k:=DP0 26 (k:=Dd (k:=Ya (Zi (t:=fun h97 => ?_) (f:=fun h97 => ?_)))))))
              ·
               refine Qc (k:=Qv (k:=Wq (Zt (k:=Va (Va (Vb (Vi (Vb (Va ?_)))))))))
               exact zb60ret20
              ·
               refine Zk (k:=Ya (Qc (k:=Qv (k:=Vv (k:=Wq (Zt (k:=Va (Vb (Vi ?_)))))))))
               refine Vb (Va ?_)
               exact zb60ret21
          ·
           refine Zk (k:=Ya (Za (k:=Za (k:=?_))))
           have hfl : (qs.flatMap CdV.cells).length = qs.length * 2 := cells_len qs
           refine Dw [Ce b8 109 [vU ((line.getD 0 0).toNat : Int), .slice ga xs.length gc], Row 109 2 (.slice oa qs.length oc) qs.length (qs.flatMap CdV.cells)] (k:=?_)
           refine Dv 0 (k:=Dv 1 (k:=Dv 2 (k:=Dv 3 (k:=Gd 3 (t:=fun h102 => ?_) (f:=fun h102 => ?_)))))
           ·
            have hlast : ((cdsOf qs).getD ((cdsOf qs).length - 1) cd0).l.toNat = (qs[qs.length - 1]'(by omega)).l.toNat := by rw [hll, cds_getD (by omega)]; rfl
            refine Di 4 (t:=U1 (h:=Uv)) (k:=Di 5 (t:=U1 (h:=Uv)) (k:=Di 6 (t:=U1 (h:=Uv)) (k:=Di 7 (t:=U1 (h:=Uv)) (k:=?_))))
            refine d_first 8 rfl rfl rfl (by kernel_rfl) (by kernel_rfl) (tl_in (b := true) rfl (tl_elemAddr (sz := 2) (m := qs.length - 1) (kk := 2 * (qs.length - 1)) Tryz.underlying107 ti109 rfl rfl rfl (by omega) (by omega) (by omega) (Nat.mul_comm _ _))) ?_
            refine d_first 9 rfl rfl rfl (by kernel_rfl) (by kernel_rfl) (tl_in (b := true) rfl (tl_efield (kk := 2 * (qs.length - 1)) Tryz.underlying109 rfl ti5 rfl rfl rfl rfl (by omega))) ?_
            refine d_first 10 rfl rfl rfl (by kernel_rfl) (by kernel_rfl) (tl_in (b := true) rfl (tl_eload Tryz.underlying5 rfl rfl (cdget (j := qs.length - 1) (by omega)).1)) ?_
            refine Di 11 (t:=U1 (h:=Uf 0 5)) (k:=Di 12 (t:=U1 (h:=Ul)) (k:=Di 13 (t:=U1 (h:=Uv)) (k:=DP1 14 (k:=Dd (k:=Ya (Zi (t:=fun h113 => ?_) (f:=fun h113 => ?_)))))))
            ·
             refine Qc (k:=Qv (k:=Wq (Zt (k:=Va (Vb (Vi (Vb (Va ?_))))))))
             exact zb60ret23
            ·
             refine Zk (k:=Ya (Qc (k:=Vv (k:=Zm [_, _] (k:=Zv [_] (cs := [_, _]) (k:=fun b116 => ?_))))))
             refine r_append1 (sz := 2) (bytes := 32) Tryz.underlying107 ti109 rfl rfl rfl rfl rfl rfl rfl (by rfl) (by rfl) (by omega) (by simp only [maxLen]; omega) rfl (fun a117 c117 => ?_)
             refine Vv (k:=Wq (Qc (k:=Qv (k:=Vv (k:=Wq (Zr (k:=Qv (k:=Wn ?_))))))))
             refine Yb ?_
             exact zb60next0
           ·
            refine D0 4 (k:=D0 5 (k:=D0 6 (k:=D0 7 (k:=D0 8 (k:=D0 9 (k:=D0 10 (k:=D0 11 (k:=D0 12 (k:=D0 13 (k:=DP0 14 (k:=Dd (k:=?_))))))))))))
            refine Ya (Z0 (k:=Zk (k:=Ya (Qc (k:=Vv (k:=Zm [_, _] (k:=Zv [_] (cs := [_, _]) (k:=fun b116 => ?_))))))))
            refine r_append1 (sz := 2) (bytes := 32) Tryz.underlying107 ti109 rfl rfl rfl rfl rfl rfl rfl (by rfl) (by rfl) (by omega) (by simp only [maxLen]; omega) rfl (fun a117 c117 => ?_)
            refine Vv (k:=Wq (Qc (k:=Qv (k:=Vv (k:=Wq (Zr (k:=Qv (k:=Wn ?_))))))))
            refine Yb ?_
            exact zb60next0
        ·
         refine Qc (k:=Qv (k:=Vv (k:=Wq (Zi (t:=fun h53 => ?_) (f:=fun h53 => ?_)))))
         ·
          refine Zr (k:=Vv (k:=?_))
          refine wo_pv (pv_slice_fromm (m := 2) Tryz.underlying9 rfl rfl rfl (by omega)) rfl ?_
          refine r_callX (ref10_words_sp (line.drop 2) (by rw [List.length_drop]; omega)) rfl rfl rfl (fun x56 _ => ?_)
          obtain ⟨wa, wc⟩ := x56
          dsimp only
          refine wo_know (A := Row 9 1 (.slice wa (splitB 32 (line.drop 2)).length wc) (splitB 32 (line.drop 2)).length ((splitB 32 (line.drop 2)).map vS)) HasC.get row_know (fun hk56 => ?_)
          refine wo_frzR wa ?_
          refine Vf 1 27 (k:=Zo (k:=Wn ?_))
          exact zb60join12
         ·
          refine Zk (k:=?_)
          exact zb60join12
      ·
       refine O0 (k:=O0 (k:=O0 (k:=I0 (k:=P0 (k:=P0 (k:=Wq (Z0 (k:=Zk (k:=Ya (Za (k:=?_)))))))))))
       have hc1 : 1 ≤ line.length := by omega
       have hc2 : 65 ≤ (line.getD 0 0).toNat := by omega
       have hc3 : (line.getD 0 0).toNat ≤ 90 := by omega
       have hc4 : 1 < line.length → line.getD 1 0 = 32 := fun h => by
        first
        | (exfalso; omega)
        | exact u8eq.2 (show _ = 32 by omega)
       refine Zr (k:=Vv (k:=?_))
       refine wo_pv (pv_indexm (m := 0) Tryz.underlying9 rfl rfl rfl (by omega)) rfl ?_
       refine Vx (Ps [_, .slice none 0 0]) (k:=Zc [.int .u8 0, .slice none 0 0] (k:=fun b8 => Zp (k:=Wq ?_)))
       refine p_cut (fun (i : { x : (Option Addr × Nat) × List Bs // x.2 = lineArgs line ∧ x.2.length ≤ x.1.2 }) => [(0, vS s), (4, .slice oa qs.length oc), (5, vI a), (6, vI b), (8, .pointer (some ⟨b8, 0, none⟩))]) (fun (i : { x : (Option Addr × Nat) × List Bs // x.2 = lineArgs line ∧ x.2.length ≤ x.1.2 }) => [SlI i.1.1.1 (i.1.2.map vS), Ce b8 109 [vU ((line.getD 0 0).toNat : Int), .slice i.1.1.1 i.1.2.length i.1.1.2], Row 109 2 (.slice oa qs.length oc) qs.length (qs.flatMap CdV.cells), CdM qs]) rfl (fun i => ?_) ?_
       ·
        obtain ⟨⟨⟨ga, gc⟩, xs⟩, hxs, hxc⟩ := i
        dsimp only at hxs hxc ⊢
        have hxl : xs.length ≤ 1073741824 := by
         have h1 := splitB_len 32 (line.drop 2)
         rw [hxs, lineArgs]
         split
         · rw [List.length_drop] at h1; omega
         · simp
        try dsimp only
        refine Za (k:=Qc (k:=Qx 1 27 (k:=Qv (k:=Wq (Zb (k:=?_))))))
        refine p_loop (fun (i : { m : Nat // m ≤ xs.length ∧ ∀ i, i < m → xs.getD i [] ≠ [] }) => [(0, vS s), (4, .slice oa qs.length oc), (5, vI a), (6, vI b), (8, .pointer (some ⟨b8, 0, none⟩)), (59, .slice ga xs.length gc), (60, vI xs.length), (61, vI i.1)]) (fun (i : { m : Nat // m ≤ xs.length ∧ ∀ i, i < m → xs.getD i [] ≠ [] }) => [SlI ga (xs.map vS), Ce b8 109 [vU ((line.getD 0 0).toNat : Int), .slice ga xs.length gc], Row 109 2 (.slice oa qs.length oc) qs.length (qs.flatMap CdV.cells), CdM qs]) (fun (i : { m : Nat // m ≤ xs.length ∧ ∀ i, i < m → xs.getD i [] ≠ [] }) => xs.length - i.1) rfl (⟨0, Nat.zero_le _, fun i h => by omega⟩) ?_ ?_ (fun i => ?_)
        · exact ⟨rfl, rfl, rfl, rfl, rfl, rfl, rfl, rfl, trivial⟩
        ·
         exact ent_pick
        obtain ⟨m, hm, hma⟩ := i
        dsimp only
        try dsimp only
        refine Qc (k:=Vv (k:=Wq (Za (k:=Zi (t:=fun h62 => ?_) (f:=fun h62 => ?_)))))
        ·
         refine Zk (k:=Ya (Za (k:=Zb (k:=Qc (k:=Ye 1 (k:=Yl (hv:=by exact get_mapD [] (m := m) (by omega)) (k:=Vv (k:=Wq (Qc (k:=?_))))))))))
         refine Qv (k:=Wq (Zi (t:=fun h66 => ?_) (f:=fun h66 => ?_)))
         ·
          refine Qc (k:=Qv (k:=Wq (Zt (k:=Vb (Va (Vi (Vb (Va (Vb ?_)))))))))
          refine Vi (Vb (Va ?_))
          exact zb60ret16
         ·
          refine Zk (k:=Yb (Ya (Zr (k:=Qv (k:=Wn ?_)))))
          exact zb60next1
        ·
         refine Ze (k:=Xa (Xi (Xb (Ya (Za (k:=Za (k:=?_)))))))
         have hxa : ∀ x ∈ lineArgs line, x ≠ [] := by
          rw [← hxs]
          intro x hx
          obtain ⟨i, hi, rfl⟩ := mem_getD (d := []) hx
          exact hma i (by omega)
         refine Zr (k:=Qx 0 5 (k:=Vv (k:=Wq (Zi (t:=fun h70 => ?_) (f:=fun h70 => ?_)))))
         ·
          refine Za (k:=Za (k:=Dw [Ce b8 109 [vU ((line.getD 0 0).toNat : Int), .slice ga xs.length gc], SlI ga (xs.map vS)] (k:=?_)))
          refine Dv 0 (k:=Dv 1 (k:=Dv 2 (k:=Dv 3 (k:=Dv 4 (k:=Dv 5 (k:=Gd 5 (t:=fun h76 => ?_) (f:=fun h76 => ?_)))))))
          ·
           refine D1 6 (k:=D1 7 (k:=D1 8 (k:=D1 9 (k:=DP1 10 (k:=Dv 11 (k:=D1 12 (k:=D1 13 (k:=D1 14 (k:=D1 15 (k:=D1 16 (k:=D1 17 (k:=?_))))))))))))
           refine D1 18 (k:=D1 19 (k:=D1 20 (k:=DP1 21 (k:=Dv 22 (k:=D1 23 (k:=D1 24 (k:=D1 25 (k:=DP1 26 (k:=Dd (k:=Ya (Z1 (k:=?_))))))))))))
           refine Qc (k:=Qv (k:=Wq (Zt (k:=Va (Va (Vb (Vi (Vb (Va ?_)))))))))
           exact zb60ret20
          ·
           refine Di 6 (t:=U0 (h:=Uf 1 27)) (k:=Di 7 (t:=U0 (h:=Ul)) (k:=Di 8 (t:=U0 (h:=Uv)) (k:=Di 9 (t:=U0 (h:=Uv)) (k:=DP0 10 (k:=Dv 11 (k:=Gd 11 (t:=fun h82 => ?_) (f:=fun h82 => ?_)))))))
           ·
            refine D1 12 (k:=D1 13 (k:=D1 14 (k:=D1 15 (k:=D1 16 (k:=D1 17 (k:=D1 18 (k:=D1 19 (k:=D1 20 (k:=DP1 21 (k:=Dv 22 (k:=D1 23 (k:=?_))))))))))))
            refine D1 24 (k:=D1 25 (k:=DP1 26 (k:=Dd (k:=Ya (Z1 (k:=Qc (k:=Qv (k:=Wq (Zt (k:=?_))))))))))
            refine Va (Va (Vb (Vi (Vb (Va ?_)))))
            exact zb60ret20
           ·
            refine Di 12 (t:=U0 (h:=Uf 1 27)) (k:=Di 13 (t:=U0 (h:=Ul)) (k:=?_))
            refine d_first 14 rfl rfl rfl (by kernel_rfl) (by kernel_rfl) (tl_in (b := false) rfl (tl_elemAddr (m := 0) (sz := 1) Tryz.underlying27 ti9 rfl rfl rfl rfl (by omega) (by first | (rw [List.length_map]; omega) | (rw [flat_len (sz := 1) (fun _ => rfl)]; omega) | (simp; omega)) (Nat.mul_one _))) ?_
            refine d_first 15 rfl rfl rfl (by kernel_rfl) (by kernel_rfl) (tl_in (b := false) rfl (tl_eload Tryz.underlying9 rfl rfl (get_mapD [] (m := 0) (by omega)))) ?_
            refine Di 16 (t:=U0 (h:=Uv)) (k:=Di 17 (t:=U0 (h:=Uv)) (k:=?_))
            refine d_first 18 rfl rfl rfl (by kernel_rfl) (by kernel_rfl) (tl_in (b := false) rfl (tl_pv (pv_slice_tom (m := b) Tryz.underlying9 rfl rfl rfl (by omega)))) ?_
            refine Dn 19 (k:=?_)
            refine an_in (b := false) rfl ?_
            refine an_callF (ref1_Sum_sp (s.take b) (by rw [List.length_take]; omega)) rfl rfl rfl ?_
            refine Di 20 (t:=U0 (h:=Uv)) (k:=DP0 21 (k:=Dv 22 (k:=Gd 22 (t:=fun h93 => ?_) (f:=fun h93 => ?_))))
            ·
             refine D1 23 (k:=D1 24 (k:=D1 25 (k:=DP1 26 (k:=Dd (k:=Ya (Z1 (k:=Qc (k:=Qv (k:=Wq ?_)))))))))
             refine Zt (k:=Va (Va (Vb (Vi (Vb (Va ?_))))))
             exact zb60ret20
            ·
             refine Di 23 (t:=U0 (h:=Uv)) (k:=Di 24 (t:=U0 (h:=Uv)) (k:=Di 25 (t:=U0 (h:=Uv)) (k:=DP0 26 (k:=Dd (k:=Ya (Zi (t:=fun h97 => ?_) (f:=fun h97 => ?_)))))))
             ·
              refine Qc (k:=Qv (k:=Wq (Zt (k:=Va (Va (Vb (Vi (Vb (Va ?_)))))))))
              exact zb60ret20
             ·
              refine Zk (k:=Ya (Qc (k:=Qv (k:=Vv (k:=Wq (Zt (k:=Va (Vb (Vi ?_)))))))))
              refine Vb (Va ?_)
              exact zb60ret21
         ·
          refine Zk (k:=Ya (Za (k:=Za (k:=?_))))
          have hfl : (qs.flatMap CdV.cells).length = qs.length * 2 := cells_len qs
          refine Dw [Ce b8 109 [vU ((line.getD 0 0).toNat : Int), .slice ga xs.length gc], Row 109 2 (.slice oa qs.length oc) qs.length (qs.flatMap CdV.cells)] (k:=?_)
          refine Dv 0 (k:=Dv 1 (k:=Dv 2 (k:=Dv 3 (k:=Gd 3 (t:=fun h102 => ?_) (f:=fun h102 => ?_)))))
          ·
           have hlast : ((cdsOf qs).getD ((cdsOf qs).length - 1) cd0).l.toNat = (qs[qs.length - 1]'(by omega)).l.toNat := by rw [hll, cds_getD (by omega)]; rfl
           refine Di 4 (t:=U1 (h:=Uv)) (k:=Di 5 (t:=U1 (h:=Uv)) (k:=Di 6 (t:=U1 (h:=Uv)) (k:=Di 7 (t:=U1 (h:=Uv)) (k:=?_))))
           refine d_first 8 rfl rfl rfl (by kernel_rfl) (by kernel_rfl) (tl_in (b := true) rfl (tl_elemAddr (sz := 2) (m := qs.length - 1) (kk := 2 * (qs.length - 1)) Tryz.underlying107 ti109 rfl rfl rfl (by omega) (by omega) (by omega) (Nat.mul_comm _ _))) ?_
           refine d_first 9 rfl rfl rfl (by kernel_rfl) (by kernel_rfl) (tl_in (b := true) rfl (tl_efield (kk := 2 * (qs.length - 1)) Tryz.underlying109 rfl ti5 rfl rfl rfl rfl (by omega))) ?_
           refine d_first 10 rfl rfl rfl (by kernel_rfl) (by kernel_rfl) (tl_in (b := true) rfl (tl_eload Tryz.underlying5 rfl rfl (cdget (j := qs.length - 1) (by omega)).1)) ?_
           refine Di 11 (t:=U1 (h:=Uf 0 5)) (k:=Di 12 (t:=U1 (h:=Ul)) (k:=Di 13 (t:=U1 (h:=Uv)) (k:=DP1 14 (k:=Dd (k:=Ya (Zi (t:=fun h113 => ?_) (f:=fun h113 => ?_)))))))
           ·
            refine Qc (k:=Qv (k:=Wq (Zt (k:=Va (Vb (Vi (Vb (Va ?_))))))))
            exact zb60ret23
           ·
            refine Zk (k:=Ya (Qc (k:=Vv (k:=Zm [_, _] (k:=Zv [_] (cs := [_, _]) (k:=fun b116 => ?_))))))
            refine r_append1 (sz := 2) (bytes := 32) Tryz.underlying107 ti109 rfl rfl rfl rfl rfl rfl rfl (by rfl) (by rfl) (by omega) (by simp only [maxLen]; omega) rfl (fun a117 c117 => ?_)
            refine Vv (k:=Wq (Qc (k:=Qv (k:=Vv (k:=Wq (Zr (k:=Qv (k:=Wn ?_))))))))
            refine Yb ?_
            exact zb60next0
          ·
           refine D0 4 (k:=D0 5 (k:=D0 6 (k:=D0 7 (k:=D0 8 (k:=D0 9 (k:=D0 10 (k:=D0 11 (k:=D0 12 (k:=D0 13 (k:=DP0 14 (k:=Dd (k:=?_))))))))))))
           refine Ya (Z0 (k:=Zk (k:=Ya (Qc (k:=Vv (k:=Zm [_, _] (k:=Zv [_] (cs := [_, _]) (k:=fun b116 => ?_))))))))
           refine r_append1 (sz := 2) (bytes := 32) Tryz.underlying107 ti109 rfl rfl rfl rfl rfl rfl rfl (by rfl) (by rfl) (by omega) (by simp only [maxLen]; omega) rfl (fun a117 c117 => ?_)
           refine Vv (k:=Wq (Qc (k:=Qv (k:=Vv (k:=Wq (Zr (k:=Qv (k:=Wn ?_))))))))
           refine Yb ?_
           exact zb60next0
       ·
        refine Qc (k:=Qv (k:=Vv (k:=Wq (Zi (t:=fun h53 => ?_) (f:=fun h53 => ?_)))))
        ·
         refine Zr (k:=Vv (k:=?_))
         refine wo_pv (pv_slice_fromm (m := 2) Tryz.underlying9 rfl rfl rfl (by omega)) rfl ?_
         refine r_callX (ref10_words_sp (line.drop 2) (by rw [List.length_drop]; omega)) rfl rfl rfl (fun x56 _ => ?_)
         obtain ⟨wa, wc⟩ := x56
         dsimp only
         refine wo_know (A := Row 9 1 (.slice wa (splitB 32 (line.drop 2)).length wc) (splitB 32 (line.drop 2)).length ((splitB 32 (line.drop 2)).map vS)) HasC.get row_know (fun hk56 => ?_)
         refine wo_frzR wa ?_
         refine Vf 1 27 (k:=Zo (k:=Wn ?_))
         exact zb60join12
        ·
         refine Zk (k:=?_)
         exact zb60join12
 ·
  refine Ze (k:=Xa (Xi (Xb (Ya (Qc (k:=Qv (k:=Wq (Zt (k:=?_)))))))))
  have hal : a = s.length := by omega
  have hn : readC s = none := cards_fail fun l k => cards_none hI (by
   rw [hal, List.take_of_length_le (by rw [List.length_drop]; exact Nat.le_refl _)] at hn10; exact hn10) l k
  rw [hn]
  exact fin_ret ((none, 0), []) (vs := [_, _]) (Cs := []) rfl (.tmp rfl (.tmp rfl .nil)) rfl rfl ent_norcards
end
end Go.Proofs.YtibccdcemcgkeaaGreat
