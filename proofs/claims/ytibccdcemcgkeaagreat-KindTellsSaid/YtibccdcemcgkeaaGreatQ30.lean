/- Texts of this proof, put together: PTells, LawKindRuns, LawKindTells. -/
import Derived.Test.YtibccdcemcgkeaaGreatQ29
set_option linter.unusedVariables false
set_option linter.unusedSimpArgs false
namespace Go.Proofs.YtibccdcemcgkeaaGreat
section
set_option maxRecDepth 1000000
/-- Who is spoken of stands among the cards' words. -/
theorem names_args {s x : Bs} (h : x ∈ namesR s) : ∃ l, ReadsC s l ∧ ∃ c ∈ l, x ∈ c.args := by
 rw [← outC_names] at h
 unfold outC at h
 cases hl : readCl s with
 | some l =>
   rw [hl] at h
   exact ⟨_, (readCl_iff.1 hl).reads, ⟨77, [x]⟩, List.mem_map.2 ⟨x, h, rfl⟩, by simp⟩
 | none =>
   rw [hl] at h
   dsimp only at h
   have hk : x ∈ outK s → ∃ l, ReadsC s l ∧ ∃ c ∈ l, x ∈ c.args := fun h => by
    unfold outK at h
    cases hk : readK s with
    | none => rw [hk] at h; cases h
    | some c =>
      rw [hk] at h
      dsimp only at h
      refine ⟨_, (readK_iff.1 hk).reads, ?_⟩
      rcases (putA_mem _ _ x).1 h with e | e
      · cases e
      · simp only [nsK, List.mem_append, List.mem_filter, List.mem_map] at e
        rcases e with (e | ⟨⟨f, hf, rfl⟩, hne⟩) | e
        · by_cases e2 : c.base = []
          · rw [if_pos e2] at e; cases e
          · rw [if_neg e2, List.mem_singleton] at e
            exact ⟨⟨66, [c.base]⟩, by simp [ckCards, bCards, e2], by simp [e]⟩
        · exact ⟨flCard f, by simp only [ckCards, List.mem_append]; exact .inl (.inl (.inr (List.mem_map.2 ⟨f, hf, rfl⟩))), by simp [flCard, of_decide_eq_true hne]⟩
        · have : c.parents ≠ [] := fun h => by rw [h] at e; cases e
          exact ⟨⟨80, c.parents⟩, by simp [ckCards, pCards, this], e⟩
   unfold outT at h
   cases ht : readCt s with
   | none => rw [ht] at h; exact hk h
   | some c =>
     rw [ht] at h
     dsimp only at h
     rcases (putA_mem _ _ x).1 h with e | e
     · exact hk e
     · obtain ⟨t, h2, rfl⟩ := List.mem_map.1 e
       exact ⟨_, (readCt_iff.1 ht).reads, tgCard t, by simp only [ctCards, List.mem_cons, List.mem_append, List.mem_map]; exact .inr (.inl ⟨t, h2, rfl⟩), by simp [tgCard]⟩
theorem len_not {a : Bs} (h : a.length ≠ 40) : isN a = false := by
 cases e : isN a with
 | false => rfl
 | true => exact absurd (isN_len e) h
def NmA (l : List Cd) : Prop := ∀ c ∈ l, ∀ a ∈ c.args, isN a = true → ∃ n, a = nameB n
theorem tg_args {t : Tg} {own : Bool} {l : List Tg} (hr : RightT own l) (ht : t ∈ l) (hn : own = false → ∃ n, t.target = nameB n) : ∀ a ∈ (tgCard t).args, isN a = true → ∃ n, a = nameB n := by
 intro a ha hi
 obtain ⟨i, hil, rfl⟩ := mem_getD (d := tg0) ht
 obtain ⟨hk, o2, o3, o4, _⟩ := hr.ok i hil
 generalize l.getD i tg0 = t at hk o2 o3 o4 ha hn
 have hl := isN_len hi
 simp only [tgCard, List.mem_append, List.mem_cons, List.not_mem_nil, or_false] at ha
 rcases ha with (e | e) | e
 · rw [e, List.length_cons] at hl
   have := o2.2.2; omega
 · cases own with
   | false => rw [e]; exact hn rfl
   | true => rw [e, o4.1 rfl] at hl; cases hl
 · split at e
   · cases e
   · rw [List.mem_singleton.1 e] at hl
     have := (escB_len t.value).2
     omega
theorem dec_not (n : Int) (h : 0 ≤ n ∧ n ≤ 1073741824) : isN (decN n.toNat) = false := len_not (by have := decN_10 (n := n.toNat) (by omega); omega)
theorem ck_args {c : Ck} (h : KCk c) : NmA (ckCards c) := by
 intro x hx a ha hi
 have hl := isN_len hi
 simp only [ckCards, List.mem_append, List.mem_cons, List.not_mem_nil, or_false, List.mem_map] at hx
 rcases hx with (((e | e | e) | ⟨f, hf, e⟩) | e) | ⟨t, ht, e⟩ | e
 · unfold bCards at e
   split at e
   · cases e
   · rename_i hb
     rw [List.mem_singleton.1 e] at ha
     rw [List.mem_singleton.1 ha]
     exact h.base.resolve_left hb
 · rw [e] at ha
   rw [List.mem_singleton.1 ha] at hi
   have := (of_decide_eq_true hi).2 46 (by simp)
   exact absurd this (by decide)
 · rw [e] at ha
   rw [List.mem_singleton.1 ha, dec_not _ h.right.date] at hi; cases hi
 · have h1 := h.files f hf
   obtain ⟨i, hil, e2⟩ := mem_getD (d := (([], []) : Bs × Bs)) hf
   have h2 := (h.right.files.ok i hil).name
   rw [e2] at h2
   rw [← e] at ha
   unfold flCard at ha
   dsimp only at ha
   split at ha
   · rw [List.mem_singleton.1 ha] at hl; have := h2.2.2; omega
   · rename_i hne
     simp only [List.mem_cons, List.not_mem_nil, or_false] at ha
     rcases ha with e3 | e3
     · rw [e3] at hl; have := h2.2.2; omega
     · rw [e3]; exact h1.resolve_left hne
 · unfold pCards at e
   split at e
   · cases e
   · rw [List.mem_singleton.1 e] at ha
     exact h.pars a ha
 · rw [← e] at ha
   exact tg_args h.right.tags ht (fun e => by cases e) a ha hi
 · rw [e] at ha
   rw [List.mem_singleton.1 ha] at hl
   have := h.right.user.2.2; omega
theorem ct_args {c : Ct} (h : KCt c) : NmA (ctCards c) := by
 intro x hx a ha hi
 have hl := isN_len hi
 simp only [ctCards, List.mem_cons, List.mem_append, List.mem_map, List.not_mem_nil, or_false] at hx
 rcases hx with e | ⟨t, ht, e⟩ | e
 · rw [e] at ha
   rw [List.mem_singleton.1 ha, dec_not _ h.right.date] at hi; cases hi
 · rw [← e] at ha
   exact tg_args h.right.tags ht (fun _ => h.tgt t ht) a ha hi
 · rw [e] at ha
   rw [List.mem_singleton.1 ha] at hl
   have := h.right.user.2.2; omega
theorem contB_noZ (n : Int) : (90 : UInt8) ∉ contB n := by
 unfold contB longB
 intro h
 rcases List.mem_append.1 h with h | h
 · have key : ∀ p ∈ beginL, (90 : UInt8) ∉ p := by decide
   by_cases e : (withinI (withinI n 0 15 % 3) 0 2).toNat < beginL.length
   · have e2 : beginL.getD (withinI (withinI n 0 15 % 3) 0 2).toNat [] = beginL[(withinI (withinI n 0 15 % 3) 0 2).toNat] := by simp [e]
     rw [e2] at h
     exact key _ (List.getElem_mem e) h
   · have : beginL.getD (withinI (withinI n 0 15 % 3) 0 2).toNat [] = [] := by simp [Nat.le_of_not_lt e]
     rw [this] at h; cases h
 · exact textB_noZ _ _ (List.mem_of_mem_take h)
theorem art_args {s : Bs} (h : ArtK s) {l : List Cd} (hl : ReadsC s l) : NmA l := by
 cases h with
 | text n => exact absurd (readC_iff.2 hl) (by rw [noZ_readC (contB_noZ n)]; exact fun h => by cases h)
 | ck c k =>
   have hr : ReadsC (ckB c) (ckCards c) := ReadsK.reads ⟨k.right, rfl⟩
   rw [hl.uniq hr]; exact ck_args k
 | ct c k =>
   have hr : ReadsC (ctB c) (ctCards c) := ReadsCt.reads ⟨k.right, rfl⟩
   rw [hl.uniq hr]; exact ct_args k
 | cl l2 h1 h2 h3 h4 =>
   have hr : ReadsC (clB l2) (clCards l2) := ReadsCl.reads ⟨sorted_right h1 (fun x hx => by obtain ⟨n, rfl⟩ := h2 x hx; exact isN_name n) h3 (by omega), rfl⟩
   rw [hl.uniq hr]
   intro c hc a ha _
   obtain ⟨n, hn, rfl⟩ := List.mem_map.1 hc
   rw [List.mem_singleton.1 ha]
   exact h2 n hn
/-- Who is spoken of has the name of a content. -/
def NmS (s : Bs) : Prop := ∀ x ∈ namesR s, ∃ n, x = nameB n
theorem NmA.nms {s : Bs} (h : ∀ l, ReadsC s l → NmA l) : NmS s := fun x hx => by
 obtain ⟨l, hl, c, hc, ha⟩ := names_args hx
 exact h l hl c hc x ha (names_isN hx)
theorem body_end {l : List Cd} (h : l ≠ []) : ∃ b, bodyB l = b ++ [10] := by
 obtain ⟨m, c, rfl⟩ : ∃ m c, l = m ++ [c] := ⟨l.dropLast, l.getLast h, (List.dropLast_concat_getLast h).symm⟩
 exact ⟨bodyB m ++ lineB c, by rw [bodyB_app]; simp [bodyB, cardB]⟩
/-- A text whose end was cut off and another one put on has the same cards, if it has any. -/
theorem cut_cards {s raw : Bs} {l l2 : List Cd} (hl : ReadsC s l) (hr : raw.length ≤ 5) (h2 : ReadsC (s.take (s.length - 2) ++ raw) l2) : l2 = l := by
 obtain ⟨b, hb⟩ := body_end hl.1.ne
 have hS := shaB_len (bodyB l)
 have hS2 := shaB_len (bodyB l2)
 have hm := shaB_mem (bodyB l)
 have hlen := sealB_len (bodyB l)
 have hlen2 := sealB_len (bodyB l2)
 have e1 : sealB (bodyB l) = s := hl.2
 have e2 : sealB (bodyB l2) = s.take (s.length - 2) ++ raw := h2.2
 have hsl : s.length = (bodyB l).length + 43 := by rw [← e1, hlen]
 have hbl : (bodyB l).length = b.length + 1 := by rw [hb]; simp
 have htk : s.take (s.length - 2) = bodyB l ++ ([90, 32] ++ (shaB (bodyB l)).take 39) := by
  rw [hsl, ← e1, sealB, show (bodyB l).length + 43 - 2 = (bodyB l).length + 41 by omega]
  rw [List.append_assoc, List.append_assoc, List.take_length_add_append]
  congr 1
 rw [htk] at e2
 have hl2 : (bodyB l2).length + 43 = (bodyB l).length + 41 + raw.length := by
  have := congrArg List.length e2
  rw [hlen2] at this
  simp at this; omega
 -- what stands where the last card begins
 have h90 : (sealB (bodyB l2))[(bodyB l2).length]? = some 90 := by simp [sealB]
 have h10 : (sealB (bodyB l2))[(bodyB l2).length + 42]? = some 10 := by
  rw [sealB, List.getElem?_append_right (by simp [hS2]), List.length_append, List.length_append, hS2]
  simp
 have hex : ∀ j, j < 39 → ∃ c, (bodyB l ++ ([90, 32] ++ (shaB (bodyB l)).take 39) ++ raw)[(bodyB l).length + 2 + j]? = some c ∧ c ∈ hexD := by
  intro j hj
  refine ⟨(shaB (bodyB l))[j], ?_, hm _ (List.getElem_mem _)⟩
  rw [List.append_assoc, List.getElem?_append_right (by omega), show (bodyB l).length + 2 + j - (bodyB l).length = j + 2 by omega]
  simp [show j < 39 by omega, hS, show j < 40 by omega, List.getElem?_append]
 rw [e2] at h90 h10
 have n90 : (90 : UInt8) ∉ hexD := by decide
 have n10 : (10 : UInt8) ∉ hexD := by decide
 have hcase : raw.length = 0 ∨ raw.length = 1 ∨ raw.length = 2 ∨ raw.length = 3 ∨ raw.length = 4 ∨ raw.length = 5 := by omega
 rcases hcase with e | e | e | e | e | e
 · exfalso
   obtain ⟨c, hc, hd⟩ := hex 38 (by omega)
   rw [show (bodyB l2).length + 42 = (bodyB l).length + 2 + 38 by omega, hc] at h10
   cases h10; exact n10 hd
 · exfalso
   rw [show (bodyB l2).length = b.length by omega, hb] at h90
   simp at h90
 · have h3 : (bodyB l2).length = (bodyB l).length := by omega
   have h4 := congrArg (List.take (bodyB l).length) e2
   rw [List.append_assoc, List.take_left] at h4
   rw [sealB, List.append_assoc, List.append_assoc, ← h3, List.take_left] at h4
   exact bodyB_inj h2.1.both hl.1.both h4
 · exfalso
   rw [show (bodyB l2).length = (bodyB l).length + 1 by omega, List.append_assoc, List.getElem?_append_right (by omega)] at h90
   simp at h90
 · exfalso
   obtain ⟨c, hc, hd⟩ := hex 0 (by omega)
   rw [show (bodyB l2).length = (bodyB l).length + 2 + 0 by omega, hc] at h90
   cases h90; exact n90 hd
 · exfalso
   obtain ⟨c, hc, hd⟩ := hex 1 (by omega)
   rw [show (bodyB l2).length = (bodyB l).length + 2 + 1 by omega, hc] at h90
   cases h90; exact n90 hd
theorem lin_nms {s raw s' : Bs} (hs : ArtK s) (hr : raw.length ≤ 5) (h : LinR s raw s') : NmS s' := by
 refine NmA.nms fun l2 hl2 => ?_
 cases h with
 | same => exact art_args hs hl2
 | lines l l' hl hP =>
   have e : l2 = l' := bodyB_inj hl2.1.both (fun c hc => ⟨(hP.ok c hc).1, fun a ha => ((hP.ok c hc).2.1 a ha).1⟩) (sealB_inj hl2.2)
   rw [e]
   intro c hc a ha hi
   rcases ((hP.ok c hc).2.1 a ha).2 with ⟨b, hb, h3⟩ | h3
   · exact art_args hs (readC_iff.1 hl) b hb a h3 hi
   · rw [h3] at hi; cases hi
 | cut l hl =>
   rw [cut_cards (readC_iff.1 hl) hr hl2]
   exact art_args hs (readC_iff.1 hl)
theorem short_nms {s : Bs} (h : s.length ≤ 60) : NmS s := fun x hx => by
 exfalso
 obtain ⟨l, hl, c, hc, ha⟩ := names_args hx
 have h1 := isN_len (names_isN hx)
 have h2 := congrArg List.length hl.2
 rw [printB, sealB_len] at h2
 have h3 := card_le hc
 have h4 := mem_le_args ha
 simp only [cardB, lineB, List.length_append, List.length_cons, List.length_nil] at h3
 omega
abbrev nobB : Bs := shaB [110, 111, 98, 111, 100, 121, 32, 115, 112, 101, 97, 107, 115, 32, 111, 102, 32, 116, 104, 97, 116]
theorem nob_not (n : Int) : nameB n ≠ nobB := by
 have hw := withinI_in (n := n) (show (0 : Int) ≤ 15 by omega)
 unfold nameB contB
 have key : ∀ k : Fin 16, (sumN (longB 0 [(k.1 : Int), (k.1 : Int) / 2, (k.1 : Int) / 4] ((k.1 : Int) % 3)) fun a _ _ _ _ => a) ≠ (sumN [110, 111, 98, 111, 100, 121, 32, 115, 112, 101, 97, 107, 115, 32, 111, 102, 32, 116, 104, 97, 116] fun a _ _ _ _ => a) := by decide +kernel
 obtain ⟨k, hk⟩ : ∃ k : Nat, withinI n 0 15 = (k : Int) := ⟨(withinI n 0 15).toNat, by omega⟩
 rw [hk]
 exact first_ne (key ⟨k, by omega⟩)
theorem NmS.nob {s : Bs} (h : NmS s) : nobB ∉ namesR s := fun hx => by
 obtain ⟨n, e⟩ := h _ hx
 exact nob_not n e.symm
end
section
set_option maxRecDepth 100000
theorem sla_nil {B : HP} {a : Option Addr} : SlA B a [] := fun _ => .inl rfl
set_option maxHeartbeats 1000000 in
theorem KindRuns_sp : Sp1 Tryz.prog 3 [] [] (vB true) [] := by
 have hbz := ck_small ckR_right
 have hsl : (ckB ckR).length ≤ 1073741824 := by rw [ckB, printB, sealB_len]; omega
 have hself := ckR_self
 have htwo := ckR_two
 have hmem := ckR_names
 have hkind := kindN_K ckR_read
 refine Sp.body (n := 52) Tryz.call3 Tryz.func3 rfl rfl rfl ?_
 refine Qc (k:=Zc [.bool false] (k:=fun b0 => Wq (Qc (k:=?_))))
 refine r_callF (ref1_Sum_sp [97] (by decide)) rfl rfl rfl ?_
 refine r_callF (ref1_Sum_sp [98] (by decide)) rfl rfl rfl ?_
 refine Zc [vS []] (k:=fun b1 => Zc [vS []] (k:=fun b2 => Zo (k:=Zo (k:=Wq (Qc (k:=Zd (k:=Vx (Ps [_, _]) (k:=Zv [_] (cs := [_, _]) (k:=fun b10 => Zd (k:=Zv [_] (cs := [_]) (k:=fun b12 => ?_)))))))))))
 refine Vx (Ps [vS [], vS [], .int .i64 0, _, _, .slice none 0 0, _]) (k:=?_)
 refine wo_frzC b12 ?_
 refine wo_ent' sli_nil ?_
 refine wo_ent' (Gs := [Ce b10 25 [vS [102], vS shA], SlI (some ⟨b12, 0, none⟩) [vS shB], SlI none [], Ce b2 9 [vS shB], Ce b1 9 [vS shA], Ce b0 4 [vB false]]) (ent_step (ce_norm (by rfl) (by rfl)) ent_pick) ?_
 have hCk : Sp1 Tryz.prog 14 [.agg #[vS [], vS [], vI 0, .slice (some ⟨b10, 0, none⟩) 1 1, .slice (some ⟨b12, 0, none⟩) 1 1, .slice none 0 0, vS [109, 101]]] [Ce b10 25 [vS [102], vS shA], SlI (some ⟨b12, 0, none⟩) [vS shB], SlI none []] (vS (ckB ckR)) [Ce b10 25 [vS [102], vS shA], SlI none []] :=
  ref10_Checkin_sp ⟨some ⟨b10, 0, none⟩, 1, some ⟨b12, 0, none⟩, 1, none, 0⟩ ckR ckR_z (by decide) (by omega) sla_ce sla_nil (Nat.le_refl _)
 refine r_call1 hCk rfl rfl rfl ?_
 generalize ckB ckR = s at hsl hself htwo hmem hkind ⊢
 have hk1 := text_one
 refine Vv (k:=Wq (Za (k:=Qc (k:=?_))))
 refine r_callF (kind_Of_sp "text".toUTF8.data.toList (by decide)) rfl rfl rfl ?_
 refine Vv (k:=Wq (Zi (t:=fun h16 => ?_) (f:=fun h16 => ?_)))
 ·
  exact absurd hk1 h16
  --done
 ·
  refine Zk (k:=Ya (Qc (k:=Zc [.int .i64 0] (k:=fun b4 => Zo (k:=Wq (Za (k:=Qc (k:=Vv (k:=?_)))))))))
  refine r_callX (kind_Names_sp s) rfl rfl rfl (fun x18 _ => ?_)
  refine Wq (Zb (k:=?_))
  refine p_rangeFunc (fun pre => [Ce b4 3 [vI pre.length], Ce b2 9 [vS shB], Ce b1 9 [vS shA], Ce b0 4 [vB false]]) (fun j pre => [Pu False]) rfl (kind_Names_it s hsl x18) rfl (fun _ => by rfl) rfl ?_ (fun l pre w hok => ?_) ?_ (fun j pre hs => ?_)
  · (refine ent_app ?_; exact ent_pick)
  ·
   obtain ⟨rr, hrr⟩ := hok
   have hin : w = shA ∨ w = shB := (hmem w).1 (by rw [hrr]; simp)
   have hpl : pre.length < 2 := by
    have := congrArg List.length hrr
    rw [htwo] at this; simp at this; omega
   refine Zr (k:=Vv (k:=Wg (Zb (k:=Za (k:=Qc (k:=Vv (k:=Zd (k:=Qv (k:=Gi 3 (t:=fun h23 => ?_) (f:=fun h23 => ?_))))))))))
   ·
    refine J1 (k:=I1 (k:=Zd (k:=J1 (k:=P1 (k:=Wq (Zi (t:=fun h27 => ?_) (f:=fun h27 => ?_)))))))
    ·
     refine Qc (k:=Zo (k:=Wq (Zt (k:=Va (Vb ?_)))))
     exfalso
     rcases hin with h | h
     · first | exact h23 h | exact h27 h
     · first | exact h27 h | exact h26 h
    ·
     refine Zk (k:=Ya (Zr (k:=Zd (k:=Vv (k:=Zo (k:=Wn (Yb ?_)))))))
     refine to_round ?_
     exact ent_step (ce_norm (by rfl) (by simp)) ent_pick
   ·
    refine O0 (k:=O0 (k:=O0 (k:=P0 (k:=Wq (Z0 (k:=Zk (k:=Ya (Zr (k:=Zd (k:=Vv (k:=Zo (k:=?_))))))))))))
    refine Wn (Yb ?_)
    refine to_round ?_
    exact ent_step (ce_norm (by rfl) (by simp)) ent_pick
  ·
   skip
   refine Yb (Ya (Qc (k:=Zd (k:=Qv (k:=Gi 2 (t:=fun h32 => ?_) (f:=fun h32 => ?_))))))
   ·
    refine J1 (k:=I1 (k:=?_))
    refine r_callF (kind_Of_sp s hsl) rfl rfl rfl ?_
    refine J1 (k:=P1 (k:=Vv (k:=Gi 7 (t:=fun h37 => ?_) (f:=fun h37 => ?_))))
    ·
     refine I1 (k:=?_)
     refine r_callF (kind_Of_sp "text".toUTF8.data.toList (by decide)) rfl rfl rfl ?_
     refine J1 (k:=P1 (k:=Vv (k:=Gi 11 (t:=fun h41 => ?_) (f:=fun h41 => ?_))))
     ·
      refine J1 (k:=I1 (k:=Zd (k:=I1 (k:=?_))))
      refine r_callF (kind_Speaks_sp s shB hsl) rfl rfl rfl ?_
      refine P1 (k:=Vv (k:=Gi 16 (t:=fun h46 => ?_) (f:=fun h46 => ?_)))
      ·
       refine J1 (k:=J1 (k:=I1 (k:=?_)))
       refine r_callF (kind_Speaks_sp s s hsl) rfl rfl rfl ?_
       rw [decide_eq_false hself]
       refine J1 (k:=P1 (k:=Zo (k:=Wq (Zt (k:=?_)))))
       exact fin_ret () (vs := [_]) (Cs := [Ce b0 4 [vB true]]) rfl (.cell1 (l := [vB true]) rfl (shows_ce (T := 4)) Tryz.underlying4 rfl rfl .nil) rfl trivial (ent_step (ce_norm (by rfl) (by rfl)) ent_nil)
      ·
       exact absurd ((hmem shB).2 (.inr rfl)) h46
       --done
     ·
      exact absurd hk1 h41
      --done
    ·
     exact absurd hkind h37
     --done
   ·
    exact absurd (show ((namesR s).length : Int) = 2 by omega) h32
    --done
  ·
   exact wc_no (fun s => by obtain ⟨_, _, _, _, a, _⟩ := s; exact a)
end
section
set_option maxRecDepth 100000
theorem nms_len (s : Bs) : (namesR s).length ≤ 100 := by
 have h2 := namesP_len s
 have h3 := dedS_len (sortB (namesP s))
 have h4 : (namesR s).length ≤ (dedS (sortB (namesP s))).length := List.length_filter_le _ _
 rw [sortB_len] at h3
 omega
theorem zb4roundret {G : Prop} (h : G := by
    exfalso
    first
    | (simp at h60; done)
    | (simp at h64; done)
    | (simp at h52; omega)
    | omega) : G := h
theorem zb4join6 {G : Prop} (h : G := by
    first
    | exact to_inv ⟨raw.take (min raw.length 60), short_nms (by rw [List.length_take]; omega), by rw [List.length_take]; omega⟩ trivial ⟨rfl, rfl, rfl, trivial⟩ ent_pick
    | exact to_inv ⟨s2, hs2, hl2⟩ trivial ⟨rfl, rfl, rfl, trivial⟩ ent_pick) : G := h
theorem zb4join4 {G : Prop} (h : G := by
    first
    | exact to_inv ⟨s1, lin_nms hA (by rw [List.length_take]; omega) hs1.1, hs1.2⟩ trivial ⟨rfl, rfl, rfl, rfl, rfl, trivial⟩ ent_pick
    | exact to_inv ⟨s0, lin_nms (raw := []) hA (Nat.zero_le _) .same, by omega⟩ trivial ⟨rfl, rfl, rfl, rfl, rfl, trivial⟩ ent_pick) : G := h
set_option maxHeartbeats 4000000 in
theorem KindTells_sp (q : KaV) (z : q.Z) (at_ to_ how cut_ : Int) (raw : Bs) (hrw : raw.length ≤ 9223372036854775807) : Sp1 Tryz.prog 4 [.agg q.cells.toArray, vI at_, vI to_, vI how, vI cut_, vS raw] q.hs (vB true) [] := by
 have hArt := keep_Art_sp q z
 have hk1 := text_one
 have hwc := withinI_in (n := cut_) (show (1 : Int) ≤ 5 by omega)
 obtain ⟨cc, hcc⟩ : ∃ k : Nat, withinI cut_ 1 5 = (k : Int) := ⟨(withinI cut_ 1 5).toNat, by omega⟩
 refine Sp.body (n := 104) Tryz.call4 Tryz.func4 rfl rfl rfl ?_
 refine Qc (k:=Zx [_, _, _, _, _, _, _, _, _, _, _, _, _, _, _, _] (k:=fun b6 => Zc [.bool false] (k:=fun b12 => Wq (Qc (k:=Zm [_, _, _, _, _, _, _, _, _, _, _, _, _, _, _, _] (k:=?_))))))
 refine r_callX hArt rfl rfl rfl (fun s0 hs0 => ?_)
 obtain ⟨hA, hs3⟩ := hs0
 refine Zc [vS []] (k:=fun b13 => Zo (k:=Wq ?_))
 refine p_cut (fun (i : { s : Bs // NmS s ∧ s.length ≤ 200000 }) => [(3, vI how), (4, vI cut_), (5, vS raw), (12, .pointer (some ⟨b12, 0, none⟩)), (13, .pointer (some ⟨b13, 0, none⟩))]) (fun (i : { s : Bs // NmS s ∧ s.length ≤ 200000 }) => [Ce b13 9 [vS i.1], Ce b12 4 [vB false]]) rfl (fun i => ?_) ?_
 ·
  obtain ⟨s2, hs2, hl2⟩ := i
  dsimp only
  try dsimp only
  refine p_cut (fun (i : { s : Bs // NmS s ∧ s.length ≤ 200000 }) => [(4, vI cut_), (12, .pointer (some ⟨b12, 0, none⟩)), (13, .pointer (some ⟨b13, 0, none⟩))]) (fun (i : { s : Bs // NmS s ∧ s.length ≤ 200000 }) => [Ce b13 9 [vS i.1], Ce b12 4 [vB false]]) rfl (fun i => ?_) ?_
  ·
   obtain ⟨s, hs, hsz⟩ := i
   have hnl := nms_len s
   have hnob := hs.nob
   dsimp only
   try dsimp only
   refine Qc (k:=Zd (k:=?_))
   refine r_callX (ref10_Names_sp s (by omega)) rfl rfl rfl (fun x43 _ => ?_)
   obtain ⟨wa, wc'⟩ := x43
   refine Zc [.slice none 0 0] (k:=fun b14 => Zo (k:=Wq (Za (k:=Qc (k:=?_)))))
   refine r_callF (kind_Of_sp "text".toUTF8.data.toList (by decide)) rfl rfl rfl ?_
   refine Vv (k:=Wq (Zi (t:=fun h45 => ?_) (f:=fun h45 => ?_)))
   ·
    exact absurd hk1 h45
    --done
   ·
    refine Zk (k:=Ya (Qc (k:=Zc [.int .i64 0] (k:=fun b15 => Zo (k:=Wq (Za (k:=Qc (k:=Zd (k:=?_)))))))))
    refine r_callX (kind_Names_sp s) rfl rfl rfl (fun x47 _ => ?_)
    refine Wq (Zb (k:=?_))
    refine p_rangeFunc (fun pre => [Ce b15 3 [vI pre.length], Ce b14 27 [.slice wa (namesR s).length wc'], Row 9 1 (.slice wa (namesR s).length wc') (namesR s).length ((namesR s).map vS), Ce b13 9 [vS s], Ce b12 4 [vB false]]) (fun j pre => [Pu False]) rfl (kind_Names_it s (by omega) x47) rfl (fun _ => by rfl) rfl ?_ (fun l pre w2 hok => ?_) ?_ (fun j pre hs => ?_)
    · (refine ent_app ?_; exact ent_pick)
    ·
     obtain ⟨rr, hrr⟩ := hok
     have hw2 : w2 ∈ namesR s := by rw [hrr]; simp
     have hpl : pre.length < (namesR s).length := by rw [hrr]; simp
     have hget : (namesR s).getD pre.length [] = w2 := by rw [hrr]; simp
     refine Zr (k:=Vv (k:=Wg (Zb (k:=Za (k:=Qc (k:=Zd (k:=Zd (k:=Qv (k:=Vv (k:=?_))))))))))
     refine Gi 4 (t:=fun h53 => ?_) (f:=fun h53 => ?_)
     ·
      refine O1 (k:=O1 (k:=O1 (k:=O1 (k:=O1 (k:=O1 (k:=P1 (k:=Wq (Z1 (k:=Qc (k:=Zo (k:=?_)))))))))))
      refine Wq (Zt (k:=Va (Vb ?_)))
      exact zb4roundret
     ·
      refine J0 (k:=I0 (k:=Zd (k:=I0 (k:=Zd (k:=I0 (k:=Ye 1 (k:=I0 (k:=Yl (hv:=by exact get_mapD [] (m := pre.length) (by omega)) (k:=?_)))))))))
      rw [hget]
      refine J0 (k:=P0 (k:=Wq (Zi (t:=fun h60 => ?_) (f:=fun h60 => ?_))))
      ·
       refine Qc (k:=Zo (k:=Wq (Zt (k:=Va (Vb ?_)))))
       exact zb4roundret
      ·
       refine Zk (k:=Ya (Za (k:=Qc (k:=Zd (k:=Vv (k:=?_))))))
       refine r_callF (kind_Speaks_sp s w2 (by omega)) rfl rfl rfl ?_
       rw [show decide (w2 ∈ namesR s) = true from decide_eq_true hw2]
       refine Vv (k:=Wq (Zi (t:=fun h64 => ?_) (f:=fun h64 => ?_)))
       ·
        refine Qc (k:=Zo (k:=Wq (Zt (k:=Va (Vb ?_)))))
        exact zb4roundret
       ·
        refine Zk (k:=Ya (Zr (k:=Zd (k:=Vv (k:=Zo (k:=Wn (Yb ?_)))))))
        refine to_round ?_
        exact ent_step (ce_norm (by rfl) (by simp)) ent_pick
    ·
     skip
     refine Yb (Ya (Qc (k:=Vv (k:=?_))))
     refine r_callF (book_Within_sp cut_ 1 5 (by omega) (by omega) (by omega)) rfl rfl rfl ?_
     rw [hcc]
     refine Zc [.int .i64 0] (k:=fun b17 => Zo (k:=Wq (Qc (k:=Zc [.int .i64 0] (k:=fun b18 => Zo (k:=Wq ?_))))))
     refine p_cut (fun (m : { n : Nat // n = min cc (namesR s).length }) => [(12, .pointer (some ⟨b12, 0, none⟩)), (13, .pointer (some ⟨b13, 0, none⟩)), (14, .pointer (some ⟨b14, 0, none⟩)), (15, .pointer (some ⟨b15, 0, none⟩)), (17, .pointer (some ⟨b17, 0, none⟩)), (18, .pointer (some ⟨b18, 0, none⟩))]) (fun (m : { n : Nat // n = min cc (namesR s).length }) => [Ce b18 3 [vI m.1], Ce b17 3 [vI cc], Ce b15 3 [vI (namesR s).length], Ce b14 27 [.slice wa (namesR s).length wc'], Ce b13 9 [vS s], Ce b12 4 [vB false]]) rfl (fun m => ?_) ?_
     ·
      obtain ⟨n, hn⟩ := m
      try dsimp only
      refine Za (k:=Dw [Ce b18 3 [vI n], Ce b17 3 [vI cc], Ce b15 3 [vI (namesR s).length], Ce b14 27 [.slice wa (namesR s).length wc'], Ce b13 9 [vS s]] (k:=?_))
      refine Di 0 (t:=Ul) (k:=Di 1 (t:=Ul) (k:=Dv 2 (k:=Dv 3 (k:=Dv 4 (k:=Gd 4 (t:=fun h81 => ?_) (f:=fun h81 => ?_))))))
      ·
       refine Di 5 (t:=U1 (h:=Ul)) (k:=Di 6 (t:=U1 (h:=Ul)) (k:=Di 7 (t:=U1 (h:=Ul)) (k:=Di 8 (t:=U1 (h:=Uv)) (k:=Di 9 (t:=U1 (h:=Uv)) (k:=DP1 10 (k:=Dv 11 (k:=Gd 11 (t:=fun h88 => ?_) (f:=fun h88 => ?_))))))))
       ·
        refine Di 12 (t:=U1 (h:=Ul)) (k:=Di 14 (t:=U1 (h:=Ul)) (k:=Dn 13 (k:=?_)))
        refine an_in (b := true) rfl ?_
        refine an_callF (kind_Of_sp s (by omega)) rfl rfl rfl ?_
        refine Dn 15 (k:=?_)
        refine an_in (b := true) rfl ?_
        refine an_callF (ref10_Kind_sp s (by omega)) rfl rfl rfl ?_
        refine Di 16 (t:=U1 (h:=Uv)) (k:=DP1 17 (k:=Dv 18 (k:=Gd 18 (t:=fun h95 => ?_) (f:=fun h95 => ?_))))
        ·
         refine Di 19 (t:=U1 (h:=Ul)) (k:=Dn 20 (k:=?_))
         refine an_in (b := true) rfl ?_
         refine an_callF (ref1_Sum_sp "nobody speaks of that".toUTF8.data.toList (by decide)) rfl rfl rfl ?_
         refine Dn 21 (k:=?_)
         refine an_in (b := true) rfl ?_
         refine an_callF (kind_Speaks_sp s nobB (by omega)) rfl rfl rfl ?_
         rw [show decide (nobB ∈ namesR s) = false from decide_eq_false hnob]
         refine Di 22 (t:=U1 (h:=Uv)) (k:=DP1 23 (k:=Dv 24 (k:=Dn 25 (k:=?_))))
         refine an_in (b := true) rfl ?_
         refine an_call1 KindRuns_sp rfl rfl rfl ?_
         refine d_first 26 rfl rfl rfl (by kernel_rfl) (by kernel_rfl) (tl_pv (pv_pick_b rfl rfl rfl)) ?_
         refine Dn 27 (k:=No (k:=Dd (k:=Ya (Zt (k:=?_)))))
         refine fin_ret () (vs := [_]) (Cs := [Ce b12 4 [vB true]]) rfl (.cell1 (l := [vB true]) (v := vB true) rfl (shows_ce (T := 4)) Tryz.underlying4 rfl rfl .nil) rfl trivial ?_
         exact ce_norm1 (b := b12) (by rfl) (by first | rfl | (simp; done))
        ·
         exact absurd rfl h95
         --done
       ·
        exfalso; omega
        --done
      ·
       exact absurd rfl h81
       --done
     ·
      refine Qc (k:=Zd (k:=?_))
      refine r_callX (kind_Names_sp s) rfl rfl rfl (fun x70 _ => ?_)
      refine Wq (Zb (k:=?_))
      refine p_rangeFunc (fun pre => [Pu (pre.length < cc), Ce b18 3 [vI pre.length], Ce b17 3 [vI cc], Ce b15 3 [vI (namesR s).length], Ce b14 27 [.slice wa (namesR s).length wc'], Ce b13 9 [vS s], Ce b12 4 [vB false]]) (fun j pre => if j = some 2 then [Pu (pre.length = cc), Ce b18 3 [vI pre.length], Ce b17 3 [vI cc], Ce b15 3 [vI (namesR s).length], Ce b14 27 [.slice wa (namesR s).length wc'], Ce b13 9 [vS s], Ce b12 4 [vB false]] else [Pu False]) rfl (kind_Names_it s (by omega) x70) rfl (fun _ => by rfl) rfl ?_ (fun l pre w3 hok => ?_) ?_ (fun j pre hs => ?_)
      · (refine ent_app (ent_pu (by simp only [List.length_nil]; omega) ?_); exact ent_pick)
      ·
       obtain ⟨rr, hrr⟩ := hok
       refine wc_pu fun hpc => ?_
       refine Zk (k:=Yg (Zb (k:=Qc (k:=Zd (k:=Vv (k:=Zo (k:=Wq (Qc (k:=Zd (k:=?_))))))))))
       refine Zd (k:=Vv (k:=Wq (Zi (t:=fun h76 => ?_) (f:=fun h76 => ?_))))
       ·
        refine Ze (k:=Xo (k:=?_))
        refine to_round_exit 2 ?_
        rw [if_pos rfl, List.length_append, List.length_singleton, show ((pre.length + 1 : Nat) : Int) = (pre.length : Int) + 1 from by omega]
        exact ent_pu (by omega) ent_pick
       ·
        refine Zk (k:=Yb ?_)
        refine to_round (ent_pu ?_ ?_)
        · rw [List.length_append, List.length_singleton]; omega
        · rw [List.length_append, List.length_singleton, show ((pre.length + 1 : Nat) : Int) = (pre.length : Int) + 1 from by omega]; exact ent_pick
      ·
       refine tw_know (A := Pu ((namesR s).length < cc)) .here (fun x => x) (fun hpc => ?_)
       have hjn : (namesR s).length = min cc (namesR s).length := (Nat.min_eq_right (Nat.le_of_lt hpc)).symm
       refine Yb ?_
       exact to_inv ⟨_, hjn⟩ trivial ⟨rfl, rfl, rfl, rfl, rfl, rfl, trivial⟩ ent_pick
      ·
       by_cases hj : j = some 2
       · subst hj
         rw [if_pos rfl]
         refine wc_pu fun hpc => ?_
         have hjn : pre.length = min cc (namesR s).length := by
          obtain ⟨_, r, hr⟩ := hs
          have h1 := congrArg List.length hr
          rw [List.length_append] at h1
          rw [hpc] at h1 ⊢
          exact (Nat.min_eq_left (by omega)).symm
         simp only [List.append_eq, List.cons_append, List.nil_append]
         refine Ze (k:=Xb ?_)
         exact to_inv ⟨_, hjn⟩ trivial ⟨rfl, rfl, rfl, rfl, rfl, rfl, trivial⟩ ent_pick
       · rw [if_neg hj]
         exact wc_no (fun s => by obtain ⟨_, _, _, _, a, _⟩ := s; exact a)
    ·
     exact wc_no (fun s => by obtain ⟨_, _, _, _, a, _⟩ := s; exact a)
  ·
   refine Qc (k:=Vv (k:=?_))
   refine wo_pv (pv_and rfl rfl) rfl ?_
   refine Vv (k:=Wq (Zi (t:=fun h36 => ?_) (f:=fun h36 => ?_)))
   ·
    refine Zr (k:=Qv (k:=Qv (k:=?_)))
    refine wo_pv (pv_slice_tom (m := min raw.length 60) Tryz.underlying9 rfl rfl (by omega) (by omega)) rfl ?_
    refine Zo (k:=Wn ?_)
    exact zb4join6
   ·
    refine Zk (k:=?_)
    exact zb4join6
 ·
  refine Qc (k:=Vv (k:=?_))
  refine wo_pv (pv_and rfl rfl) rfl ?_
  refine Vv (k:=Wq (Zi (t:=fun h23 => ?_) (f:=fun h23 => ?_)))
  ·
   refine Dw [Ce b13 9 [vS s0]] (k:=?_)
   refine Di 0 (t:=Ul) (k:=Dv 1 (k:=Dv 2 (k:=Dv 3 (k:=Dv 4 (k:=Dv 5 (k:=Dv 6 (k:=?_)))))))
   refine d_first 7 rfl rfl rfl (by kernel_rfl) (by kernel_rfl) (tl_pv (pv_slice_tom (m := min raw.length 5) Tryz.underlying9 rfl rfl (by omega) (by omega))) ?_
   refine Dv 8 (k:=Dn 9 (k:=?_))
   refine an_callX (keep_Lines_sp s0 (raw.take (min raw.length 5)) at_ to_ how hs3 (by rw [List.length_take]; omega)) rfl rfl rfl (fun s1 hs1 => ?_)
   refine d_last 10 (by kernel_rfl) rfl (by kernel_rfl) (by kernel_rfl) ?_
   refine No (k:=?_)
   exact zb4join4
  ·
   refine Zk (k:=?_)
   exact zb4join4
end
end Go.Proofs.YtibccdcemcgkeaaGreat
