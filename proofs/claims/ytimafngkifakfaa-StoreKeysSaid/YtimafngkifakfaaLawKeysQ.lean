/- StoreKeys. -/
import Derived.Test.YtimafngkifakfaaQB5
import Derived.Test.YtimafngkifakfaaQB6
import Derived.Test.YtimafngkifakfaaQB7
import Derived.Test.YtimafngkifakfaaQB1
set_option linter.unusedVariables false
set_option maxRecDepth 100000
set_option linter.unusedSimpArgs false
namespace Go.Proofs.Ytimafngkifakfaa
abbrev fst5 : Bs := [102, 105, 114, 115, 116]
abbrev lst4 : Bs := [108, 97, 115, 116]
theorem open400 : openJ (newD 400) = ⟨[], 0, false⟩ := rfl
structure KI (j : Nat) (J : Jn) (K : Ks) (D : Dk) : Prop where
  down : J.down = false
  e : J.e ≤ 6 * j
  l : J.l.length ≤ j
  calm : ∃ f : Int, Calm D 400 f ∧ f ≤ 0 ∧ -(6 * j : Int) ≤ f
  nd : (K.map (·.1)).Nodup
  len : K.length ≤ j
  ok : ∀ p ∈ K, 1 ≤ p.1.length ∧ p.1.length ≤ 60
theorem decN_small' {n : Nat} (h : n < 1000) : (decN n).length ≤ 3 := by
  rw [decN]
  split
  · simp
  · rw [decN]
    split
    · simp
    · rw [decN, if_pos (by omega)]; simp
theorem text_keys {k : Bs} (h : k.length ≤ 60) : (textOf [⟨k, fst5, false⟩, ⟨k, lst4, false⟩]).length ≤ 150 := by
  have h1 := decN_small' (n := k.length) (by omega)
  have h2 := decN_small' (n := 5) (by omega)
  have h3 := decN_small' (n := 4) (by omega)
  simp [textOf, rowText]
  omega
theorem mput_len (ks : Ks) (k : Bs) (v : Value) : (mput ks k v).length ≤ ks.length + 1 := by
  have := congrArg List.length (mput_keys ks k v)
  split at this <;> simp at this <;> omega
theorem mput_ok {ks : Ks} {k : Bs} {v : Value} {φ : Bs → Prop} (h : ∀ p ∈ ks, φ p.1) (hk : φ k) : ∀ p ∈ mput ks k v, φ p.1 := by
  intro p hp
  have : p.1 ∈ (mput ks k v).map (·.1) := List.mem_map_of_mem (f := fun p : Bs × Value => p.1) hp
  rw [mput_keys] at this
  have hm : ∀ x ∈ ks.map (·.1), φ x := fun x hx => by obtain ⟨q, hq, rfl⟩ := List.mem_map.1 hx; exact h q hq
  split at this
  · exact hm _ this
  · rcases List.mem_append.1 this with h | h
    · exact hm _ h
    · simp only [List.mem_singleton] at h; rw [h]; exact hk
theorem commit_keys {j : Nat} {J : Jn} {K : Ks} {D : Dk} (i : KI j J K D) (hj : j < 8) (k : Bs) : ∃ J' K' D' e, commitS J K D [⟨k, fst5, false⟩, ⟨k, lst4, false⟩] = (J', K', D', e) ∧ KI (j + 1) J' K' D' ∧
    ((e = 0 ∧ 1 ≤ k.length ∧ k.length ≤ 60 ∧ K' = mput (mput K k (vS fst5)) k (vS lst4)) ∨ (e = 1 ∧ ¬ (1 ≤ k.length ∧ k.length ≤ 60) ∧ K' = K)) := by
  by_cases h : 1 ≤ k.length ∧ k.length ≤ 60
  · obtain ⟨f, c, f1, f2⟩ := i.calm
    have ht := text_keys h.2
    have hb := piecesS_bound (textOf [⟨k, fst5, false⟩, ⟨k, lst4, false⟩])
    have he := i.e
    obtain ⟨D', e, c'⟩ := commit_calm c i.down (s := textOf [⟨k, fst5, false⟩, ⟨k, lst4, false⟩]) (by omega)
    have hk : k ≠ [] := fun e => by subst e; simp at h
    refine ⟨⟨J.l ++ [textOf [⟨k, fst5, false⟩, ⟨k, lst4, false⟩]], J.e + (piecesS (textOf [⟨k, fst5, false⟩, ⟨k, lst4, false⟩])).length, false⟩, mput (mput K k (vS fst5)) k (vS lst4), D', 0, ?_, ?_, .inl ⟨rfl, h.1, h.2, rfl⟩⟩
    · rw [commitS, if_neg (by simp [mayB, h, hk]), e]
      rfl
    · refine ⟨rfl, ?_, ?_, ⟨_, c', by omega, by omega⟩, mput_nodup (mput_nodup i.nd _ _) _ _, ?_, mput_ok (φ := fun k => 1 ≤ k.length ∧ k.length ≤ 60) (mput_ok (φ := fun k => 1 ≤ k.length ∧ k.length ≤ 60) i.ok h) h⟩
      · dsimp only; omega
      · have := i.l; simp; omega
      · have h1 := congrArg List.length (mput_keys (mput K k (vS fst5)) k (vS lst4))
        have h2 : k ∈ (mput K k (vS fst5)).map (·.1) := mlook_isSome.1 (by rw [mlook_mput]; simp)
        rw [if_pos h2] at h1
        have h3 := mput_len K k (vS fst5)
        have h4 := i.len
        simp at h1; omega
  · refine ⟨J, K, D, 1, ?_, ?_, .inr ⟨rfl, h, rfl⟩⟩
    · rw [commitS, if_pos]
      have : mayB ⟨k, fst5, false⟩ = false := decide_eq_false (fun ⟨a, b⟩ => h ⟨List.length_pos_iff.2 a, b⟩)
      simp [this]
    · obtain ⟨f, c, f1, f2⟩ := i.calm
      have := i.e; have := i.l; have := i.len
      exact ⟨i.down, by omega, by omega, ⟨f, c, by omega, by omega⟩, i.nd, by omega, i.ok⟩
/-- The keys that were met. -/
def metS (K : Ks) : Ks := K.map fun p => (p.1, vB true)
theorem metS_put (K : Ks) (k : Bs) (v : Value) : metS (mput K k v) = mput (metS K) k (vB true) := by
  induction K with
  | nil => rfl
  | cons p r ih =>
    simp only [metS, mput, List.map_cons] at ih ⊢
    by_cases h : p.1 = k
    · simp [h]
    · simp [h, ih]
theorem mput_mput (K : Ks) (k : Bs) (u v : Value) : mput (mput K k u) k v = mput K k v := by
  induction K with
  | nil => simp [mput]
  | cons p r ih =>
    simp only [mput]
    by_cases h : p.1 = k
    · simp [h, mput]
    · simp [h, mput, ih]
theorem metS_look (K : Ks) (k : Bs) : mlook (metS K) k = (mlook K k).map fun _ => vB true := by
  induction K with
  | nil => rfl
  | cons p r ih =>
    simp only [metS, mlook, List.map_cons] at ih ⊢
    by_cases h : p.1 = k
    · simp [h]
    · simp [h, ih]
def lastK (pre : List (Bs × Value)) : Bs := (pre.getLast?.map (·.1)).getD []
theorem lastK_snoc (pre : List (Bs × Value)) (x : Bs × Value) : lastK (pre ++ [x]) = x.1 := by simp [lastK]
theorem lastK_lt {K : Ks} (hn : (K.map (·.1)).Nodup) {pre r : List (Bs × Value)} {x : Bs × Value} (h : fromS K [] = pre ++ x :: r) (hp : 0 < pre.length) : lastK pre < x.1 := by
  have h1 := keysS_lt hn
  have h2 : (fromS K []).map (·.1) = keysS K := by rw [fromS_nil, List.map_map]; simp [Function.comp_def]
  rw [← h2, h] at h1
  rcases List.eq_nil_or_concat pre with e | ⟨l, y, e⟩
  · subst e; simp at hp
  · rw [List.concat_eq_append] at e
    subst e
    rw [lastK_snoc]
    simp only [List.map_append, List.map_cons, List.map_nil, List.append_assoc, List.singleton_append] at h1
    have h3 := (List.pairwise_append.1 h1).2.1
    exact (List.pairwise_cons.1 h3).1 x.1 (by simp)
theorem fromS_nil_len (K : Ks) : (fromS K []).length = K.length := by rw [fromS_nil, List.length_map, keysS_len]
theorem commit_empty (J : Jn) (K : Ks) (D : Dk) : commitS J K D [⟨[], [], false⟩] = (J, K, D, 1) := by rw [commitS, if_pos (by simp [mayB])]
theorem commit_none {j : Nat} {J : Jn} {K : Ks} {D : Dk} (i : KI j J K D) (hj : j ≤ 8) : ∃ J' K' D', commitS J K D [] = (J', K', D', 0) := by
  obtain ⟨f, c, f1, f2⟩ := i.calm
  have he := i.e
  have hp : (piecesS (textOf [])).length = 1 := by rw [show textOf [] = [] from rfl, piecesS_last (by simp)]; rfl
  obtain ⟨D', e, c'⟩ := commit_calm c i.down (s := textOf []) (by omega)
  exact ⟨_, _, _, by rw [commitS, if_neg (by simp), e]⟩
theorem law_StoreKeys (a : Option Addr) (ac : Nat) (keys : List Bs) (cut : Int) (hk : keys.length ≤ 9223372036854775807) (hks : ∀ k ∈ keys, k.length ≤ 9223372036854775807) :
    Sp1 Try.prog 5 [.slice a keys.length ac, vI cut] [SlI a (keys.map vS)] (vB true) [] := by
  refine Sp.body (n := 153) Try.call5 Try.func5 rfl rfl rfl ?_
  refine p_seq rfl ?_
  refine p_region rfl ?_
  refine wo_alloc (zs := [.bool false]) ti4 rfl rfl rfl (fun b4 => ?_)
  refine q_seq ?_
  refine p_seq rfl ?_
  refine p_region rfl ?_
  refine r_callX (disk_New_sp 400) rfl rfl rfl (fun p _ => ?_)
  refine wo_pv (pv_assign rfl) rfl ?_
  refine q_seq ?_
  refine p_seq rfl ?_
  refine p_region rfl ?_
  refine wo_pv (pv_move rfl) rfl ?_
  refine r_callX (store_Open_sp p (newD 400)) rfl rfl rfl (fun s _ => ?_)
  refine wo_pv (pv_assign rfl) rfl ?_
  refine q_seq ?_
  refine p_seq rfl ?_
  refine p_seq rfl ?_
  refine p_region rfl ?_
  refine wo_pv (pv_move rfl) rfl ?_
  refine wo_pv (pv_peql_nil Try.underlying22 rfl rfl) rfl ?_
  refine wo_pv (pv_move rfl) rfl ?_
  first | refine wo_gite (j := 2) rfl rfl (fun h22 => ?_) (fun h22 => ?_) | refine wo_gsplit (j := 2) rfl rfl (fun h22 => ?_) (fun h22 => ?_)
  · -- t22 True
    simp at h22
    --done
  · -- t22 False
    refine wo_in (b := false) rfl ?_
    refine wo_pv (pv_move rfl) rfl ?_
    refine wo_in (b := false) rfl ?_
    refine wo_pv (pv_peql_nil Try.underlying24 rfl rfl) rfl ?_
    refine wo_pv (pv_pick_f rfl rfl) rfl ?_
    refine q_seq ?_
    first | refine p_ite rfl rfl (fun h25 => ?_) (fun h25 => ?_) | refine p_cond rfl rfl (fun h25 => ?_) (fun h25 => ?_)
    · -- t25 True
      simp at h25
      --done
    · -- t25 False
      refine p_skip rfl ?_
      refine t_seq ?_
      refine p_seq rfl ?_
      refine p_region rfl ?_
      refine r_mkmap rfl (fun b26 => ?_)
      refine wo_alloc (zs := [.map none]) ti47 rfl rfl rfl (fun b7 => ?_)
      refine r_store ti47 rfl rfl rfl rfl (by simp; try omega) ?_
      refine q_seq ?_
      refine p_cut (fun (i : { x : Nat × Jn × Ks × Dk // x.1 ≤ 8 ∧ KI x.1 x.2.1 x.2.2.1 x.2.2.2 }) => [(1, vI cut), (4, .pointer (some ⟨b4, 0, none⟩)), (6, .pointer (some ⟨s, 0, none⟩)), (7, .pointer (some ⟨b7, 0, none⟩))]) (fun (i : { x : Nat × Jn × Ks × Dk // x.1 ≤ 8 ∧ KI x.1 x.2.1 x.2.2.1 x.2.2.2 }) => [Ce b4 4 [.bool false], Ce b7 47 [.map (some b26)], MapS b26 (metS i.1.2.2.1), IsS s p i.1.2.1 i.1.2.2.1, IsD p i.1.2.2.2]) rfl (fun i => ?_) ?_
      · -- behind the place 18
        obtain ⟨⟨j, J, K, D⟩, hj8, ki⟩ := i
        dsimp only at hj8 ki ⊢
        obtain ⟨cc, hcc, hc1, hc9⟩ : ∃ m : Nat, withinI cut 1 9 = (m : Int) ∧ 1 ≤ m ∧ m ≤ 9 := by
          have := withinI_in (n := cut) (lo := 1) (hi := 9) (by omega)
          exact ⟨(withinI cut 1 9).toNat, by omega, by omega, by omega⟩
        have hW := book_Within_sp cut 1 9 (by omega) (by omega) (by omega)
        rw [hcc] at hW
        have hKl := ki.len
        have hml : (metS K).length = K.length := by simp [metS]
        have htx : (textOf [⟨[], [], false⟩]).length ≤ 4398046511104 := by
          have h2 := decN_small' (n := 0) (by omega)
          simp [textOf, rowText]; omega
        have hleft : -1152921504606846976 ≤ D.left ∧ D.left ≤ 9223372036854775807 := by
          obtain ⟨f, c, f1, f2⟩ := ki.calm
          rw [c.left]; omega
        have hje : J.e ≤ 1099511627776 := by have := ki.e; omega
        have hjl : J.l.length ≤ 1099511627776 := by have := ki.l; omega
        obtain ⟨J2, K2, D2, hcn⟩ := commit_none ki hj8
        try dsimp only
        refine p_seq rfl ?_
        refine p_region rfl ?_
        refine wo_pv (pv_move rfl) rfl ?_
        refine r_callF hW rfl rfl rfl ?_
        refine wo_alloc (zs := [.int .i64 0]) ti3 rfl rfl rfl (fun b13 => ?_)
        refine r_store ti3 rfl rfl rfl rfl (by simp; try omega) ?_
        refine q_seq ?_
        refine p_seq rfl ?_
        refine p_region rfl ?_
        refine wo_alloc (zs := [.int .i64 0]) ti3 rfl rfl rfl (fun b14 => ?_)
        refine wo_alloc (zs := [vS []]) ti9 rfl rfl rfl (fun b15 => ?_)
        refine r_store ti3 rfl rfl rfl rfl (by simp; try omega) ?_
        refine r_store ti9 rfl rfl rfl rfl (by simp; try omega) ?_
        refine q_seq ?_
        refine p_cut (fun (m : { n : Nat // n = min cc K.length }) => [(4, .pointer (some ⟨b4, 0, none⟩)), (6, .pointer (some ⟨s, 0, none⟩)), (7, .pointer (some ⟨b7, 0, none⟩)), (13, .pointer (some ⟨b13, 0, none⟩)), (14, .pointer (some ⟨b14, 0, none⟩))]) (fun (m : { n : Nat // n = min cc K.length }) => [Ce b4 4 [.bool false], Ce b7 47 [.map (some b26)], MapS b26 (metS K), Ce b13 3 [vI cc], Ce b14 3 [vI m.1], IsS s p J K, IsD p D]) rfl (fun m => ?_) ?_
        · -- behind the place 26
          obtain ⟨n, hn⟩ := m
          try dsimp only
          refine p_seq rfl ?_
          refine d_draw rfl rfl rfl [Ce b14 3 [vI n], Ce b13 3 [vI cc], Ce b7 47 [.map (some b26)], MapS b26 (metS K)] ?_
          refine d_first 0 rfl rfl rfl (by kernel_rfl) (by kernel_rfl) (tl_load Try.underlying3 rfl rfl rfl) ?_
          refine d_first 1 rfl rfl rfl (by kernel_rfl) (by kernel_rfl) (tl_load Try.underlying3 rfl rfl rfl) ?_
          refine d_first 2 rfl rfl rfl (by kernel_rfl) (by kernel_rfl) (tl_load Try.underlying47 rfl rfl rfl) ?_
          refine d_first 3 rfl rfl rfl (by kernel_rfl) (by kernel_rfl) (tl_mlen Try.underlying47 rfl) ?_
          refine d_first 4 rfl rfl rfl (by kernel_rfl) (by kernel_rfl) (tl_pv (pv_call_min rfl rfl)) ?_
          refine d_first 5 rfl rfl rfl (by kernel_rfl) (by kernel_rfl) (tl_pv (pv_eql rfl rfl)) ?_
          refine d_first 6 rfl rfl rfl (by kernel_rfl) (by kernel_rfl) (tl_pv (pv_move rfl)) ?_
          first | refine d_gite (j := 6) rfl rfl (fun h131 => ?_) (fun h131 => ?_) | refine d_gsplit (j := 6) rfl rfl (fun h131 => ?_) (fun h131 => ?_)
          · -- t131 True
            refine d_first 7 rfl rfl rfl (by kernel_rfl) (by kernel_rfl) (tl_in (b := true) rfl (tl_pv (pv_move rfl))) ?_
            refine d_first 9 rfl rfl rfl (by kernel_rfl) (by kernel_rfl) (tl_in (b := true) rfl (tl_load Try.underlying47 rfl rfl rfl)) ?_
            refine d_next 8 (by kernel_rfl) rfl ?_
            refine an_in (b := true) rfl ?_
            refine an_call1 (store_Len_sp s p J K) rfl rfl rfl ?_
            refine d_first 10 rfl rfl rfl (by kernel_rfl) (by kernel_rfl) (tl_in (b := true) rfl (tl_mlen Try.underlying47 rfl)) ?_
            refine d_first 11 rfl rfl rfl (by kernel_rfl) (by kernel_rfl) (tl_in (b := true) rfl (tl_pv (pv_eql rfl rfl))) ?_
            refine d_first 12 rfl rfl rfl (by kernel_rfl) (by kernel_rfl) (tl_pv (pv_pick_t rfl rfl)) ?_
            refine d_first 13 rfl rfl rfl (by kernel_rfl) (by kernel_rfl) (tl_pv (pv_move rfl)) ?_
            first | refine d_gite (j := 13) rfl rfl (fun h138 => ?_) (fun h138 => ?_) | refine d_gsplit (j := 13) rfl rfl (fun h138 => ?_) (fun h138 => ?_)
            · -- t138 True
              refine d_first 14 rfl rfl rfl (by kernel_rfl) (by kernel_rfl) (tl_in (b := true) rfl (tl_pv (pv_move rfl))) ?_
              refine d_first 15 rfl rfl rfl (by kernel_rfl) (by kernel_rfl) (tl_in (b := true) rfl (tl_pv (pv_buildS (vs := [vS [], vS [], .bool false]) Try.underlying29 ti29 rfl rfl rfl rfl rfl))) ?_
              refine d_next 16 (by kernel_rfl) rfl ?_
              refine an_in (b := true) rfl ?_
              refine an_buildSliceL [_] (cs := ([⟨[], [], false⟩] : List Rw).flatMap rowC) Try.underlying38 ti29 rfl rfl rfl rfl rfl rfl rfl rfl (fun b141 => ?_)
              refine d_next 17 (by kernel_rfl) rfl ?_
              refine an_in (b := true) rfl ?_
              refine an_call1 (store_Commit_sp (B := Ce b141 29 (([⟨[], [], false⟩] : List Rw).flatMap rowC)) s p 1 1 J K D [⟨[], [], false⟩] sla_ce rfl (by omega) (fun r hr => by simp at hr; subst hr; simp) htx hleft hje hjl) rfl rfl rfl ?_
              rw [commit_empty]
              refine d_first 18 rfl rfl rfl (by kernel_rfl) (by kernel_rfl) (tl_in (b := true) rfl (tl_pv (pv_eql rfl rfl))) ?_
              refine d_first 19 rfl rfl rfl (by kernel_rfl) (by kernel_rfl) (tl_pv (pv_pick_t rfl rfl)) ?_
              refine d_first 20 rfl rfl rfl (by kernel_rfl) (by kernel_rfl) (tl_pv (pv_move rfl)) ?_
              first | refine d_gite (j := 20) rfl rfl (fun h145 => ?_) (fun h145 => ?_) | refine d_gsplit (j := 20) rfl rfl (fun h145 => ?_) (fun h145 => ?_)
              · -- t145 True
                refine d_first 21 rfl rfl rfl (by kernel_rfl) (by kernel_rfl) (tl_in (b := true) rfl (tl_pv (pv_move rfl))) ?_
                refine d_next 22 (by kernel_rfl) rfl ?_
                refine an_in (b := true) rfl ?_
                refine an_call1 (store_Commit_sp (B := Ce b4 4 [.bool false]) s p 0 0 J K D [] (fun _ => .inl rfl) rfl (by omega) (fun r hr => by simp at hr) (by simp [textOf]) hleft hje hjl) rfl rfl rfl ?_
                rw [hcn]
                refine d_first 23 rfl rfl rfl (by kernel_rfl) (by kernel_rfl) (tl_in (b := true) rfl (tl_pv (pv_eql rfl rfl))) ?_
                refine d_first 24 rfl rfl rfl (by kernel_rfl) (by kernel_rfl) (tl_pv (pv_pick_t rfl rfl)) ?_
                refine d_first 25 rfl rfl rfl (by kernel_rfl) (by kernel_rfl) (tl_pv (pv_move rfl)) ?_
                refine d_next 26 (by kernel_rfl) rfl ?_
                refine an_in (b := true) rfl ?_
                refine an_call1 law_StoreRuns rfl rfl rfl ?_
                refine d_first 27 rfl rfl rfl (by kernel_rfl) (by kernel_rfl) (tl_pv (pv_pick_b rfl rfl rfl)) ?_
                refine d_next 28 (by kernel_rfl) rfl ?_
                refine an_store ti4 rfl rfl rfl rfl (by simp; try omega) ?_
                refine d_done (by kernel_rfl) ?_
                refine t_seq ?_
                refine p_ret rfl ?_
                refine fin_ret () (vs := [_]) (Cs := [Ce b4 4 [vB true]]) rfl (.cell1 (l := [vB true]) (v := vB true) rfl (shows_ce (T := 4)) Try.underlying4 rfl rfl .nil) rfl trivial ?_
                exact ce_norm1 (b := b4) (by rfl) (by first | rfl | (simp; done))
              · -- t145 False
                exact absurd rfl h145
                --done
            · -- t138 False
              exfalso
              rw [hml] at h138
              exact h138 rfl
              --done
          · -- t131 False
            exfalso
            rw [hml, hn] at h131
            omega
            --done
        · -- to the place 26
          refine p_seq rfl ?_
          refine p_region rfl ?_
          refine wo_pv (pv_move rfl) rfl ?_
          refine r_callX (store_All_sp s) rfl rfl rfl (fun x98 _ => ?_)
          refine q_seq ?_
          refine p_block 2 rfl ?_
          refine p_rangeFunc (fun pre => [Pu (pre.length < cc), Ce b4 4 [.bool false], Ce b7 47 [.map (some b26)], MapS b26 (metS K), Ce b13 3 [vI cc], Ce b14 3 [vI pre.length], Ce b15 9 [vS (lastK pre)], IsD p D]) (fun j pre => if j = some 2 then [Pu (pre.length = cc), Ce b4 4 [.bool false], Ce b7 47 [.map (some b26)], MapS b26 (metS K), Ce b13 3 [vI cc], Ce b14 3 [vI pre.length], IsD p D] else [Pu False]) rfl (store_From_it x98.1 x98.2 s p J K [] (by omega)) rfl (fun _ => by rfl) rfl ?_ (fun l pre x hok => ?_) ?_ (fun j pre hs => ?_)
          · (refine ent_app (ent_pu (by simp only [List.length_nil]; omega) ?_); rw [show (([] : List (Bs × Value)).length : Int) = 0 from rfl, show lastK [] = [] from rfl]; exact ent_pick)
          · -- a round
            obtain ⟨k, v⟩ := x
            obtain ⟨r, hr⟩ := hok
            refine wc_pu fun hpc => ?_
            have hkm : k ∈ K.map (·.1) := (fromS_mem (x := (k, v)) (ks := K) (p := []) (by rw [hr]; simp)).1
            have hmk : mlook (metS K) k = some (vB true) := by
              rw [metS_look]
              obtain ⟨u, hu⟩ := Option.isSome_iff_exists.1 (mlook_mem hkm)
              rw [hu]; rfl
            have hlast := lastK_lt ki.nd hr
            refine p_region rfl ?_
            refine wo_pv (pv_assign rfl) rfl ?_
            refine q_asg ?_
            refine p_block 3 rfl ?_
            refine p_seq rfl ?_
            refine p_seq rfl ?_
            refine p_region rfl ?_
            refine r_load Try.underlying47 rfl rfl rfl rfl ?_
            refine wo_pv (pv_move rfl) rfl ?_
            refine r_lookup (v := vB true) Try.underlying47 Try.underlying9 ti4 rfl rfl rfl (by simp only [hmk]; rfl) rfl ?_
            refine wo_pv (by first | exact pv_notd rfl | exact pv_not rfl) rfl ?_
            refine wo_pv (pv_move rfl) rfl ?_
            first | refine wo_gite (j := 4) rfl rfl (fun h105 => ?_) (fun h105 => ?_) | refine wo_gsplit (j := 4) rfl rfl (fun h105 => ?_) (fun h105 => ?_)
            · -- t105 True
              simp at h105
              --done
            · -- t105 False
              refine wo_in (b := false) rfl ?_
              refine r_load Try.underlying3 rfl rfl rfl rfl ?_
              refine wo_in (b := false) rfl ?_
              refine wo_pv (pv_gtr rfl rfl) rfl ?_
              refine wo_in (b := false) rfl ?_
              refine wo_pv (pv_move rfl) rfl ?_
              first | refine wo_gite (j := 7) rfl rfl (fun h108 => ?_) (fun h108 => ?_) | refine wo_gsplit (j := 7) rfl rfl (fun h108 => ?_) (fun h108 => ?_)
              · -- t108 True
                refine wo_in (b := true) rfl ?_
                refine wo_pv (pv_move rfl) rfl ?_
                refine wo_in (b := true) rfl ?_
                refine r_load Try.underlying9 rfl rfl rfl rfl ?_
                refine wo_in (b := true) rfl ?_
                refine wo_pv (pv_sleq rfl rfl) rfl ?_
                refine wo_in (b := false) rfl ?_
                refine wo_pv (pv_pick_t rfl rfl) rfl ?_
                refine wo_pv (pv_pick_f rfl rfl) rfl ?_
                refine wo_pv (pv_move rfl) rfl ?_
                first | refine wo_gite (j := 13) rfl rfl (fun h114 => ?_) (fun h114 => ?_) | refine wo_gsplit (j := 13) rfl rfl (fun h114 => ?_) (fun h114 => ?_)
                · -- t114 True
                  exfalso
                  have h1 := hlast (by omega)
                  rw [blt_eq] at h114
                  simp only [Bool.or_eq_true, decide_eq_true_eq] at h114
                  rcases h114 with h2 | h2
                  · exact absurd (Std.lt_trans h1 h2) (List.lt_irrefl _)
                  · rw [h2] at h1; exact absurd h1 (List.lt_irrefl _)
                  --done
                · -- t114 False
                  refine wo_in (b := false) rfl ?_
                  refine r_load Try.underlying3 rfl rfl rfl rfl ?_
                  refine wo_in (b := false) rfl ?_
                  refine r_load Try.underlying3 rfl rfl rfl rfl ?_
                  refine wo_in (b := false) rfl ?_
                  refine wo_pv (pv_geq rfl rfl) rfl ?_
                  refine wo_pv (pv_pick_f rfl rfl) rfl ?_
                  refine q_seq ?_
                  first | refine p_ite rfl rfl (fun h118 => ?_) (fun h118 => ?_) | refine p_cond rfl rfl (fun h118 => ?_) (fun h118 => ?_)
                  · -- t118 True
                    exfalso; omega
                    --done
                  · -- t118 False
                    refine p_skip rfl ?_
                    refine t_seq ?_
                    refine p_seq rfl ?_
                    refine p_region rfl ?_
                    refine r_load Try.underlying3 rfl rfl rfl rfl ?_
                    refine wo_pv (pv_add rfl rfl (by omega)) rfl ?_
                    refine wo_pv (pv_move rfl) rfl ?_
                    refine r_store ti3 rfl rfl rfl rfl (by simp; try omega) ?_
                    refine r_store ti9 rfl rfl rfl rfl (by simp; try omega) ?_
                    refine q_seq ?_
                    refine p_seq rfl ?_
                    refine p_region rfl ?_
                    refine r_load Try.underlying3 rfl rfl rfl rfl ?_
                    refine r_load Try.underlying3 rfl rfl rfl rfl ?_
                    refine wo_pv (pv_eql rfl rfl) rfl ?_
                    refine q_seq ?_
                    first | refine p_ite rfl rfl (fun h124 => ?_) (fun h124 => ?_) | refine p_cond rfl rfl (fun h124 => ?_) (fun h124 => ?_)
                    · -- t124 True
                      refine p_exit 2 rfl ?_
                      refine to_block_other rfl ?_
                      refine to_round_exit 2 ?_
                      rw [if_pos rfl, List.length_append, List.length_singleton, show ((pre.length + 1 : Nat) : Int) = (pre.length : Int) + 1 from by omega]
                      exact ent_pu (by omega) ent_pick
                    · -- t124 False
                      refine p_skip rfl ?_
                      refine to_block ?_
                      refine to_round (ent_pu ?_ ?_)
                      · rw [List.length_append, List.length_singleton]; omega
                      · rw [List.length_append, List.length_singleton, lastK_snoc, show ((pre.length + 1 : Nat) : Int) = (pre.length : Int) + 1 from by omega]; exact ent_pick
              · -- t108 False
                refine wo_out (b := false) rfl rfl rfl ?_
                refine wo_out (b := false) rfl rfl rfl ?_
                refine wo_out (b := false) rfl rfl rfl ?_
                refine wo_in (b := false) rfl ?_
                refine wo_pv (pv_pick_f rfl rfl) rfl ?_
                refine wo_pv (pv_pick_f rfl rfl) rfl ?_
                refine wo_pv (pv_move rfl) rfl ?_
                refine wo_in (b := false) rfl ?_
                refine r_load Try.underlying3 rfl rfl rfl rfl ?_
                refine wo_in (b := false) rfl ?_
                refine r_load Try.underlying3 rfl rfl rfl rfl ?_
                refine wo_in (b := false) rfl ?_
                refine wo_pv (pv_geq rfl rfl) rfl ?_
                refine wo_pv (pv_pick_f rfl rfl) rfl ?_
                refine q_seq ?_
                first | refine p_ite rfl rfl (fun h118 => ?_) (fun h118 => ?_) | refine p_cond rfl rfl (fun h118 => ?_) (fun h118 => ?_)
                · -- t118 True
                  exfalso; omega
                  --done
                · -- t118 False
                  refine p_skip rfl ?_
                  refine t_seq ?_
                  refine p_seq rfl ?_
                  refine p_region rfl ?_
                  refine r_load Try.underlying3 rfl rfl rfl rfl ?_
                  refine wo_pv (pv_add rfl rfl (by omega)) rfl ?_
                  refine wo_pv (pv_move rfl) rfl ?_
                  refine r_store ti3 rfl rfl rfl rfl (by simp; try omega) ?_
                  refine r_store ti9 rfl rfl rfl rfl (by simp; try omega) ?_
                  refine q_seq ?_
                  refine p_seq rfl ?_
                  refine p_region rfl ?_
                  refine r_load Try.underlying3 rfl rfl rfl rfl ?_
                  refine r_load Try.underlying3 rfl rfl rfl rfl ?_
                  refine wo_pv (pv_eql rfl rfl) rfl ?_
                  refine q_seq ?_
                  first | refine p_ite rfl rfl (fun h124 => ?_) (fun h124 => ?_) | refine p_cond rfl rfl (fun h124 => ?_) (fun h124 => ?_)
                  · -- t124 True
                    refine p_exit 2 rfl ?_
                    refine to_block_other rfl ?_
                    refine to_round_exit 2 ?_
                    rw [if_pos rfl, List.length_append, List.length_singleton, show ((pre.length + 1 : Nat) : Int) = (pre.length : Int) + 1 from by omega]
                    exact ent_pu (by omega) ent_pick
                  · -- t124 False
                    refine p_skip rfl ?_
                    refine to_block ?_
                    refine to_round (ent_pu ?_ ?_)
                    · rw [List.length_append, List.length_singleton]; omega
                    · rw [List.length_append, List.length_singleton, lastK_snoc, show ((pre.length + 1 : Nat) : Int) = (pre.length : Int) + 1 from by omega]; exact ent_pick
          · -- behind
            refine tw_know (A := Pu ((fromS K []).length < cc)) .here (fun x => x) (fun hpc => ?_)
            have hjn : (fromS K []).length = min cc K.length := by have h9 := fromS_nil_len K; rw [h9] at hpc ⊢; exact (Nat.min_eq_right (Nat.le_of_lt hpc)).symm
            refine to_block ?_
            exact to_inv ⟨_, hjn⟩ trivial ⟨rfl, rfl, rfl, rfl, rfl, trivial⟩ ent_pick
          · -- stopped
            by_cases hj : j = some 2
            · subst hj
              rw [if_pos rfl]
              refine wc_pu fun hpc => ?_
              have hjn : pre.length = min cc K.length := by
                obtain ⟨_, r, hr⟩ := hs
                have h1 := congrArg List.length hr
                rw [fromS_nil_len, List.length_append] at h1
                rw [hpc] at h1 ⊢
                exact (Nat.min_eq_left (by omega)).symm
              simp only [List.append_eq, List.cons_append, List.nil_append]
              refine p_exit 2 rfl ?_
              refine to_block_here ?_
              exact to_inv ⟨_, hjn⟩ trivial ⟨rfl, rfl, rfl, rfl, rfl, trivial⟩ ent_pick
            · rw [if_neg hj]
              exact wc_no (fun s => by obtain ⟨_, _, _, _, a, _⟩ := s; exact a)
      · -- to the place 18
        refine p_seq rfl ?_
        refine p_region rfl ?_
        refine wo_pv (pv_assign rfl) rfl ?_
        refine q_seq ?_
        refine p_block 0 rfl ?_
        refine p_loop (fun (i : { x : Nat × Jn × Ks × Dk // x.1 ≤ keys.length ∧ x.1 ≤ 8 ∧ KI x.1 x.2.1 x.2.2.1 x.2.2.2 }) => [(0, .slice a keys.length ac), (1, vI cut), (4, .pointer (some ⟨b4, 0, none⟩)), (6, .pointer (some ⟨s, 0, none⟩)), (7, .pointer (some ⟨b7, 0, none⟩)), (8, vI i.1.1)]) (fun (i : { x : Nat × Jn × Ks × Dk // x.1 ≤ keys.length ∧ x.1 ≤ 8 ∧ KI x.1 x.2.1 x.2.2.1 x.2.2.2 }) => [Ce b4 4 [.bool false], Ce b7 47 [.map (some b26)], MapS b26 (metS i.1.2.2.1), IsS s p i.1.2.1 i.1.2.2.1, IsD p i.1.2.2.2, SlI a (keys.map vS)]) (fun (i : { x : Nat × Jn × Ks × Dk // x.1 ≤ keys.length ∧ x.1 ≤ 8 ∧ KI x.1 x.2.1 x.2.2.1 x.2.2.2 }) => 8 - i.1.1) rfl (⟨(0, ⟨[], 0, false⟩, [], newD 400), Nat.zero_le _, Nat.zero_le _, ⟨rfl, by simp, by simp, ⟨0, calm_newD (n := 400) (by omega) (by omega), by omega, by omega⟩, by simp, by simp, by simp⟩⟩) ?_ ?_ (fun i => ?_)
        · exact ⟨rfl, rfl, rfl, rfl, rfl, rfl, trivial⟩
        · -- H at start
          dsimp only
          rw [open400, show metS [] = [] from rfl, show openK (⟨[], 0, false⟩ : Jn).l = [] from rfl]
          exact ent_pick
        obtain ⟨⟨j, J, K, D⟩, hj, hj8, ki⟩ := i
        dsimp only at hj hj8 ki
        try dsimp only
        refine p_seq rfl ?_
        refine p_seq rfl ?_
        refine p_region rfl ?_
        refine wo_pv (pv_move rfl) rfl ?_
        refine wo_pv (pv_move rfl) rfl ?_
        refine wo_pv (pv_call_len_sl Try.underlying46 rfl) rfl ?_
        refine wo_pv (pv_lss rfl rfl) rfl ?_
        refine wo_pv (pv_move rfl) rfl ?_
        first | refine wo_gite (j := 4) rfl rfl (fun h31 => ?_) (fun h31 => ?_) | refine wo_gsplit (j := 4) rfl rfl (fun h31 => ?_) (fun h31 => ?_)
        · -- t31 True
          refine wo_in (b := true) rfl ?_
          refine wo_pv (pv_move rfl) rfl ?_
          refine wo_in (b := true) rfl ?_
          refine wo_pv (pv_lss rfl rfl) rfl ?_
          refine wo_pv (pv_pick_t rfl rfl) rfl ?_
          refine q_seq ?_
          first | refine p_ite rfl rfl (fun h34 => ?_) (fun h34 => ?_) | refine p_cond rfl rfl (fun h34 => ?_) (fun h34 => ?_)
          · -- t34 True
            refine p_skip rfl ?_
            refine t_seq ?_
            refine p_seq rfl ?_
            refine p_block 1 rfl ?_
            refine p_seq rfl ?_
            have hjl : j < keys.length := by omega
            have hkl := hks _ (List.getElem_mem hjl)
            refine d_draw rfl rfl rfl [SlI a (keys.map vS)] ?_
            refine d_first 0 rfl rfl rfl (by kernel_rfl) (by kernel_rfl) (tl_pv (pv_move rfl)) ?_
            refine d_first 1 rfl rfl rfl (by kernel_rfl) (by kernel_rfl) (tl_pv (pv_move rfl)) ?_
            refine d_first 2 rfl rfl rfl (by kernel_rfl) (by kernel_rfl) (tl_elemAddr (sz := 1) Try.underlying46 ti9 rfl rfl rfl rfl (by omega) (by first | (rw [List.length_map]; omega) | (rw [flat_len (sz := 1) (fun _ => rfl)]; omega) | (simp; omega)) (Nat.mul_one _)) ?_
            refine d_first 3 rfl rfl rfl (by kernel_rfl) (by kernel_rfl) (tl_eload Try.underlying9 rfl rfl (get_map (by omega))) ?_
            refine d_first 4 rfl rfl rfl (by kernel_rfl) (by kernel_rfl) (tl_pv (pv_move rfl)) ?_
            refine d_first 5 rfl rfl rfl (by kernel_rfl) (by kernel_rfl) (tl_pv (pv_move rfl)) ?_
            refine d_first 6 rfl rfl rfl (by kernel_rfl) (by kernel_rfl) (tl_elemAddr (sz := 1) Try.underlying46 ti9 rfl rfl rfl rfl (by omega) (by first | (rw [List.length_map]; omega) | (rw [flat_len (sz := 1) (fun _ => rfl)]; omega) | (simp; omega)) (Nat.mul_one _)) ?_
            refine d_first 7 rfl rfl rfl (by kernel_rfl) (by kernel_rfl) (tl_eload Try.underlying9 rfl rfl (get_map (by omega))) ?_
            refine d_first 8 rfl rfl rfl (by kernel_rfl) (by kernel_rfl) (tl_pv (pv_call_len_s Try.underlying9 rfl)) ?_
            refine d_first 9 rfl rfl rfl (by kernel_rfl) (by kernel_rfl) (tl_pv (pv_call_min rfl rfl)) ?_
            refine d_first 10 rfl rfl rfl (by kernel_rfl) (by kernel_rfl) (tl_pv (pv_slice_tom (m := min keys[j].length 62) Try.underlying9 rfl rfl (by omega) (by omega))) ?_
            refine d_first 11 rfl rfl rfl (by kernel_rfl) (by kernel_rfl) (tl_pv (pv_assign rfl)) ?_
            refine d_done (by kernel_rfl) ?_
            refine t_seq ?_
            refine p_seq rfl ?_
            have hkm : (keys[j].take (min keys[j].length 62)).length ≤ 62 := by rw [List.length_take]; omega
            generalize keys[j].take (min keys[j].length 62) = k at hkm ⊢
            obtain ⟨J', K', D', e, hc, ki', hcase⟩ := commit_keys ki (by omega) k
            obtain ⟨f, hcalm, hf1, hf2⟩ := ki.calm
            have hcl := hcalm.left
            have hje := ki.e
            have hjl2 := ki.l
            have htl : (textOf [⟨k, fst5, false⟩, ⟨k, lst4, false⟩]).length ≤ 200 := by
              have h1 := decN_small' (n := k.length) (by omega)
              have h2 := decN_small' (n := 5) (by omega)
              have h3 := decN_small' (n := 4) (by omega)
              simp [textOf, rowText]; omega
            refine p_region rfl ?_
            refine wo_pv (pv_move rfl) rfl ?_
            refine wo_pv (pv_move rfl) rfl ?_
            refine wo_pv (pv_buildS (vs := [_, _, .bool false]) Try.underlying29 ti29 rfl rfl rfl rfl rfl) rfl ?_
            refine wo_pv (pv_move rfl) rfl ?_
            refine wo_pv (pv_buildS (vs := [_, _, .bool false]) Try.underlying29 ti29 rfl rfl rfl rfl rfl) rfl ?_
            refine r_buildSliceL [_, _] (cs := [_, _, _, _, _, _]) Try.underlying38 ti29 rfl rfl rfl rfl rfl rfl rfl rfl (fun b53 => ?_)
            refine wo_ent' (ce_norm (b := b53) (T := 29) (l' := ([⟨k, fst5, false⟩, ⟨k, lst4, false⟩] : List Rw).flatMap rowC) (by rfl) (by rfl)) ?_
            refine r_call1 (store_Commit_sp (B := Ce b53 29 (([⟨k, fst5, false⟩, ⟨k, lst4, false⟩] : List Rw).flatMap rowC)) s p 2 2 J K D [⟨k, fst5, false⟩, ⟨k, lst4, false⟩] sla_ce rfl (by omega) (fun r hr => by simp at hr; rcases hr with rfl | rfl <;> dsimp only <;> simp <;> omega) (by omega) (by rw [hcl]; omega) (by omega) (by omega)) rfl rfl rfl ?_
            rw [hc]
            dsimp only
            refine wo_pv (pv_assign rfl) rfl ?_
            refine q_seq ?_
            refine p_seq rfl ?_
            refine p_seq rfl ?_
            refine p_region rfl ?_
            refine wo_pv (pv_move rfl) rfl ?_
            refine wo_pv (pv_eql rfl rfl) rfl ?_
            refine wo_pv (pv_move rfl) rfl ?_
            refine wo_pv (pv_call_len_s Try.underlying9 rfl) rfl ?_
            refine wo_pv (pv_geq rfl rfl) rfl ?_
            refine wo_pv (pv_move rfl) rfl ?_
            first | refine wo_gite (j := 5) rfl rfl (fun h60 => ?_) (fun h60 => ?_) | refine wo_gsplit (j := 5) rfl rfl (fun h60 => ?_) (fun h60 => ?_)
            · -- t60 True
              refine wo_in (b := true) rfl ?_
              refine wo_pv (pv_move rfl) rfl ?_
              refine wo_in (b := true) rfl ?_
              refine wo_pv (pv_call_len_s Try.underlying9 rfl) rfl ?_
              refine wo_in (b := true) rfl ?_
              refine wo_pv (pv_leq rfl rfl) rfl ?_
              refine wo_pv (pv_pick_t rfl rfl) rfl ?_
              refine wo_pv (pv_bneq Try.underlying4 rfl rfl) rfl ?_
              refine wo_pv (pv_move rfl) rfl ?_
              first | refine wo_gite (j := 11) rfl rfl (fun h66 => ?_) (fun h66 => ?_) | refine wo_gsplit (j := 11) rfl rfl (fun h66 => ?_) (fun h66 => ?_)
              · -- t66 True
                exfalso
                rcases hcase with ⟨rfl, h1, h2, _⟩ | ⟨rfl, h1, _⟩
                · revert h66; simp; try omega
                · revert h66; simp; try omega
                --done
              · -- t66 False
                refine wo_in (b := false) rfl ?_
                refine wo_pv (pv_move rfl) rfl ?_
                refine wo_in (b := false) rfl ?_
                refine wo_pv (pv_neq rfl rfl) rfl ?_
                refine wo_in (b := false) rfl ?_
                refine wo_pv (pv_move rfl) rfl ?_
                first | refine wo_gite (j := 14) rfl rfl (fun h69 => ?_) (fun h69 => ?_) | refine wo_gsplit (j := 14) rfl rfl (fun h69 => ?_) (fun h69 => ?_)
                · -- t69 True
                  refine wo_in (b := true) rfl ?_
                  refine wo_pv (pv_move rfl) rfl ?_
                  refine wo_in (b := true) rfl ?_
                  refine wo_pv (pv_neq rfl rfl) rfl ?_
                  refine wo_in (b := false) rfl ?_
                  refine wo_pv (pv_pick_t rfl rfl) rfl ?_
                  refine wo_pv (pv_pick_f rfl rfl) rfl ?_
                  refine q_seq ?_
                  first | refine p_ite rfl rfl (fun h73 => ?_) (fun h73 => ?_) | refine p_cond rfl rfl (fun h73 => ?_) (fun h73 => ?_)
                  · -- t73 True
                    exfalso
                    rcases hcase with ⟨rfl, h1, h2, _⟩ | ⟨rfl, h1, _⟩
                    · omega
                    · omega
                    --done
                  · -- t73 False
                    refine p_skip rfl ?_
                    refine t_seq ?_
                    refine p_seq rfl ?_
                    refine p_seq rfl ?_
                    obtain ⟨lv, hlv, hlk, hl4⟩ : ∃ lv : Bs, (mlook K' k).getD (vS []) = vS lv ∧ (mlook K' k).isSome = decide ((e : Int) = 0) ∧ (e = 0 → lv = lst4) := by
                      rcases hcase with ⟨rfl, h1, h2, rfl⟩ | ⟨rfl, h1, rfl⟩
                      · exact ⟨lst4, by rw [mlook_mput, if_pos rfl]; rfl, by rw [mlook_mput, if_pos rfl]; rfl, fun _ => rfl⟩
                      · have : mlook K' k = none := mlook_none (fun hm => by obtain ⟨q, hq, hq2⟩ := List.mem_map.1 hm; have := ki.ok q hq; rw [hq2] at this; exact h1 this)
                        exact ⟨[], by rw [this]; rfl, by rw [this]; rfl, fun h => by omega⟩
                    refine p_region rfl ?_
                    refine wo_pv (pv_move rfl) rfl ?_
                    refine wo_pv (pv_eql rfl rfl) rfl ?_
                    refine q_seq ?_
                    first | refine p_ite rfl rfl (fun h75 => ?_) (fun h75 => ?_) | refine p_cond rfl rfl (fun h75 => ?_) (fun h75 => ?_)
                    · -- t75 True
                      have hmet : metS K' = mput (metS K) k (vB true) := by
                        rcases hcase with ⟨_, h1, h2, h3⟩ | ⟨h0, _⟩
                        · rw [h3, metS_put, metS_put, mput_mput]
                        · omega
                      refine p_region rfl ?_
                      refine r_load Try.underlying47 rfl rfl rfl rfl ?_
                      refine wo_pv (pv_move rfl) rfl ?_
                      refine r_mapUpdate Try.underlying47 Try.underlying9 rfl rfl rfl ?_
                      refine q_seq ?_
                      refine p_seq rfl ?_
                      refine p_region rfl ?_
                      refine wo_pv (pv_move rfl) rfl ?_
                      refine wo_pv (pv_move rfl) rfl ?_
                      have hgt : Sp1 Try.prog 11 [.pointer (some ⟨s, 0, none⟩), vS k] [IsS s p J' K'] (.tuple #[(mlook K' k).getD (vS []), vB (mlook K' k).isSome]) [IsS s p J' K'] := store_Get_sp s p J' K' k
                      rw [hlv, hlk] at hgt
                      refine r_call1 hgt rfl rfl rfl ?_
                      refine wo_pv (pv_move rfl) rfl ?_
                      refine wo_pv (pv_extract rfl rfl) rfl ?_
                      refine wo_pv (pv_extract rfl rfl) rfl ?_
                      refine wo_pv (pv_assign rfl) rfl ?_
                      refine wo_pv (pv_assign rfl) rfl ?_
                      refine q_seq ?_
                      refine p_seq rfl ?_
                      refine p_region rfl ?_
                      refine wo_pv (pv_move rfl) rfl ?_
                      refine wo_pv (pv_move rfl) rfl ?_
                      refine wo_pv (pv_eql rfl rfl) rfl ?_
                      refine wo_pv (pv_bneq Try.underlying4 rfl rfl) rfl ?_
                      refine wo_pv (pv_move rfl) rfl ?_
                      first | refine wo_gite (j := 4) rfl rfl (fun h88 => ?_) (fun h88 => ?_) | refine wo_gsplit (j := 4) rfl rfl (fun h88 => ?_) (fun h88 => ?_)
                      · -- t88 True
                        simp at h88
                        --done
                      · -- t88 False
                        refine wo_in (b := false) rfl ?_
                        refine wo_pv (pv_move rfl) rfl ?_
                        refine wo_in (b := false) rfl ?_
                        refine wo_pv (pv_move rfl) rfl ?_
                        first | refine wo_gite (j := 6) rfl rfl (fun h90 => ?_) (fun h90 => ?_) | refine wo_gsplit (j := 6) rfl rfl (fun h90 => ?_) (fun h90 => ?_)
                        · -- t90 True
                          have he0 : e = 0 := by simpa using h90
                          have hl5 := hl4 he0
                          refine wo_in (b := true) rfl ?_
                          refine wo_pv (pv_move rfl) rfl ?_
                          refine wo_in (b := true) rfl ?_
                          refine wo_pv (pv_sneq rfl rfl) rfl ?_
                          refine wo_in (b := false) rfl ?_
                          refine wo_pv (pv_pick_t rfl rfl) rfl ?_
                          refine wo_pv (pv_pick_f rfl rfl) rfl ?_
                          refine q_seq ?_
                          first | refine p_ite rfl rfl (fun h94 => ?_) (fun h94 => ?_) | refine p_cond rfl rfl (fun h94 => ?_) (fun h94 => ?_)
                          · -- t94 True
                            first | exact absurd hl5 h94 | (exfalso; exact h94 hl5)
                            --done
                          · -- t94 False
                            refine p_skip rfl ?_
                            refine to_block ?_
                            refine t_seq ?_
                            refine p_region rfl ?_
                            refine wo_pv (pv_move rfl) rfl ?_
                            refine wo_pv (pv_add rfl rfl (by omega)) rfl ?_
                            refine wo_pv (pv_assign rfl) rfl ?_
                            refine wo_nil ?_
                            refine to_inv ⟨(j + 1, J', K', D'), by dsimp only; omega, by dsimp only; omega, ki'⟩ (by dsimp only; omega) ⟨rfl, rfl, rfl, rfl, rfl, rfl, trivial⟩ ?_
                            dsimp only
                            rw [hmet]
                            exact ent_pick
                        · -- t90 False
                          refine wo_out (b := false) rfl rfl rfl ?_
                          refine wo_out (b := false) rfl rfl rfl ?_
                          refine wo_in (b := false) rfl ?_
                          refine wo_pv (pv_pick_f rfl rfl) rfl ?_
                          refine wo_pv (pv_pick_f rfl rfl) rfl ?_
                          refine q_seq ?_
                          refine p_false rfl rfl ?_
                          refine p_skip rfl ?_
                          refine to_block ?_
                          refine t_seq ?_
                          refine p_region rfl ?_
                          refine wo_pv (pv_move rfl) rfl ?_
                          refine wo_pv (pv_add rfl rfl (by omega)) rfl ?_
                          refine wo_pv (pv_assign rfl) rfl ?_
                          refine wo_nil ?_
                          refine to_inv ⟨(j + 1, J', K', D'), by dsimp only; omega, by dsimp only; omega, ki'⟩ (by dsimp only; omega) ⟨rfl, rfl, rfl, rfl, rfl, rfl, trivial⟩ ?_
                          dsimp only
                          rw [hmet]
                          exact ent_pick
                    · -- t75 False
                      have hmet : metS K' = metS K := by
                        rcases hcase with ⟨h0, _⟩ | ⟨_, _, h3⟩
                        · omega
                        · rw [h3]
                      refine p_skip rfl ?_
                      refine t_seq ?_
                      refine p_seq rfl ?_
                      refine p_region rfl ?_
                      refine wo_pv (pv_move rfl) rfl ?_
                      refine wo_pv (pv_move rfl) rfl ?_
                      have hgt : Sp1 Try.prog 11 [.pointer (some ⟨s, 0, none⟩), vS k] [IsS s p J' K'] (.tuple #[(mlook K' k).getD (vS []), vB (mlook K' k).isSome]) [IsS s p J' K'] := store_Get_sp s p J' K' k
                      rw [hlv, hlk] at hgt
                      refine r_call1 hgt rfl rfl rfl ?_
                      refine wo_pv (pv_move rfl) rfl ?_
                      refine wo_pv (pv_extract rfl rfl) rfl ?_
                      refine wo_pv (pv_extract rfl rfl) rfl ?_
                      refine wo_pv (pv_assign rfl) rfl ?_
                      refine wo_pv (pv_assign rfl) rfl ?_
                      refine q_seq ?_
                      refine p_seq rfl ?_
                      refine p_region rfl ?_
                      refine wo_pv (pv_move rfl) rfl ?_
                      refine wo_pv (pv_move rfl) rfl ?_
                      refine wo_pv (pv_eql rfl rfl) rfl ?_
                      refine wo_pv (pv_bneq Try.underlying4 rfl rfl) rfl ?_
                      refine wo_pv (pv_move rfl) rfl ?_
                      first | refine wo_gite (j := 4) rfl rfl (fun h88 => ?_) (fun h88 => ?_) | refine wo_gsplit (j := 4) rfl rfl (fun h88 => ?_) (fun h88 => ?_)
                      · -- t88 True
                        simp at h88
                        --done
                      · -- t88 False
                        refine wo_in (b := false) rfl ?_
                        refine wo_pv (pv_move rfl) rfl ?_
                        refine wo_in (b := false) rfl ?_
                        refine wo_pv (pv_move rfl) rfl ?_
                        first | refine wo_gite (j := 6) rfl rfl (fun h90 => ?_) (fun h90 => ?_) | refine wo_gsplit (j := 6) rfl rfl (fun h90 => ?_) (fun h90 => ?_)
                        · -- t90 True
                          have he0 : e = 0 := by simpa using h90
                          have hl5 := hl4 he0
                          refine wo_in (b := true) rfl ?_
                          refine wo_pv (pv_move rfl) rfl ?_
                          refine wo_in (b := true) rfl ?_
                          refine wo_pv (pv_sneq rfl rfl) rfl ?_
                          refine wo_in (b := false) rfl ?_
                          refine wo_pv (pv_pick_t rfl rfl) rfl ?_
                          refine wo_pv (pv_pick_f rfl rfl) rfl ?_
                          refine q_seq ?_
                          first | refine p_ite rfl rfl (fun h94 => ?_) (fun h94 => ?_) | refine p_cond rfl rfl (fun h94 => ?_) (fun h94 => ?_)
                          · -- t94 True
                            first | exact absurd hl5 h94 | (exfalso; exact h94 hl5)
                            --done
                          · -- t94 False
                            refine p_skip rfl ?_
                            refine to_block ?_
                            refine t_seq ?_
                            refine p_region rfl ?_
                            refine wo_pv (pv_move rfl) rfl ?_
                            refine wo_pv (pv_add rfl rfl (by omega)) rfl ?_
                            refine wo_pv (pv_assign rfl) rfl ?_
                            refine wo_nil ?_
                            refine to_inv ⟨(j + 1, J', K', D'), by dsimp only; omega, by dsimp only; omega, ki'⟩ (by dsimp only; omega) ⟨rfl, rfl, rfl, rfl, rfl, rfl, trivial⟩ ?_
                            dsimp only
                            rw [hmet]
                            exact ent_pick
                        · -- t90 False
                          refine wo_out (b := false) rfl rfl rfl ?_
                          refine wo_out (b := false) rfl rfl rfl ?_
                          refine wo_in (b := false) rfl ?_
                          refine wo_pv (pv_pick_f rfl rfl) rfl ?_
                          refine wo_pv (pv_pick_f rfl rfl) rfl ?_
                          refine q_seq ?_
                          refine p_false rfl rfl ?_
                          refine p_skip rfl ?_
                          refine to_block ?_
                          refine t_seq ?_
                          refine p_region rfl ?_
                          refine wo_pv (pv_move rfl) rfl ?_
                          refine wo_pv (pv_add rfl rfl (by omega)) rfl ?_
                          refine wo_pv (pv_assign rfl) rfl ?_
                          refine wo_nil ?_
                          refine to_inv ⟨(j + 1, J', K', D'), by dsimp only; omega, by dsimp only; omega, ki'⟩ (by dsimp only; omega) ⟨rfl, rfl, rfl, rfl, rfl, rfl, trivial⟩ ?_
                          dsimp only
                          rw [hmet]
                          exact ent_pick
                · -- t69 False
                  refine wo_out (b := false) rfl rfl rfl ?_
                  refine wo_out (b := false) rfl rfl rfl ?_
                  refine wo_in (b := false) rfl ?_
                  refine wo_pv (pv_pick_f rfl rfl) rfl ?_
                  refine wo_pv (pv_pick_f rfl rfl) rfl ?_
                  refine q_seq ?_
                  refine p_false rfl rfl ?_
                  refine p_skip rfl ?_
                  refine t_seq ?_
                  refine p_seq rfl ?_
                  refine p_seq rfl ?_
                  obtain ⟨lv, hlv, hlk, hl4⟩ : ∃ lv : Bs, (mlook K' k).getD (vS []) = vS lv ∧ (mlook K' k).isSome = decide ((e : Int) = 0) ∧ (e = 0 → lv = lst4) := by
                    rcases hcase with ⟨rfl, h1, h2, rfl⟩ | ⟨rfl, h1, rfl⟩
                    · exact ⟨lst4, by rw [mlook_mput, if_pos rfl]; rfl, by rw [mlook_mput, if_pos rfl]; rfl, fun _ => rfl⟩
                    · have : mlook K' k = none := mlook_none (fun hm => by obtain ⟨q, hq, hq2⟩ := List.mem_map.1 hm; have := ki.ok q hq; rw [hq2] at this; exact h1 this)
                      exact ⟨[], by rw [this]; rfl, by rw [this]; rfl, fun h => by omega⟩
                  refine p_region rfl ?_
                  refine wo_pv (pv_move rfl) rfl ?_
                  refine wo_pv (pv_eql rfl rfl) rfl ?_
                  refine q_seq ?_
                  first | refine p_ite rfl rfl (fun h75 => ?_) (fun h75 => ?_) | refine p_cond rfl rfl (fun h75 => ?_) (fun h75 => ?_)
                  · -- t75 True
                    have hmet : metS K' = mput (metS K) k (vB true) := by
                      rcases hcase with ⟨_, h1, h2, h3⟩ | ⟨h0, _⟩
                      · rw [h3, metS_put, metS_put, mput_mput]
                      · omega
                    refine p_region rfl ?_
                    refine r_load Try.underlying47 rfl rfl rfl rfl ?_
                    refine wo_pv (pv_move rfl) rfl ?_
                    refine r_mapUpdate Try.underlying47 Try.underlying9 rfl rfl rfl ?_
                    refine q_seq ?_
                    refine p_seq rfl ?_
                    refine p_region rfl ?_
                    refine wo_pv (pv_move rfl) rfl ?_
                    refine wo_pv (pv_move rfl) rfl ?_
                    have hgt : Sp1 Try.prog 11 [.pointer (some ⟨s, 0, none⟩), vS k] [IsS s p J' K'] (.tuple #[(mlook K' k).getD (vS []), vB (mlook K' k).isSome]) [IsS s p J' K'] := store_Get_sp s p J' K' k
                    rw [hlv, hlk] at hgt
                    refine r_call1 hgt rfl rfl rfl ?_
                    refine wo_pv (pv_move rfl) rfl ?_
                    refine wo_pv (pv_extract rfl rfl) rfl ?_
                    refine wo_pv (pv_extract rfl rfl) rfl ?_
                    refine wo_pv (pv_assign rfl) rfl ?_
                    refine wo_pv (pv_assign rfl) rfl ?_
                    refine q_seq ?_
                    refine p_seq rfl ?_
                    refine p_region rfl ?_
                    refine wo_pv (pv_move rfl) rfl ?_
                    refine wo_pv (pv_move rfl) rfl ?_
                    refine wo_pv (pv_eql rfl rfl) rfl ?_
                    refine wo_pv (pv_bneq Try.underlying4 rfl rfl) rfl ?_
                    refine wo_pv (pv_move rfl) rfl ?_
                    first | refine wo_gite (j := 4) rfl rfl (fun h88 => ?_) (fun h88 => ?_) | refine wo_gsplit (j := 4) rfl rfl (fun h88 => ?_) (fun h88 => ?_)
                    · -- t88 True
                      simp at h88
                      --done
                    · -- t88 False
                      refine wo_in (b := false) rfl ?_
                      refine wo_pv (pv_move rfl) rfl ?_
                      refine wo_in (b := false) rfl ?_
                      refine wo_pv (pv_move rfl) rfl ?_
                      first | refine wo_gite (j := 6) rfl rfl (fun h90 => ?_) (fun h90 => ?_) | refine wo_gsplit (j := 6) rfl rfl (fun h90 => ?_) (fun h90 => ?_)
                      · -- t90 True
                        have he0 : e = 0 := by simpa using h90
                        have hl5 := hl4 he0
                        refine wo_in (b := true) rfl ?_
                        refine wo_pv (pv_move rfl) rfl ?_
                        refine wo_in (b := true) rfl ?_
                        refine wo_pv (pv_sneq rfl rfl) rfl ?_
                        refine wo_in (b := false) rfl ?_
                        refine wo_pv (pv_pick_t rfl rfl) rfl ?_
                        refine wo_pv (pv_pick_f rfl rfl) rfl ?_
                        refine q_seq ?_
                        first | refine p_ite rfl rfl (fun h94 => ?_) (fun h94 => ?_) | refine p_cond rfl rfl (fun h94 => ?_) (fun h94 => ?_)
                        · -- t94 True
                          first | exact absurd hl5 h94 | (exfalso; exact h94 hl5)
                          --done
                        · -- t94 False
                          refine p_skip rfl ?_
                          refine to_block ?_
                          refine t_seq ?_
                          refine p_region rfl ?_
                          refine wo_pv (pv_move rfl) rfl ?_
                          refine wo_pv (pv_add rfl rfl (by omega)) rfl ?_
                          refine wo_pv (pv_assign rfl) rfl ?_
                          refine wo_nil ?_
                          refine to_inv ⟨(j + 1, J', K', D'), by dsimp only; omega, by dsimp only; omega, ki'⟩ (by dsimp only; omega) ⟨rfl, rfl, rfl, rfl, rfl, rfl, trivial⟩ ?_
                          dsimp only
                          rw [hmet]
                          exact ent_pick
                      · -- t90 False
                        refine wo_out (b := false) rfl rfl rfl ?_
                        refine wo_out (b := false) rfl rfl rfl ?_
                        refine wo_in (b := false) rfl ?_
                        refine wo_pv (pv_pick_f rfl rfl) rfl ?_
                        refine wo_pv (pv_pick_f rfl rfl) rfl ?_
                        refine q_seq ?_
                        refine p_false rfl rfl ?_
                        refine p_skip rfl ?_
                        refine to_block ?_
                        refine t_seq ?_
                        refine p_region rfl ?_
                        refine wo_pv (pv_move rfl) rfl ?_
                        refine wo_pv (pv_add rfl rfl (by omega)) rfl ?_
                        refine wo_pv (pv_assign rfl) rfl ?_
                        refine wo_nil ?_
                        refine to_inv ⟨(j + 1, J', K', D'), by dsimp only; omega, by dsimp only; omega, ki'⟩ (by dsimp only; omega) ⟨rfl, rfl, rfl, rfl, rfl, rfl, trivial⟩ ?_
                        dsimp only
                        rw [hmet]
                        exact ent_pick
                  · -- t75 False
                    have hmet : metS K' = metS K := by
                      rcases hcase with ⟨h0, _⟩ | ⟨_, _, h3⟩
                      · omega
                      · rw [h3]
                    refine p_skip rfl ?_
                    refine t_seq ?_
                    refine p_seq rfl ?_
                    refine p_region rfl ?_
                    refine wo_pv (pv_move rfl) rfl ?_
                    refine wo_pv (pv_move rfl) rfl ?_
                    have hgt : Sp1 Try.prog 11 [.pointer (some ⟨s, 0, none⟩), vS k] [IsS s p J' K'] (.tuple #[(mlook K' k).getD (vS []), vB (mlook K' k).isSome]) [IsS s p J' K'] := store_Get_sp s p J' K' k
                    rw [hlv, hlk] at hgt
                    refine r_call1 hgt rfl rfl rfl ?_
                    refine wo_pv (pv_move rfl) rfl ?_
                    refine wo_pv (pv_extract rfl rfl) rfl ?_
                    refine wo_pv (pv_extract rfl rfl) rfl ?_
                    refine wo_pv (pv_assign rfl) rfl ?_
                    refine wo_pv (pv_assign rfl) rfl ?_
                    refine q_seq ?_
                    refine p_seq rfl ?_
                    refine p_region rfl ?_
                    refine wo_pv (pv_move rfl) rfl ?_
                    refine wo_pv (pv_move rfl) rfl ?_
                    refine wo_pv (pv_eql rfl rfl) rfl ?_
                    refine wo_pv (pv_bneq Try.underlying4 rfl rfl) rfl ?_
                    refine wo_pv (pv_move rfl) rfl ?_
                    first | refine wo_gite (j := 4) rfl rfl (fun h88 => ?_) (fun h88 => ?_) | refine wo_gsplit (j := 4) rfl rfl (fun h88 => ?_) (fun h88 => ?_)
                    · -- t88 True
                      simp at h88
                      --done
                    · -- t88 False
                      refine wo_in (b := false) rfl ?_
                      refine wo_pv (pv_move rfl) rfl ?_
                      refine wo_in (b := false) rfl ?_
                      refine wo_pv (pv_move rfl) rfl ?_
                      first | refine wo_gite (j := 6) rfl rfl (fun h90 => ?_) (fun h90 => ?_) | refine wo_gsplit (j := 6) rfl rfl (fun h90 => ?_) (fun h90 => ?_)
                      · -- t90 True
                        have he0 : e = 0 := by simpa using h90
                        have hl5 := hl4 he0
                        refine wo_in (b := true) rfl ?_
                        refine wo_pv (pv_move rfl) rfl ?_
                        refine wo_in (b := true) rfl ?_
                        refine wo_pv (pv_sneq rfl rfl) rfl ?_
                        refine wo_in (b := false) rfl ?_
                        refine wo_pv (pv_pick_t rfl rfl) rfl ?_
                        refine wo_pv (pv_pick_f rfl rfl) rfl ?_
                        refine q_seq ?_
                        first | refine p_ite rfl rfl (fun h94 => ?_) (fun h94 => ?_) | refine p_cond rfl rfl (fun h94 => ?_) (fun h94 => ?_)
                        · -- t94 True
                          first | exact absurd hl5 h94 | (exfalso; exact h94 hl5)
                          --done
                        · -- t94 False
                          refine p_skip rfl ?_
                          refine to_block ?_
                          refine t_seq ?_
                          refine p_region rfl ?_
                          refine wo_pv (pv_move rfl) rfl ?_
                          refine wo_pv (pv_add rfl rfl (by omega)) rfl ?_
                          refine wo_pv (pv_assign rfl) rfl ?_
                          refine wo_nil ?_
                          refine to_inv ⟨(j + 1, J', K', D'), by dsimp only; omega, by dsimp only; omega, ki'⟩ (by dsimp only; omega) ⟨rfl, rfl, rfl, rfl, rfl, rfl, trivial⟩ ?_
                          dsimp only
                          rw [hmet]
                          exact ent_pick
                      · -- t90 False
                        refine wo_out (b := false) rfl rfl rfl ?_
                        refine wo_out (b := false) rfl rfl rfl ?_
                        refine wo_in (b := false) rfl ?_
                        refine wo_pv (pv_pick_f rfl rfl) rfl ?_
                        refine wo_pv (pv_pick_f rfl rfl) rfl ?_
                        refine q_seq ?_
                        refine p_false rfl rfl ?_
                        refine p_skip rfl ?_
                        refine to_block ?_
                        refine t_seq ?_
                        refine p_region rfl ?_
                        refine wo_pv (pv_move rfl) rfl ?_
                        refine wo_pv (pv_add rfl rfl (by omega)) rfl ?_
                        refine wo_pv (pv_assign rfl) rfl ?_
                        refine wo_nil ?_
                        refine to_inv ⟨(j + 1, J', K', D'), by dsimp only; omega, by dsimp only; omega, ki'⟩ (by dsimp only; omega) ⟨rfl, rfl, rfl, rfl, rfl, rfl, trivial⟩ ?_
                        dsimp only
                        rw [hmet]
                        exact ent_pick
            · -- t60 False
              refine wo_out (b := false) rfl rfl rfl ?_
              refine wo_out (b := false) rfl rfl rfl ?_
              refine wo_out (b := false) rfl rfl rfl ?_
              refine wo_pv (pv_pick_f rfl rfl) rfl ?_
              refine wo_pv (pv_bneq Try.underlying4 rfl rfl) rfl ?_
              refine wo_pv (pv_move rfl) rfl ?_
              first | refine wo_gite (j := 11) rfl rfl (fun h66 => ?_) (fun h66 => ?_) | refine wo_gsplit (j := 11) rfl rfl (fun h66 => ?_) (fun h66 => ?_)
              · -- t66 True
                exfalso
                rcases hcase with ⟨rfl, h1, h2, _⟩ | ⟨rfl, h1, _⟩
                · revert h66; simp; try omega
                · revert h66; simp; try omega
                --done
              · -- t66 False
                refine wo_in (b := false) rfl ?_
                refine wo_pv (pv_move rfl) rfl ?_
                refine wo_in (b := false) rfl ?_
                refine wo_pv (pv_neq rfl rfl) rfl ?_
                refine wo_in (b := false) rfl ?_
                refine wo_pv (pv_move rfl) rfl ?_
                first | refine wo_gite (j := 14) rfl rfl (fun h69 => ?_) (fun h69 => ?_) | refine wo_gsplit (j := 14) rfl rfl (fun h69 => ?_) (fun h69 => ?_)
                · -- t69 True
                  refine wo_in (b := true) rfl ?_
                  refine wo_pv (pv_move rfl) rfl ?_
                  refine wo_in (b := true) rfl ?_
                  refine wo_pv (pv_neq rfl rfl) rfl ?_
                  refine wo_in (b := false) rfl ?_
                  refine wo_pv (pv_pick_t rfl rfl) rfl ?_
                  refine wo_pv (pv_pick_f rfl rfl) rfl ?_
                  refine q_seq ?_
                  first | refine p_ite rfl rfl (fun h73 => ?_) (fun h73 => ?_) | refine p_cond rfl rfl (fun h73 => ?_) (fun h73 => ?_)
                  · -- t73 True
                    exfalso
                    rcases hcase with ⟨rfl, h1, h2, _⟩ | ⟨rfl, h1, _⟩
                    · omega
                    · omega
                    --done
                  · -- t73 False
                    refine p_skip rfl ?_
                    refine t_seq ?_
                    refine p_seq rfl ?_
                    refine p_seq rfl ?_
                    obtain ⟨lv, hlv, hlk, hl4⟩ : ∃ lv : Bs, (mlook K' k).getD (vS []) = vS lv ∧ (mlook K' k).isSome = decide ((e : Int) = 0) ∧ (e = 0 → lv = lst4) := by
                      rcases hcase with ⟨rfl, h1, h2, rfl⟩ | ⟨rfl, h1, rfl⟩
                      · exact ⟨lst4, by rw [mlook_mput, if_pos rfl]; rfl, by rw [mlook_mput, if_pos rfl]; rfl, fun _ => rfl⟩
                      · have : mlook K' k = none := mlook_none (fun hm => by obtain ⟨q, hq, hq2⟩ := List.mem_map.1 hm; have := ki.ok q hq; rw [hq2] at this; exact h1 this)
                        exact ⟨[], by rw [this]; rfl, by rw [this]; rfl, fun h => by omega⟩
                    refine p_region rfl ?_
                    refine wo_pv (pv_move rfl) rfl ?_
                    refine wo_pv (pv_eql rfl rfl) rfl ?_
                    refine q_seq ?_
                    first | refine p_ite rfl rfl (fun h75 => ?_) (fun h75 => ?_) | refine p_cond rfl rfl (fun h75 => ?_) (fun h75 => ?_)
                    · -- t75 True
                      have hmet : metS K' = mput (metS K) k (vB true) := by
                        rcases hcase with ⟨_, h1, h2, h3⟩ | ⟨h0, _⟩
                        · rw [h3, metS_put, metS_put, mput_mput]
                        · omega
                      refine p_region rfl ?_
                      refine r_load Try.underlying47 rfl rfl rfl rfl ?_
                      refine wo_pv (pv_move rfl) rfl ?_
                      refine r_mapUpdate Try.underlying47 Try.underlying9 rfl rfl rfl ?_
                      refine q_seq ?_
                      refine p_seq rfl ?_
                      refine p_region rfl ?_
                      refine wo_pv (pv_move rfl) rfl ?_
                      refine wo_pv (pv_move rfl) rfl ?_
                      have hgt : Sp1 Try.prog 11 [.pointer (some ⟨s, 0, none⟩), vS k] [IsS s p J' K'] (.tuple #[(mlook K' k).getD (vS []), vB (mlook K' k).isSome]) [IsS s p J' K'] := store_Get_sp s p J' K' k
                      rw [hlv, hlk] at hgt
                      refine r_call1 hgt rfl rfl rfl ?_
                      refine wo_pv (pv_move rfl) rfl ?_
                      refine wo_pv (pv_extract rfl rfl) rfl ?_
                      refine wo_pv (pv_extract rfl rfl) rfl ?_
                      refine wo_pv (pv_assign rfl) rfl ?_
                      refine wo_pv (pv_assign rfl) rfl ?_
                      refine q_seq ?_
                      refine p_seq rfl ?_
                      refine p_region rfl ?_
                      refine wo_pv (pv_move rfl) rfl ?_
                      refine wo_pv (pv_move rfl) rfl ?_
                      refine wo_pv (pv_eql rfl rfl) rfl ?_
                      refine wo_pv (pv_bneq Try.underlying4 rfl rfl) rfl ?_
                      refine wo_pv (pv_move rfl) rfl ?_
                      first | refine wo_gite (j := 4) rfl rfl (fun h88 => ?_) (fun h88 => ?_) | refine wo_gsplit (j := 4) rfl rfl (fun h88 => ?_) (fun h88 => ?_)
                      · -- t88 True
                        simp at h88
                        --done
                      · -- t88 False
                        refine wo_in (b := false) rfl ?_
                        refine wo_pv (pv_move rfl) rfl ?_
                        refine wo_in (b := false) rfl ?_
                        refine wo_pv (pv_move rfl) rfl ?_
                        first | refine wo_gite (j := 6) rfl rfl (fun h90 => ?_) (fun h90 => ?_) | refine wo_gsplit (j := 6) rfl rfl (fun h90 => ?_) (fun h90 => ?_)
                        · -- t90 True
                          have he0 : e = 0 := by simpa using h90
                          have hl5 := hl4 he0
                          refine wo_in (b := true) rfl ?_
                          refine wo_pv (pv_move rfl) rfl ?_
                          refine wo_in (b := true) rfl ?_
                          refine wo_pv (pv_sneq rfl rfl) rfl ?_
                          refine wo_in (b := false) rfl ?_
                          refine wo_pv (pv_pick_t rfl rfl) rfl ?_
                          refine wo_pv (pv_pick_f rfl rfl) rfl ?_
                          refine q_seq ?_
                          first | refine p_ite rfl rfl (fun h94 => ?_) (fun h94 => ?_) | refine p_cond rfl rfl (fun h94 => ?_) (fun h94 => ?_)
                          · -- t94 True
                            first | exact absurd hl5 h94 | (exfalso; exact h94 hl5)
                            --done
                          · -- t94 False
                            refine p_skip rfl ?_
                            refine to_block ?_
                            refine t_seq ?_
                            refine p_region rfl ?_
                            refine wo_pv (pv_move rfl) rfl ?_
                            refine wo_pv (pv_add rfl rfl (by omega)) rfl ?_
                            refine wo_pv (pv_assign rfl) rfl ?_
                            refine wo_nil ?_
                            refine to_inv ⟨(j + 1, J', K', D'), by dsimp only; omega, by dsimp only; omega, ki'⟩ (by dsimp only; omega) ⟨rfl, rfl, rfl, rfl, rfl, rfl, trivial⟩ ?_
                            dsimp only
                            rw [hmet]
                            exact ent_pick
                        · -- t90 False
                          refine wo_out (b := false) rfl rfl rfl ?_
                          refine wo_out (b := false) rfl rfl rfl ?_
                          refine wo_in (b := false) rfl ?_
                          refine wo_pv (pv_pick_f rfl rfl) rfl ?_
                          refine wo_pv (pv_pick_f rfl rfl) rfl ?_
                          refine q_seq ?_
                          refine p_false rfl rfl ?_
                          refine p_skip rfl ?_
                          refine to_block ?_
                          refine t_seq ?_
                          refine p_region rfl ?_
                          refine wo_pv (pv_move rfl) rfl ?_
                          refine wo_pv (pv_add rfl rfl (by omega)) rfl ?_
                          refine wo_pv (pv_assign rfl) rfl ?_
                          refine wo_nil ?_
                          refine to_inv ⟨(j + 1, J', K', D'), by dsimp only; omega, by dsimp only; omega, ki'⟩ (by dsimp only; omega) ⟨rfl, rfl, rfl, rfl, rfl, rfl, trivial⟩ ?_
                          dsimp only
                          rw [hmet]
                          exact ent_pick
                    · -- t75 False
                      have hmet : metS K' = metS K := by
                        rcases hcase with ⟨h0, _⟩ | ⟨_, _, h3⟩
                        · omega
                        · rw [h3]
                      refine p_skip rfl ?_
                      refine t_seq ?_
                      refine p_seq rfl ?_
                      refine p_region rfl ?_
                      refine wo_pv (pv_move rfl) rfl ?_
                      refine wo_pv (pv_move rfl) rfl ?_
                      have hgt : Sp1 Try.prog 11 [.pointer (some ⟨s, 0, none⟩), vS k] [IsS s p J' K'] (.tuple #[(mlook K' k).getD (vS []), vB (mlook K' k).isSome]) [IsS s p J' K'] := store_Get_sp s p J' K' k
                      rw [hlv, hlk] at hgt
                      refine r_call1 hgt rfl rfl rfl ?_
                      refine wo_pv (pv_move rfl) rfl ?_
                      refine wo_pv (pv_extract rfl rfl) rfl ?_
                      refine wo_pv (pv_extract rfl rfl) rfl ?_
                      refine wo_pv (pv_assign rfl) rfl ?_
                      refine wo_pv (pv_assign rfl) rfl ?_
                      refine q_seq ?_
                      refine p_seq rfl ?_
                      refine p_region rfl ?_
                      refine wo_pv (pv_move rfl) rfl ?_
                      refine wo_pv (pv_move rfl) rfl ?_
                      refine wo_pv (pv_eql rfl rfl) rfl ?_
                      refine wo_pv (pv_bneq Try.underlying4 rfl rfl) rfl ?_
                      refine wo_pv (pv_move rfl) rfl ?_
                      first | refine wo_gite (j := 4) rfl rfl (fun h88 => ?_) (fun h88 => ?_) | refine wo_gsplit (j := 4) rfl rfl (fun h88 => ?_) (fun h88 => ?_)
                      · -- t88 True
                        simp at h88
                        --done
                      · -- t88 False
                        refine wo_in (b := false) rfl ?_
                        refine wo_pv (pv_move rfl) rfl ?_
                        refine wo_in (b := false) rfl ?_
                        refine wo_pv (pv_move rfl) rfl ?_
                        first | refine wo_gite (j := 6) rfl rfl (fun h90 => ?_) (fun h90 => ?_) | refine wo_gsplit (j := 6) rfl rfl (fun h90 => ?_) (fun h90 => ?_)
                        · -- t90 True
                          have he0 : e = 0 := by simpa using h90
                          have hl5 := hl4 he0
                          refine wo_in (b := true) rfl ?_
                          refine wo_pv (pv_move rfl) rfl ?_
                          refine wo_in (b := true) rfl ?_
                          refine wo_pv (pv_sneq rfl rfl) rfl ?_
                          refine wo_in (b := false) rfl ?_
                          refine wo_pv (pv_pick_t rfl rfl) rfl ?_
                          refine wo_pv (pv_pick_f rfl rfl) rfl ?_
                          refine q_seq ?_
                          first | refine p_ite rfl rfl (fun h94 => ?_) (fun h94 => ?_) | refine p_cond rfl rfl (fun h94 => ?_) (fun h94 => ?_)
                          · -- t94 True
                            first | exact absurd hl5 h94 | (exfalso; exact h94 hl5)
                            --done
                          · -- t94 False
                            refine p_skip rfl ?_
                            refine to_block ?_
                            refine t_seq ?_
                            refine p_region rfl ?_
                            refine wo_pv (pv_move rfl) rfl ?_
                            refine wo_pv (pv_add rfl rfl (by omega)) rfl ?_
                            refine wo_pv (pv_assign rfl) rfl ?_
                            refine wo_nil ?_
                            refine to_inv ⟨(j + 1, J', K', D'), by dsimp only; omega, by dsimp only; omega, ki'⟩ (by dsimp only; omega) ⟨rfl, rfl, rfl, rfl, rfl, rfl, trivial⟩ ?_
                            dsimp only
                            rw [hmet]
                            exact ent_pick
                        · -- t90 False
                          refine wo_out (b := false) rfl rfl rfl ?_
                          refine wo_out (b := false) rfl rfl rfl ?_
                          refine wo_in (b := false) rfl ?_
                          refine wo_pv (pv_pick_f rfl rfl) rfl ?_
                          refine wo_pv (pv_pick_f rfl rfl) rfl ?_
                          refine q_seq ?_
                          refine p_false rfl rfl ?_
                          refine p_skip rfl ?_
                          refine to_block ?_
                          refine t_seq ?_
                          refine p_region rfl ?_
                          refine wo_pv (pv_move rfl) rfl ?_
                          refine wo_pv (pv_add rfl rfl (by omega)) rfl ?_
                          refine wo_pv (pv_assign rfl) rfl ?_
                          refine wo_nil ?_
                          refine to_inv ⟨(j + 1, J', K', D'), by dsimp only; omega, by dsimp only; omega, ki'⟩ (by dsimp only; omega) ⟨rfl, rfl, rfl, rfl, rfl, rfl, trivial⟩ ?_
                          dsimp only
                          rw [hmet]
                          exact ent_pick
                · -- t69 False
                  refine wo_out (b := false) rfl rfl rfl ?_
                  refine wo_out (b := false) rfl rfl rfl ?_
                  refine wo_in (b := false) rfl ?_
                  refine wo_pv (pv_pick_f rfl rfl) rfl ?_
                  refine wo_pv (pv_pick_f rfl rfl) rfl ?_
                  refine q_seq ?_
                  refine p_false rfl rfl ?_
                  refine p_skip rfl ?_
                  refine t_seq ?_
                  refine p_seq rfl ?_
                  refine p_seq rfl ?_
                  obtain ⟨lv, hlv, hlk, hl4⟩ : ∃ lv : Bs, (mlook K' k).getD (vS []) = vS lv ∧ (mlook K' k).isSome = decide ((e : Int) = 0) ∧ (e = 0 → lv = lst4) := by
                    rcases hcase with ⟨rfl, h1, h2, rfl⟩ | ⟨rfl, h1, rfl⟩
                    · exact ⟨lst4, by rw [mlook_mput, if_pos rfl]; rfl, by rw [mlook_mput, if_pos rfl]; rfl, fun _ => rfl⟩
                    · have : mlook K' k = none := mlook_none (fun hm => by obtain ⟨q, hq, hq2⟩ := List.mem_map.1 hm; have := ki.ok q hq; rw [hq2] at this; exact h1 this)
                      exact ⟨[], by rw [this]; rfl, by rw [this]; rfl, fun h => by omega⟩
                  refine p_region rfl ?_
                  refine wo_pv (pv_move rfl) rfl ?_
                  refine wo_pv (pv_eql rfl rfl) rfl ?_
                  refine q_seq ?_
                  first | refine p_ite rfl rfl (fun h75 => ?_) (fun h75 => ?_) | refine p_cond rfl rfl (fun h75 => ?_) (fun h75 => ?_)
                  · -- t75 True
                    have hmet : metS K' = mput (metS K) k (vB true) := by
                      rcases hcase with ⟨_, h1, h2, h3⟩ | ⟨h0, _⟩
                      · rw [h3, metS_put, metS_put, mput_mput]
                      · omega
                    refine p_region rfl ?_
                    refine r_load Try.underlying47 rfl rfl rfl rfl ?_
                    refine wo_pv (pv_move rfl) rfl ?_
                    refine r_mapUpdate Try.underlying47 Try.underlying9 rfl rfl rfl ?_
                    refine q_seq ?_
                    refine p_seq rfl ?_
                    refine p_region rfl ?_
                    refine wo_pv (pv_move rfl) rfl ?_
                    refine wo_pv (pv_move rfl) rfl ?_
                    have hgt : Sp1 Try.prog 11 [.pointer (some ⟨s, 0, none⟩), vS k] [IsS s p J' K'] (.tuple #[(mlook K' k).getD (vS []), vB (mlook K' k).isSome]) [IsS s p J' K'] := store_Get_sp s p J' K' k
                    rw [hlv, hlk] at hgt
                    refine r_call1 hgt rfl rfl rfl ?_
                    refine wo_pv (pv_move rfl) rfl ?_
                    refine wo_pv (pv_extract rfl rfl) rfl ?_
                    refine wo_pv (pv_extract rfl rfl) rfl ?_
                    refine wo_pv (pv_assign rfl) rfl ?_
                    refine wo_pv (pv_assign rfl) rfl ?_
                    refine q_seq ?_
                    refine p_seq rfl ?_
                    refine p_region rfl ?_
                    refine wo_pv (pv_move rfl) rfl ?_
                    refine wo_pv (pv_move rfl) rfl ?_
                    refine wo_pv (pv_eql rfl rfl) rfl ?_
                    refine wo_pv (pv_bneq Try.underlying4 rfl rfl) rfl ?_
                    refine wo_pv (pv_move rfl) rfl ?_
                    first | refine wo_gite (j := 4) rfl rfl (fun h88 => ?_) (fun h88 => ?_) | refine wo_gsplit (j := 4) rfl rfl (fun h88 => ?_) (fun h88 => ?_)
                    · -- t88 True
                      simp at h88
                      --done
                    · -- t88 False
                      refine wo_in (b := false) rfl ?_
                      refine wo_pv (pv_move rfl) rfl ?_
                      refine wo_in (b := false) rfl ?_
                      refine wo_pv (pv_move rfl) rfl ?_
                      first | refine wo_gite (j := 6) rfl rfl (fun h90 => ?_) (fun h90 => ?_) | refine wo_gsplit (j := 6) rfl rfl (fun h90 => ?_) (fun h90 => ?_)
                      · -- t90 True
                        have he0 : e = 0 := by simpa using h90
                        have hl5 := hl4 he0
                        refine wo_in (b := true) rfl ?_
                        refine wo_pv (pv_move rfl) rfl ?_
                        refine wo_in (b := true) rfl ?_
                        refine wo_pv (pv_sneq rfl rfl) rfl ?_
                        refine wo_in (b := false) rfl ?_
                        refine wo_pv (pv_pick_t rfl rfl) rfl ?_
                        refine wo_pv (pv_pick_f rfl rfl) rfl ?_
                        refine q_seq ?_
                        first | refine p_ite rfl rfl (fun h94 => ?_) (fun h94 => ?_) | refine p_cond rfl rfl (fun h94 => ?_) (fun h94 => ?_)
                        · -- t94 True
                          first | exact absurd hl5 h94 | (exfalso; exact h94 hl5)
                          --done
                        · -- t94 False
                          refine p_skip rfl ?_
                          refine to_block ?_
                          refine t_seq ?_
                          refine p_region rfl ?_
                          refine wo_pv (pv_move rfl) rfl ?_
                          refine wo_pv (pv_add rfl rfl (by omega)) rfl ?_
                          refine wo_pv (pv_assign rfl) rfl ?_
                          refine wo_nil ?_
                          refine to_inv ⟨(j + 1, J', K', D'), by dsimp only; omega, by dsimp only; omega, ki'⟩ (by dsimp only; omega) ⟨rfl, rfl, rfl, rfl, rfl, rfl, trivial⟩ ?_
                          dsimp only
                          rw [hmet]
                          exact ent_pick
                      · -- t90 False
                        refine wo_out (b := false) rfl rfl rfl ?_
                        refine wo_out (b := false) rfl rfl rfl ?_
                        refine wo_in (b := false) rfl ?_
                        refine wo_pv (pv_pick_f rfl rfl) rfl ?_
                        refine wo_pv (pv_pick_f rfl rfl) rfl ?_
                        refine q_seq ?_
                        refine p_false rfl rfl ?_
                        refine p_skip rfl ?_
                        refine to_block ?_
                        refine t_seq ?_
                        refine p_region rfl ?_
                        refine wo_pv (pv_move rfl) rfl ?_
                        refine wo_pv (pv_add rfl rfl (by omega)) rfl ?_
                        refine wo_pv (pv_assign rfl) rfl ?_
                        refine wo_nil ?_
                        refine to_inv ⟨(j + 1, J', K', D'), by dsimp only; omega, by dsimp only; omega, ki'⟩ (by dsimp only; omega) ⟨rfl, rfl, rfl, rfl, rfl, rfl, trivial⟩ ?_
                        dsimp only
                        rw [hmet]
                        exact ent_pick
                  · -- t75 False
                    have hmet : metS K' = metS K := by
                      rcases hcase with ⟨h0, _⟩ | ⟨_, _, h3⟩
                      · omega
                      · rw [h3]
                    refine p_skip rfl ?_
                    refine t_seq ?_
                    refine p_seq rfl ?_
                    refine p_region rfl ?_
                    refine wo_pv (pv_move rfl) rfl ?_
                    refine wo_pv (pv_move rfl) rfl ?_
                    have hgt : Sp1 Try.prog 11 [.pointer (some ⟨s, 0, none⟩), vS k] [IsS s p J' K'] (.tuple #[(mlook K' k).getD (vS []), vB (mlook K' k).isSome]) [IsS s p J' K'] := store_Get_sp s p J' K' k
                    rw [hlv, hlk] at hgt
                    refine r_call1 hgt rfl rfl rfl ?_
                    refine wo_pv (pv_move rfl) rfl ?_
                    refine wo_pv (pv_extract rfl rfl) rfl ?_
                    refine wo_pv (pv_extract rfl rfl) rfl ?_
                    refine wo_pv (pv_assign rfl) rfl ?_
                    refine wo_pv (pv_assign rfl) rfl ?_
                    refine q_seq ?_
                    refine p_seq rfl ?_
                    refine p_region rfl ?_
                    refine wo_pv (pv_move rfl) rfl ?_
                    refine wo_pv (pv_move rfl) rfl ?_
                    refine wo_pv (pv_eql rfl rfl) rfl ?_
                    refine wo_pv (pv_bneq Try.underlying4 rfl rfl) rfl ?_
                    refine wo_pv (pv_move rfl) rfl ?_
                    first | refine wo_gite (j := 4) rfl rfl (fun h88 => ?_) (fun h88 => ?_) | refine wo_gsplit (j := 4) rfl rfl (fun h88 => ?_) (fun h88 => ?_)
                    · -- t88 True
                      simp at h88
                      --done
                    · -- t88 False
                      refine wo_in (b := false) rfl ?_
                      refine wo_pv (pv_move rfl) rfl ?_
                      refine wo_in (b := false) rfl ?_
                      refine wo_pv (pv_move rfl) rfl ?_
                      first | refine wo_gite (j := 6) rfl rfl (fun h90 => ?_) (fun h90 => ?_) | refine wo_gsplit (j := 6) rfl rfl (fun h90 => ?_) (fun h90 => ?_)
                      · -- t90 True
                        have he0 : e = 0 := by simpa using h90
                        have hl5 := hl4 he0
                        refine wo_in (b := true) rfl ?_
                        refine wo_pv (pv_move rfl) rfl ?_
                        refine wo_in (b := true) rfl ?_
                        refine wo_pv (pv_sneq rfl rfl) rfl ?_
                        refine wo_in (b := false) rfl ?_
                        refine wo_pv (pv_pick_t rfl rfl) rfl ?_
                        refine wo_pv (pv_pick_f rfl rfl) rfl ?_
                        refine q_seq ?_
                        first | refine p_ite rfl rfl (fun h94 => ?_) (fun h94 => ?_) | refine p_cond rfl rfl (fun h94 => ?_) (fun h94 => ?_)
                        · -- t94 True
                          first | exact absurd hl5 h94 | (exfalso; exact h94 hl5)
                          --done
                        · -- t94 False
                          refine p_skip rfl ?_
                          refine to_block ?_
                          refine t_seq ?_
                          refine p_region rfl ?_
                          refine wo_pv (pv_move rfl) rfl ?_
                          refine wo_pv (pv_add rfl rfl (by omega)) rfl ?_
                          refine wo_pv (pv_assign rfl) rfl ?_
                          refine wo_nil ?_
                          refine to_inv ⟨(j + 1, J', K', D'), by dsimp only; omega, by dsimp only; omega, ki'⟩ (by dsimp only; omega) ⟨rfl, rfl, rfl, rfl, rfl, rfl, trivial⟩ ?_
                          dsimp only
                          rw [hmet]
                          exact ent_pick
                      · -- t90 False
                        refine wo_out (b := false) rfl rfl rfl ?_
                        refine wo_out (b := false) rfl rfl rfl ?_
                        refine wo_in (b := false) rfl ?_
                        refine wo_pv (pv_pick_f rfl rfl) rfl ?_
                        refine wo_pv (pv_pick_f rfl rfl) rfl ?_
                        refine q_seq ?_
                        refine p_false rfl rfl ?_
                        refine p_skip rfl ?_
                        refine to_block ?_
                        refine t_seq ?_
                        refine p_region rfl ?_
                        refine wo_pv (pv_move rfl) rfl ?_
                        refine wo_pv (pv_add rfl rfl (by omega)) rfl ?_
                        refine wo_pv (pv_assign rfl) rfl ?_
                        refine wo_nil ?_
                        refine to_inv ⟨(j + 1, J', K', D'), by dsimp only; omega, by dsimp only; omega, ki'⟩ (by dsimp only; omega) ⟨rfl, rfl, rfl, rfl, rfl, rfl, trivial⟩ ?_
                        dsimp only
                        rw [hmet]
                        exact ent_pick
          · -- t34 False
            refine p_exit 0 rfl ?_
            refine t_seq_exit ?_
            refine to_inv_exit ?_
            refine to_block_here ?_
            exact to_inv ⟨(j, J, K, D), by dsimp only; omega, ki⟩ trivial ⟨rfl, rfl, rfl, rfl, trivial⟩ ent_pick
        · -- t31 False
          refine wo_out (b := false) rfl rfl rfl ?_
          refine wo_out (b := false) rfl rfl rfl ?_
          refine wo_pv (pv_pick_f rfl rfl) rfl ?_
          refine q_seq ?_
          refine p_false rfl rfl ?_
          refine p_exit 0 rfl ?_
          refine t_seq_exit ?_
          refine to_inv_exit ?_
          refine to_block_here ?_
          exact to_inv ⟨(j, J, K, D), by dsimp only; omega, ki⟩ trivial ⟨rfl, rfl, rfl, rfl, trivial⟩ ent_pick
end Go.Proofs.Ytimafngkifakfaa
