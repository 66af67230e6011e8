/- Texts of this proof, put together: SCk6, SCt. -/
import Derived.Test.YtibccdcemcgkeaaGreatQ08
import Derived.Test.YtibccdcemcgkeaaGreatQ15
set_option linter.unusedVariables false
set_option linter.unusedSimpArgs false
section
set_option maxRecDepth 100000
namespace Go.Proofs.YtibccdcemcgkeaaGreat
theorem ckZ_prg {l : List Cd} {N : Nat} (h : (bodyB l).length ≤ N) (hN : N ≤ 1073741824) : CkZ (prgC l) := by
 have hz := fun x => argsOf_sizes h x
 have h1 : ∀ x, ((one1 (argsOf x l)).getD []).length ≤ N := fun x => one1_le fun xs hx a ha => ((hz x).2 xs hx).2 a ha
 have hd : ∀ (xs : List Bs) i, xs ∈ argsOf 70 l → (xs.getD i []).length ≤ N := fun xs i hx => by
  by_cases hi : i < xs.length
  · exact ((hz 70).2 xs hx).2 _ (by simp [hi])
  · simp [hi]
 refine ⟨?_, ?_, ?_, ?_, ?_, ?_, ?_, ?_, ?_⟩
 · exact Nat.le_trans (h1 66) (by omega)
 · show ((prgText l).getD []).length ≤ _
   cases e : prgText l with
   | none => simp
   | some t =>
     have h2 := unescB_len e
     have h3 := trim_le ((one1 (argsOf 67 l)).getD []) [46]
     have := h1 67
     simp only [Option.getD_some]; omega
 · exact Nat.le_trans (h1 85) (by omega)
 · show ((argsOf 70 l).map flOf).length ≤ _
   rw [List.length_map]; have := (hz 70).1; omega
 · intro f hf
   obtain ⟨xs, hx, rfl⟩ := List.mem_map.1 (show f ∈ (argsOf 70 l).map flOf from hf)
   have := hd xs 0 hx
   have := hd xs 1 hx
   unfold flOf
   split
   · dsimp only; omega
   · split
     · dsimp only [List.length_nil]; omega
     · simp
 · show ((argsOf 80 l).headD []).length ≤ _
   have := (hz 80).2
   cases e : argsOf 80 l with
   | nil => simp
   | cons a r => rw [e] at this; have := (this a (by simp)).1; simp only [List.headD_cons]; omega
 · intro p hp
   have h3 : p ∈ (argsOf 80 l).headD [] := hp
   have := (hz 80).2
   cases e : argsOf 80 l with
   | nil => rw [e] at h3; simp at h3
   | cons a r => rw [e] at this h3; have := (this a (by simp)).2 p h3; omega
 · show ((readT (argsOf 84 l)).getD []).length ≤ _
   cases e : readT (argsOf 84 l) with
   | none => simp
   | some ts =>
     have := (readT_le (N := N) (fun xs hx a ha => ((hz 84).2 xs hx).2 a ha) e).1
     have := (hz 84).1
     simp only [Option.getD_some]; omega
 · intro t ht
   have h3 : t ∈ (readT (argsOf 84 l)).getD [] := ht
   cases e : readT (argsOf 84 l) with
   | none => rw [e] at h3; simp at h3
   | some ts =>
     rw [e] at h3
     have := (readT_le (N := N) (fun xs hx a ha => ((hz 84).2 xs hx).2 a ha) e).2 t h3
     omega
abbrev ckH (x : CkA × Ck) : List HP := [Row 25 2 (.slice x.1.fa x.2.files.length x.1.fc) x.2.files.length (x.2.files.flatMap flCells), SlI x.1.pa (x.2.parents.map vS), Row 66 4 (.slice x.1.ta x.2.tags.length x.1.tc) x.2.tags.length (x.2.tags.flatMap tgCells)]
theorem sli_nil {Hs : List HP} : Ent Hs (SlI none [] :: Hs) := ⟨fun {M g} s => ⟨Res.emp, g, Res.emp_dj _, rfl, .inl rfl, s⟩⟩
def ka0 : CkA := ⟨none, 0, none, 0, none, 0⟩
theorem ent_noCk {Hs : List HP} : Ent Hs (Row 25 2 (.slice none 0 0) 0 [] :: SlI none [] :: Row 66 4 (.slice none 0 0) 0 [] :: Hs) := (row_nil (e := 66) (sz := 4)).trans (sli_nil.trans row_nil)
/-- The files that have been read so far. -/
def FlB (b : Nat) (base text : Bs) (day : Int) (tv : Value) (user : Bs) (fl : List (Bs × Bs)) : HP := Ex fun z : Option Addr × Nat => Al [Ce b 30 [vS base, vS text, vI day, .slice z.1 fl.length z.2, .slice none 0 0, tv, vS user], Row 25 2 (.slice z.1 fl.length z.2) fl.length (fl.flatMap flCells)]
theorem fold_flb {b T : Nat} {base text : Bs} {day : Int} {tv : Value} {user : Bs} {fl : List (Bs × Bs)} {vs : List Value} {Hs R1 Rs : List HP} (a : Option Addr) (k m : Nat) (hm : m = fl.length) [q : OwnC b T vs Hs R1] (hT : T = 30) (h1 : vs = [vS base, vS text, vI day, .slice a m k, .slice none 0 0, tv, vS user]) {n : Nat} {ys : List Value} {e sz : Nat} [q2 : RowC (.slice a m k) e sz n ys R1 Rs] (he : e = 25) (hsz : sz = 2) (hn : n = m) (hy : ys = fl.flatMap flCells) : Ent Hs (FlB b base text day tv user fl :: Rs) := by
 subst hT; subst h1; subst he; subst hsz; subst hn; subst hy; subst hm
 refine ent_ex (a, k) ?_
 refine ent_al ?_
 exact Picks.ent (.cons q.get (.cons q2.get .nil))
/-- Where a parent list lies. -/
def OneAt (qs : List CdV) (pa : Option Addr) (pc : Nat) (xs : List Bs) : Prop := (pa = none ∧ xs = [] ∧ pc = 0) ∨ ∃ q ∈ qs, q.a = pa ∧ q.args = xs ∧ q.c = pc
theorem oneS_at (x : UInt8) (qs : List CdV) : ∃ pa pc, oneS (ofL x qs 0) = .slice pa ((argsOf x (cdsOf qs)).headD []).length pc ∧ OneAt qs pa pc ((argsOf x (cdsOf qs)).headD []) := by
 have h := ofL_argsOf x qs
 have hm : ∀ p ∈ ofL x qs 0, p.2 ∈ qs := fun p hp => (ofL_mem hp).1
 cases e : ofL x qs 0 with
 | nil =>
   rw [e] at h
   rw [← h]
   exact ⟨none, 0, rfl, .inl ⟨rfl, rfl, rfl⟩⟩
 | cons p r =>
   rw [e] at h hm
   rw [← h]
   exact ⟨p.2.a, p.2.c, rfl, .inr ⟨p.2, hm p (by simp), rfl, rfl, rfl⟩⟩
theorem ent_one {qs : List CdV} {pa : Option Addr} {pc : Nat} {xs : List Bs} {Hs : List HP} (h : OneAt qs pa pc xs) (hp : Has (CdM qs) Hs) : Ent Hs (SlI pa (xs.map vS) :: Hs) := by
 rcases h with ⟨rfl, rfl, _⟩ | ⟨q, hq, rfl, rfl, _⟩
 · exact sli_nil
 · exact ent_cd hq hp
theorem one_cap {qs : List CdV} {pa : Option Addr} {pc : Nat} {xs : List Bs} (h : OneAt qs pa pc xs) (hc : ∀ q ∈ qs, q.args.length ≤ q.c) : xs.length ≤ pc := by
 rcases h with ⟨_, rfl, _⟩ | ⟨q, hq, _, rfl, rfl⟩
 · exact Nat.zero_le _
 · exact hc q hq
set_option maxHeartbeats 4000000 in
theorem checkin_Read_sp (s : Bs) (hs : s.length ≤ 1073741824) : Sp Tryz.prog 23 [vS s] [] (X := CkA × Ck) (fun x => .tuple #[.agg (ckVals x.1 x.2).toArray, vB (readK s).isSome]) (fun x => x.2 = (readK s).getD ck0 ∧ x.2.parents.length ≤ x.1.pc) ckH := by
 refine Sp.body (n := 135) Tryz.call23 Tryz.func23 rfl rfl rfl ?_
 refine Za (k:=Zr (k:=Zc [vS [], vS [], .int .i64 0, .slice none 0 0, .slice none 0 0, .slice none 0 0, vS []] (k:=fun b2 => Vv (k:=Wq (Za (k:=Zr (k:=Vv (k:=?_))))))))
 refine r_callX (card_Read_sp s hs) rfl rfl rfl (fun x24 hx24 => ?_)
 obtain ⟨⟨ca, cc⟩, qs⟩ := x24
 dsimp only [cardV, cardH] at hx24 ⊢
 refine Vv (k:=?_)
 refine wo_pv (pv_extract (v := .slice ca qs.length cc) rfl rfl) rfl ?_
 refine wo_pv (pv_extract (v := vB (readC s).isSome) rfl rfl) rfl ?_
 refine Vv (k:=Vv (k:=Wq (Za (k:=Za (k:=Zr (k:=Vv (k:=Vv (k:=Wq (Zi (t:=fun h28 => ?_) (f:=fun h28 => ?_))))))))))
 ·
  refine Za (k:=Zr (k:=Vx (Ps [vS [], vS [], .int .i64 0, .slice none 0 0, .slice none 0 0, .slice none 0 0, vS []]) (k:=Zp (k:=Vv (k:=Wq (Zt (k:=Va ?_)))))))
  have hn : readK s = none := the_none fun c h => by
   rw [readC_iff.2 h.reads] at h28; simp at h28
  rw [hn]
  refine fin_ret (ka0, ck0) (vs := [_, _]) (Cs := [Ce b2 30 (ckVals ka0 ck0)]) rfl (.cell (l := ckVals ka0 ck0) (us := ckVals ka0 ck0) rfl (shows_ce (T := 30)) Tryz.underlying30 rfl ti30 (by exact Nat.le_of_ble_eq_true rfl) rfl (.tmp rfl .nil)) rfl ⟨rfl, Nat.le_refl _⟩ ?_
  exact ent_noCk.trans (show Ent _ [Row 25 2 (.slice none 0 0) 0 [], SlI none [], Row 66 4 (.slice none 0 0) 0 [], Ce b2 30 [vS [], vS [], vI 0, .slice none 0 0, .slice none 0 0, .slice none 0 0, vS []]] from ent_pick)
 ·
  have hl : readC s = some (cdsOf qs) := by cases e : readC s with
   | none => rw [e] at h28; simp at h28
   | some l => rw [e] at hx24; rw [hx24]; rfl
  have hrd := readC_iff.1 hl
  have hbz : (bodyB (cdsOf qs)).length ≤ 1073741824 := by
   have h1 := congrArg List.length hrd.2
   rw [printB, sealB_len] at h1; omega
  obtain ⟨hqn, hqz⟩ := cds_sizes hbz
  have hz := fun x => argsOf_sizes hbz x
  have h1z : ∀ x, ((one1 (argsOf x (cdsOf qs))).getD []).length ≤ 1073741824 := fun x => one1_le fun xs hx a ha => ((hz x).2 xs hx).2 a ha
  have hS := fun c => checkin_single_sp (B := Row 133 2 (.slice ca qs.length cc) qs.length (qs.flatMap CdV.cells)) (a := ca) qs.length cc qs c sla_row rfl hqn
  have htz := trim_le ((one1 (argsOf 67 (cdsOf qs))).getD []) [46]
  have hz67 := h1z 67
  have hz68 := h1z 68
  have hnone : ∀ (h : ∀ c, ReadsK s c → False), readK s = none := fun h => the_none h
  refine Zk (k:=Ya (Za (k:=Zr (k:=Zc [vS [], vS [], .int .i64 0, .slice none 0 0, .slice none 0 0, .slice none 0 0, vS []] (k:=fun b6 => Wq (Za (k:=Zr (k:=Vv (k:=?_)))))))))
  refine r_call1 (hS 67) rfl rfl rfl ?_
  refine Vv (k:=?_)
  refine wo_pv (pv_extract (v := vS ((one1 (argsOf 67 (cdsOf qs))).getD [])) rfl rfl) rfl ?_
  refine wo_pv (pv_extract (v := vB (one1 (argsOf 67 (cdsOf qs))).isSome) rfl rfl) rfl ?_
  refine Vv (k:=Vv (k:=Wq (Za (k:=Zr (k:=Vv (k:=?_))))))
  refine r_call1 (hS 68) rfl rfl rfl ?_
  refine Vv (k:=?_)
  refine wo_pv (pv_extract (v := vS ((one1 (argsOf 68 (cdsOf qs))).getD [])) rfl rfl) rfl ?_
  refine wo_pv (pv_extract (v := vB (one1 (argsOf 68 (cdsOf qs))).isSome) rfl rfl) rfl ?_
  refine Vv (k:=Vv (k:=Wq (Za (k:=Zr (k:=Vv (k:=?_))))))
  refine r_call1 (hS 85) rfl rfl rfl ?_
  refine Vv (k:=?_)
  refine wo_pv (pv_extract (v := vS ((one1 (argsOf 85 (cdsOf qs))).getD [])) rfl rfl) rfl ?_
  refine wo_pv (pv_extract (v := vB (one1 (argsOf 85 (cdsOf qs))).isSome) rfl rfl) rfl ?_
  refine Vv (k:=Vv (k:=Wq (Za (k:=Zr (k:=Vv (k:=?_))))))
  refine r_callF (TrimPrefix_sp ((one1 (argsOf 67 (cdsOf qs))).getD []) [46]) rfl rfl rfl ?_
  refine r_callF (escape_Read_sp _ (by omega)) rfl rfl rfl ?_
  refine Vv (k:=?_)
  refine wo_pv (pv_extract (v := vS ((prgText (cdsOf qs)).getD [])) rfl rfl) rfl ?_
  refine wo_pv (pv_extract (v := vB (prgText (cdsOf qs)).isSome) rfl rfl) rfl ?_
  refine Vv (k:=Vv (k:=Wq (Za (k:=Zr (k:=Vv (k:=?_))))))
  refine r_callF (digit_ReadDec_sp _ (by omega)) rfl rfl rfl ?_
  refine Vv (k:=?_)
  refine wo_pv (pv_extract (v := vI (((prgDay (cdsOf qs)).getD 0 : Nat) : Int)) rfl rfl) rfl ?_
  refine wo_pv (pv_extract (v := vB (prgDay (cdsOf qs)).isSome) rfl rfl) rfl ?_
  refine Vv (k:=Vv (k:=Wq (Za (k:=Zr (k:=Vv (k:=?_))))))
  refine r_callX (checkin_ReadTags_sp (B := Row 133 2 (.slice ca qs.length cc) qs.length (qs.flatMap CdV.cells)) (a := ca) qs.length cc qs sla_row rfl hbz) rfl rfl rfl (fun x58 hx58 => ?_)
  obtain ⟨⟨ta, tc⟩, ts⟩ := x58
  dsimp only [tagV, tagH] at hx58 ⊢
  refine Vv (k:=?_)
  refine wo_pv (pv_extract (v := .slice ta ts.length tc) rfl rfl) rfl ?_
  refine wo_pv (pv_extract (v := vB (readT (argsOf 84 (cdsOf qs))).isSome) rfl rfl) rfl ?_
  refine Vv (k:=Vv (k:=Wq (Za (k:=Za (k:=Zr (k:=Vv (k:=Vv (k:=Vv (k:=Gi 2 (t:=fun h63 => ?_) (f:=fun h63 => ?_))))))))))
  ·
   refine O1 (k:=O1 (k:=P1 (k:=Vv (k:=O1 (k:=O1 (k:=P1 (k:=Vv (k:=O1 (k:=O1 (k:=P1 (k:=Vv (k:=?_))))))))))))
   refine O1 (k:=O1 (k:=P1 (k:=Vv (k:=O1 (k:=O1 (k:=P1 (k:=Wq (Z1 (k:=Za (k:=Zr (k:=Vx (Ps [vS [], vS [], .int .i64 0, .slice none 0 0, .slice none 0 0, .slice none 0 0, vS []]) (k:=?_))))))))))))
   refine Zp (k:=Vv (k:=Wq (Zt (k:=Va ?_))))
   have hn : readK s = none := hnone fun c h => by
    obtain ⟨o1, o2, o3, o4, o5, o6, _⟩ := prgCk_some (reads_prg hrd h)
    first
    | (rw [o6] at h82; exact absurd h82 (by decide))
    | (rw [o5] at h79; exact absurd h79 (by decide))
    | (rw [o4] at h75; exact absurd h75 (by decide))
    | (rw [o3] at h71; exact absurd h71 (by decide))
    | (rw [o2] at h67; exact absurd h67 (by decide))
    | (rw [o1] at h63; exact absurd h63 (by decide))
   rw [hn]
   refine fin_ret (ka0, ck0) (vs := [_, _]) (Cs := [Ce b2 30 (ckVals ka0 ck0)]) rfl (.cell (l := ckVals ka0 ck0) (us := ckVals ka0 ck0) rfl (shows_ce (T := 30)) Tryz.underlying30 rfl ti30 (by exact Nat.le_of_ble_eq_true rfl) rfl (.tmp rfl .nil)) rfl ⟨rfl, Nat.le_refl _⟩ ?_
   exact ent_noCk.trans (show Ent _ [Row 25 2 (.slice none 0 0) 0 [], SlI none [], Row 66 4 (.slice none 0 0) 0 [], Ce b2 30 [vS [], vS [], vI 0, .slice none 0 0, .slice none 0 0, .slice none 0 0, vS []]] from ent_pick)
  ·
   refine I0 (k:=Vv (k:=I0 (k:=Vv (k:=P0 (k:=Vv (k:=Gi 6 (t:=fun h67 => ?_) (f:=fun h67 => ?_)))))))
   ·
    refine O1 (k:=O1 (k:=P1 (k:=Vv (k:=O1 (k:=O1 (k:=P1 (k:=Vv (k:=O1 (k:=O1 (k:=P1 (k:=Vv (k:=?_))))))))))))
    refine O1 (k:=O1 (k:=P1 (k:=Wq (Z1 (k:=Za (k:=Zr (k:=Vx (Ps [vS [], vS [], .int .i64 0, .slice none 0 0, .slice none 0 0, .slice none 0 0, vS []]) (k:=Zp (k:=Vv (k:=Wq (Zt (k:=?_))))))))))))
    refine Va ?_
    have hn : readK s = none := hnone fun c h => by
     obtain ⟨o1, o2, o3, o4, o5, o6, _⟩ := prgCk_some (reads_prg hrd h)
     first
     | (rw [o6] at h82; exact absurd h82 (by decide))
     | (rw [o5] at h79; exact absurd h79 (by decide))
     | (rw [o4] at h75; exact absurd h75 (by decide))
     | (rw [o3] at h71; exact absurd h71 (by decide))
     | (rw [o2] at h67; exact absurd h67 (by decide))
     | (rw [o1] at h63; exact absurd h63 (by decide))
    rw [hn]
    refine fin_ret (ka0, ck0) (vs := [_, _]) (Cs := [Ce b2 30 (ckVals ka0 ck0)]) rfl (.cell (l := ckVals ka0 ck0) (us := ckVals ka0 ck0) rfl (shows_ce (T := 30)) Tryz.underlying30 rfl ti30 (by exact Nat.le_of_ble_eq_true rfl) rfl (.tmp rfl .nil)) rfl ⟨rfl, Nat.le_refl _⟩ ?_
    exact ent_noCk.trans (show Ent _ [Row 25 2 (.slice none 0 0) 0 [], SlI none [], Row 66 4 (.slice none 0 0) 0 [], Ce b2 30 [vS [], vS [], vI 0, .slice none 0 0, .slice none 0 0, .slice none 0 0, vS []]] from ent_pick)
   ·
    refine I0 (k:=Vv (k:=I0 (k:=Vv (k:=P0 (k:=Vv (k:=Gi 10 (t:=fun h71 => ?_) (f:=fun h71 => ?_)))))))
    ·
     refine O1 (k:=O1 (k:=P1 (k:=Vv (k:=O1 (k:=O1 (k:=P1 (k:=Vv (k:=O1 (k:=O1 (k:=P1 (k:=Wq ?_)))))))))))
     refine Z1 (k:=Za (k:=Zr (k:=Vx (Ps [vS [], vS [], .int .i64 0, .slice none 0 0, .slice none 0 0, .slice none 0 0, vS []]) (k:=Zp (k:=Vv (k:=Wq (Zt (k:=Va ?_))))))))
     have hn : readK s = none := hnone fun c h => by
      obtain ⟨o1, o2, o3, o4, o5, o6, _⟩ := prgCk_some (reads_prg hrd h)
      first
      | (rw [o6] at h82; exact absurd h82 (by decide))
      | (rw [o5] at h79; exact absurd h79 (by decide))
      | (rw [o4] at h75; exact absurd h75 (by decide))
      | (rw [o3] at h71; exact absurd h71 (by decide))
      | (rw [o2] at h67; exact absurd h67 (by decide))
      | (rw [o1] at h63; exact absurd h63 (by decide))
     rw [hn]
     refine fin_ret (ka0, ck0) (vs := [_, _]) (Cs := [Ce b2 30 (ckVals ka0 ck0)]) rfl (.cell (l := ckVals ka0 ck0) (us := ckVals ka0 ck0) rfl (shows_ce (T := 30)) Tryz.underlying30 rfl ti30 (by exact Nat.le_of_ble_eq_true rfl) rfl (.tmp rfl .nil)) rfl ⟨rfl, Nat.le_refl _⟩ ?_
     exact ent_noCk.trans (show Ent _ [Row 25 2 (.slice none 0 0) 0 [], SlI none [], Row 66 4 (.slice none 0 0) 0 [], Ce b2 30 [vS [], vS [], vI 0, .slice none 0 0, .slice none 0 0, .slice none 0 0, vS []]] from ent_pick)
    ·
     refine I0 (k:=Vv (k:=I0 (k:=Vv (k:=P0 (k:=Vv (k:=Gi 14 (t:=fun h75 => ?_) (f:=fun h75 => ?_)))))))
     ·
      refine O1 (k:=O1 (k:=P1 (k:=Vv (k:=O1 (k:=O1 (k:=P1 (k:=Wq (Z1 (k:=Za (k:=Zr (k:=Vx (Ps [vS [], vS [], .int .i64 0, .slice none 0 0, .slice none 0 0, .slice none 0 0, vS []]) (k:=?_))))))))))))
      refine Zp (k:=Vv (k:=Wq (Zt (k:=Va ?_))))
      have hn : readK s = none := hnone fun c h => by
       obtain ⟨o1, o2, o3, o4, o5, o6, _⟩ := prgCk_some (reads_prg hrd h)
       first
       | (rw [o6] at h82; exact absurd h82 (by decide))
       | (rw [o5] at h79; exact absurd h79 (by decide))
       | (rw [o4] at h75; exact absurd h75 (by decide))
       | (rw [o3] at h71; exact absurd h71 (by decide))
       | (rw [o2] at h67; exact absurd h67 (by decide))
       | (rw [o1] at h63; exact absurd h63 (by decide))
      rw [hn]
      refine fin_ret (ka0, ck0) (vs := [_, _]) (Cs := [Ce b2 30 (ckVals ka0 ck0)]) rfl (.cell (l := ckVals ka0 ck0) (us := ckVals ka0 ck0) rfl (shows_ce (T := 30)) Tryz.underlying30 rfl ti30 (by exact Nat.le_of_ble_eq_true rfl) rfl (.tmp rfl .nil)) rfl ⟨rfl, Nat.le_refl _⟩ ?_
      exact ent_noCk.trans (show Ent _ [Row 25 2 (.slice none 0 0) 0 [], SlI none [], Row 66 4 (.slice none 0 0) 0 [], Ce b2 30 [vS [], vS [], vI 0, .slice none 0 0, .slice none 0 0, .slice none 0 0, vS []]] from ent_pick)
     ·
      refine I0 (k:=Vv (k:=I0 (k:=Vv (k:=P0 (k:=Vv (k:=Gi 18 (t:=fun h79 => ?_) (f:=fun h79 => ?_)))))))
      ·
       refine O1 (k:=O1 (k:=P1 (k:=Wq (Z1 (k:=Za (k:=Zr (k:=Vx (Ps [vS [], vS [], .int .i64 0, .slice none 0 0, .slice none 0 0, .slice none 0 0, vS []]) (k:=Zp (k:=Vv (k:=Wq (Zt (k:=?_))))))))))))
       refine Va ?_
       have hn : readK s = none := hnone fun c h => by
        obtain ⟨o1, o2, o3, o4, o5, o6, _⟩ := prgCk_some (reads_prg hrd h)
        first
        | (rw [o6] at h82; exact absurd h82 (by decide))
        | (rw [o5] at h79; exact absurd h79 (by decide))
        | (rw [o4] at h75; exact absurd h75 (by decide))
        | (rw [o3] at h71; exact absurd h71 (by decide))
        | (rw [o2] at h67; exact absurd h67 (by decide))
        | (rw [o1] at h63; exact absurd h63 (by decide))
       rw [hn]
       refine fin_ret (ka0, ck0) (vs := [_, _]) (Cs := [Ce b2 30 (ckVals ka0 ck0)]) rfl (.cell (l := ckVals ka0 ck0) (us := ckVals ka0 ck0) rfl (shows_ce (T := 30)) Tryz.underlying30 rfl ti30 (by exact Nat.le_of_ble_eq_true rfl) rfl (.tmp rfl .nil)) rfl ⟨rfl, Nat.le_refl _⟩ ?_
       exact ent_noCk.trans (show Ent _ [Row 25 2 (.slice none 0 0) 0 [], SlI none [], Row 66 4 (.slice none 0 0) 0 [], Ce b2 30 [vS [], vS [], vI 0, .slice none 0 0, .slice none 0 0, .slice none 0 0, vS []]] from ent_pick)
      ·
       refine I0 (k:=Vv (k:=I0 (k:=Vv (k:=P0 (k:=Wq (Zi (t:=fun h82 => ?_) (f:=fun h82 => ?_)))))))
       ·
        refine Za (k:=Zr (k:=Vx (Ps [vS [], vS [], .int .i64 0, .slice none 0 0, .slice none 0 0, .slice none 0 0, vS []]) (k:=Zp (k:=Vv (k:=Wq (Zt (k:=Va ?_)))))))
        have hn : readK s = none := hnone fun c h => by
         obtain ⟨o1, o2, o3, o4, o5, o6, _⟩ := prgCk_some (reads_prg hrd h)
         first
         | (rw [o6] at h82; exact absurd h82 (by decide))
         | (rw [o5] at h79; exact absurd h79 (by decide))
         | (rw [o4] at h75; exact absurd h75 (by decide))
         | (rw [o3] at h71; exact absurd h71 (by decide))
         | (rw [o2] at h67; exact absurd h67 (by decide))
         | (rw [o1] at h63; exact absurd h63 (by decide))
        rw [hn]
        refine fin_ret (ka0, ck0) (vs := [_, _]) (Cs := [Ce b2 30 (ckVals ka0 ck0)]) rfl (.cell (l := ckVals ka0 ck0) (us := ckVals ka0 ck0) rfl (shows_ce (T := 30)) Tryz.underlying30 rfl ti30 (by exact Nat.le_of_ble_eq_true rfl) rfl (.tmp rfl .nil)) rfl ⟨rfl, Nat.le_refl _⟩ ?_
        exact ent_noCk.trans (show Ent _ [Row 25 2 (.slice none 0 0) 0 [], SlI none [], Row 66 4 (.slice none 0 0) 0 [], Ce b2 30 [vS [], vS [], vI 0, .slice none 0 0, .slice none 0 0, .slice none 0 0, vS []]] from ent_pick)
       ·
        refine Zk (k:=Ya (Za (k:=Zr (k:=Vv (k:=?_)))))
        refine r_call1 (hS 66) rfl rfl rfl ?_
        refine Vv (k:=?_)
        refine wo_pv (pv_extract (v := vS ((one1 (argsOf 66 (cdsOf qs))).getD [])) rfl rfl) rfl ?_
        refine wo_pv (pv_extract (v := vB (one1 (argsOf 66 (cdsOf qs))).isSome) rfl rfl) rfl ?_
        refine Vf 0 9 (k:=Zo (k:=Wq (Za (k:=Zr (k:=Vv (k:=Vv (k:=Vv (k:=Vv (k:=Vf 1 9 (k:=Zo (k:=Vf 2 3 (k:=?_))))))))))))
        refine Zo (k:=Vf 6 9 (k:=Zo (k:=Vf 5 28 (k:=Zo (k:=Wq (Za (k:=Za (k:=Zr (k:=Vv (k:=?_))))))))))
        refine r_callX (card_Of_sp ca qs.length cc 70) rfl rfl rfl (fun x99 _ => ?_)
        refine Wq (Zb (k:=?_))
        refine p_rangeFunc (fun pre => [FlB b6 ((one1 (argsOf 66 (cdsOf qs))).getD []) ((prgText (cdsOf qs)).getD []) (((prgDay (cdsOf qs)).getD 0 : Nat) : Int) (.slice ta ts.length tc) ((one1 (argsOf 85 (cdsOf qs))).getD []) (pre.map (fun p => flOf p.2.args)), CdM qs, Row 66 4 (.slice ta ts.length tc) ts.length (ts.flatMap tgCells), Ce b2 30 [vS [], vS [], vI 0, .slice none 0 0, .slice none 0 0, .slice none 0 0, vS []]]) (fun j pre => [Pu False]) rfl (card_Of_it qs.length cc x99.1 x99.2 qs 70 (B := Row 133 2 (.slice ca qs.length cc) qs.length (qs.flatMap CdV.cells)) sla_row rfl (by omega)) rfl (fun _ => by rfl) rfl ?_ (fun l pre q hok => ?_) ?_ (fun j pre hs => ?_)
        · (refine ent_app ?_; simp only [List.map_nil]; refine Ent.trans (row_nil (e := 25) (sz := 2)) ?_; exact (fold_flb (b := b6) (fl := []) none 0 0 (by rfl) (by rfl) (by rfl) (by rfl) (by rfl) (by rfl) (by rfl)).trans ent_pick)
        ·
         obtain ⟨rr, hrr⟩ := hok
         obtain ⟨hqm, _⟩ := ofL_mem (p := q) (by rw [hrr]; simp)
         have hqzz := hqz q.2 hqm
         have hpl : pre.length ≤ 1073741824 := by
          have h1 := congrArg List.length (ofL_argsOf 70 qs)
          have h2 := (hz 70).1
          have h3 := congrArg List.length hrr
          rw [List.length_map] at h1
          simp at h3; omega
         refine wc_ent' (ent_cd hqm HasC.get) ?_
         refine wc_front (FlB b6 ((one1 (argsOf 66 (cdsOf qs))).getD []) ((prgText (cdsOf qs)).getD []) (((prgDay (cdsOf qs)).getD 0 : Nat) : Int) (.slice ta ts.length tc) ((one1 (argsOf 85 (cdsOf qs))).getD []) (pre.map (fun p => flOf p.2.args))) (wc_exi fun z => wc_al ?_)
         obtain ⟨za, zc⟩ := z
         obtain ⟨qi, ql, qa, qc, xs⟩ := q
         dsimp only at hqzz hqm
         dsimp only [encO]
         obtain ⟨fl, hfl⟩ : ∃ fl, fl = pre.map (fun p => flOf p.2.args) := ⟨_, rfl⟩
         have hfll : fl.length ≤ 1073741824 := by rw [hfl, List.length_map]; exact hpl
         rw [← hfl]
         have hfo : flOf xs = if xs.length = 2 then (xs.getD 0 [], xs.getD 1 []) else if xs.length = 1 then (xs.getD 0 [], []) else ([], []) := rfl
         refine Zr (k:=Vv (k:=Wg (Zb (k:=Za (k:=Zr (k:=Vx (Ps [vS [], vS []]) (k:=Zc [vS [], vS []] (k:=fun b21 => Zp (k:=Wq (Za (k:=Za (k:=?_))))))))))))
         refine Zr (k:=Vv (k:=Vv (k:=Wq (Zb (k:=Za (k:=Zb (k:=Za (k:=Zb (k:=Za (k:=Za (k:=Za (k:=?_))))))))))))
         refine Zr (k:=Vv (k:=Vv (k:=Wq (Zi (t:=fun h105 => ?_) (f:=fun h105 => ?_)))))
         ·
          refine Ze (k:=Xa (Xa (Xb (Ya (Zr (k:=Vv (k:=Ye 1 (m := 1) (k:=?_))))))))
          refine r_eload Tryz.underlying9 rfl rfl (get_mapD [] (m := 1) (by omega)) rfl ?_
          refine Vf 1 9 (k:=Zo (k:=Wn (Yb (Ya (Za (k:=Zr (k:=Vv (k:=Ye 1 (m := 0) (k:=?_)))))))))
          refine r_eload Tryz.underlying9 rfl rfl (get_mapD [] (m := 0) (by omega)) rfl ?_
          refine Vf 0 9 (k:=Zo (k:=Wq (Ze (k:=Xb (Ya (Zr (k:=Vf 3 26 (k:=Zd (k:=Zm [_, _] (k:=Zv [_] (cs := [_, _]) (k:=fun b120 => ?_)))))))))))
          refine r_append1 (sz := 2) (bytes := 32) Tryz.underlying26 ti25 rfl rfl rfl rfl rfl rfl rfl (by rfl) (by rfl) (by omega) (by simp only [maxLen]; omega) rfl (fun a121 c121 => ?_)
          refine Vf 3 26 (k:=Zo (k:=Wn (Yb ?_)))
          refine to_round ?_
          rw [List.map_append, List.map_singleton, ← hfl]
          first
          | (rw [if_pos (by omega)] at hfo
             exact ent_step (fold_flb a121 c121 (fl.length + 1) (by simp) (by rfl) (by rfl) (by rfl) (by rfl) (by rfl) (by rw [fm_snoc, hfo]; rfl)) ent_pick)
          | (rw [if_neg (by omega), if_pos (by omega)] at hfo
             exact ent_step (fold_flb a121 c121 (fl.length + 1) (by simp) (by rfl) (by rfl) (by rfl) (by rfl) (by rfl) (by rw [fm_snoc, hfo]; rfl)) ent_pick)
          | (rw [if_neg (by omega), if_neg (by omega)] at hfo
             exact ent_step (fold_flb a121 c121 (fl.length + 1) (by simp) (by rfl) (by rfl) (by rfl) (by rfl) (by rfl) (by rw [fm_snoc, hfo]; rfl)) ent_pick)
         ·
          refine Zk (k:=Ya (Za (k:=Zr (k:=Vv (k:=Vv (k:=Wq (Zi (t:=fun h107 => ?_) (f:=fun h107 => ?_))))))))
          ·
           refine Ze (k:=Xa (Xo (k:=Xa (Xb (Ya (Za (k:=Zr (k:=Vv (k:=Ye 1 (m := 0) (k:=?_))))))))))
           refine r_eload Tryz.underlying9 rfl rfl (get_mapD [] (m := 0) (by omega)) rfl ?_
           refine Vf 0 9 (k:=Zo (k:=Wq (Ze (k:=Xb (Ya (Zr (k:=Vf 3 26 (k:=Zd (k:=Zm [_, _] (k:=Zv [_] (cs := [_, _]) (k:=fun b120 => ?_)))))))))))
           refine r_append1 (sz := 2) (bytes := 32) Tryz.underlying26 ti25 rfl rfl rfl rfl rfl rfl rfl (by rfl) (by rfl) (by omega) (by simp only [maxLen]; omega) rfl (fun a121 c121 => ?_)
           refine Vf 3 26 (k:=Zo (k:=Wn (Yb ?_)))
           refine to_round ?_
           rw [List.map_append, List.map_singleton, ← hfl]
           first
           | (rw [if_pos (by omega)] at hfo
              exact ent_step (fold_flb a121 c121 (fl.length + 1) (by simp) (by rfl) (by rfl) (by rfl) (by rfl) (by rfl) (by rw [fm_snoc, hfo]; rfl)) ent_pick)
           | (rw [if_neg (by omega), if_pos (by omega)] at hfo
              exact ent_step (fold_flb a121 c121 (fl.length + 1) (by simp) (by rfl) (by rfl) (by rfl) (by rfl) (by rfl) (by rw [fm_snoc, hfo]; rfl)) ent_pick)
           | (rw [if_neg (by omega), if_neg (by omega)] at hfo
              exact ent_step (fold_flb a121 c121 (fl.length + 1) (by simp) (by rfl) (by rfl) (by rfl) (by rfl) (by rfl) (by rw [fm_snoc, hfo]; rfl)) ent_pick)
          ·
           refine Zk (k:=Ya (Ze (k:=Xo (k:=Xa (Xo (k:=Xa (Xb (Ya (Zr (k:=Vf 3 26 (k:=Zd (k:=?_))))))))))))
           refine Zm [_, _] (k:=Zv [_] (cs := [_, _]) (k:=fun b120 => ?_))
           refine r_append1 (sz := 2) (bytes := 32) Tryz.underlying26 ti25 rfl rfl rfl rfl rfl rfl rfl (by rfl) (by rfl) (by omega) (by simp only [maxLen]; omega) rfl (fun a121 c121 => ?_)
           refine Vf 3 26 (k:=Zo (k:=Wn (Yb ?_)))
           refine to_round ?_
           rw [List.map_append, List.map_singleton, ← hfl]
           first
           | (rw [if_pos (by omega)] at hfo
              exact ent_step (fold_flb a121 c121 (fl.length + 1) (by simp) (by rfl) (by rfl) (by rfl) (by rfl) (by rfl) (by rw [fm_snoc, hfo]; rfl)) ent_pick)
           | (rw [if_neg (by omega), if_pos (by omega)] at hfo
              exact ent_step (fold_flb a121 c121 (fl.length + 1) (by simp) (by rfl) (by rfl) (by rfl) (by rfl) (by rfl) (by rw [fm_snoc, hfo]; rfl)) ent_pick)
           | (rw [if_neg (by omega), if_neg (by omega)] at hfo
              exact ent_step (fold_flb a121 c121 (fl.length + 1) (by simp) (by rfl) (by rfl) (by rfl) (by rfl) (by rfl) (by rw [fm_snoc, hfo]; rfl)) ent_pick)
        ·
         skip
         refine Yb (Ya (Za (k:=?_)))
         have hfiles : (ofL 70 qs 0).map (fun p => flOf p.2.args) = (prgC (cdsOf qs)).files := by
          show _ = (argsOf 70 (cdsOf qs)).map flOf
          rw [← ofL_argsOf 70 qs, List.map_map]; rfl
         rw [hfiles]
         refine wc_front (FlB b6 ((one1 (argsOf 66 (cdsOf qs))).getD []) ((prgText (cdsOf qs)).getD []) (((prgDay (cdsOf qs)).getD 0 : Nat) : Int) (.slice ta ts.length tc) ((one1 (argsOf 85 (cdsOf qs))).getD []) ((prgC (cdsOf qs)).files)) (wc_exi fun z => wc_al ?_)
         obtain ⟨za, zc⟩ := z
         dsimp only
         refine wc_know (A := CdM qs) HasC.get cdm_cap (fun hcap => ?_)
         obtain ⟨pa, pc, hone, hat⟩ := oneS_at 80 qs
         have hpcap := one_cap hat hcap
         refine wc_ent' (ent_one hat HasC.get) ?_
         refine Zr (k:=Vv (k:=?_))
         refine r_call1 (card_One_sp (B := Row 133 2 (.slice ca qs.length cc) qs.length (qs.flatMap CdV.cells)) (a := ca) qs.length cc qs 80 sla_row rfl (by omega)) rfl rfl rfl ?_
         rw [hone]
         refine Vv (k:=?_)
         refine wo_pv (pv_extract (v := .slice pa ((argsOf 80 (cdsOf qs)).headD []).length pc) rfl rfl) rfl ?_
         refine Vv (k:=Vf 4 27 (k:=Zo (k:=Wq (Za (k:=Za (k:=Zr (k:=?_)))))))
         have hPr := checkin_Print_sp (Bf := Row 25 2 (.slice za ((prgC (cdsOf qs)).files).length zc) ((prgC (cdsOf qs)).files).length (((prgC (cdsOf qs)).files).flatMap flCells)) (Bt := Row 66 4 (.slice ta ts.length tc) ts.length (ts.flatMap tgCells)) ⟨za, zc, pa, pc, ta, tc⟩ (prgC (cdsOf qs)) (ckZ_prg hbz (by omega)) sla_row (by rw [show (prgC (cdsOf qs)).tags = ts from hx58.symm]; exact sla_row) hpcap
         rw [show (prgC (cdsOf qs)).parents = (argsOf 80 (cdsOf qs)).headD [] from rfl] at hPr
         have hcv : (Value.agg #[vS ((one1 (argsOf 66 (cdsOf qs))).getD []), vS ((prgText (cdsOf qs)).getD []), vI (((prgDay (cdsOf qs)).getD 0 : Nat) : Int), .slice za ((prgC (cdsOf qs)).files).length zc, .slice pa ((argsOf 80 (cdsOf qs)).headD []).length pc, .slice ta ts.length tc, vS ((one1 (argsOf 85 (cdsOf qs))).getD [])]) = .agg (ckVals ⟨za, zc, pa, pc, ta, tc⟩ (prgC (cdsOf qs))).toArray := by rw [hx58]; rfl
         rw [← hcv] at hPr
         refine Zm [_, _, _, _, _, _, _] (k:=?_)
         refine r_call1 hPr rfl rfl rfl ?_
         refine Vv (k:=Vv (k:=Wq (Zi (t:=fun h132 => ?_) (f:=fun h132 => ?_))))
         ·
          refine Za (k:=Zr (k:=Vx (Ps [vS [], vS [], .int .i64 0, .slice none 0 0, .slice none 0 0, .slice none 0 0, vS []]) (k:=Zp (k:=Vv (k:=Wq (Zt (k:=Va ?_)))))))
          have hn : readK s = none := hnone fun c h => by
           obtain ⟨_, _, _, _, _, _, o7⟩ := prgCk_some (reads_prg hrd h)
           have e : prK (prgC (cdsOf qs)) = s := by rw [← o7, prK, if_pos h.1]; exact h.2
           exact h132 e
          rw [hn]
          refine fin_ret (ka0, ck0) (vs := [_, _]) (Cs := [Ce b2 30 (ckVals ka0 ck0)]) rfl (.cell (l := ckVals ka0 ck0) (us := ckVals ka0 ck0) rfl (shows_ce (T := 30)) Tryz.underlying30 rfl ti30 (by exact Nat.le_of_ble_eq_true rfl) rfl (.tmp rfl .nil)) rfl ⟨rfl, Nat.le_refl _⟩ ?_
          exact ent_noCk.trans (show Ent _ [Row 25 2 (.slice none 0 0) 0 [], SlI none [], Row 66 4 (.slice none 0 0) 0 [], Ce b2 30 [vS [], vS [], vI 0, .slice none 0 0, .slice none 0 0, .slice none 0 0, vS []]] from ent_pick)
         ·
          refine Zk (k:=Ya (Za (k:=Zr (k:=Zm [_, _, _, _, _, _, _] (k:=Zp (k:=Vv (k:=Wq (Zt (k:=?_)))))))))
          have he : prK (prgC (cdsOf qs)) = s := Classical.not_not.1 h132
          have hk : readK s = some (prgC (cdsOf qs)) := readK_iff.2 (by
           rw [prK] at he
           split at he
           · rename_i hR; exact ⟨hR, he⟩
           · have := (reads_len hrd).1
             rw [← he] at this; simp at this)
          rw [hk]
          refine fin_ret (⟨za, zc, pa, pc, ta, tc⟩, prgC (cdsOf qs)) (vs := [_, _]) (Cs := [Ce b2 30 [vS ((one1 (argsOf 66 (cdsOf qs))).getD []), vS ((prgText (cdsOf qs)).getD []), vI (((prgDay (cdsOf qs)).getD 0 : Nat) : Int), .slice za ((prgC (cdsOf qs)).files).length zc, .slice pa ((argsOf 80 (cdsOf qs)).headD []).length pc, .slice ta ts.length tc, vS ((one1 (argsOf 85 (cdsOf qs))).getD [])]]) rfl (.cell (l := [vS ((one1 (argsOf 66 (cdsOf qs))).getD []), vS ((prgText (cdsOf qs)).getD []), vI (((prgDay (cdsOf qs)).getD 0 : Nat) : Int), .slice za ((prgC (cdsOf qs)).files).length zc, .slice pa ((argsOf 80 (cdsOf qs)).headD []).length pc, .slice ta ts.length tc, vS ((one1 (argsOf 85 (cdsOf qs))).getD [])]) rfl (shows_ce (T := 30)) Tryz.underlying30 rfl ti30 (by exact Nat.le_of_ble_eq_true rfl) rfl (.tmp rfl .nil)) ?_ ⟨rfl, hpcap⟩ ?_
          · show Value.tuple #[_, _] = Value.tuple #[_, _]
            rw [← hcv]; rfl
          · show Ent _ [Row 25 2 (.slice za ((prgC (cdsOf qs)).files).length zc) ((prgC (cdsOf qs)).files).length (((prgC (cdsOf qs)).files).flatMap flCells), SlI pa (((argsOf 80 (cdsOf qs)).headD []).map vS), Row 66 4 (.slice ta ((readT (argsOf 84 (cdsOf qs))).getD []).length tc) ((readT (argsOf 84 (cdsOf qs))).getD []).length (((readT (argsOf 84 (cdsOf qs))).getD []).flatMap tgCells), _]
            rw [← hx58]
            exact ent_pick
        ·
         exact wc_no (fun s => by obtain ⟨_, _, _, _, a, _⟩ := s; exact a)
end Go.Proofs.YtibccdcemcgkeaaGreat
end
section
set_option maxRecDepth 100000
namespace Go.Proofs.YtibccdcemcgkeaaGreat
def ctVals (ta : Option Addr) (tc : Nat) (c : Ct) : List Value := [vI c.date, .slice ta c.tags.length tc, vS c.user]
def ct0 : Ct := ⟨0, [], []⟩
set_option maxHeartbeats 1000000 in
theorem control_Right_sp {Bt : HP} (ta : Option Addr) (tc : Nat) (c : Ct) (zu : c.user.length ≤ 1099511627) (zt : TgZ c.tags) (sht : SlA Bt ta (c.tags.flatMap tgCells)) :
    Sp1 Tryz.prog 82 [.agg (ctVals ta tc c).toArray] [Bt] (vB (decide (RightCt c))) [Bt] := by
 have hT := checkin_RightTags_sp false c.tags.length tc c.tags sht rfl zt.n (fun t ht => by have := zt.z t ht; omega)
 refine Sp.body (n := 27) Tryz.call82 Tryz.func82 rfl rfl rfl ?_
 refine Za (k:=Zr (k:=Zx [_, _, _] (k:=fun b1 => Vv (k:=Wq (Za (k:=Zr (k:=Vf 0 3 (k:=Zd (k:=Vv (k:=Vv (k:=Gi 3 (t:=fun h6 => ?_) (f:=fun h6 => ?_))))))))))))
 ·
  refine I1 (k:=Vf 0 3 (k:=I1 (k:=Zd (k:=I1 (k:=Vv (k:=P1 (k:=Vv (k:=Gi 8 (t:=fun h11 => ?_) (f:=fun h11 => ?_)))))))))
  ·
   refine I1 (k:=Vf 1 28 (k:=I1 (k:=Zd (k:=I1 (k:=Vv (k:=I1 (k:=Vv (k:=P1 (k:=Vv (k:=Gi 14 (t:=fun h17 => ?_) (f:=fun h17 => ?_)))))))))))
   ·
    refine I1 (k:=Vf 1 28 (k:=I1 (k:=Zd (k:=I1 (k:=?_)))))
    refine r_call1 hT rfl rfl rfl ?_
    refine P1 (k:=Vv (k:=Gi 19 (t:=fun h22 => ?_) (f:=fun h22 => ?_)))
    ·
     refine I1 (k:=Vf 2 9 (k:=I1 (k:=Zd (k:=I1 (k:=?_)))))
     refine r_callF (escape_Word_sp c.user (by omega)) rfl rfl rfl ?_
     refine P1 (k:=Vv (k:=Wq (Zt (k:=?_))))
     refine fin_ret () (vs := [_]) (Cs := []) rfl (.tmp rfl .nil) ?_ trivial ent_pick
     show vB _ = vB _
     congr 1
     first
     | exact (decide_eq_false (fun h => h22 h.tags)).symm
     | exact (decide_eq_false (fun h => by have := h.some; have := h.date; omega)).symm
     | exact decide_eq_decide.2 ⟨fun h => ⟨by omega, by omega, h22, h⟩, fun h => h.user⟩
    ·
     refine O0 (k:=O0 (k:=O0 (k:=P0 (k:=Vv (k:=Wq (Zt (k:=?_)))))))
     refine fin_ret () (vs := [_]) (Cs := []) rfl (.tmp rfl .nil) ?_ trivial ent_pick
     show vB _ = vB _
     congr 1
     first
     | exact (decide_eq_false (fun h => h22 h.tags)).symm
     | exact (decide_eq_false (fun h => by have := h.some; have := h.date; omega)).symm
     | exact decide_eq_decide.2 ⟨fun h => ⟨by omega, by omega, h22, h⟩, fun h => h.user⟩
   ·
    refine O0 (k:=O0 (k:=O0 (k:=P0 (k:=Vv (k:=O0 (k:=O0 (k:=O0 (k:=P0 (k:=Vv (k:=Wq (Zt (k:=?_))))))))))))
    refine fin_ret () (vs := [_]) (Cs := []) rfl (.tmp rfl .nil) ?_ trivial ent_pick
    show vB _ = vB _
    congr 1
    first
    | exact (decide_eq_false (fun h => h22 h.tags)).symm
    | exact (decide_eq_false (fun h => by have := h.some; have := h.date; omega)).symm
    | exact decide_eq_decide.2 ⟨fun h => ⟨by omega, by omega, h22, h⟩, fun h => h.user⟩
  ·
   refine O0 (k:=O0 (k:=O0 (k:=O0 (k:=P0 (k:=Vv (k:=O0 (k:=O0 (k:=O0 (k:=P0 (k:=Vv (k:=O0 (k:=?_))))))))))))
   refine O0 (k:=O0 (k:=P0 (k:=Vv (k:=Wq (Zt (k:=?_))))))
   refine fin_ret () (vs := [_]) (Cs := []) rfl (.tmp rfl .nil) ?_ trivial ent_pick
   show vB _ = vB _
   congr 1
   first
   | exact (decide_eq_false (fun h => h22 h.tags)).symm
   | exact (decide_eq_false (fun h => by have := h.some; have := h.date; omega)).symm
   | exact decide_eq_decide.2 ⟨fun h => ⟨by omega, by omega, h22, h⟩, fun h => h.user⟩
 ·
  refine O0 (k:=O0 (k:=O0 (k:=P0 (k:=Vv (k:=O0 (k:=O0 (k:=O0 (k:=O0 (k:=P0 (k:=Vv (k:=O0 (k:=?_))))))))))))
  refine O0 (k:=O0 (k:=P0 (k:=Vv (k:=O0 (k:=O0 (k:=O0 (k:=P0 (k:=Vv (k:=Wq (Zt (k:=?_)))))))))))
  refine fin_ret () (vs := [_]) (Cs := []) rfl (.tmp rfl .nil) ?_ trivial ent_pick
  show vB _ = vB _
  congr 1
  first
  | exact (decide_eq_false (fun h => h22 h.tags)).symm
  | exact (decide_eq_false (fun h => by have := h.some; have := h.date; omega)).symm
  | exact decide_eq_decide.2 ⟨fun h => ⟨by omega, by omega, h22, h⟩, fun h => h.user⟩
def prCt (c : Ct) : Bs := if RightCt c then ctB c else []
set_option maxHeartbeats 2000000 in
theorem control_Print_sp {Bt : HP} (ta : Option Addr) (tc : Nat) (c : Ct) (zu : c.user.length ≤ 1099511627) (zt : TgZ c.tags) (sht : SlA Bt ta (c.tags.flatMap tgCells)) :
    Sp1 Tryz.prog 30 [.agg (ctVals ta tc c).toArray] [Bt] (vS (prCt c)) [Bt] := by
 have hRt := control_Right_sp ta tc c zu zt sht
 have hTC := checkin_TagCards_sp c.tags.length tc c.tags sht rfl zt
 refine Sp.body (n := 26) Tryz.call30 Tryz.func30 rfl rfl rfl ?_
 refine Za (k:=Zr (k:=Zx [_, _, _] (k:=fun b1 => Vv (k:=Wq (Za (k:=Za (k:=Zr (k:=Zm [_, _, _] (k:=?_)))))))))
 refine r_call1 hRt rfl rfl rfl ?_
 refine Vv (k:=Wq (Zi (t:=fun h6 => ?_) (f:=fun h6 => ?_)))
 ·
  refine Za (k:=Zr (k:=Vv (k:=Wq (Zt (k:=Va ?_)))))
  have hn : ¬ RightCt c := by simpa using h6
  refine fin_ret () (vs := [_]) (Cs := []) rfl (.tmp rfl .nil) ?_ trivial ent_pick
  rw [prCt, if_neg hn]; rfl
 ·
  have hR : RightCt c := by simpa using h6
  have hsz := ct_small hR
  have htl := hR.tags.len
  have hDec : SpF Tryz.prog 78 [vI c.date] (vS (decN c.date.toNat)) := by
   have h1 := hR.date
   have := digit_Dec_sp c.date.toNat (by omega)
   rwa [Int.toNat_of_nonneg h1.1] at this
  refine Zk (k:=Ya (Za (k:=Zr (k:=Vf 0 3 (k:=Zd (k:=?_))))))
  refine r_callF hDec rfl rfl rfl ?_
  refine Zv [_] (cs := [_]) (k:=fun b10 => Vx (Ps [_, _]) (k:=Zv [_] (cs := [_, _]) (k:=fun b12 => ?_)))
  refine wo_frzC b10 ?_
  refine wo_ent' (ent_cdm_one (a := some ⟨b10, 0, none⟩) (c := 1) 68 [decN c.date.toNat] [vS (decN c.date.toNat)] HasC.get rfl (Nat.le_refl _)) ?_
  refine wo_ent' (ent_row (k := 1) (cap := 1) (sz := 2) (e := 133) (g := b12) (xs := ([⟨68, some ⟨b10, 0, none⟩, 1, [decN c.date.toNat]⟩] : List CdV).flatMap CdV.cells) (cur := [vU 68, .slice (some ⟨b10, 0, none⟩) 1 1]) (Nat.le_refl _) (by simp [maxLen]) rfl rfl rfl) ?_
  obtain ⟨ds, hds⟩ : ∃ ds : List CdV, ds = [⟨68, some ⟨b10, 0, none⟩, 1, [decN c.date.toNat]⟩] := ⟨_, rfl⟩
  rw [← hds]
  refine Vv (k:=Wq (Za (k:=Zr (k:=Vv (k:=Vf 1 28 (k:=Zd (k:=?_)))))))
  refine r_callX hTC rfl rfl rfl (fun x16 hx16 => ?_)
  obtain ⟨⟨ga, gc⟩, tqs⟩ := x16
  dsimp only [cardV, cardH] at hx16 ⊢
  have htq := cdsLen hx16
  rw [List.length_map] at htq
  refine r_appendA (sz := 2) (bytes := 32) Tryz.underlying119 ti133 rfl rfl rfl rfl rfl rfl rfl (cells_len tqs) (cells_one tqs) (by omega) (by simp only [maxLen]; omega) rfl (fun a17 c17 => ?_)
  refine Vv (k:=Wq (Za (k:=Zr (k:=Vv (k:=Vf 2 9 (k:=Zd (k:=Zv [_] (cs := [_]) (k:=fun b21 => Vx (Ps [_, _]) (k:=Zv [_] (cs := [_, _]) (k:=fun b23 => ?_))))))))))
  refine r_append1 (sz := 2) (bytes := 32) Tryz.underlying119 ti133 rfl rfl rfl rfl rfl rfl rfl (by rfl) (by rfl) (by omega) (by simp only [maxLen]; omega) rfl (fun a24 c24 => ?_)
  refine wo_frzC b21 ?_
  obtain ⟨al, hal⟩ : ∃ al : List CdV, al = ds ++ tqs ++ [⟨85, some ⟨b21, 0, none⟩, 1, [c.user]⟩] := ⟨_, rfl⟩
  have halc : cdsOf al = ctCards c := by rw [hal, cdsOf_app, cdsOf_app, hx16, hds, ctCards]; simp [cdsOf, CdV.cd]
  have hall : al.length = 1 + tqs.length + 1 := by rw [hal, hds]; simp; omega
  have hxx : ds.flatMap CdV.cells ++ tqs.flatMap CdV.cells ++ [vU 85, .slice (some ⟨b21, 0, none⟩) 1 1] = al.flatMap CdV.cells := by rw [hal]; simp [CdV.cells]
  have hPr := card_Print_sp (B := Row 133 2 (.slice a24 (1 + tqs.length + 1) c24) (1 + tqs.length + 1) (ds.flatMap CdV.cells ++ tqs.flatMap CdV.cells ++ [vU 85, .slice (some ⟨b21, 0, none⟩) 1 1])) (a := a24) (1 + tqs.length + 1) c24 al (by rw [← hxx]; exact sla_row) hall (by rw [halc]; omega)
  rw [show (vS (prB (cdsOf al))) = vS (prCt c) from by rw [prCt, if_pos hR, prB, halc, if_pos (rightCt_cards hR)]; rfl] at hPr
  refine wo_ent' (ent_cdm_app (qs := ds) (rs := tqs) HasC.get HasC.get) ?_
  refine wo_ent' (ent_cdm_new (qs := ds ++ tqs) (a := some ⟨b21, 0, none⟩) (c := 1) 85 [c.user] [vS c.user] HasC.get HasC.get rfl (Nat.le_refl _)) ?_
  rw [← hal]
  refine r_call1 hPr rfl rfl rfl ?_
  refine Vv (k:=Wq (Zt (k:=?_)))
  exact fin_ret () (vs := [_]) (Cs := []) rfl (.tmp rfl .nil) rfl trivial ent_pick
theorem ctLoop_le {N : Nat} : ∀ (l : List Cd) (st : Int × Bs), st.2.length ≤ N → (∀ c ∈ l, ∀ a ∈ c.args, a.length ≤ N) → (ctLoop l st).2.length ≤ N := by
 intro l
 induction l with
 | nil => intro st h _; exact h
 | cons x r ih =>
   intro st h hz
   have hr := fun c hc => hz c (List.mem_cons_of_mem x hc)
   simp only [ctLoop]
   split
   · exact h
   · rename_i hx
     have h0 : (x.args.getD 0 []).length ≤ N := hz x (by simp) _ (by
      have hp : 0 < x.args.length := by omega
      simp [hp])
     split
     · split
       · exact ih _ h hr
       · exact h
     · split
       · exact ih _ h0 hr
       · exact ih _ h hr
theorem ctLoop_step {l : List Cd} {j : Nat} (h : j < l.length) (st : Int × Bs) : ctLoop (l.drop j) st = (if (l.getD j cd0).args.length = 0 then st
    else if (l.getD j cd0).l.toNat = 68 then (match readDec ((l.getD j cd0).args.getD 0 []) with | some n => ctLoop (l.drop (j + 1)) ((n : Int), st.2) | none => (0, st.2))
    else if (l.getD j cd0).l.toNat = 85 then ctLoop (l.drop (j + 1)) (st.1, (l.getD j cd0).args.getD 0 []) else ctLoop (l.drop (j + 1)) st) := by
 have e : l.drop j = l.getD j cd0 :: l.drop (j + 1) := by
  rw [List.drop_eq_getElem_cons h]; simp [h]
 rw [e, ctLoop]
 rfl
def prgCtC (l : List Cd) : Ct := ⟨(ctLoop l (0, [])).1, (readT (argsOf 84 l)).getD [], (ctLoop l (0, [])).2⟩
theorem reads_prgCt {s : Bs} {l : List Cd} (hl : ReadsC s l) {c : Ct} (h : ReadsCt s c) : (readT (argsOf 84 l)).isSome = true ∧ c = prgCtC l := by
 have e : prgCt l = some c := by rw [hl.uniq h.reads]; exact prgCt_cards h.1
 unfold prgCt at e
 cases e2 : readT (argsOf 84 l) with
 | none => rw [e2] at e; cases e
 | some t => rw [e2] at e; cases e; rw [prgCtC, e2]; exact ⟨rfl, rfl⟩
abbrev ctH (x : (Option Addr × Nat) × Ct) : List HP := [Row 66 4 (.slice x.1.1 x.2.tags.length x.1.2) x.2.tags.length (x.2.tags.flatMap tgCells)]
set_option maxHeartbeats 4000000 in
theorem control_Read_sp (s : Bs) (hs : s.length ≤ 1073741824) : Sp Tryz.prog 24 [vS s] [] (X := (Option Addr × Nat) × Ct) (fun x => .tuple #[.agg (ctVals x.1.1 x.1.2 x.2).toArray, vB (readCt s).isSome]) (fun x => x.2 = (readCt s).getD ct0) ctH := by
 refine Sp.body (n := 67) Tryz.call24 Tryz.func24 rfl rfl rfl ?_
 refine Za (k:=Zr (k:=Zc [.int .i64 0, .slice none 0 0, vS []] (k:=fun b2 => Vv (k:=Wq (Zs (k:=Za (k:=Zr (k:=Zc [.int .i64 0, .slice none 0 0, vS []] (k:=fun b4 => Wq (Za (k:=Zr (k:=?_))))))))))))
 refine Vv (k:=?_)
 refine r_callX (card_Read_sp s hs) rfl rfl rfl (fun x12 hx12 => ?_)
 obtain ⟨⟨ca, cc⟩, qs⟩ := x12
 dsimp only [cardV, cardH] at hx12 ⊢
 refine Vv (k:=?_)
 refine wo_pv (pv_extract (v := .slice ca qs.length cc) rfl rfl) rfl ?_
 refine wo_pv (pv_extract (v := vB (readC s).isSome) rfl rfl) rfl ?_
 refine Vv (k:=Vv (k:=Wq (Za (k:=Za (k:=Zr (k:=Vv (k:=Vv (k:=Wq (Zi (t:=fun h16 => ?_) (f:=fun h16 => ?_))))))))))
 ·
  refine Za (k:=Zr (k:=Zm [_, _, _] (k:=Zp (k:=Vv (k:=Wq (Zt (k:=Va (Vs ?_))))))))
  have hn : readCt s = none := the_none fun c h => by
   rw [readC_iff.2 h.reads] at h16; simp at h16
  rw [hn]
  refine fin_ret ((none, 0), ct0) (vs := [_, _]) (Cs := [Ce b2 54 (ctVals none 0 ct0)]) rfl (.cell (l := ctVals none 0 ct0) (us := ctVals none 0 ct0) rfl (shows_ce (T := 54)) Tryz.underlying54 rfl ti54 (by exact Nat.le_of_ble_eq_true rfl) rfl (.tmp rfl .nil)) rfl rfl ?_
  exact (row_nil (e := 66) (sz := 4)).trans (show Ent _ [Row 66 4 (.slice none 0 0) 0 [], Ce b2 54 [vI 0, .slice none 0 0, vS []]] from ent_pick)
 ·
  have hl : readC s = some (cdsOf qs) := by cases e : readC s with
   | none => rw [e] at h16; simp at h16
   | some l => rw [e] at hx12; rw [hx12]; rfl
  have hrd := readC_iff.1 hl
  have hbz : (bodyB (cdsOf qs)).length ≤ 1073741824 := by
   have h1 := congrArg List.length hrd.2
   rw [printB, sealB_len] at h1; omega
  obtain ⟨hqn, hqz⟩ := cds_sizes hbz
  have hz := fun x => argsOf_sizes hbz x
  have hza : ∀ c ∈ cdsOf qs, ∀ a ∈ c.args, a.length ≤ 1073741824 := fun c hc a ha => Nat.le_trans (mem_le_args ha) (Nat.le_trans ((bodyB_args (cdsOf qs)).2 c hc) hbz)
  have hnone : ∀ (h : ∀ c, ReadsCt s c → False), readCt s = none := fun h => the_none h
  have hll : (cdsOf qs).length = qs.length := by simp [cdsOf]
  refine Zk (k:=Ya (Za (k:=Zr (k:=Vv (k:=?_)))))
  refine r_callX (checkin_ReadTags_sp (B := Row 133 2 (.slice ca qs.length cc) qs.length (qs.flatMap CdV.cells)) (a := ca) qs.length cc qs sla_row rfl hbz) rfl rfl rfl (fun x20 hx20 => ?_)
  obtain ⟨⟨ta, tc⟩, ts⟩ := x20
  dsimp only [tagV, tagH] at hx20 ⊢
  refine Vv (k:=?_)
  refine wo_pv (pv_extract (v := .slice ta ts.length tc) rfl rfl) rfl ?_
  refine wo_pv (pv_extract (v := vB (readT (argsOf 84 (cdsOf qs))).isSome) rfl rfl) rfl ?_
  refine Vv (k:=Vv (k:=Wq (Za (k:=Za (k:=Zr (k:=Vv (k:=Vv (k:=Wq (Zi (t:=fun h24 => ?_) (f:=fun h24 => ?_))))))))))
  ·
   refine Za (k:=Zr (k:=Zm [_, _, _] (k:=Zp (k:=Vv (k:=Wq (Zt (k:=Va (Vs ?_))))))))
   have hn : readCt s = none := hnone fun c h => by
    have o1 := (reads_prgCt hrd h).1
    rw [o1] at h24; exact absurd h24 (by decide)
   rw [hn]
   refine fin_ret ((none, 0), ct0) (vs := [_, _]) (Cs := [Ce b2 54 (ctVals none 0 ct0)]) rfl (.cell (l := ctVals none 0 ct0) (us := ctVals none 0 ct0) rfl (shows_ce (T := 54)) Tryz.underlying54 rfl ti54 (by exact Nat.le_of_ble_eq_true rfl) rfl (.tmp rfl .nil)) rfl rfl ?_
   exact (row_nil (e := 66) (sz := 4)).trans (show Ent _ [Row 66 4 (.slice none 0 0) 0 [], Ce b2 54 [vI 0, .slice none 0 0, vS []]] from ent_pick)
  ·
   refine Zk (k:=Ya (Za (k:=Zr (k:=Vv (k:=Vf 1 28 (k:=Zo (k:=Wq (Za (k:=Zl (k:=Ya ?_))))))))))
   refine p_cut (fun (u : Unit) => [(0, vS s), (2, .pointer (some ⟨b2, 0, none⟩)), (4, .pointer (some ⟨b4, 0, none⟩))]) (fun (u : Unit) => [Ce b4 54 [vI (ctLoop (cdsOf qs) (0, [])).1, .slice ta ts.length tc, vS (ctLoop (cdsOf qs) (0, [])).2], Row 66 4 (.slice ta ts.length tc) ts.length (ts.flatMap tgCells), Ce b2 54 [vI 0, .slice none 0 0, vS []]]) rfl (fun u => ?_) ?_
   ·
    try dsimp only
    refine Za (k:=Za (k:=Zr (k:=?_)))
    have hTZ : TgZ ts := by
     rw [hx20]
     cases e : readT (argsOf 84 (cdsOf qs)) with
     | none => exact ⟨by simp, fun t ht => by simp at ht⟩
     | some us =>
       obtain ⟨r1, r2⟩ := readT_le (N := 1073741824) (fun xs hx a ha => ((hz 84).2 xs hx).2 a ha) e
       have := (hz 84).1
       exact ⟨by simp only [Option.getD_some]; omega, fun t ht => by have := r2 t ht; omega⟩
    have hul := ctLoop_le (N := 1073741824) (cdsOf qs) (0, []) (by simp) hza
    obtain ⟨pc, hpc⟩ : ∃ pc : Ct, pc = ⟨(ctLoop (cdsOf qs) (0, [])).1, ts, (ctLoop (cdsOf qs) (0, [])).2⟩ := ⟨_, rfl⟩
    have hpe : pc = prgCtC (cdsOf qs) := by rw [hpc, hx20]; rfl
    have hPr := control_Print_sp (Bt := Row 66 4 (.slice ta ts.length tc) ts.length (ts.flatMap tgCells)) ta tc pc (by rw [hpc]; dsimp only; omega) (by rw [hpc]; exact hTZ) (by rw [hpc]; exact sla_row)
    have hcv : (.agg (ctVals ta tc pc).toArray : Value) = .agg #[vI (ctLoop (cdsOf qs) (0, [])).1, .slice ta ts.length tc, vS (ctLoop (cdsOf qs) (0, [])).2] := by rw [hpc]; rfl
    rw [hcv] at hPr
    refine Zm [_, _, _] (k:=?_)
    refine r_call1 hPr rfl rfl rfl ?_
    refine Vv (k:=Vv (k:=Wq (Zi (t:=fun h64 => ?_) (f:=fun h64 => ?_))))
    ·
     refine Za (k:=Zr (k:=Vx (Ps [.int .i64 0, .slice none 0 0, vS []]) (k:=Zp (k:=Vv (k:=Wq (Zt (k:=Va (Vs ?_))))))))
     have hn : readCt s = none := hnone fun c h => by
      have e := (reads_prgCt hrd h).2
      have e2 : prCt pc = s := by rw [hpe, ← e, prCt, if_pos h.1]; exact h.2
      exact h64 e2
     rw [hn]
     refine fin_ret ((none, 0), ct0) (vs := [_, _]) (Cs := [Ce b2 54 (ctVals none 0 ct0)]) rfl (.cell (l := ctVals none 0 ct0) (us := ctVals none 0 ct0) rfl (shows_ce (T := 54)) Tryz.underlying54 rfl ti54 (by exact Nat.le_of_ble_eq_true rfl) rfl (.tmp rfl .nil)) rfl rfl ?_
     exact (row_nil (e := 66) (sz := 4)).trans (show Ent _ [Row 66 4 (.slice none 0 0) 0 [], Ce b2 54 [vI 0, .slice none 0 0, vS []]] from ent_pick)
    ·
     refine Zk (k:=Ya (Za (k:=Zr (k:=Zm [_, _, _] (k:=Zp (k:=Vv (k:=Wq (Zt (k:=Vs ?_)))))))))
     have he : prCt pc = s := Classical.not_not.1 h64
     have hk : readCt s = some pc := readCt_iff.2 (by
      rw [prCt] at he
      split at he
      · rename_i hR; exact ⟨hR, he⟩
      · have := (reads_len hrd).1
        rw [← he] at this; simp at this)
     rw [hk]
     refine fin_ret ((ta, tc), pc) (vs := [_, _]) (Cs := [Ce b2 54 [vI (ctLoop (cdsOf qs) (0, [])).1, .slice ta ts.length tc, vS (ctLoop (cdsOf qs) (0, [])).2]]) rfl (.cell (l := [vI (ctLoop (cdsOf qs) (0, [])).1, .slice ta ts.length tc, vS (ctLoop (cdsOf qs) (0, [])).2]) rfl (shows_ce (T := 54)) Tryz.underlying54 rfl ti54 (by exact Nat.le_of_ble_eq_true rfl) rfl (.tmp rfl .nil)) ?_ rfl ?_
     · show Value.tuple #[_, _] = Value.tuple #[_, _]
       rw [hcv]; rfl
     · rw [hpc]
       exact ent_pick
   ·
    refine Za (k:=Zr (k:=Vv (k:=Vv (k:=Vv (k:=Wq (Zb (k:=?_)))))))
    refine p_loop (fun (i : { x : Nat × Int × Bs // x.1 ≤ qs.length ∧ ctLoop ((cdsOf qs).drop x.1) x.2 = ctLoop (cdsOf qs) (0, []) }) => [(0, vS s), (2, .pointer (some ⟨b2, 0, none⟩)), (4, .pointer (some ⟨b4, 0, none⟩)), (28, .slice ca qs.length cc), (29, vI qs.length), (30, vI i.1.1)]) (fun (i : { x : Nat × Int × Bs // x.1 ≤ qs.length ∧ ctLoop ((cdsOf qs).drop x.1) x.2 = ctLoop (cdsOf qs) (0, []) }) => [Ce b4 54 [vI i.1.2.1, .slice ta ts.length tc, vS i.1.2.2], Row 66 4 (.slice ta ts.length tc) ts.length (ts.flatMap tgCells), Ce b2 54 [vI 0, .slice none 0 0, vS []], Row 133 2 (.slice ca qs.length cc) qs.length (qs.flatMap CdV.cells), CdM qs]) (fun (i : { x : Nat × Int × Bs // x.1 ≤ qs.length ∧ ctLoop ((cdsOf qs).drop x.1) x.2 = ctLoop (cdsOf qs) (0, []) }) => qs.length - i.1.1) rfl (⟨(0, 0, []), Nat.zero_le _, rfl⟩) ?_ ?_ (fun i => ?_)
    · exact ⟨rfl, rfl, rfl, rfl, rfl, rfl, trivial⟩
    ·
     exact ent_pick
    obtain ⟨⟨j, day, user⟩, hj, hlp⟩ := i
    dsimp only at hj hlp ⊢
    try dsimp only
    refine Za (k:=Zr (k:=Vv (k:=Wq (Za (k:=Zi (t:=fun h31 => ?_) (f:=fun h31 => ?_))))))
    ·
     refine Zk (k:=Ya (Za (k:=Zb (k:=Za (k:=?_)))))
     have hjl : j < qs.length := by omega
     have hst := ctLoop_step (l := cdsOf qs) (j := j) (by omega) (day, user)
     rw [hlp, cds_getD hjl] at hst
     have hqm : qs[j] ∈ qs := List.getElem_mem hjl
     obtain ⟨q, hq⟩ : ∃ q, q = qs[j] := ⟨_, rfl⟩
     rw [← hq] at hst hqm
     have hqzz := hqz q hqm
     have hq0 : ∀ i, i < q.args.length → (q.args.getD i []).length ≤ 1073741824 := fun i hi => Nat.le_trans (mem_le_args (by simp [hi])) hqzz.1
     rw [show q.cd.args = q.args from rfl, show q.cd.l = q.l from rfl] at hst
     dsimp only at hst
     refine wc_ent' (ent_cd hqm HasC.get) ?_
     refine Zr (k:=Ye 2 (k:=?_))
     refine r_eloada (vs := [_, _]) (sz := 2) Tryz.underlying133 rfl ti133 rfl rfl (by rw [flat_len (sz := 2) (fun _ => rfl)]; omega) rfl (by refine get_flat (fun x => ?_) ?_ <;> first | rfl | omega) rfl ?_
     rw [← hq]
     refine Zc [.int .u8 0, .slice none 0 0] (k:=fun b9 => Zp (k:=Wq (Za (k:=Za (k:=Zr (k:=Vf 1 27 (k:=Zd (k:=Vv (k:=Vv (k:=Wq (Zi (t:=fun h37 => ?_) (f:=fun h37 => ?_))))))))))))
     ·
      refine Ze (k:=Xa (Xo (k:=Xa (Xi (Xb ?_)))))
      first
      | (have hjl : j = qs.length := by omega
         rw [List.drop_of_length_le (by omega)] at hlp
         have e : ctLoop (cdsOf qs) (0, []) = (day, user) := hlp.symm
         rw [e]
         exact to_inv () trivial ⟨rfl, rfl, rfl, trivial⟩ (ent_step (ce_norm (by rfl) (by rfl)) ent_pick))
      | (rw [if_pos (by omega)] at hst
         rw [hst]
         exact to_inv () trivial ⟨rfl, rfl, rfl, trivial⟩ (ent_step (ce_norm (by rfl) (by rfl)) ent_pick))
      | (have hn : readDec (q.args.getD 0 []) = none := by cases e : readDec (q.args.getD 0 []) with
           | none => rfl
           | some v => rw [e] at h52; simp at h52
         rw [hn] at hst
         rw [hn]
         dsimp only at hst
         rw [hst]
         exact to_inv () trivial ⟨rfl, rfl, rfl, trivial⟩ (ent_step (ce_norm (by rfl) (by rfl)) ent_pick))
     ·
      refine Zk (k:=Ya (Za (k:=Zr (k:=Vf 0 5 (k:=Zd (k:=Wq (Zb (k:=Za (k:=Zr (k:=Vv (k:=Vv (k:=?_))))))))))))
      refine Wq (Zi (t:=fun h40 => ?_) (f:=fun h40 => ?_))
      ·
       refine Za (k:=Zr (k:=Vf 1 27 (k:=Zd (k:=Ye 1 (m := 0) (k:=?_)))))
       refine r_eload Tryz.underlying9 rfl rfl (get_mapD [] (m := 0) (by omega)) rfl ?_
       have hq00 := hq0 0 (by omega)
       rw [if_neg (by omega), if_pos (by omega)] at hst
       refine r_callF (digit_ReadDec_sp _ (by omega)) rfl rfl rfl ?_
       refine Vv (k:=?_)
       refine wo_pv (pv_extract (v := vI (((readDec (q.args.getD 0 [])).getD 0 : Nat) : Int)) rfl rfl) rfl ?_
       refine wo_pv (pv_extract (v := vB (readDec (q.args.getD 0 [])).isSome) rfl rfl) rfl ?_
       refine Vf 0 3 (k:=Zo (k:=Vv (k:=Wq (Za (k:=Zr (k:=Vv (k:=Vv (k:=Wq (Zi (t:=fun h52 => ?_) (f:=fun h52 => ?_))))))))))
       ·
        refine Ze (k:=Xo (k:=Xo (k:=Xa (Xi (Xb ?_)))))
        first
        | (have hjl : j = qs.length := by omega
           rw [List.drop_of_length_le (by omega)] at hlp
           have e : ctLoop (cdsOf qs) (0, []) = (day, user) := hlp.symm
           rw [e]
           exact to_inv () trivial ⟨rfl, rfl, rfl, trivial⟩ (ent_step (ce_norm (by rfl) (by rfl)) ent_pick))
        | (rw [if_pos (by omega)] at hst
           rw [hst]
           exact to_inv () trivial ⟨rfl, rfl, rfl, trivial⟩ (ent_step (ce_norm (by rfl) (by rfl)) ent_pick))
        | (have hn : readDec (q.args.getD 0 []) = none := by cases e : readDec (q.args.getD 0 []) with
             | none => rfl
             | some v => rw [e] at h52; simp at h52
           rw [hn] at hst
           rw [hn]
           dsimp only at hst
           rw [hst]
           exact to_inv () trivial ⟨rfl, rfl, rfl, trivial⟩ (ent_step (ce_norm (by rfl) (by rfl)) ent_pick))
       ·
        refine Zk (k:=Yb (Yb (Ya (Zr (k:=Vv (k:=Vv (k:=Wn ?_)))))))
        first
        | (obtain ⟨v, hv⟩ : ∃ v, readDec (q.args.getD 0 []) = some v := by cases e : readDec (q.args.getD 0 []) with
             | none => rw [e] at h52; simp at h52
             | some v => exact ⟨v, rfl⟩
           rw [hv] at hst
           rw [hv]
           dsimp only at hst
           exact to_inv ⟨(j + 1, (v : Int), user), by dsimp only; omega, hst.symm⟩ (by dsimp only; omega) ⟨rfl, rfl, rfl, rfl, rfl, rfl, trivial⟩ (ent_step (ce_norm (by rfl) (by rfl)) ent_pick))
        | exact to_inv ⟨(j + 1, day, q.args.getD 0 []), by dsimp only; omega, hst.symm⟩ (by dsimp only; omega) ⟨rfl, rfl, rfl, rfl, rfl, rfl, trivial⟩ ent_pick
        | exact to_inv ⟨(j + 1, day, user), by dsimp only; omega, hst.symm⟩ (by dsimp only; omega) ⟨rfl, rfl, rfl, rfl, rfl, rfl, trivial⟩ ent_pick
      ·
       refine Za (k:=Zr (k:=Vv (k:=Vv (k:=Wq (Zi (t:=fun h53 => ?_) (f:=fun h53 => ?_))))))
       ·
        refine Zr (k:=Vf 1 27 (k:=Zd (k:=Ye 1 (m := 0) (k:=?_))))
        refine r_eload Tryz.underlying9 rfl rfl (get_mapD [] (m := 0) (by omega)) rfl ?_
        rw [if_neg (by omega), if_neg (by omega), if_pos (by omega)] at hst
        refine Vf 2 9 (k:=Zo (k:=Wn (Yb (Yb (Ya (Zr (k:=Vv (k:=Vv (k:=Wn ?_)))))))))
        first
        | (obtain ⟨v, hv⟩ : ∃ v, readDec (q.args.getD 0 []) = some v := by cases e : readDec (q.args.getD 0 []) with
             | none => rw [e] at h52; simp at h52
             | some v => exact ⟨v, rfl⟩
           rw [hv] at hst
           rw [hv]
           dsimp only at hst
           exact to_inv ⟨(j + 1, (v : Int), user), by dsimp only; omega, hst.symm⟩ (by dsimp only; omega) ⟨rfl, rfl, rfl, rfl, rfl, rfl, trivial⟩ (ent_step (ce_norm (by rfl) (by rfl)) ent_pick))
        | exact to_inv ⟨(j + 1, day, q.args.getD 0 []), by dsimp only; omega, hst.symm⟩ (by dsimp only; omega) ⟨rfl, rfl, rfl, rfl, rfl, rfl, trivial⟩ ent_pick
        | exact to_inv ⟨(j + 1, day, user), by dsimp only; omega, hst.symm⟩ (by dsimp only; omega) ⟨rfl, rfl, rfl, rfl, rfl, rfl, trivial⟩ ent_pick
       ·
        rw [if_neg (by omega), if_neg (by omega), if_neg (by omega)] at hst
        refine Zk (k:=Yb (Yb (Ya (Zr (k:=Vv (k:=Vv (k:=Wn ?_)))))))
        first
        | (obtain ⟨v, hv⟩ : ∃ v, readDec (q.args.getD 0 []) = some v := by cases e : readDec (q.args.getD 0 []) with
             | none => rw [e] at h52; simp at h52
             | some v => exact ⟨v, rfl⟩
           rw [hv] at hst
           rw [hv]
           dsimp only at hst
           exact to_inv ⟨(j + 1, (v : Int), user), by dsimp only; omega, hst.symm⟩ (by dsimp only; omega) ⟨rfl, rfl, rfl, rfl, rfl, rfl, trivial⟩ (ent_step (ce_norm (by rfl) (by rfl)) ent_pick))
        | exact to_inv ⟨(j + 1, day, q.args.getD 0 []), by dsimp only; omega, hst.symm⟩ (by dsimp only; omega) ⟨rfl, rfl, rfl, rfl, rfl, rfl, trivial⟩ ent_pick
        | exact to_inv ⟨(j + 1, day, user), by dsimp only; omega, hst.symm⟩ (by dsimp only; omega) ⟨rfl, rfl, rfl, rfl, rfl, rfl, trivial⟩ ent_pick
    ·
     refine Ze (k:=Xa (Xi (Xb ?_)))
     first
     | (have hjl : j = qs.length := by omega
        rw [List.drop_of_length_le (by omega)] at hlp
        have e : ctLoop (cdsOf qs) (0, []) = (day, user) := hlp.symm
        rw [e]
        exact to_inv () trivial ⟨rfl, rfl, rfl, trivial⟩ (ent_step (ce_norm (by rfl) (by rfl)) ent_pick))
     | (rw [if_pos (by omega)] at hst
        rw [hst]
        exact to_inv () trivial ⟨rfl, rfl, rfl, trivial⟩ (ent_step (ce_norm (by rfl) (by rfl)) ent_pick))
     | (have hn : readDec (q.args.getD 0 []) = none := by cases e : readDec (q.args.getD 0 []) with
          | none => rfl
          | some v => rw [e] at h52; simp at h52
        rw [hn] at hst
        rw [hn]
        dsimp only at hst
        rw [hst]
        exact to_inv () trivial ⟨rfl, rfl, rfl, trivial⟩ (ent_step (ce_norm (by rfl) (by rfl)) ent_pick))
end Go.Proofs.YtibccdcemcgkeaaGreat
end
