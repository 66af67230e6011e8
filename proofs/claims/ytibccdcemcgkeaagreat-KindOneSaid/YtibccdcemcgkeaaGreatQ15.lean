/- Texts of this proof, put together: SCk4, SCk5, PCk3. -/
import Derived.Test.YtibccdcemcgkeaaGreatQ08
import Derived.Test.YtibccdcemcgkeaaGreatQ14
import Derived.Test.YtibccdcemcgkeaaGreatQ09
import Derived.Test.YtibccdcemcgkeaaGreatQ12
import Derived.Test.YtibccdcemcgkeaaGreatQ11
set_option linter.unusedVariables false
set_option linter.unusedSimpArgs false
section
set_option maxRecDepth 100000
namespace Go.Proofs.YtibccdcemcgkeaaGreat
theorem readT_app (l m : List (List Bs)) : readT (l ++ m) = (readT l).bind fun ts => (readT m).map (ts ++ ·) := by
 induction l with
 | nil =>
   simp only [List.nil_append, readT, Option.bind_some]
   cases readT m <;> simp
 | cons x l ih =>
   simp only [List.cons_append, readT]
   cases tgOf x with
   | none => rfl
   | some t =>
     dsimp only
     rw [ih]
     cases readT l with
     | none => rfl
     | some ts => cases readT m <;> simp
theorem readT_bad {l r : List (List Bs)} {x : List Bs} (h : tgOf x = none) : readT (l ++ x :: r) = none := by
 rw [readT_app]
 cases readT l with
 | none => rfl
 | some ts => simp [readT, h]
theorem readT_good {l : List (List Bs)} {x : List Bs} {ts : List Tg} {t : Tg} (h : readT l = some ts) (hx : tgOf x = some t) : readT (l ++ [x]) = some (ts ++ [t]) := by
 rw [readT_app, h]; simp [readT, hx]
/-- Tags that are being read. -/
def TgB (b : Nat) (pre : List (List Bs)) : HP := Ex fun z : List Tg × Option Addr × Nat => Al [Pu (readT pre = some z.1), Ce b 28 [.slice z.2.1 z.1.length z.2.2], Row 66 4 (.slice z.2.1 z.1.length z.2.2) z.1.length (z.1.flatMap tgCells)]
theorem fold_tgb {b T : Nat} {pre : List (List Bs)} {v : Value} {Hs R1 Rs : List HP} (ts : List Tg) (a : Option Addr) (k m : Nat) (hf : readT pre = some ts) (hm : m = ts.length) [q : OwnC b T [v] Hs R1] (hT : T = 28) (h1 : v = .slice a m k) {n : Nat} {ys : List Value} {e sz : Nat} [q2 : RowC (.slice a m k) e sz n ys R1 Rs] (he : e = 66) (hsz : sz = 4) (hn : n = m) (hy : ys = ts.flatMap tgCells) : Ent Hs (TgB b pre :: Rs) := by
 subst hT; subst h1; subst he; subst hsz; subst hn; subst hy; subst hm
 refine ent_ex (ts, a, k) ?_
 refine ent_al (ent_pu hf ?_)
 exact Picks.ent (.cons q.get (.cons q2.get .nil))
abbrev tagV (x : (Option Addr × Nat) × List Tg) : Value := .slice x.1.1 x.2.length x.1.2
abbrev tagH (x : (Option Addr × Nat) × List Tg) : HP := Row 66 4 (.slice x.1.1 x.2.length x.1.2) x.2.length (x.2.flatMap tgCells)
set_option maxHeartbeats 2000000 in
theorem checkin_ReadTags_sp {B : HP} {a : Option Addr} (n cap : Nat) (qs : List CdV) (sh : SlA B a (qs.flatMap CdV.cells)) (hn : qs.length = n) (hz : (bodyB (cdsOf qs)).length ≤ 1073741824) :
    Sp Tryz.prog 70 [.slice a n cap] [B, CdM qs] (X := (Option Addr × Nat) × List Tg) (fun x => .tuple #[tagV x, vB (readT (argsOf 84 (cdsOf qs))).isSome]) (fun x => x.2 = (readT (argsOf 84 (cdsOf qs))).getD []) (fun x => [tagH x, B]) := by
 have hof := ofL_argsOf 84 qs
 obtain ⟨hqn, hqz⟩ := cds_sizes hz
 refine Sp.body (n := 60) Tryz.call70 Tryz.func70 rfl rfl rfl ?_
 refine Za (k:=Zr (k:=Zc [.slice none 0 0] (k:=fun b2 => Zc [.bool false] (k:=fun b3 => Wq (Za (k:=Zr (k:=Zc [.slice none 0 0] (k:=fun b4 => Wq (Za (k:=Za (k:=Zr (k:=?_))))))))))))
 refine Vv (k:=?_)
 refine r_callX (card_Of_sp a n cap 84) rfl rfl rfl (fun x11 _ => ?_)
 refine Wq (Zb (k:=?_))
 refine p_rangeFunc (fun pre => [Ce b2 28 [.slice none 0 0], Ce b3 4 [.bool false], TgB b4 (pre.map (fun p => p.2.args)), CdM qs]) (fun j pre => match j with | none => [Pu (readT (argsOf 84 (cdsOf qs)) = none), Ce b2 28 [.slice none 0 0], Ce b3 4 [.bool false]] | _ => [Pu False]) rfl (card_Of_it n cap x11.1 x11.2 qs 84 sh hn (by omega)) rfl (fun _ => by rfl) rfl ?_ (fun l pre q hok => ?_) ?_ (fun j pre hs => ?_)
 · (refine ent_app ?_; simp only [List.map_nil]; refine Ent.trans (row_nil (e := 66) (sz := 4)) ?_; exact (fold_tgb (b := b4) (pre := []) [] none 0 0 (by rfl) (by rfl) (by rfl) (by rfl) (by rfl) (by rfl) (by rfl) (by rfl)).trans ent_pick)
 ·
  obtain ⟨rr, hrr⟩ := hok
  obtain ⟨hqm, _⟩ := ofL_mem (p := q) (by rw [hrr]; simp)
  have hqzz := hqz q.2 hqm
  have hqc := ent_cd hqm (Hs := [Ce b2 28 [.slice none 0 0], Ce b3 4 [.bool false], TgB b4 (pre.map (fun p => p.2.args)), CdM qs]) HasC.get
  have hall : argsOf 84 (cdsOf qs) = pre.map (fun p => p.2.args) ++ q.2.args :: rr.map (fun p => p.2.args) := by rw [← hof, hrr]; simp
  refine wc_ent' hqc ?_
  refine wc_front (TgB b4 (pre.map (fun p => p.2.args))) (wc_exi fun z => wc_al (wc_pu fun hq => ?_))
  obtain ⟨ts, ta, tc⟩ := z
  obtain ⟨qi, ql, qa, qc, xs⟩ := q
  dsimp only at hq hqzz hall hqm
  dsimp only [encO]
  have htl : ts.length ≤ pre.length := by
   have key : ∀ (l : List (List Bs)) (ts : List Tg), readT l = some ts → ts.length = l.length := by
    intro l
    induction l with
    | nil => intro ts h; cases h; rfl
    | cons x l ih =>
      intro ts h
      simp only [readT] at h
      split at h
      · cases h
      · cases e : readT l with
        | none => rw [e] at h; cases h
        | some us => rw [e] at h; cases h; simp [ih us e]
   have := key _ _ hq
   simp at this; omega
  have hpl : pre.length ≤ qs.length := by
   have h1 := congrArg List.length hrr
   have h2 : (ofL 84 qs 0).length ≤ qs.length := by
    have h3 := congrArg List.length hof
    rw [List.length_map] at h3
    rw [h3]
    simp only [argsOf, List.length_map]
    refine Nat.le_trans (List.length_filter_le _ _) ?_
    simp [cdsOf]
   simp at h1; omega
  have htg : tgOf xs = if xs.length < 2 ∨ 3 < xs.length ∨ (xs.getD 0 []).length < 2 then none else if xs.length = 3 then (unescB (xs.getD 2 [])).map (fun v => ⟨(xs.getD 0 []).getD 0 0, (xs.getD 0 []).drop 1, xs.getD 1 [], v⟩) else some ⟨(xs.getD 0 []).getD 0 0, (xs.getD 0 []).drop 1, xs.getD 1 [], []⟩ := rfl
  have hx0 : ∀ i, i < xs.length → (xs.getD i []).length ≤ 1073741824 := by
   intro i hi
   have h1 := argsB_len xs
   have h2 := sumL_succ (l := xs) hi
   have h3 := sumL_le (l := xs) (j := i + 1)
   omega
  refine Zr (k:=Vv (k:=Wg (Zb (k:=Za (k:=Za (k:=Zr (k:=Vv (k:=Vv (k:=Vv (k:=Vv (k:=Gi 3 (t:=fun h17 => ?_) (f:=fun h17 => ?_))))))))))))
  ·
   refine O1 (k:=O1 (k:=O1 (k:=P1 (k:=Vv (k:=O1 (k:=O1 (k:=O1 (k:=O1 (k:=O1 (k:=P1 (k:=Wq ?_)))))))))))
   refine Z1 (k:=Za (k:=Zr (k:=Zo (k:=Zo (k:=Wq (Zt (k:=Va (Vb ?_))))))))
   refine to_round_ret ?_
   have hb : tgOf xs = none := by
    rw [htg]
    first
    | rw [if_pos (by omega)]
    | (have hn : unescB (xs.getD 2 []) = none := by cases e : unescB (xs.getD 2 []) with
         | none => rfl
         | some v => rw [e] at h52; simp at h52
       rw [hn]; rfl)
   refine ent_pu (by rw [hall]; exact readT_bad hb) ?_
   exact ent_step (ce_norm (by rfl) (by rfl)) (ent_step (ce_norm (by rfl) (by rfl)) ent_nil)
  ·
   refine I0 (k:=Vv (k:=I0 (k:=Vv (k:=I0 (k:=Vv (k:=P0 (k:=Vv (k:=Gi 8 (t:=fun h22 => ?_) (f:=fun h22 => ?_)))))))))
   ·
    refine O1 (k:=O1 (k:=O1 (k:=O1 (k:=O1 (k:=P1 (k:=Wq (Z1 (k:=Za (k:=Zr (k:=Zo (k:=Zo (k:=?_))))))))))))
    refine Wq (Zt (k:=Va (Vb ?_)))
    refine to_round_ret ?_
    have hb : tgOf xs = none := by
     rw [htg]
     first
     | rw [if_pos (by omega)]
     | (have hn : unescB (xs.getD 2 []) = none := by cases e : unescB (xs.getD 2 []) with
          | none => rfl
          | some v => rw [e] at h52; simp at h52
        rw [hn]; rfl)
    refine ent_pu (by rw [hall]; exact readT_bad hb) ?_
    exact ent_step (ce_norm (by rfl) (by rfl)) (ent_step (ce_norm (by rfl) (by rfl)) ent_nil)
   ·
    refine I0 (k:=Vv (k:=I0 (k:=Ye 1 (m := 0) (k:=I0 (k:=?_)))))
    refine r_eload Tryz.underlying9 rfl rfl (get_mapD [] (m := 0) (by omega)) rfl ?_
    refine I0 (k:=Vv (k:=I0 (k:=Vv (k:=P0 (k:=Wq (Zi (t:=fun h28 => ?_) (f:=fun h28 => ?_)))))))
    ·
     refine Za (k:=Zr (k:=Zo (k:=Zo (k:=Wq (Zt (k:=Va (Vb ?_)))))))
     refine to_round_ret ?_
     have hb : tgOf xs = none := by
      rw [htg]
      first
      | rw [if_pos (by omega)]
      | (have hn : unescB (xs.getD 2 []) = none := by cases e : unescB (xs.getD 2 []) with
           | none => rfl
           | some v => rw [e] at h52; simp at h52
         rw [hn]; rfl)
     refine ent_pu (by rw [hall]; exact readT_bad hb) ?_
     exact ent_step (ce_norm (by rfl) (by rfl)) (ent_step (ce_norm (by rfl) (by rfl)) ent_nil)
    ·
     refine Zk (k:=Ya (Za (k:=?_)))
     have hx00 := hx0 0 (by omega)
     rw [if_neg (by omega)] at htg
     refine Dw [SlI qa (xs.map vS)] (k:=?_)
     refine Di 0 (t:=Uv) (k:=?_)
     refine d_first 1 rfl rfl rfl (by kernel_rfl) (by kernel_rfl) (tl_elemAddr (m := 0) (sz := 1) Tryz.underlying27 ti9 rfl rfl rfl rfl (by omega) (by first | (rw [List.length_map]; omega) | (rw [flat_len (sz := 1) (fun _ => rfl)]; omega) | (simp; omega)) (Nat.mul_one _)) ?_
     refine d_first 2 rfl rfl rfl (by kernel_rfl) (by kernel_rfl) (tl_eload Tryz.underlying9 rfl rfl (get_mapD [] (m := 0) (by omega))) ?_
     refine d_first 3 rfl rfl rfl (by kernel_rfl) (by kernel_rfl) (tl_pv (pv_indexm (m := 0) Tryz.underlying9 rfl rfl rfl (by omega))) ?_
     refine Di 4 (t:=Uv) (k:=?_)
     refine d_first 5 rfl rfl rfl (by kernel_rfl) (by kernel_rfl) (tl_elemAddr (m := 0) (sz := 1) Tryz.underlying27 ti9 rfl rfl rfl rfl (by omega) (by first | (rw [List.length_map]; omega) | (rw [flat_len (sz := 1) (fun _ => rfl)]; omega) | (simp; omega)) (Nat.mul_one _)) ?_
     refine d_first 6 rfl rfl rfl (by kernel_rfl) (by kernel_rfl) (tl_eload Tryz.underlying9 rfl rfl (get_mapD [] (m := 0) (by omega))) ?_
     refine d_first 7 rfl rfl rfl (by kernel_rfl) (by kernel_rfl) (tl_pv (pv_slice_fromm (m := 1) Tryz.underlying9 rfl rfl rfl (by omega))) ?_
     refine Di 8 (t:=Uv) (k:=?_)
     refine d_first 9 rfl rfl rfl (by kernel_rfl) (by kernel_rfl) (tl_elemAddr (m := 1) (sz := 1) Tryz.underlying27 ti9 rfl rfl rfl rfl (by omega) (by first | (rw [List.length_map]; omega) | (rw [flat_len (sz := 1) (fun _ => rfl)]; omega) | (simp; omega)) (Nat.mul_one _)) ?_
     refine d_first 10 rfl rfl rfl (by kernel_rfl) (by kernel_rfl) (tl_eload Tryz.underlying9 rfl rfl (get_mapD [] (m := 1) (by omega))) ?_
     refine Di 11 (t:=Ux (Ps [_, _, _, vS []])) (k:=Dn 12 (k:=Nc [.int .u8 0, vS [], vS [], vS []] (k:=fun b7 => Dn 13 (k:=Na (k:=Dd (k:=Ya (Za (k:=Za (k:=Zr (k:=Vv (k:=Vv (k:=?_))))))))))))
     refine Vv (k:=Wq (Zi (t:=fun h43 => ?_) (f:=fun h43 => ?_)))
     ·
      refine Za (k:=?_)
      have hx02 := hx0 2 (by omega)
      rw [if_pos (by omega)] at htg
      refine Zr (k:=Vv (k:=Ye 1 (m := 2) (k:=?_)))
      refine r_eload Tryz.underlying9 rfl rfl (get_mapD [] (m := 2) (by omega)) rfl ?_
      refine r_callF (escape_Read_sp (xs.getD 2 []) (by omega)) rfl rfl rfl ?_
      refine Vv (k:=Vv (k:=Vv (k:=Vv (k:=Vv (k:=Wq (Za (k:=Za (k:=Zr (k:=Vv (k:=Vv (k:=Wq ?_)))))))))))
      refine Zi (t:=fun h52 => ?_) (f:=fun h52 => ?_)
      ·
       refine Za (k:=Zr (k:=Zo (k:=Zo (k:=Wq (Zt (k:=Va (Va (Vb ?_))))))))
       refine to_round_ret ?_
       have hb : tgOf xs = none := by
        rw [htg]
        first
        | rw [if_pos (by omega)]
        | (have hn : unescB (xs.getD 2 []) = none := by cases e : unescB (xs.getD 2 []) with
             | none => rfl
             | some v => rw [e] at h52; simp at h52
           rw [hn]; rfl)
       refine ent_pu (by rw [hall]; exact readT_bad hb) ?_
       exact ent_step (ce_norm (by rfl) (by rfl)) (ent_step (ce_norm (by rfl) (by rfl)) ent_nil)
      ·
       refine Zk (k:=Ya ?_)
       obtain ⟨v, hv⟩ : ∃ v, unescB (xs.getD 2 []) = some v := by cases e : unescB (xs.getD 2 []) with
        | none => rw [e] at h52; simp at h52
        | some v => exact ⟨v, rfl⟩
       rw [hv, Option.map_some] at htg
       rw [hv]
       refine Zr (k:=Vv (k:=Vf 3 9 (k:=Zo (k:=Wq (Zr (k:=Zd (k:=Zm [_, _, _, _] (k:=Zv [_] (cs := [_, _, _, _]) (k:=fun b57 => ?_)))))))))
       refine r_append1 (sz := 4) (bytes := 56) Tryz.underlying28 ti66 rfl rfl rfl rfl rfl rfl rfl (by rfl) (by rfl) (by omega) (by simp only [maxLen]; omega) rfl (fun a58 c58 => ?_)
       refine Zo (k:=Wn (Yb ?_))
       refine to_round ?_
       have hg := readT_good hq htg
       rw [List.map_append, List.map_singleton]
       exact (fold_tgb (b := b4) _ a58 c58 (ts.length + 1) hg (by simp) (by rfl) (by rfl) (by rfl) (by rfl) (by rfl) (by simp [tgCells])).trans ent_pick
     ·
      rw [if_neg (by omega)] at htg
      refine Zk (k:=Ya (Zr (k:=Zd (k:=Zm [_, _, _, _] (k:=Zv [_] (cs := [_, _, _, _]) (k:=fun b57 => ?_))))))
      refine r_append1 (sz := 4) (bytes := 56) Tryz.underlying28 ti66 rfl rfl rfl rfl rfl rfl rfl (by rfl) (by rfl) (by omega) (by simp only [maxLen]; omega) rfl (fun a58 c58 => ?_)
      refine Zo (k:=Wn (Yb ?_))
      refine to_round ?_
      have hg := readT_good hq htg
      rw [List.map_append, List.map_singleton]
      exact (fold_tgb (b := b4) _ a58 c58 (ts.length + 1) hg (by simp) (by rfl) (by rfl) (by rfl) (by rfl) (by rfl) (by simp [tgCells])).trans ent_pick
 ·
  skip
  refine Yb (Ya (Za (k:=?_)))
  refine wc_front (TgB b4 ((ofL 84 qs 0).map (fun p => p.2.args))) (wc_exi fun z => wc_al (wc_pu fun hq => ?_))
  rw [hof] at hq
  obtain ⟨ts, ta, tc⟩ := z
  dsimp only at hq
  dsimp only
  refine Zr (k:=Zd (k:=Zo (k:=Zo (k:=Wq (Zt (k:=?_))))))
  first
  | (rw [hbad]
     refine fin_ret ((none, 0), []) (vs := [_, _]) (Cs := [Ce b2 28 [.slice none 0 0], Ce b3 4 [.bool false]]) rfl (.cell1 (l := [.slice none 0 0]) rfl (shows_ce (T := 28)) Tryz.underlying28 rfl rfl (.cell1 (l := [.bool false]) rfl (shows_ce (T := 4)) Tryz.underlying4 rfl rfl .nil)) rfl rfl ?_
     exact (row_nil (e := 66) (sz := 4)).trans (show Ent _ [Row 66 4 (.slice none 0 0) 0 [], B, Ce b2 28 [.slice none 0 0], Ce b3 4 [.bool false]] from ent_pick))
  | (rw [hq]
     refine fin_ret ((ta, tc), ts) (vs := [_, _]) (Cs := [Ce b2 28 [.slice ta ts.length tc], Ce b3 4 [.bool true]]) rfl (.cell1 (l := [.slice ta ts.length tc]) rfl (shows_ce (T := 28)) Tryz.underlying28 rfl rfl (.cell1 (l := [.bool true]) rfl (shows_ce (T := 4)) Tryz.underlying4 rfl rfl .nil)) rfl rfl ?_
     exact ent_pick)
 ·
  rcases j with _ | j
  · refine wc_ent0 (Gs := [Pu (readT (argsOf 84 (cdsOf qs)) = none), Ce b2 28 [.slice none 0 0], Ce b3 4 [.bool false], B]) (show Ent ([Pu (readT (argsOf 84 (cdsOf qs)) = none), Ce b2 28 [.slice none 0 0], Ce b3 4 [.bool false]] ++ _) _ from ent_pick) (wc_pu fun hbad => ?_)
    refine Zt (k:=Vb (Va ?_))
    first
    | (rw [hbad]
       refine fin_ret ((none, 0), []) (vs := [_, _]) (Cs := [Ce b2 28 [.slice none 0 0], Ce b3 4 [.bool false]]) rfl (.cell1 (l := [.slice none 0 0]) rfl (shows_ce (T := 28)) Tryz.underlying28 rfl rfl (.cell1 (l := [.bool false]) rfl (shows_ce (T := 4)) Tryz.underlying4 rfl rfl .nil)) rfl rfl ?_
       exact (row_nil (e := 66) (sz := 4)).trans (show Ent _ [Row 66 4 (.slice none 0 0) 0 [], B, Ce b2 28 [.slice none 0 0], Ce b3 4 [.bool false]] from ent_pick))
    | (rw [hq]
       refine fin_ret ((ta, tc), ts) (vs := [_, _]) (Cs := [Ce b2 28 [.slice ta ts.length tc], Ce b3 4 [.bool true]]) rfl (.cell1 (l := [.slice ta ts.length tc]) rfl (shows_ce (T := 28)) Tryz.underlying28 rfl rfl (.cell1 (l := [.bool true]) rfl (shows_ce (T := 4)) Tryz.underlying4 rfl rfl .nil)) rfl rfl ?_
       exact ent_pick)
  · exact wc_no (fun s => by obtain ⟨_, _, _, _, a, _⟩ := s; exact a)
end Go.Proofs.YtibccdcemcgkeaaGreat
end
section
set_option maxRecDepth 100000
namespace Go.Proofs.YtibccdcemcgkeaaGreat
section
variable {P : Program}
/-- What is one's own may be given up for good ahead of a call. -/
theorem Sp.frzC {f : FuncId} {args : List Value} {As : List HP} {X : Type} {val : X → Value} {φ : X → Prop} {Bs : X → List HP} {b T : Nat} {l : List Value}
    (sp : Sp P f args (SlI (some ⟨b, 0, none⟩) l :: As) val φ Bs) : Sp P f args (Ce b T l :: As) val φ Bs := by
 refine ⟨sp.enters, fun w M h hf d t s => ?_⟩
 obtain ⟨h1, h2, d12, e, hb, s2⟩ := s
 have hb' : h1 = Res.one b _ := hb
 subst hb'
 subst e
 obtain ⟨d1, d2⟩ := Res.dj_add_left.1 d
 have eq : ((Res.one b (.cells l.toArray T (0, 0))).add h2).add hf = (Res.one b (.cells l.toArray T (0, 0))).add (h2.add hf) := by simp only [Res.add_assoc]
 obtain ⟨M', le, hi, t2⟩ := freeze_sat (Res.dj_add_right.2 ⟨d12, d1⟩) (eq ▸ t)
 refine (sp.calls w M' h2 hf d2 t2 ⟨Res.emp, h2, Res.emp_dj _, rfl, .inr ⟨b, 0, l, T, (0, 0), rfl, hi, by simp⟩, SL.mono le s2⟩).mono ?_
 rintro e w' ⟨x, M2, h', e1, p, l2, r⟩
 exact ⟨x, M2, h', e1, p, Kn.le_trans le l2, r⟩
end
section
variable {r : Option Nat} {P : Program} {n : Nat} {ops : Array Oper} {A : List HP} {L : Loc} {Hs : List HP} {ty : TypeId} {d : Nat} {pos : String} {after : Array Edge}
theorem an_appendA {K : Loc → List HP → Prop} {t e : TypeId} {x y : Operand} {i : TypeInfo} {z : Value} (ht : P.underlying t = some (.slice e)) (hi : P.info? e = some i) (hz : i.zero = some z) (hzs : Nat.beq z.cells.size i.size = true) {sz : Nat} (hsz : i.size = sz) (hs0 : Nat.blt 0 sz = true) {bytes : Nat} (hby : i.bytes = bytes)
    {v : Value} {k : Nat} {xs news : List Value} {a : Option Addr} {m c : Nat} {B : HP} {R1 R2 : List HP} (hx : ev L x = some v) (hy : ev L y = some (.slice a m c)) [h1 : RowC v e sz k xs Hs R1] [h2 : PickSl a news B R1 R2]
    (hl : news.length = m * sz) (ho : news.all oneCell = true) (hbytes : (k + m) * bytes ≤ 140737488355328) (h63 : k + m ≤ maxLen) (hd : Nat.blt d n = true)
    (k' : ∀ a' c', K ((d, .slice a' (k + m) c') :: L) (Row e sz (.slice a' (k + m) c') (k + m) (xs ++ news) :: B :: R2)) : AnOp r P n ops A ⟨some d, .call ⟨.builtin .append, #[x, y], #[t, t]⟩, ty, pos, after, none⟩ K L Hs := by
 haveI : PicksC [Row e sz v k xs, B] Hs R2 := ⟨.cons h1.get (.cons h2.get .nil)⟩
 refine an_opT (opt_appendA ht hi hz hzs hsz hs0 hby hx hy h2.sla hl ho hbytes h63 (xs := xs)) (by simpa [dstOk] using hd) (fun v' ⟨a', c', h'⟩ => ?_)
 subst h'
 exact k' a' c'
end
theorem cells_len (l : List CdV) : (l.flatMap CdV.cells).length = l.length * 2 := flat_len (f := CdV.cells) (sz := 2) (fun _ => rfl) l
theorem cells_one (l : List CdV) : (l.flatMap CdV.cells).all oneCell = true := by
 rw [List.all_flatMap]
 exact List.all_eq_true.2 fun x _ => rfl
theorem ent_cdm_one {a : Option Addr} {c : Nat} (l : UInt8) (xs : List Bs) (vs : List Value) {Hs : List HP} (hq : Has (SlI a vs) Hs) (hv : vs = xs.map vS) (hc : xs.length ≤ c) : Ent Hs (CdM [⟨l, a, c, xs⟩] :: Hs) := ⟨fun {M g} s => by
 obtain ⟨h2, _, b⟩ := hq.sat s
 subst hv
 exact ⟨Res.emp, g, Res.emp_dj _, rfl, (fun x hx => by rw [List.mem_singleton.1 hx]; exact ⟨b, hc⟩), s⟩⟩
theorem ent_cdm_new {qs : List CdV} {a : Option Addr} {c : Nat} (l : UInt8) (xs : List Bs) (vs : List Value) {Hs : List HP} (hp : Has (CdM qs) Hs) (hq : Has (SlI a vs) Hs) (hv : vs = xs.map vS) (hc : xs.length ≤ c) : Ent Hs (CdM (qs ++ [⟨l, a, c, xs⟩]) :: Hs) := by
 subst hv
 exact ent_cdm_snoc (q := ⟨l, a, c, xs⟩) hp hq hc
def prK (c : Ck) : Bs := if RightK c then ckB c else []
/-- The cards ahead of the tags. -/
def ckHead (c : Ck) : List Cd := bCards c.base ++ [⟨67, [46 :: escB c.comment]⟩, ⟨68, [decN c.date.toNat]⟩] ++ c.files.map flCard ++ pCards c.parents
theorem cdsLen {qs : List CdV} {l : List Cd} (h : cdsOf qs = l) : qs.length = l.length := by rw [← h]; simp [cdsOf]
set_option maxHeartbeats 4000000 in
theorem checkin_Print_sp {Bf Bt : HP} (x : CkA) (c : Ck) (z : CkZ c) (shf : SlA Bf x.fa (c.files.flatMap flCells)) (sht : SlA Bt x.ta (c.tags.flatMap tgCells)) (hpc : c.parents.length ≤ x.pc) :
    Sp1 Tryz.prog 27 [.agg (ckVals x c).toArray] [Bf, SlI x.pa (c.parents.map vS), Bt] (vS (prK c)) [Bf, Bt] := by
 have hRt := checkin_Right_sp x c z shf sht hpc
 have hTC := checkin_TagCards_sp c.tags.length x.tc c.tags sht rfl z.tags
 haveI : RdSl x.fa (c.files.flatMap flCells) [Bf, SlI x.pa (c.parents.map vS), Bt] := ⟨⟨Bf, shf, .here⟩⟩
 obtain ⟨z1, z2, z3, z4, z5, z6, z7, z8, z9⟩ := z
 refine Sp.body (n := 82) Tryz.call27 Tryz.func27 rfl rfl rfl ?_
 refine Za (k:=Zr (k:=Zx [_, _, _, _, _, _, _] (k:=fun b1 => Vv (k:=Wq (Za (k:=Za (k:=Zr (k:=Zm [_, _, _, _, _, _, _] (k:=?_)))))))))
 refine r_call1 hRt rfl rfl rfl ?_
 refine Vv (k:=Wq (Zi (t:=fun h8 => ?_) (f:=fun h8 => ?_)))
 ·
  refine Za (k:=Zr (k:=Vv (k:=Wq (Zt (k:=Va ?_)))))
  have hn : ¬ RightK c := by simpa using h8
  refine fin_ret () (vs := [_]) (Cs := []) rfl (.tmp rfl .nil) ?_ trivial ent_pick
  rw [prK, if_neg hn]; rfl
 ·
  have hR : RightK c := by simpa using h8
  have hsz := ck_small hR
  have hDec : SpF Tryz.prog 78 [vI c.date] (vS (decN c.date.toNat)) := by
   have h1 := hR.date
   have := digit_Dec_sp c.date.toNat (by omega)
   rwa [Int.toNat_of_nonneg h1.1] at this
  refine Zk (k:=Ya (Za (k:=Zr (k:=Vv (k:=Wq ?_)))))
  refine p_cut (fun (i : { x : (Option Addr × Nat) × List CdV // cdsOf x.2 = bCards c.base }) => [(1, .pointer (some ⟨b1, 0, none⟩)), (3, .slice i.1.1.1 i.1.2.length i.1.1.2)]) (fun (i : { x : (Option Addr × Nat) × List CdV // cdsOf x.2 = bCards c.base }) => [Row 133 2 (.slice i.1.1.1 i.1.2.length i.1.1.2) i.1.2.length (i.1.2.flatMap CdV.cells), CdM i.1.2, Ce b1 30 [vS c.base, vS c.comment, vI c.date, .slice x.fa c.files.length x.fc, .slice x.pa c.parents.length x.pc, .slice x.ta c.tags.length x.tc, vS c.user], Bf, SlI x.pa (c.parents.map vS), Bt]) rfl (fun i => ?_) ?_
  ·
   obtain ⟨⟨⟨oa, oc⟩, qs⟩, hcd⟩ := i
   dsimp only at hcd ⊢
   have hql := cdsLen hcd
   have hbl : (bCards c.base).length ≤ 1 := by unfold bCards; split <;> simp
   try dsimp only
   refine Za (k:=Dw [Ce b1 30 [vS c.base, vS c.comment, vI c.date, .slice x.fa c.files.length x.fc, .slice x.pa c.parents.length x.pc, .slice x.ta c.tags.length x.tc, vS c.user]] (k:=?_))
   refine Di 0 (t:=Uv) (k:=Di 1 (t:=Uf 1 9) (k:=Di 2 (t:=Ul) (k:=Di 7 (t:=Uf 2 3) (k:=Di 8 (t:=Ul) (k:=Dn 3 (k:=?_))))))
   refine an_callF (escape_Put_sp c.comment (by omega)) rfl rfl rfl ?_
   have hel := (escB_len c.comment).2
   refine Di 4 (t:=Uv) (k:=Dn 5 (k:=Nl [_] (cs := [_]) (k:=fun b24 => Dn 6 (k:=?_))))
   refine an_callF (checkin_one_sp 67 (some ⟨b24, 0, none⟩) 1 1) rfl rfl rfl ?_
   refine Dn 9 (k:=?_)
   refine an_callF hDec rfl rfl rfl ?_
   refine Dn 10 (k:=Nl [_] (cs := [_]) (k:=fun b29 => Dn 11 (k:=?_)))
   refine an_callF (checkin_one_sp 68 (some ⟨b29, 0, none⟩) 1 1) rfl rfl rfl ?_
   refine Dn 12 (k:=Nl [_, _] (cs := [_, _, _, _]) (k:=fun b31 => Dn 13 (k:=?_)))
   refine an_append1 (sz := 2) (bytes := 32) Tryz.underlying119 ti133 rfl rfl rfl rfl rfl rfl rfl (by rfl) (by rfl) (by omega) (by simp only [maxLen]; omega) rfl (fun a32 c32 => ?_)
   refine Di 14 (t:=Uv) (k:=Dd (k:=Ya (Za (k:=Za (k:=?_)))))
   refine wc_frzC b24 ?_
   refine wc_frzC b29 ?_
   obtain ⟨ps, hps⟩ : ∃ ps : List CdV, ps = qs ++ [⟨67, some ⟨b24, 0, none⟩, 1, [46 :: escB c.comment]⟩] ++ [⟨68, some ⟨b29, 0, none⟩, 1, [decN c.date.toNat]⟩] := ⟨_, rfl⟩
   have hpcd : cdsOf ps = bCards c.base ++ [⟨67, [46 :: escB c.comment]⟩, ⟨68, [decN c.date.toNat]⟩] := by rw [hps, cdsOf_app, cdsOf_app, hcd, List.append_assoc]; rfl
   have hpl : ps.length = qs.length + 2 := by rw [hps]; simp
   have hpf : ps.flatMap CdV.cells = qs.flatMap CdV.cells ++ [vU ((67 : UInt8).toNat : Int), .slice (some ⟨b24, 0, none⟩) 1 1, vU ((68 : UInt8).toNat : Int), .slice (some ⟨b29, 0, none⟩) 1 1] := by rw [hps]; simp [CdV.cells]
   refine Zr (k:=Vf 3 26 (k:=Zd (k:=Vv (k:=Vv (k:=Wq (Zb (k:=?_)))))))
   refine p_loop (fun (i : { y : ((Option Addr × Nat) × List CdV) × Nat // y.2 ≤ c.files.length ∧ cdsOf y.1.2 = cdsOf ps ++ (c.files.take y.2).map flCard }) => [(1, .pointer (some ⟨b1, 0, none⟩)), (3, .slice i.1.1.1.1 i.1.1.2.length i.1.1.1.2), (34, .slice x.fa c.files.length x.fc), (35, vI c.files.length), (36, vI i.1.2)]) (fun (i : { y : ((Option Addr × Nat) × List CdV) × Nat // y.2 ≤ c.files.length ∧ cdsOf y.1.2 = cdsOf ps ++ (c.files.take y.2).map flCard }) => [Row 133 2 (.slice i.1.1.1.1 i.1.1.2.length i.1.1.1.2) i.1.1.2.length (i.1.1.2.flatMap CdV.cells), CdM i.1.1.2, Ce b1 30 [vS c.base, vS c.comment, vI c.date, .slice x.fa c.files.length x.fc, .slice x.pa c.parents.length x.pc, .slice x.ta c.tags.length x.tc, vS c.user], Bf, SlI x.pa (c.parents.map vS), Bt]) (fun (i : { y : ((Option Addr × Nat) × List CdV) × Nat // y.2 ≤ c.files.length ∧ cdsOf y.1.2 = cdsOf ps ++ (c.files.take y.2).map flCard }) => c.files.length - i.1.2) rfl (⟨(((a32, c32), ps), 0), Nat.zero_le _, by simp⟩) ?_ ?_ (fun i => ?_)
   · exact ⟨rfl, sl_eq hpl.symm, rfl, rfl, rfl, trivial⟩
   ·
    dsimp only
    rw [hpl, hpf]
    refine Ent.trans (ent_cdm_new (qs := qs) (a := some ⟨b24, 0, none⟩) (c := 1) 67 [46 :: escB c.comment] [vS ([46] ++ escB c.comment)] HasC.get HasC.get rfl (Nat.le_refl _)) ?_
    refine Ent.trans (ent_cdm_new (qs := qs ++ [⟨67, some ⟨b24, 0, none⟩, 1, [46 :: escB c.comment]⟩]) (a := some ⟨b29, 0, none⟩) (c := 1) 68 [decN c.date.toNat] [vS (decN c.date.toNat)] HasC.get HasC.get rfl (Nat.le_refl _)) ?_
    rw [hps]
    exact ent_step (row_norm (by rfl) (by rfl)) ent_pick
   obtain ⟨⟨⟨⟨fa, fc⟩, fs⟩, j⟩, hj, hfs⟩ := i
   dsimp only at hj hfs ⊢
   have hfl := cdsLen hfs
   have hpl0 : (cdsOf ps).length = ps.length := by simp [cdsOf]
   rw [List.length_append, List.length_map, List.length_take, hpl0] at hfl
   try dsimp only
   refine Za (k:=Zr (k:=Vv (k:=Wq (Za (k:=Zi (t:=fun h37 => ?_) (f:=fun h37 => ?_))))))
   ·
    refine Zk (k:=Ya (Za (k:=Zb (k:=Za (k:=?_)))))
    have hjl : j < c.files.length := by omega
    obtain ⟨f, hf⟩ : ∃ f, f = c.files[j] := ⟨_, rfl⟩
    have hfz := z5 f (by rw [hf]; exact List.getElem_mem _)
    have htk : (c.files.take (j + 1)).map flCard = (c.files.take j).map flCard ++ [flCard f] := by rw [List.take_succ_eq_append_getElem hjl, List.map_append, hf]; rfl
    refine Zr (k:=Ye 2 (k:=?_))
    refine r_eloada (vs := [_, _]) (sz := 2) Tryz.underlying25 rfl ti25 rfl rfl (by rw [flat_len (sz := 2) (fun _ => rfl)]; omega) rfl (by refine get_flat (fun x => ?_) ?_ <;> first | rfl | omega) rfl ?_
    rw [← hf]
    refine Zc [vS [], vS []] (k:=fun b5 => Zp (k:=Wq (Za (k:=Zr (k:=Vf 1 9 (k:=Zd (k:=Vv (k:=Wq (Zi (t:=fun h42 => ?_) (f:=fun h42 => ?_))))))))))
    ·
     refine Zr (k:=Vv (k:=Vf 0 9 (k:=Zd (k:=Zv [_] (cs := [_]) (k:=fun b46 => ?_)))))
     refine r_callF (checkin_one_sp 70 (some ⟨b46, 0, none⟩) 1 1) rfl rfl rfl ?_
     refine Zv [_] (cs := [_, _]) (k:=fun b48 => ?_)
     refine r_append1 (sz := 2) (bytes := 32) Tryz.underlying119 ti133 rfl rfl rfl rfl rfl rfl rfl (by rfl) (by rfl) (by omega) (by simp only [maxLen]; omega) rfl (fun a49 c49 => ?_)
     refine wo_frzC b46 ?_
     obtain ⟨q, hqq⟩ : ∃ q : CdV, q = ⟨70, some ⟨b46, 0, none⟩, 1, [f.1]⟩ := ⟨_, rfl⟩
     have hqc : q.cd = flCard f := by rw [hqq, flCard, if_pos h42]; rfl
     have hqx : q.args.length ≤ q.c := by rw [hqq]; exact Nat.le_refl _
     have hqs : SlI q.a (q.args.map vS) = SlI (some ⟨b46, 0, none⟩) [vS f.1] := by rw [hqq]; rfl
     have hqv : q.cells = [vU ((70 : UInt8).toNat : Int), .slice (some ⟨b46, 0, none⟩) 1 1] := by rw [hqq]; rfl
     refine Vv (k:=Wn (Yb (Ya (Zr (k:=Vv (k:=Vv (k:=Wn ?_)))))))
     have hql2 : (fs ++ [q]).length = fs.length + 1 := by simp
     first
     | (refine to_inv ⟨(((a49, c49), fs ++ [q]), j + 1), ?_, ?_⟩ ?_ ⟨rfl, sl_eq hql2.symm, rfl, rfl, rfl, trivial⟩ ?_
        · dsimp only; omega
        · dsimp only; rw [htk, cds_snoc, hqc, hfs, List.append_assoc]
        · dsimp only; omega
        · dsimp only
          rw [hql2]
          refine (ent_cdm_snoc (qs := fs) (q := q) HasC.get (by rw [hqs]; exact HasC.get) hqx).trans ?_
          exact ent_step (row_norm (by rfl) (by rw [fm_snoc, hqv])) ent_pick)
     | (refine to_inv ⟨(((a58, c58), fs ++ [q]), j + 1), ?_, ?_⟩ ?_ ⟨rfl, sl_eq hql2.symm, rfl, rfl, rfl, trivial⟩ ?_
        · dsimp only; omega
        · dsimp only; rw [htk, cds_snoc, hqc, hfs, List.append_assoc]
        · dsimp only; omega
        · dsimp only
          rw [hql2]
          refine (ent_cdm_snoc (qs := fs) (q := q) HasC.get (by rw [hqs]; exact HasC.get) hqx).trans ?_
          exact ent_step (row_norm (by rfl) (by rw [fm_snoc, hqv])) ent_pick)
    ·
     refine Zr (k:=Vv (k:=Vf 0 9 (k:=Zd (k:=Vf 1 9 (k:=Zd (k:=Zv [_, _] (cs := [_, _]) (k:=fun b55 => ?_)))))))
     refine r_callF (checkin_one_sp 70 (some ⟨b55, 0, none⟩) 2 2) rfl rfl rfl ?_
     refine Zv [_] (cs := [_, _]) (k:=fun b57 => ?_)
     refine r_append1 (sz := 2) (bytes := 32) Tryz.underlying119 ti133 rfl rfl rfl rfl rfl rfl rfl (by rfl) (by rfl) (by omega) (by simp only [maxLen]; omega) rfl (fun a58 c58 => ?_)
     refine wo_frzC b55 ?_
     obtain ⟨q, hqq⟩ : ∃ q : CdV, q = ⟨70, some ⟨b55, 0, none⟩, 2, [f.1, f.2]⟩ := ⟨_, rfl⟩
     have hqc : q.cd = flCard f := by rw [hqq, flCard, if_neg h42]; rfl
     have hqx : q.args.length ≤ q.c := by rw [hqq]; exact Nat.le_refl _
     have hqs : SlI q.a (q.args.map vS) = SlI (some ⟨b55, 0, none⟩) [vS f.1, vS f.2] := by rw [hqq]; rfl
     have hqv : q.cells = [vU ((70 : UInt8).toNat : Int), .slice (some ⟨b55, 0, none⟩) 2 2] := by rw [hqq]; rfl
     refine Vv (k:=Wn (Yb (Ya (Zr (k:=Vv (k:=Vv (k:=Wn ?_)))))))
     have hql2 : (fs ++ [q]).length = fs.length + 1 := by simp
     first
     | (refine to_inv ⟨(((a49, c49), fs ++ [q]), j + 1), ?_, ?_⟩ ?_ ⟨rfl, sl_eq hql2.symm, rfl, rfl, rfl, trivial⟩ ?_
        · dsimp only; omega
        · dsimp only; rw [htk, cds_snoc, hqc, hfs, List.append_assoc]
        · dsimp only; omega
        · dsimp only
          rw [hql2]
          refine (ent_cdm_snoc (qs := fs) (q := q) HasC.get (by rw [hqs]; exact HasC.get) hqx).trans ?_
          exact ent_step (row_norm (by rfl) (by rw [fm_snoc, hqv])) ent_pick)
     | (refine to_inv ⟨(((a58, c58), fs ++ [q]), j + 1), ?_, ?_⟩ ?_ ⟨rfl, sl_eq hql2.symm, rfl, rfl, rfl, trivial⟩ ?_
        · dsimp only; omega
        · dsimp only; rw [htk, cds_snoc, hqc, hfs, List.append_assoc]
        · dsimp only; omega
        · dsimp only
          rw [hql2]
          refine (ent_cdm_snoc (qs := fs) (q := q) HasC.get (by rw [hqs]; exact HasC.get) hqx).trans ?_
          exact ent_step (row_norm (by rfl) (by rw [fm_snoc, hqv])) ent_pick)
   ·
    refine Ze (k:=Xa (Xi (Xb (Ya ?_))))
    refine p_cut (fun (i : { y : (Option Addr × Nat) × List CdV // cdsOf y.2 = ckHead c }) => [(1, .pointer (some ⟨b1, 0, none⟩)), (3, .slice i.1.1.1 i.1.2.length i.1.1.2)]) (fun (i : { y : (Option Addr × Nat) × List CdV // cdsOf y.2 = ckHead c }) => [Row 133 2 (.slice i.1.1.1 i.1.2.length i.1.1.2) i.1.2.length (i.1.2.flatMap CdV.cells), CdM i.1.2, Ce b1 30 [vS c.base, vS c.comment, vI c.date, .slice x.fa c.files.length x.fc, .slice x.pa c.parents.length x.pc, .slice x.ta c.tags.length x.tc, vS c.user], Bf, SlI x.pa (c.parents.map vS), Bt]) rfl (fun i => ?_) ?_
    ·
     obtain ⟨⟨⟨ga, gc⟩, gs⟩, hgs⟩ := i
     dsimp only at hgs ⊢
     have hgl := cdsLen hgs
     have hhl : (ckHead c).length ≤ 20 := by
      have h1 := hR.files.len
      have h4 : (pCards c.parents).length ≤ 1 := by unfold pCards; split <;> simp
      simp only [ckHead, List.length_append, List.length_map, List.length_cons, List.length_nil]; omega
     have htl := hR.tags.len
     try dsimp only
     refine Za (k:=Dw [Ce b1 30 [vS c.base, vS c.comment, vI c.date, .slice x.fa c.files.length x.fc, .slice x.pa c.parents.length x.pc, .slice x.ta c.tags.length x.tc, vS c.user]] (k:=?_))
     refine Di 0 (t:=Uv) (k:=Di 1 (t:=Uf 5 28) (k:=Di 2 (t:=Ul) (k:=Di 5 (t:=Uf 6 9) (k:=Di 6 (t:=Ul) (k:=?_)))))
     refine d_next2 3 7 (by kernel_rfl) rfl rfl ?_ ?_
     ·
      refine an_callX hTC rfl rfl rfl (fun x73 hx73 => ?_)
      refine d_next2 4 7 (by kernel_rfl) rfl rfl ?_ ?_
      ·
       obtain ⟨⟨ta, tc⟩, tqs⟩ := x73
       dsimp only [cardV, cardH] at hx73 ⊢
       have htq := cdsLen hx73
       rw [List.length_map] at htq
       refine an_appendA (sz := 2) (bytes := 32) Tryz.underlying119 ti133 rfl rfl rfl rfl rfl rfl rfl (cells_len tqs) (cells_one tqs) (by omega) (by simp only [maxLen]; omega) rfl (fun a74 c74 => ?_)
       refine Dn 7 (k:=Nl [_] (cs := [_]) (k:=fun b77 => Dn 8 (k:=?_)))
       refine an_callF (checkin_one_sp 85 (some ⟨b77, 0, none⟩) 1 1) rfl rfl rfl ?_
       refine Dn 9 (k:=Nl [_] (cs := [_, _]) (k:=fun b79 => Dn 10 (k:=?_)))
       refine an_append1 (sz := 2) (bytes := 32) Tryz.underlying119 ti133 rfl rfl rfl rfl rfl rfl rfl (by rfl) (by rfl) (by omega) (by simp only [maxLen]; omega) rfl (fun a80 c80 => ?_)
       refine Dn 11 (k:=?_)
       obtain ⟨al, hal⟩ : ∃ al : List CdV, al = gs ++ tqs ++ [⟨85, some ⟨b77, 0, none⟩, 1, [c.user]⟩] := ⟨_, rfl⟩
       have halc : cdsOf al = ckCards c := by rw [hal, cdsOf_app, cdsOf_app, hgs, hx73, ckHead, ckCards]; simp [cdsOf, CdV.cd]
       have hall : al.length = gs.length + tqs.length + 1 := by rw [hal]; simp; omega
       have hxx : gs.flatMap CdV.cells ++ tqs.flatMap CdV.cells ++ [vU ((85 : UInt8).toNat : Int), .slice (some ⟨b77, 0, none⟩) 1 1] = al.flatMap CdV.cells := by rw [hal]; simp [CdV.cells]
       have hPr := card_Print_sp (B := Row 133 2 (.slice a80 (gs.length + tqs.length + 1) c80) (gs.length + tqs.length + 1) (gs.flatMap CdV.cells ++ tqs.flatMap CdV.cells ++ [vU ((85 : UInt8).toNat : Int), .slice (some ⟨b77, 0, none⟩) 1 1])) (a := a80) (gs.length + tqs.length + 1) c80 al (by rw [← hxx]; exact sla_row) hall (by rw [halc]; omega)
       have hPr2 : Sp1 Tryz.prog 79 [.slice a80 (gs.length + tqs.length + 1) c80] [Ce b77 9 [vS c.user], Row 133 2 (.slice a80 (gs.length + tqs.length + 1) c80) (gs.length + tqs.length + 1) (gs.flatMap CdV.cells ++ tqs.flatMap CdV.cells ++ [vU ((85 : UInt8).toNat : Int), .slice (some ⟨b77, 0, none⟩) 1 1]), CdM gs, CdM tqs] (vS (prK c)) [] := by
        refine Sp.frzC (Sp.mono hPr ?_ (fun u _ => ⟨(), ?_, trivial, ent_nil⟩))
        · refine Ent.trans (ent_cdm_app (qs := gs) (rs := tqs) HasC.get HasC.get) ?_
          refine Ent.trans (ent_cdm_new (qs := gs ++ tqs) (a := some ⟨b77, 0, none⟩) (c := 1) 85 [c.user] [vS c.user] HasC.get HasC.get rfl (Nat.le_refl _)) ?_
          rw [hal]
          exact ent_pick
        · rw [prK, if_pos hR, prB, halc, if_pos (rightK_cards hR)]; rfl
       refine an_call1 hPr2 rfl rfl rfl ?_
       refine Di 12 (t:=Uv) (k:=Dd (k:=Ya (Zt (k:=?_))))
       refine fin_ret () (vs := [_]) (Cs := []) rfl (.tmp rfl .nil) rfl trivial ?_
       exact ent_pick
      ·
       refine Nl [_] (cs := [_]) (k:=fun b77 => Dn 4 (k:=?_))
       obtain ⟨⟨ta, tc⟩, tqs⟩ := x73
       dsimp only [cardV, cardH] at hx73 ⊢
       have htq := cdsLen hx73
       rw [List.length_map] at htq
       refine an_appendA (sz := 2) (bytes := 32) Tryz.underlying119 ti133 rfl rfl rfl rfl rfl rfl rfl (cells_len tqs) (cells_one tqs) (by omega) (by simp only [maxLen]; omega) rfl (fun a74 c74 => ?_)
       refine Dn 8 (k:=?_)
       refine an_callF (checkin_one_sp 85 (some ⟨b77, 0, none⟩) 1 1) rfl rfl rfl ?_
       refine Dn 9 (k:=Nl [_] (cs := [_, _]) (k:=fun b79 => Dn 10 (k:=?_)))
       refine an_append1 (sz := 2) (bytes := 32) Tryz.underlying119 ti133 rfl rfl rfl rfl rfl rfl rfl (by rfl) (by rfl) (by omega) (by simp only [maxLen]; omega) rfl (fun a80 c80 => ?_)
       refine Dn 11 (k:=?_)
       obtain ⟨al, hal⟩ : ∃ al : List CdV, al = gs ++ tqs ++ [⟨85, some ⟨b77, 0, none⟩, 1, [c.user]⟩] := ⟨_, rfl⟩
       have halc : cdsOf al = ckCards c := by rw [hal, cdsOf_app, cdsOf_app, hgs, hx73, ckHead, ckCards]; simp [cdsOf, CdV.cd]
       have hall : al.length = gs.length + tqs.length + 1 := by rw [hal]; simp; omega
       have hxx : gs.flatMap CdV.cells ++ tqs.flatMap CdV.cells ++ [vU ((85 : UInt8).toNat : Int), .slice (some ⟨b77, 0, none⟩) 1 1] = al.flatMap CdV.cells := by rw [hal]; simp [CdV.cells]
       have hPr := card_Print_sp (B := Row 133 2 (.slice a80 (gs.length + tqs.length + 1) c80) (gs.length + tqs.length + 1) (gs.flatMap CdV.cells ++ tqs.flatMap CdV.cells ++ [vU ((85 : UInt8).toNat : Int), .slice (some ⟨b77, 0, none⟩) 1 1])) (a := a80) (gs.length + tqs.length + 1) c80 al (by rw [← hxx]; exact sla_row) hall (by rw [halc]; omega)
       have hPr2 : Sp1 Tryz.prog 79 [.slice a80 (gs.length + tqs.length + 1) c80] [Ce b77 9 [vS c.user], Row 133 2 (.slice a80 (gs.length + tqs.length + 1) c80) (gs.length + tqs.length + 1) (gs.flatMap CdV.cells ++ tqs.flatMap CdV.cells ++ [vU ((85 : UInt8).toNat : Int), .slice (some ⟨b77, 0, none⟩) 1 1]), CdM gs, CdM tqs] (vS (prK c)) [] := by
        refine Sp.frzC (Sp.mono hPr ?_ (fun u _ => ⟨(), ?_, trivial, ent_nil⟩))
        · refine Ent.trans (ent_cdm_app (qs := gs) (rs := tqs) HasC.get HasC.get) ?_
          refine Ent.trans (ent_cdm_new (qs := gs ++ tqs) (a := some ⟨b77, 0, none⟩) (c := 1) 85 [c.user] [vS c.user] HasC.get HasC.get rfl (Nat.le_refl _)) ?_
          rw [hal]
          exact ent_pick
        · rw [prK, if_pos hR, prB, halc, if_pos (rightK_cards hR)]; rfl
       refine an_call1 hPr2 rfl rfl rfl ?_
       refine Di 12 (t:=Uv) (k:=Dd (k:=Ya (Zt (k:=?_))))
       refine fin_ret () (vs := [_]) (Cs := []) rfl (.tmp rfl .nil) rfl trivial ?_
       exact ent_pick
     ·
      refine Nl [_] (cs := [_]) (k:=fun b77 => Dn 3 (k:=?_))
      refine an_callX hTC rfl rfl rfl (fun x73 hx73 => ?_)
      refine Dn 4 (k:=?_)
      obtain ⟨⟨ta, tc⟩, tqs⟩ := x73
      dsimp only [cardV, cardH] at hx73 ⊢
      have htq := cdsLen hx73
      rw [List.length_map] at htq
      refine an_appendA (sz := 2) (bytes := 32) Tryz.underlying119 ti133 rfl rfl rfl rfl rfl rfl rfl (cells_len tqs) (cells_one tqs) (by omega) (by simp only [maxLen]; omega) rfl (fun a74 c74 => ?_)
      refine Dn 8 (k:=?_)
      refine an_callF (checkin_one_sp 85 (some ⟨b77, 0, none⟩) 1 1) rfl rfl rfl ?_
      refine Dn 9 (k:=Nl [_] (cs := [_, _]) (k:=fun b79 => Dn 10 (k:=?_)))
      refine an_append1 (sz := 2) (bytes := 32) Tryz.underlying119 ti133 rfl rfl rfl rfl rfl rfl rfl (by rfl) (by rfl) (by omega) (by simp only [maxLen]; omega) rfl (fun a80 c80 => ?_)
      refine Dn 11 (k:=?_)
      obtain ⟨al, hal⟩ : ∃ al : List CdV, al = gs ++ tqs ++ [⟨85, some ⟨b77, 0, none⟩, 1, [c.user]⟩] := ⟨_, rfl⟩
      have halc : cdsOf al = ckCards c := by rw [hal, cdsOf_app, cdsOf_app, hgs, hx73, ckHead, ckCards]; simp [cdsOf, CdV.cd]
      have hall : al.length = gs.length + tqs.length + 1 := by rw [hal]; simp; omega
      have hxx : gs.flatMap CdV.cells ++ tqs.flatMap CdV.cells ++ [vU ((85 : UInt8).toNat : Int), .slice (some ⟨b77, 0, none⟩) 1 1] = al.flatMap CdV.cells := by rw [hal]; simp [CdV.cells]
      have hPr := card_Print_sp (B := Row 133 2 (.slice a80 (gs.length + tqs.length + 1) c80) (gs.length + tqs.length + 1) (gs.flatMap CdV.cells ++ tqs.flatMap CdV.cells ++ [vU ((85 : UInt8).toNat : Int), .slice (some ⟨b77, 0, none⟩) 1 1])) (a := a80) (gs.length + tqs.length + 1) c80 al (by rw [← hxx]; exact sla_row) hall (by rw [halc]; omega)
      have hPr2 : Sp1 Tryz.prog 79 [.slice a80 (gs.length + tqs.length + 1) c80] [Ce b77 9 [vS c.user], Row 133 2 (.slice a80 (gs.length + tqs.length + 1) c80) (gs.length + tqs.length + 1) (gs.flatMap CdV.cells ++ tqs.flatMap CdV.cells ++ [vU ((85 : UInt8).toNat : Int), .slice (some ⟨b77, 0, none⟩) 1 1]), CdM gs, CdM tqs] (vS (prK c)) [] := by
       refine Sp.frzC (Sp.mono hPr ?_ (fun u _ => ⟨(), ?_, trivial, ent_nil⟩))
       · refine Ent.trans (ent_cdm_app (qs := gs) (rs := tqs) HasC.get HasC.get) ?_
         refine Ent.trans (ent_cdm_new (qs := gs ++ tqs) (a := some ⟨b77, 0, none⟩) (c := 1) 85 [c.user] [vS c.user] HasC.get HasC.get rfl (Nat.le_refl _)) ?_
         rw [hal]
         exact ent_pick
       · rw [prK, if_pos hR, prB, halc, if_pos (rightK_cards hR)]; rfl
      refine an_call1 hPr2 rfl rfl rfl ?_
      refine Di 12 (t:=Uv) (k:=Dd (k:=Ya (Zt (k:=?_))))
      refine fin_ret () (vs := [_]) (Cs := []) rfl (.tmp rfl .nil) rfl trivial ?_
      exact ent_pick
    ·
     refine Za (k:=?_)
     have hjl : j = c.files.length := by omega
     subst hjl
     rw [List.take_length, hpcd] at hfs
     refine Zr (k:=Vf 4 27 (k:=Zd (k:=Vv (k:=Vv (k:=Wq (Zi (t:=fun h63 => ?_) (f:=fun h63 => ?_)))))))
     ·
      refine Zr (k:=Vv (k:=Vf 4 27 (k:=Zd (k:=?_))))
      refine r_callF (checkin_one_sp 80 x.pa c.parents.length x.pc) rfl rfl rfl ?_
      refine Zv [_] (cs := [_, _]) (k:=fun b68 => ?_)
      refine r_append1 (sz := 2) (bytes := 32) Tryz.underlying119 ti133 rfl rfl rfl rfl rfl rfl rfl (by rfl) (by rfl) (by omega) (by simp only [maxLen]; omega) rfl (fun a69 c69 => ?_)
      refine Vv (k:=Wn ?_)
      first
      | (have hp : c.parents ≠ [] := fun e => by rw [e] at h63; simp at h63
         have hql2 : (fs ++ [(⟨80, x.pa, x.pc, c.parents⟩ : CdV)]).length = fs.length + 1 := by simp
         refine to_inv ⟨((a69, c69), fs ++ [⟨80, x.pa, x.pc, c.parents⟩]), ?_⟩ trivial ⟨rfl, sl_eq hql2.symm, trivial⟩ ?_
         · dsimp only; rw [cds_snoc, hfs, ckHead, pCards, if_neg hp]; simp [CdV.cd]
         · dsimp only
           rw [hql2]
           refine (ent_cdm_snoc (qs := fs) (q := ⟨80, x.pa, x.pc, c.parents⟩) HasC.get HasC.get hpc).trans ?_
           exact ent_step (row_norm (by rfl) (by rw [fm_snoc]; rfl)) ent_pick)
      | (have hp : c.parents = [] := List.eq_nil_of_length_eq_zero (by omega)
         refine to_inv ⟨((fa, fc), fs), ?_⟩ trivial ⟨rfl, rfl, trivial⟩ ent_pick
         dsimp only; rw [hfs, ckHead, pCards, if_pos hp]; simp)
     ·
      refine Zk (k:=?_)
      first
      | (have hp : c.parents ≠ [] := fun e => by rw [e] at h63; simp at h63
         have hql2 : (fs ++ [(⟨80, x.pa, x.pc, c.parents⟩ : CdV)]).length = fs.length + 1 := by simp
         refine to_inv ⟨((a69, c69), fs ++ [⟨80, x.pa, x.pc, c.parents⟩]), ?_⟩ trivial ⟨rfl, sl_eq hql2.symm, trivial⟩ ?_
         · dsimp only; rw [cds_snoc, hfs, ckHead, pCards, if_neg hp]; simp [CdV.cd]
         · dsimp only
           rw [hql2]
           refine (ent_cdm_snoc (qs := fs) (q := ⟨80, x.pa, x.pc, c.parents⟩) HasC.get HasC.get hpc).trans ?_
           exact ent_step (row_norm (by rfl) (by rw [fm_snoc]; rfl)) ent_pick)
      | (have hp : c.parents = [] := List.eq_nil_of_length_eq_zero (by omega)
         refine to_inv ⟨((fa, fc), fs), ?_⟩ trivial ⟨rfl, rfl, trivial⟩ ent_pick
         dsimp only; rw [hfs, ckHead, pCards, if_pos hp]; simp)
  ·
   refine Za (k:=?_)
   refine wc_ent' (row_nil (e := 133) (sz := 2)) ?_
   refine Zr (k:=Vf 0 9 (k:=Zd (k:=Vv (k:=Wq (Zi (t:=fun h11 => ?_) (f:=fun h11 => ?_))))))
   ·
    refine Zr (k:=Vv (k:=Vf 0 9 (k:=Zd (k:=Zv [_] (cs := [_]) (k:=fun b15 => ?_)))))
    refine r_callF (checkin_one_sp 66 (some ⟨b15, 0, none⟩) 1 1) rfl rfl rfl ?_
    refine Zv [_] (cs := [_, _]) (k:=fun b17 => ?_)
    refine r_append1 (sz := 2) (bytes := 32) Tryz.underlying119 ti133 rfl rfl rfl rfl rfl rfl rfl (by rfl) (by rfl) (by omega) (by simp only [maxLen]; omega) rfl (fun a18 c18 => ?_)
    refine wo_frzC b15 ?_
    refine Vv (k:=Wn ?_)
    first
    | (have hb : c.base ≠ [] := h11
       refine to_inv ⟨((a18, c18), [⟨66, some ⟨b15, 0, none⟩, 1, [c.base]⟩]), by simp [cdsOf, CdV.cd, bCards, hb]⟩ trivial ⟨rfl, rfl, trivial⟩ ?_
       refine Ent.trans (ent_cdm_one (a := some ⟨b15, 0, none⟩) (c := 1) 66 [c.base] [vS c.base] HasC.get rfl (Nat.le_refl _)) ?_
       dsimp only [List.length_cons, List.length_nil]
       exact ent_step (row_norm (by rfl) (by rfl)) ent_pick)
    | (have hb : c.base = [] := Classical.not_not.1 h11
       refine to_inv ⟨((none, 0), []), by simp [cdsOf, bCards, hb]⟩ trivial ⟨rfl, rfl, trivial⟩ ?_
       refine Ent.trans ent_cdm_nil ?_
       dsimp only [List.length_nil]
       rw [show ([] : List CdV).flatMap CdV.cells = [] from rfl]
       exact ent_pick)
   ·
    refine Zk (k:=?_)
    first
    | (have hb : c.base ≠ [] := h11
       refine to_inv ⟨((a18, c18), [⟨66, some ⟨b15, 0, none⟩, 1, [c.base]⟩]), by simp [cdsOf, CdV.cd, bCards, hb]⟩ trivial ⟨rfl, rfl, trivial⟩ ?_
       refine Ent.trans (ent_cdm_one (a := some ⟨b15, 0, none⟩) (c := 1) 66 [c.base] [vS c.base] HasC.get rfl (Nat.le_refl _)) ?_
       dsimp only [List.length_cons, List.length_nil]
       exact ent_step (row_norm (by rfl) (by rfl)) ent_pick)
    | (have hb : c.base = [] := Classical.not_not.1 h11
       refine to_inv ⟨((none, 0), []), by simp [cdsOf, bCards, hb]⟩ trivial ⟨rfl, rfl, trivial⟩ ?_
       refine Ent.trans ent_cdm_nil ?_
       dsimp only [List.length_nil]
       rw [show ([] : List CdV).flatMap CdV.cells = [] from rfl]
       exact ent_pick)
end Go.Proofs.YtibccdcemcgkeaaGreat
end
section
namespace Go.Proofs.YtibccdcemcgkeaaGreat
def prgText (l : List Cd) : Option Bs := unescB (Lib.trimPrefix ((one1 (argsOf 67 l)).getD []) [46])
def prgDay (l : List Cd) : Option Nat := readDec ((one1 (argsOf 68 l)).getD [])
def prgC (l : List Cd) : Ck := ⟨(one1 (argsOf 66 l)).getD [], (prgText l).getD [], (((prgDay l).getD 0 : Nat) : Int), (argsOf 70 l).map flOf, (argsOf 80 l).headD [], (readT (argsOf 84 l)).getD [], (one1 (argsOf 85 l)).getD []⟩
theorem prgCk_some {l : List Cd} {c : Ck} (h : prgCk l = some c) : (one1 (argsOf 67 l)).isSome = true ∧ (one1 (argsOf 68 l)).isSome = true ∧ (one1 (argsOf 85 l)).isSome = true ∧ (prgText l).isSome = true ∧ (prgDay l).isSome = true ∧ (readT (argsOf 84 l)).isSome = true ∧ c = prgC l := by
 unfold prgCk at h
 split at h
 · rename_i a b d e1 e2 e3
   split at h
   · rename_i x y z f1 f2 f3
     cases h
     have g1 : prgText l = some x := by rw [prgText, e1]; exact f1
     have g2 : prgDay l = some y := by rw [prgDay, e2]; exact f2
     rw [e1, e2, e3, g1, g2, f3]
     refine ⟨rfl, rfl, rfl, rfl, rfl, rfl, ?_⟩
     rw [prgC, g1, g2, f3, e3]; rfl
   · cases h
 · cases h
theorem reads_prg {s : Bs} {l : List Cd} (hl : ReadsC s l) {c : Ck} (h : ReadsK s c) : prgCk l = some c := by
 rw [hl.uniq h.reads]; exact prgCk_cards h.1
theorem mem_le_args {xs : List Bs} {a : Bs} (h : a ∈ xs) : a.length ≤ (argsB xs).length := by
 obtain ⟨i, hi, rfl⟩ := mem_getD (d := []) h
 have h1 := argsB_len xs
 have h2 := sumL_succ (l := xs) hi
 have h3 := sumL_le (l := xs) (j := i + 1)
 omega
theorem bodyB_args : ∀ (l : List Cd), l.length ≤ (bodyB l).length ∧ ∀ c ∈ l, (argsB c.args).length ≤ (bodyB l).length := by
 intro l
 induction l with
 | nil => exact ⟨Nat.zero_le _, fun c hc => by cases hc⟩
 | cons c l ih =>
   rw [bodyB_cons, List.length_append, List.length_cons, List.length_cons]
   have e : (lineB c).length = (argsB c.args).length + 1 := by simp [lineB]
   refine ⟨by omega, fun x hx => ?_⟩
   rcases List.mem_cons.1 hx with rfl | hx
   · omega
   · have := ih.2 x hx; omega
theorem argsOf_sizes {l : List Cd} {N : Nat} (h : (bodyB l).length ≤ N) (x : UInt8) : (argsOf x l).length ≤ N ∧ ∀ xs ∈ argsOf x l, xs.length ≤ N ∧ ∀ a ∈ xs, a.length ≤ N := by
 obtain ⟨h1, h2⟩ := bodyB_args l
 constructor
 · simp only [argsOf, List.length_map]
   exact Nat.le_trans (List.length_filter_le _ _) (by omega)
 · intro xs hxs
   simp only [argsOf, List.mem_map, List.mem_filter] at hxs
   obtain ⟨c, ⟨hc, _⟩, rfl⟩ := hxs
   have h3 := h2 c hc
   have h4 := argsB_len c.args
   exact ⟨by omega, fun a ha => by have := mem_le_args ha; omega⟩
theorem one1_le {l : List (List Bs)} {N : Nat} (h : ∀ xs ∈ l, ∀ a ∈ xs, a.length ≤ N) : ((one1 l).getD []).length ≤ N := by
 match l, h with
 | [], _ => simp [one1]
 | [[]], _ => simp [one1]
 | [[a]], h => simpa [one1] using h [a] (by simp) a (by simp)
 | [a :: b :: r], _ => simp [one1]
 | a :: b :: r, _ => simp [one1]
theorem trim_le (s p : Bs) : (Lib.trimPrefix s p).length ≤ s.length := by
 unfold Lib.trimPrefix
 split <;> simp
theorem readT_le {N : Nat} : ∀ {l : List (List Bs)} {ts : List Tg}, (∀ xs ∈ l, ∀ a ∈ xs, a.length ≤ N) → readT l = some ts → ts.length = l.length ∧ ∀ t ∈ ts, t.name.length ≤ N ∧ t.target.length ≤ N ∧ t.value.length ≤ N := by
 intro l
 induction l with
 | nil => intro ts _ h; cases h; exact ⟨rfl, fun t ht => by cases ht⟩
 | cons x l ih =>
   intro ts hz h
   simp only [readT] at h
   cases e : tgOf x with
   | none => rw [e] at h; cases h
   | some t =>
     rw [e] at h
     dsimp only at h
     cases e2 : readT l with
     | none => rw [e2] at h; cases h
     | some us =>
       rw [e2] at h
       cases h
       obtain ⟨i1, i2⟩ := ih (fun xs hxs => hz xs (by simp [hxs])) e2
       refine ⟨by simp [i1], fun u hu => ?_⟩
       rcases List.mem_cons.1 hu with rfl | hu
       · have hx : ∀ i, (x.getD i []).length ≤ N := fun i => by
           by_cases hi : i < x.length
           · exact hz x (by simp) _ (by simp [hi])
           · simp [hi]
         unfold tgOf at e
         split at e
         · cases e
         · split at e
           · cases e3 : unescB (x.getD 2 []) with
             | none => rw [e3] at e; cases e
             | some v =>
               rw [e3] at e
               cases e
               dsimp only
               have := unescB_len e3
               have := hx 2
               have := hx 0
               have := hx 1
               simp only [List.length_drop]; omega
           · cases e
             dsimp only
             have := hx 0
             have := hx 1
             simp only [List.length_drop, List.length_nil]; omega
       · exact i2 u hu
end Go.Proofs.YtibccdcemcgkeaaGreat
end
