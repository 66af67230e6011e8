/- Texts of this proof, put together: STags3, STags4, Cmps, SortK, SHeads. -/
import Derived.Shelf.SlSortCmp.WholeK
import Derived.Test.YtdnoacgopfcpbaaGreatQ20
set_option linter.unusedVariables false
set_option linter.unusedSimpArgs false
namespace Go.Proofs.YtdnoacgopfcpbaaGreat
section
set_option maxRecDepth 100000
theorem maps_KeysC_sp (m : Option Nat) : Sp Tryz.prog 134 [.map m] [] (X := Nat) (fun b => .func (.func 191) #[] #[.pointer (some ⟨b, 0, none⟩)]) (fun _ => True) (fun b => [Ce b 138 [.map m]]) := by
 refine Sp.body (n := 4) Tryz.call134 Tryz.func134 rfl rfl rfl ?_
 refine Qc (k:=Zx [_] (k:=fun b1 => Vv (k:=Wq (Qc (k:=Qv (k:=Wq (Zt (k:=?_))))))))
 refine fin_ret b1 (vs := [_]) (Cs := []) rfl (.tmp rfl .nil) rfl trivial ?_
 exact ent_pick
theorem maps_KeysC_it (c b : Nat) (ks : Ks) : IterU Tryz.prog 191 [.pointer (some ⟨c, 0, none⟩)] (fun k : Bs => [vS k]) (okK ks) (fun _ => True)
    [Ce c 138 [.map (some b)], MapS b ks] [Ce c 138 [.map (some b)], MapS b ks] (fun l => l.Perm (ks.map (·.1))) (fun _ => .tuple #[]) := by
 intro y J Jx ys
 refine Sp.body (n := 14) Tryz.call191 Tryz.func191 rfl rfl rfl ?_
 refine Qc (k:=Zd (k:=?_))
 refine r_range Tryz.underlying138 rfl rfl (fun b5 => ?_)
 refine Wq (Zb (k:=?_))
 refine p_loop (fun (i : List Bs) => [(0, y), (5, .pointer (some ⟨b5, 0, none⟩))]) (fun (i : List Bs) => [J i, Ce c 138 [.map (some b)], MapIt b b5 ks i]) (fun (i : List Bs) => ks.length - i.length) rfl ([]) ?_ ?_ (fun i => ?_)
 · exact ⟨rfl, rfl, trivial⟩
 ·
  exact ent_pick
 refine wc_know (A := MapIt b b5 ks i) (.there (.there .here)) mapit_len (fun hlen => ?_)
 try dsimp only
 refine Qc (k:=?_)
 refine r_next rfl rfl (fun o6 ho6 => ?_)
 refine wo_pv (pv_nx0 rfl) rfl ?_
 refine Wq (Za (k:=Zi (t:=fun h7 => ?_) (f:=fun h7 => ?_)))
 ·
  obtain ⟨⟨k, v⟩, rfl⟩ := Option.isSome_iff_exists.1 h7
  obtain ⟨hm, hk⟩ := ho6
  have hk1 : k ∈ ks.map (·.1) := List.mem_map_of_mem (f := fun p : Bs × Value => p.1) hm
  have hl2 : i.length < ks.length := by
   have := nodup_len (l := i ++ [k]) (m := ks.map (·.1)) (by rw [List.nodup_append]; exact ⟨hlen.2.1, by simp, fun a ha c hc e => by simp only [List.mem_singleton] at hc; subst hc; subst e; exact hk ha⟩) (fun x hx => by rcases List.mem_append.1 hx with h | h; exact hlen.2.2 x h; simp only [List.mem_singleton] at h; subst h; exact hk1)
   rw [List.length_append, List.length_singleton, List.length_map] at this
   omega
  dsimp only [nxD]
  refine Zk (k:=Ya (Zb (k:=Qc (k:=?_))))
  refine r_entry (b := b) (ks := ks) (done := i) (k := k) (v := v) hm rfl rfl ?_
  refine Qv (k:=Wq (Qc (k:=Qv (k:=?_))))
  refine r_yield ys i k ⟨hk1, hk, hl2⟩ rfl rfl rfl ?_ ?_
  ·
   refine Vv (k:=Wq (Z0 (k:=Zk (k:=Yb ?_))))
   refine to_inv (i ++ [k]) ?_ ⟨rfl, rfl, trivial⟩ ?_
   · rw [List.length_append, List.length_singleton]; omega
   · exact ent_pick
  ·
   refine Vv (k:=Wq (Z1 (k:=Zt (k:=Vb (Vi (Vb ?_))))))
   refine fin_ret (some (i ++ [k]), []) (vs := []) (Cs := []) rfl .nil rfl ⟨fun pre e => trivial, fun e => by cases e⟩ ?_
   simp only [endsAt]
   refine ent_cons (ent_cons ?_)
   refine (mapit_done (i := b5)).trans ?_
   exact ent_pick
 ·
  have hnone : o6 = none := by cases o6 with
   | none => rfl
   | some p => simp at h7
  subst hnone
  dsimp only [nxD]
  refine Ze (k:=Xa (Xi (Xb ?_)))
  refine tw_know (A := MapIt b b5 ks i) .here (fun x => mapit_perm x ho6) (fun hperm => ?_)
  refine fin_end (none, i) (vs := []) (Cs := []) rfl .nil rfl ⟨(fun pre e => by cases e), fun _ => hperm⟩ ?_
  simp only [endsAt]
  refine ent_cons (ent_cons ?_)
  refine (mapit_done (i := b5)).trans ?_
  exact ent_pick
set_option maxHeartbeats 2000000 in
theorem tags_INames_sp (m1 : Nat) (m2 : Option Nat) (l : Ls) (hl : l.length ≤ 1073741824) : Sp Tryz.prog 133 [.agg #[.map (some m1), .map m2]] [MX.MapS MX.pairE m1 (lsK l)] (X := Option Addr × Nat) (fun x => .slice x.1 (namesL l).length x.2) (fun _ => True) (fun x => [Row 9 1 (.slice x.1 (namesL l).length x.2) (namesL l).length ((namesL l).map vS), MX.MapS MX.pairE m1 (lsK l)]) := by
 have hlk := lsK_len l
 refine Sp.body (n := 21) Tryz.call133 Tryz.func133 rfl rfl rfl ?_
 refine Qc (k:=Zx [_, _] (k:=fun b1 => Vv (k:=Wq (Qc (k:=Vv (k:=Wq (Za (k:=Qc (k:=?_)))))))))
 refine Qx 0 137 (k:=?_)
 refine MX.r_range (E := MX.pairE) Tryz.underlying137 rfl rfl (fun b7 => ?_)
 refine Wq (Zb (k:=?_))
 refine p_loop (fun (i : { x : List (Bs × Bs) × Option Addr × Nat // True }) => [(3, .slice i.1.2.1 i.1.1.length i.1.2.2), (7, .pointer (some ⟨b7, 0, none⟩))]) (fun (i : { x : List (Bs × Bs) × Option Addr × Nat // True }) => [Row 9 1 (.slice i.1.2.1 i.1.1.length i.1.2.2) i.1.1.length ((i.1.1.map (·.1)).map vS), Ce b1 140 [.map (some m1), .map m2], MX.MapIt MX.pairE m1 b7 (lsK l) i.1.1]) (fun (i : { x : List (Bs × Bs) × Option Addr × Nat // True }) => l.length - i.1.1.length) rfl (⟨([], none, 0), trivial⟩) ?_ ?_ (fun i => ?_)
 · exact ⟨rfl, rfl, trivial⟩
 ·
  dsimp only
  simp only [List.length_nil, List.map_nil]
  exact (row_nil (e := 9) (sz := 1)).trans ent_pick
 obtain ⟨⟨dn, na, nc⟩, _⟩ := i
 dsimp only
 refine wc_know (A := MX.MapIt MX.pairE m1 b7 (lsK l) dn) HasC.get MX.mapit_len (fun hlen => ?_)
 have hdl : dn.length ≤ l.length := by rw [← hlk]; exact hlen.1
 try dsimp only
 refine Qc (k:=?_)
 refine MX.r_next (E := MX.pairE) rfl rfl (fun o8 ho8 => ?_)
 refine wo_pv (MX.pv_nx0 rfl) rfl ?_
 refine Wq (Za (k:=Zi (t:=fun h9 => ?_) (f:=fun h9 => ?_)))
 ·
  obtain ⟨⟨⟨k1, k2⟩, v⟩, rfl⟩ := Option.isSome_iff_exists.1 h9
  obtain ⟨hm, hk⟩ := ho8
  have hk1 : (k1, k2) ∈ (lsK l).map (·.1) := List.mem_map_of_mem (f := fun p : (Bs × Bs) × Value => p.1) hm
  have hl2 : dn.length < l.length := by
   have := nodup_len (l := dn ++ [(k1, k2)]) (m := (lsK l).map (·.1)) (by rw [List.nodup_append]; exact ⟨hlen.2.1, by simp, fun a ha c hc e => by simp only [List.mem_singleton] at hc; subst hc; subst e; exact hk ha⟩) (fun x hx => by rcases List.mem_append.1 hx with h | h; exact hlen.2.2 x h; simp only [List.mem_singleton] at h; subst h; exact hk1)
   rw [List.length_append, List.length_singleton, List.length_map, hlk] at this
   omega
  dsimp only [MX.nxD]
  refine Zk (k:=Ya (Zb (k:=Qc (k:=?_))))
  refine MX.r_entry (b := m1) (ks := lsK l) (done := dn) (k := (k1, k2)) (v := v) hm rfl rfl ?_
  refine wo_pv (pv_extract (v := .agg [vS k1, vS k2].toArray) rfl rfl) rfl ?_
  refine Zc [vS [], vS []] (k:=fun b4 => Zp (k:=Wq (Zr (k:=Vv (k:=?_)))))
  refine wo_pv (pv_aindex1 (m := 0) Tryz.underlying193 ti9 rfl rfl rfl (by first | rfl | omega) (by omega)) rfl ?_
  refine Zd (k:=Zv [_] (cs := [_]) (k:=fun b15 => ?_))
  refine r_append1 (sz := 1) (bytes := 16) Tryz.underlying27 ti9 rfl rfl rfl rfl rfl rfl rfl (by rfl) (by rfl) (by omega) (by simp only [maxLen]; omega) rfl (fun a16 c16 => ?_)
  refine Vv (k:=Wn (Yb ?_))
  refine to_inv ⟨(dn ++ [(k1, k2)], a16, c16), trivial⟩ (by simp only [List.length_append, List.length_singleton]; omega) ⟨sl_eq (by simp), rfl, trivial⟩ ?_
  dsimp only
  simp only [List.length_append, List.length_cons, List.length_nil, Nat.zero_add, List.map_append, List.map_cons, List.map_nil]
  exact ent_pick
 ·
  have hnone : o8 = none := by cases o8 with
   | none => rfl
   | some p => simp at h9
  subst hnone
  dsimp only [MX.nxD]
  refine Ze (k:=Xa (Xi (Xb (Ya (Za (k:=?_))))))
  refine wc_know (A := MX.MapIt MX.pairE m1 b7 (lsK l) dn) HasC.get (fun x => MX.mapit_perm x ho8) (fun hperm => ?_)
  refine wc_ent' (MX.mapit_done (E := MX.pairE) (i := b7)) ?_
  have hpl := hperm.length_eq
  rw [List.length_map, hlk] at hpl
  have hsn : sortB (dn.map (·.1)) = sortB (l.map fun p => p.1.1) := sortB_eq (by
   have h2 := hperm.map (fun p : Bs × Bs => p.1)
   simpa [lsK, List.map_map, Function.comp_def] using h2)
  have hnl : namesL l = dedS (sortB (dn.map (·.1))) := by rw [hsn]; rfl
  refine Zr (k:=Vv (k:=?_))
  refine r_call1 (slices_Sort_sp na dn.length nc (dn.map (·.1)) (by rw [List.length_map]) (by omega)) rfl rfl rfl ?_
  refine Wq (Qc (k:=Vv (k:=?_)))
  refine r_callX (slices_Compact_sp na dn.length nc (sortB (dn.map (·.1))) (by rw [sortB_len, List.length_map]) (by omega)) rfl rfl rfl (fun k20 hk20 => ?_)
  subst hk20
  rw [← hnl]
  refine Vv (k:=Wq (Zt (k:=?_)))
  exact fin_ret (na, nc) (vs := [_]) (Cs := []) rfl (.tmp rfl .nil) rfl trivial ent_pick
/-! Of. -/
def cfind (all : List CkN) (n : Bs) : Option CkN := all.find? fun x => decide (x.1 = n)
theorem cfind_clook (all : List CkN) (n : Bs) : clook (all.map ckKey) n = (cfind all n).map (fun x => x.2.2) := by
 induction all with
 | nil => rfl
 | cons a r ih =>
   simp only [List.map_cons, clook, cfind, List.find?_cons] at ih ⊢
   by_cases h : a.1 = n
   · have h' : (ckKey a).1 = n := h
     rw [if_pos h']; simp [h, ckKey]
   · have h' : ¬ (ckKey a).1 = n := h
     rw [if_neg h']; simp only [h, decide_false]; exact ih
theorem ckK_map {all : List CkN} (h : (all.map (·.1)).Nodup) : ckK all = all.map fun x => (x.1, ckV x) := by
 revert h
 refine snoc_ind (P := fun l : List CkN => (l.map (·.1)).Nodup → ckK l = l.map fun x => (x.1, ckV x)) (fun _ => rfl) (fun l a ih h => ?_) all
 rw [List.map_append, List.nodup_append] at h
 rw [ckK_snoc, ih h.1]
 have : a.1 ∉ (l.map fun x => (x.1, ckV x)).map (·.1) := fun hm => by
  rw [List.map_map] at hm
  obtain ⟨y, hy, e⟩ := List.mem_map.1 hm
  exact h.2.2 y.1 (List.mem_map_of_mem (f := fun x : CkN => x.1) hy) a.1 (by simp) e
 have hp : ∀ (ks : Ks), a.1 ∉ ks.map (·.1) → mput ks a.1 (ckV a) = ks ++ [(a.1, ckV a)] := by
  intro ks
  induction ks with
  | nil => intro _; rfl
  | cons p r ih2 =>
    intro hn
    simp only [List.map_cons, List.mem_cons, not_or] at hn
    rw [mput, if_neg (fun e => hn.1 e.symm), ih2 hn.2]; rfl
 rw [hp _ this]; simp
theorem cfind_mlook {all : List CkN} (h : (all.map (·.1)).Nodup) (n : Bs) : mlook (ckK all) n = (cfind all n).map ckV := by
 rw [ckK_map h]
 clear h
 induction all with
 | nil => rfl
 | cons a r ih =>
   simp only [List.map_cons, mlook, cfind, List.find?_cons] at ih ⊢
   by_cases h : a.1 = n
   · rw [if_pos h]; simp [h]
   · rw [if_neg h]; simp only [h, decide_false]; exact ih
def ckn0 : CkN := ([], ka0, ck0)
theorem byteEq (c : UInt8) (k : Nat) (hk : k < 256) : ((c.toNat : Int) = (k : Int)) ↔ c = UInt8.ofNat k := by
 constructor
 · intro h
   apply UInt8.toNat_inj.1
   simp
   omega
 · intro h
   rw [h]; simp
   omega
theorem zb128ret13 {G : Prop} (h : G := by
    have hyn : y = none := by
     first
     | assumption
     | (rw [hw, show all.length - j = 0 by omega]; rfl)
     | (rw [if_pos (.inl ((e45 ok).1 (by assumption)))] at hw; exact hw)
     | (rw [if_pos (.inr ⟨(e43 ok).1 (by assumption), by assumption⟩)] at hw; exact hw)
    rw [hyn]
    exact fin_ret () (vs := [_, _]) (Cs := [Ce b6 90 [vS [], vS [], vS [], vS [], .bool false, .bool false]]) rfl (.cell (l := [vS [], vS [], vS [], vS [], .bool false, .bool false]) rfl (shows_ce (T := 90)) Tryz.underlying90 rfl ti90 (Nat.le_of_ble_eq_true rfl) rfl (.tmp rfl .nil)) rfl trivial ent_pick) : G := h
theorem zb128ret11 {G : Prop} (h : G := by
    rw [if_neg (by
     rintro (h | ⟨h, h2⟩)
     · first
       | contradiction
       | exact absurd ((e45 ok).2 h) (by assumption)
     · first
       | contradiction
       | exact absurd ((e43 ok).2 h) (by assumption)
       | exact absurd h2 (by assumption))] at hw
    rw [hw, show (decide (ok = 42)) = decide ((ok.toNat : Int) = 42) from decide_eq_decide.2 (e42 ok).symm]
    refine fin_ret () (vs := [_, _]) (Cs := [Ce b6 90 [vS tag, vS name, vS ov, vS os, .bool (decide ((ok.toNat : Int) = 42)), .bool (decide (n = name))]]) rfl (.cell (l := [vS tag, vS name, vS ov, vS os, .bool (decide ((ok.toNat : Int) = 42)), .bool (decide (n = name))]) rfl (shows_ce (T := 90)) Tryz.underlying90 rfl ti90 (Nat.le_of_ble_eq_true rfl) rfl (.tmp rfl .nil)) rfl trivial ent_pick) : G := h
set_option maxHeartbeats 4000000 in
theorem tags_IOf_sp (m1 m2 : Nat) (all : List CkN) (l : Ls) (tag name : Bs) (hnd : (all.map (·.1)).Nodup) (hz : ∀ x ∈ all, x.2.2.parents.length ≤ 9223372036854775807) (hal : all.length ≤ 4398046511104) (y : Option Tgd) (hy : y = ofT (all.map ckKey) l tag name) :
    Sp1 Tryz.prog 128 [.agg #[.map (some m1), .map (some m2)], vS tag, vS name] [MX.MapS MX.pairE m1 (lsK l), MapS m2 (ckK all), CkMs all] (.tuple #[.agg (tgdVals (y.getD tgd0)).toArray, vB y.isSome]) [MX.MapS MX.pairE m1 (lsK l), MapS m2 (ckK all), CkMs all] := by
 have hcl : (ckK all).length = all.length := by rw [ckK_map hnd, List.length_map]
 have hCl : (all.map ckKey).length = all.length := List.length_map ..
 have e45 := fun c : UInt8 => byteEq c 45 (by decide)
 have e43 := fun c : UInt8 => byteEq c 43 (by decide)
 have e42 := fun c : UInt8 => byteEq c 42 (by decide)
 rw [ofT, hCl] at hy
 refine Sp.body (n := 71) Tryz.call128 Tryz.func128 rfl rfl rfl ?_
 refine Qc (k:=Zx [_, _] (k:=fun b3 => Zc [vS [], vS [], vS [], vS [], .bool false, .bool false] (k:=fun b6 => Vv (k:=Wq (Zs (k:=Qc (k:=Qv (k:=Wq ?_))))))))
 refine Za (k:=Zl (k:=Ya (Za (k:=Qc (k:=Qx 1 138 (k:=?_))))))
 refine r_mlen Tryz.underlying138 rfl rfl ?_
 rw [hcl]
 refine Vv (k:=Wq (Zb (k:=?_)))
 refine p_loop (fun (i : { x : Nat × Bs // x.1 ≤ all.length ∧ y = wayF (all.map ckKey) l tag name (all.length - x.1) x.2 }) => [(1, vS tag), (2, vS name), (3, .pointer (some ⟨b3, 0, none⟩)), (6, .pointer (some ⟨b6, 0, none⟩)), (8, vS i.1.2), (15, vI all.length), (16, vI i.1.1)]) (fun (i : { x : Nat × Bs // x.1 ≤ all.length ∧ y = wayF (all.map ckKey) l tag name (all.length - x.1) x.2 }) => [MX.MapS MX.pairE m1 (lsK l), MapS m2 (ckK all), CkMs all, Ce b3 140 [.map (some m1), .map (some m2)], Ce b6 90 [vS [], vS [], vS [], vS [], .bool false, .bool false]]) (fun (i : { x : Nat × Bs // x.1 ≤ all.length ∧ y = wayF (all.map ckKey) l tag name (all.length - x.1) x.2 }) => all.length - i.1.1) rfl (⟨(0, name), Nat.zero_le _, hy⟩) ?_ ?_ (fun i => ?_)
 · exact ⟨rfl, rfl, rfl, rfl, rfl, rfl, rfl, trivial⟩
 ·
  exact ent_pick
 obtain ⟨⟨j, n⟩, hj, hw⟩ := i
 dsimp only at hj hw ⊢
 try dsimp only
 refine Qc (k:=Vv (k:=Wq (Za (k:=Zi (t:=fun h17 => ?_) (f:=fun h17 => ?_)))))
 ·
  refine Zk (k:=Ya (Za (k:=Zb (k:=Za (k:=?_)))))
  have hjl : j < all.length := by omega
  rw [show all.length - j = (all.length - (j + 1)) + 1 by omega, wayF, cfind_clook] at hw
  have hml := cfind_mlook hnd n
  have hxm : ∀ x, cfind all n = some x → x ∈ all := fun x h => List.mem_of_find?_eq_some h
  generalize cfind all n = fx at hw hml hxm
  obtain ⟨⟨zn, za, zc⟩, hzk⟩ : ∃ z : CkN, z = fx.getD ckn0 := ⟨_, rfl⟩
  have hv22 : Value.tuple #[(mlook (ckK all) n).getD (ckV ckn0), .bool (mlook (ckK all) n).isSome] = .tuple #[.agg #[vS zc.base, vS zc.comment, vI zc.date, .slice za.fa zc.files.length za.fc, .slice za.pa zc.parents.length za.pc, .slice za.ta zc.tags.length za.tc, vS zc.user], .bool fx.isSome] := by
   rw [hml]
   have e1 : (fx.map ckV).getD (ckV ckn0) = ckV (fx.getD ckn0) := by cases fx <;> rfl
   rw [e1, ← hzk]
   cases fx <;> rfl
  obtain ⟨hv1, hv2⟩ := lsK_val l (tag, n)
  generalize llook l (tag, n) = fs at hw hv1 hv2
  obtain ⟨⟨⟨ok, on, ot, ov⟩, od, os⟩, hold⟩ : ∃ z : Sd, z = fs.getD sd0 := ⟨_, rfl⟩
  have hv33 : Value.tuple #[(MX.mlook (lsK l) (tag, n)).getD (sdV sd0), .bool (MX.mlook (lsK l) (tag, n)).isSome] = .tuple #[.agg #[vU ok.toNat, vS on, vS ot, vS ov, vI od, vS os], .bool fs.isSome] := by rw [hv1, hv2, ← hold]; rfl
  refine Zr (k:=Qx 1 138 (k:=Vv (k:=?_)))
  refine r_lookup (v := .tuple #[.agg #[vS zc.base, vS zc.comment, vI zc.date, .slice za.fa zc.files.length za.fc, .slice za.pa zc.parents.length za.pc, .slice za.ta zc.tags.length za.tc, vS zc.user], .bool fx.isSome]) Tryz.underlying138 Tryz.underlying9 ti30 rfl rfl rfl hv22 rfl ?_
  refine Vv (k:=?_)
  refine wo_pv (pv_extract (v := .agg #[vS zc.base, vS zc.comment, vI zc.date, .slice za.fa zc.files.length za.fc, .slice za.pa zc.parents.length za.pc, .slice za.ta zc.tags.length za.tc, vS zc.user]) rfl rfl) rfl ?_
  refine wo_pv (pv_extract (v := .bool fx.isSome) rfl rfl) rfl ?_
  refine Zc [vS [], vS [], .int .i64 0, .slice none 0 0, .slice none 0 0, .slice none 0 0, vS []] (k:=fun b9 => Zp (k:=Vv (k:=Wq (Za (k:=Qc (k:=Qv (k:=Wq (Zi (t:=fun h26 => ?_) (f:=fun h26 => ?_)))))))))
  ·
   obtain rfl : fx = none := by cases fx with | none => rfl | some z => simp at h26
   have hyn : y = none := hw
   refine Ze (k:=Xa (Xo (k:=Xa (Xi (Xb (Ya (Qc (k:=Vx (Ps [vS [], vS [], vS [], vS [], .bool false, .bool false]) (k:=Zp (k:=Vv (k:=?_)))))))))))
   refine Wq (Zt (k:=Vs ?_))
   exact zb128ret13
  ·
   obtain rfl : fx = some (zn, za, zc) := by cases fx with | none => simp at h26 | some z => rw [hzk]; rfl
   have hxin := hxm _ rfl
   have hpz := hz _ hxin
   dsimp only [Option.map_some] at hw hpz
   refine Zk (k:=Ya (Qc (k:=Qx 0 137 (k:=Qv (k:=?_)))))
   refine wo_pv (pv_buildA (vs := [_, _]) Tryz.underlying193 ti9 rfl rfl rfl ti193 rfl rfl) rfl ?_
   refine MX.r_lookup (k := (tag, n)) (v := .tuple #[.agg #[vU ok.toNat, vS on, vS ot, vS ov, vI od, vS os], .bool fs.isSome]) Tryz.underlying137 keyP ti192 rfl rfl rfl hv33 rfl ?_
   refine Vv (k:=?_)
   refine wo_pv (pv_extract (v := .agg #[vU ok.toNat, vS on, vS ot, vS ov, vI od, vS os]) rfl rfl) rfl ?_
   refine wo_pv (pv_extract (v := .bool fs.isSome) rfl rfl) rfl ?_
   refine Zc [.int .u8 0, vS [], vS [], vS [], .int .i64 0, vS []] (k:=fun b11 => Zp (k:=Vv (k:=Wq (Za (k:=Qc (k:=Qv (k:=Wq (Zi (t:=fun h37 => ?_) (f:=fun h37 => ?_)))))))))
   ·
    obtain rfl : fs = none := by cases fs with | none => rfl | some z => simp at h37
    dsimp only at hw
    refine Qc (k:=Zm [_, _, _, _, _, _, _] (k:=?_))
    refine wo_ent' (ent_ckm hxin HasC.get) ?_
    refine r_call1 (links_First_sp (B := SlI za.pa (zc.parents.map vS)) za zc hpz sla_sli) rfl rfl rfl ?_
    refine Vv (k:=Wq (Ze (k:=Xa (Xb (Ya (Zr (k:=Qv (k:=Wn ?_))))))))
    exact to_inv ⟨(j + 1, firstB zc), by dsimp only; omega, hw⟩ (by dsimp only; omega) ⟨rfl, rfl, rfl, rfl, rfl, rfl, rfl, trivial⟩ ent_pick
   ·
    obtain rfl : fs = some ⟨⟨ok, on, ot, ov⟩, od, os⟩ := by cases fs with | none => simp at h37 | some z => rw [hold]; rfl
    dsimp only at hw
    refine Zk (k:=Ya (Za (k:=Zb (k:=Za (k:=Qc (k:=Vf 0 60 (k:=Qx 0 5 (k:=Qv (k:=?_)))))))))
    refine Wq (Zi (t:=fun h40 => ?_) (f:=fun h40 => ?_))
    ·
     refine Zk (k:=Ya (Zi (t:=fun h40 => ?_) (f:=fun h40 => ?_)))
     ·
      refine Ze (k:=Xo (k:=Xa (Xo (k:=Xa (Xi (Xb (Ya (Qc (k:=Vx (Ps [vS [], vS [], vS [], vS [], .bool false, .bool false]) (k:=Zp (k:=?_)))))))))))
      refine Vv (k:=Wq (Zt (k:=Vs ?_)))
      exact zb128ret13
     ·
      refine Zk (k:=Yb (Ya (Qc (k:=Qv (k:=Vf 0 60 (k:=Qx 3 9 (k:=Qx 5 9 (k:=?_))))))))
      refine Vf 0 60 (k:=Qx 0 5 (k:=Qv (k:=Qv (k:=Vx (Ps [_, _, _, _, _, _]) (k:=Zp (k:=Vv (k:=Wq (Zt (k:=?_)))))))))
      refine Vb (Va (Vi (Vb (Va (Vs ?_)))))
      exact zb128ret11
    ·
     refine Zr (k:=Vf 0 60 (k:=Qx 0 5 (k:=Qv (k:=Gi 4 (t:=fun h49 => ?_) (f:=fun h49 => ?_)))))
     ·
      refine J1 (k:=J1 (k:=J1 (k:=P1 (k:=Vv (k:=Wq (Zi (t:=fun h40 => ?_) (f:=fun h40 => ?_)))))))
      ·
       refine Ze (k:=Xo (k:=Xa (Xo (k:=Xa (Xi (Xb (Ya (Qc (k:=Vx (Ps [vS [], vS [], vS [], vS [], .bool false, .bool false]) (k:=Zp (k:=?_)))))))))))
       refine Vv (k:=Wq (Zt (k:=Vs ?_)))
       exact zb128ret13
      ·
       refine Zk (k:=Yb (Ya (Qc (k:=Qv (k:=Vf 0 60 (k:=Qx 3 9 (k:=Qx 5 9 (k:=?_))))))))
       refine Vf 0 60 (k:=Qx 0 5 (k:=Qv (k:=Qv (k:=Vx (Ps [_, _, _, _, _, _]) (k:=Zp (k:=Vv (k:=Wq (Zt (k:=?_)))))))))
       refine Vb (Va (Vi (Vb (Va (Vs ?_)))))
       exact zb128ret11
     ·
      refine O0 (k:=O0 (k:=O0 (k:=P0 (k:=Vv (k:=Wq (Z0 (k:=Zk (k:=Yb (Ya (Qc (k:=?_)))))))))))
      refine Qv (k:=Vf 0 60 (k:=Qx 3 9 (k:=Qx 5 9 (k:=Vf 0 60 (k:=Qx 0 5 (k:=Qv (k:=?_)))))))
      refine Qv (k:=Vx (Ps [_, _, _, _, _, _]) (k:=Zp (k:=Vv (k:=Wq (Zt (k:=Vb (Va (Vi (Vb (Va ?_))))))))))
      refine Vs ?_
      exact zb128ret11
 ·
  refine Ze (k:=Xa (Xi (Xb (Ya (Qc (k:=Vx (Ps [vS [], vS [], vS [], vS [], .bool false, .bool false]) (k:=Zp (k:=Vv (k:=Wq (Zt (k:=?_)))))))))))
  refine Vs ?_
  exact zb128ret13
end
section
set_option maxRecDepth 100000
theorem ckOf_sub (H : Ks) (n : Bs) : ((ckOf H n).map (·.1)).Sublist [n] := by
 unfold ckOf
 split
 · exact List.nil_sublist _
 · exact List.Sublist.refl _
theorem cksF_sub (H : Ks) (l : List Bs) : ((cksF H l).map (·.1)).Sublist l := by
 induction l with
 | nil => exact List.Sublist.refl _
 | cons n l ih =>
   have := (ckOf_sub H n).append ih
   simpa [cksF] using this
theorem cks_mem {H : Ks} {l : List Bs} {x : Bs × Ck} : x ∈ cksF H l ↔ x.1 ∈ l ∧ readK (getB H x.1) = some x.2 := by
 unfold cksF
 rw [List.mem_flatMap]
 constructor
 · rintro ⟨n, hn, hx⟩
   unfold ckOf at hx
   split at hx
   · cases hx
   · rename_i c e
     rw [List.mem_singleton.1 hx]
     exact ⟨hn, e⟩
 · rintro ⟨h1, h2⟩
   exact ⟨x.1, h1, by rw [ckOf, h2]; simp⟩
structure FinP (H : Ks) (all : List CkN) : Prop where
 nd : (all.map (·.1)).Nodup
 le : all.length ≤ H.length
 pl : ∀ x ∈ all, x.2.2.parents.length ≤ 3
theorem fin_ok {H : Ks} {all : List CkN} (hnd : (H.map (·.1)).Nodup) (h : finC H all) : FinP H all := by
 have hs : ((cksL H).map (·.1)).Sublist (keysS H) := cksF_sub H _
 have hm : all.map (·.1) = (cksL H).map (·.1) := by
  rw [← show all.map ckKey = cksL H from h, List.map_map]; rfl
 have hk : (keysS H).Nodup := (sortB_perm _).nodup_iff.2 hnd
 refine ⟨by rw [hm]; exact hk.sublist hs, ?_, fun x hx => ?_⟩
 · have h1 := congrArg List.length hm
   have h2 := hs.length_le
   rw [keysS_len] at h2
   rw [List.length_map] at h1
   omega
 · have : ckKey x ∈ cksL H := by rw [← show all.map ckKey = cksL H from h]; exact List.mem_map_of_mem hx
   have := (readK_right (cks_mem.1 this).2).parents.len
   have e : (ckKey x).2 = x.2.2 := rfl
   rw [e] at this
   omega
theorem sdL_len (H : Ks) : (sdL H).length ≤ 12 * H.length := by
 have key : ∀ l : List Bs, (sdF H l).length ≤ 12 * l.length := by
  intro l
  induction l with
  | nil => exact Nat.le_refl _
  | cons n l ih =>
    have h1 := opsB_len n (getB H n)
    simp only [sdF, List.flatMap_cons, List.length_append, List.length_cons] at ih ⊢
    have h2 : (sdOf H n).length = (opsB n (getB H n)).1.length := by simp [sdOf]
    omega
 have := key (keysS H)
 rw [keysS_len] at this
 exact this
theorem lastF_len (l : List Sd) : (lastF l).length ≤ l.length := by
 refine snoc_ind (P := fun l => (lastF l).length ≤ l.length) (Nat.le_refl _) (fun l a ih => ?_) l
 rw [lastF_snoc, List.length_append, List.length_singleton]
 have hp : ∀ k v, (lput (lastF l) k v).length ≤ (lastF l).length + 1 := fun k v => by
  have := congrArg List.length (lput_keys (lastF l) k v)
  rw [List.length_map] at this
  rw [this]
  split <;> simp
 unfold lstep
 split
 · have := hp (a.op.name, a.op.target) a; omega
 · split
   · have := hp (a.op.name, a.op.target) a; omega
   · omega
/-! Table. -/
theorem tblT_eq (C : List (Bs × Ck)) (l : Ls) : tblT C l = (namesL l).flatMap fun t => (sortB (C.map (·.1))).flatMap fun n => (ofT C l t n).toList := rfl
def tblR (C : List (Bs × Ck)) (l : Ls) (t : Bs) (ns : List Bs) : List Tgd := ns.flatMap fun n => (ofT C l t n).toList
def tblF (C : List (Bs × Ck)) (l : Ls) (ts : List Bs) : List Tgd := ts.flatMap fun t => tblR C l t (sortB (C.map (·.1)))
theorem tblR_snoc (C : List (Bs × Ck)) (l : Ls) (t : Bs) (ns : List Bs) (n : Bs) : tblR C l t (ns ++ [n]) = tblR C l t ns ++ (ofT C l t n).toList := by simp [tblR]
theorem tblF_snoc (C : List (Bs × Ck)) (l : Ls) (ts : List Bs) (t : Bs) : tblF C l (ts ++ [t]) = tblF C l ts ++ tblR C l t (sortB (C.map (·.1))) := by simp [tblF]
theorem tblR_len (C : List (Bs × Ck)) (l : Ls) (t : Bs) (ns : List Bs) : (tblR C l t ns).length ≤ ns.length := by
 induction ns with
 | nil => exact Nat.le_refl _
 | cons n ns ih =>
   have : ((ofT C l t n).toList).length ≤ 1 := by cases ofT C l t n <;> simp
   simp only [tblR, List.flatMap_cons, List.length_append, List.length_cons] at ih ⊢
   omega
theorem tblF_len (C : List (Bs × Ck)) (l : Ls) (ts : List Bs) : (tblF C l ts).length ≤ ts.length * C.length := by
 induction ts with
 | nil => simp [tblF]
 | cons t ts ih =>
   have := tblR_len C l t (sortB (C.map (·.1)))
   rw [sortB_len, List.length_map] at this
   simp only [tblF, List.flatMap_cons, List.length_append, List.length_cons, Nat.add_mul, Nat.one_mul] at ih ⊢
   omega
theorem namesL_len (l : Ls) : (namesL l).length ≤ l.length := by
 have := dedS_len (sortB (l.map fun p => p.1.1))
 rw [sortB_len, List.length_map] at this
 exact this
theorem zb94next1 {G : Prop} (h : G := by
    first
    | (have hzl : (tblF (cksL H) (lastL H) (N.take j) ++ (tblR (cksL H) (lastL H) tg (S.take i) ++ [z])).length = (tblF (cksL H) (lastL H) (N.take j) ++ tblR (cksL H) (lastL H) tg (S.take i)).length + 1 := by simp only [List.length_append, List.length_cons, List.length_nil]; omega
       have hzf : (tblF (cksL H) (lastL H) (N.take j) ++ (tblR (cksL H) (lastL H) tg (S.take i) ++ [z])).flatMap tgdVals = (tblF (cksL H) (lastL H) (N.take j) ++ tblR (cksL H) (lastL H) tg (S.take i)).flatMap tgdVals ++ [vS z.tag, vS z.target, vS z.value, vS z.source, .bool z.spread, .bool z.own] := by simp [tgdVals]
       refine to_inv ⟨(i + 1, a40, c40), by dsimp only; omega⟩ (by dsimp only; omega) ⟨rfl, sl_eq (by dsimp only; rw [hrz]; exact hzl.symm), rfl, rfl, rfl, rfl, rfl, rfl, rfl, trivial⟩ ?_
       dsimp only
       rw [hrz, hzl, hzf]
       exact ent_pick)
    | (refine to_inv ⟨(i + 1, oa, oc), by dsimp only; omega⟩ (by dsimp only; omega) ⟨rfl, sl_eq (by dsimp only; rw [hrz]), rfl, rfl, rfl, rfl, rfl, rfl, rfl, trivial⟩ ?_
       dsimp only
       rw [hrz]
       exact ent_pick)) : G := h
set_option maxHeartbeats 2000000 in
theorem tags_Table_sp (b : Nat) (H : Ks) (hH : TxtK H) (hnd : (H.map (·.1)).Nodup) (hn : H.length ≤ 1000) : Sp Tryz.prog 94 [.map (some b)] [MapS b H] (X := Option Addr × Nat) (fun x => .slice x.1 (tblT (cksL H) (lastL H)).length x.2) (fun _ => True) (fun x => [Row 90 6 (.slice x.1 (tblT (cksL H) (lastL H)).length x.2) (tblT (cksL H) (lastL H)).length ((tblT (cksL H) (lastL H)).flatMap tgdVals), MapS b H]) := by
 have h1 := lastF_len (sdL H)
 have h2 := sdL_len H
 have h3 := namesL_len (lastL H)
 have h4 : (lastL H).length ≤ 12000 := by show (lastF (sdL H)).length ≤ _; omega
 obtain ⟨N, hN⟩ : ∃ N, N = namesL (lastL H) := ⟨_, rfl⟩
 have htT : tblT (cksL H) (lastL H) = tblF (cksL H) (lastL H) N := by rw [hN]; rfl
 rw [← hN] at h3
 rw [htT]
 refine Sp.body (n := 44) Tryz.call94 Tryz.func94 rfl rfl rfl ?_
 refine Qc (k:=Vv (k:=Wq (Qc (k:=Vv (k:=?_)))))
 refine r_callX (tags_Read_sp b H hH (by omega)) rfl rfl rfl (fun x12 hx12 => ?_)
 obtain ⟨m1, m2, all⟩ := x12
 dsimp only at hx12 ⊢
 have hf := fin_ok hnd hx12
 have hfl := hf.le
 have hcl : (cksL H).length = all.length := by rw [← show all.map ckKey = cksL H from hx12, List.length_map]
 have hkk : (ckK all).map (·.1) = (cksL H).map (·.1) := by rw [ckK_map hf.nd, ← show all.map ckKey = cksL H from hx12, List.map_map, List.map_map]; rfl
 obtain ⟨S, hS⟩ : ∃ S, S = sortB ((cksL H).map (·.1)) := ⟨_, rfl⟩
 have hSl : S.length = all.length := by rw [hS, sortB_len, List.length_map, hcl]
 have hkl : (ckK all).length = all.length := by rw [ckK_map hf.nd, List.length_map]
 have hIN := tags_INames_sp m1 (some m2) (lastL H) (by omega)
 rw [← hN] at hIN
 refine Zc [.map none, .map none] (k:=fun b3 => Zp (k:=Wq (Qc (k:=Vv (k:=Wq (Za (k:=Qc (k:=Zm [_, _] (k:=?_)))))))))
 refine r_callX hIN rfl rfl rfl (fun x14 _ => ?_)
 obtain ⟨na, nc⟩ := x14
 dsimp only
 refine Qv (k:=Wq (Zb (k:=?_)))
 refine p_loop (fun (i : { x : Nat × Option Addr × Nat // x.1 ≤ N.length }) => [(3, .pointer (some ⟨b3, 0, none⟩)), (4, .slice i.1.2.1 (tblF (cksL H) (lastL H) (N.take i.1.1)).length i.1.2.2), (14, .slice na N.length nc), (15, vI N.length), (16, vI i.1.1)]) (fun (i : { x : Nat × Option Addr × Nat // x.1 ≤ N.length }) => [Row 90 6 (.slice i.1.2.1 (tblF (cksL H) (lastL H) (N.take i.1.1)).length i.1.2.2) (tblF (cksL H) (lastL H) (N.take i.1.1)).length ((tblF (cksL H) (lastL H) (N.take i.1.1)).flatMap tgdVals), Row 9 1 (.slice na N.length nc) N.length (N.map vS), MX.MapS MX.pairE m1 (lsK (lastL H)), MapS m2 (ckK all), CkMs all, Ce b3 140 [.map (some m1), .map (some m2)], MapS b H]) (fun (i : { x : Nat × Option Addr × Nat // x.1 ≤ N.length }) => N.length - i.1.1) rfl (⟨(0, none, 0), Nat.zero_le _⟩) ?_ ?_ (fun i => ?_)
 · exact ⟨rfl, rfl, rfl, rfl, rfl, trivial⟩
 ·
  dsimp only
  rw [show tblF (cksL H) (lastL H) (N.take 0) = [] from rfl]
  simp only [List.length_nil, List.flatMap_nil]
  exact (row_nil (e := 90) (sz := 6)).trans ent_pick
 obtain ⟨⟨j, ta, tc⟩, hj⟩ := i
 dsimp only at hj ⊢
 try dsimp only
 refine Qc (k:=Vv (k:=Wq (Za (k:=Zi (t:=fun h17 => ?_) (f:=fun h17 => ?_)))))
 ·
  refine Zk (k:=Ya (Za (k:=Zb (k:=Za (k:=?_)))))
  have hjl : j < N.length := by omega
  obtain ⟨tg, htg⟩ : ∃ tg, tg = N[j] := ⟨_, rfl⟩
  have hst : N.take (j + 1) = N.take j ++ [tg] := by rw [htg]; exact List.take_succ_eq_append_getElem hjl
  have hfs : tblF (cksL H) (lastL H) (N.take (j + 1)) = tblF (cksL H) (lastL H) (N.take j) ++ tblR (cksL H) (lastL H) tg S := by rw [hst, tblF_snoc, hS]
  have hfl2 := tblF_len (cksL H) (lastL H) (N.take j)
  have hml : (N.take j).length * (cksL H).length ≤ 12000 * 1000 := Nat.mul_le_mul (by rw [List.length_take]; omega) (by omega)
  refine Zr (k:=Ye 1 (k:=?_))
  refine r_eload Tryz.underlying9 rfl rfl ((get_map (m := j) (by omega)).trans (by rw [← htg])) rfl ?_
  refine Vv (k:=Wq (Qc (k:=Qx 1 138 (k:=?_))))
  refine r_callX (maps_KeysC_sp (some m2)) rfl rfl rfl (fun cb _ => ?_)
  refine r_callX (slices_Sorted_sp (maps_KeysC_it cb m2 (ckK all)) (ckK all).length (by omega) (fun pre x h => h.2.2) (fun l h => by have := h.length_eq; simp at this; omega)) rfl rfl rfl (fun xs hxs => ?_)
  obtain ⟨⟨sa, sc⟩, al⟩ := xs
  have hse : sortB al = S := by rw [hS, ← hkk]; exact sortB_eq hxs
  have hal : al.length = all.length := by have := hxs.length_eq; simp at this; omega
  dsimp only
  rw [hse, hal]
  refine Qv (k:=Wq (Zb (k:=?_)))
  refine p_loop (fun (i : { x : Nat × Option Addr × Nat // x.1 ≤ S.length }) => [(3, .pointer (some ⟨b3, 0, none⟩)), (4, .slice i.1.2.1 (tblF (cksL H) (lastL H) (N.take j) ++ tblR (cksL H) (lastL H) tg (S.take i.1.1)).length i.1.2.2), (6, vS tg), (14, .slice na N.length nc), (15, vI N.length), (16, vI j), (23, .slice sa all.length sc), (24, vI all.length), (25, vI i.1.1)]) (fun (i : { x : Nat × Option Addr × Nat // x.1 ≤ S.length }) => [Row 90 6 (.slice i.1.2.1 (tblF (cksL H) (lastL H) (N.take j) ++ tblR (cksL H) (lastL H) tg (S.take i.1.1)).length i.1.2.2) (tblF (cksL H) (lastL H) (N.take j) ++ tblR (cksL H) (lastL H) tg (S.take i.1.1)).length ((tblF (cksL H) (lastL H) (N.take j) ++ tblR (cksL H) (lastL H) tg (S.take i.1.1)).flatMap tgdVals), Row 9 1 (.slice sa all.length sc) all.length (S.map vS), Row 9 1 (.slice na N.length nc) N.length (N.map vS), MX.MapS MX.pairE m1 (lsK (lastL H)), MapS m2 (ckK all), CkMs all, Ce b3 140 [.map (some m1), .map (some m2)], MapS b H]) (fun (i : { x : Nat × Option Addr × Nat // x.1 ≤ S.length }) => S.length - i.1.1) rfl (⟨(0, ta, tc), Nat.zero_le _⟩) ?_ ?_ (fun i => ?_)
  · exact ⟨rfl, sl_eq (by simp [tblR]), rfl, rfl, rfl, rfl, rfl, rfl, rfl, trivial⟩
  ·
   dsimp only
   rw [show tblR (cksL H) (lastL H) tg (S.take 0) = [] from rfl, List.append_nil]
   exact ent_pick
  obtain ⟨⟨i, oa, oc⟩, hi⟩ := i
  dsimp only at hi ⊢
  try dsimp only
  refine Qc (k:=Vv (k:=Wq (Za (k:=Zi (t:=fun h26 => ?_) (f:=fun h26 => ?_)))))
  ·
   refine Zk (k:=Ya (Za (k:=Zb (k:=Za (k:=?_)))))
   have hil : i < S.length := by omega
   obtain ⟨nm, hnm⟩ : ∃ nm, nm = S[i] := ⟨_, rfl⟩
   have hst2 : S.take (i + 1) = S.take i ++ [nm] := by rw [hnm]; exact List.take_succ_eq_append_getElem hil
   obtain ⟨y, hy⟩ : ∃ y, y = ofT (cksL H) (lastL H) tg nm := ⟨_, rfl⟩
   have hrs : tblR (cksL H) (lastL H) tg (S.take (i + 1)) = tblR (cksL H) (lastL H) tg (S.take i) ++ y.toList := by rw [hst2, tblR_snoc, hy]
   have hrl := tblR_len (cksL H) (lastL H) tg (S.take i)
   have hapl : (tblF (cksL H) (lastL H) (N.take j) ++ tblR (cksL H) (lastL H) tg (S.take i)).length = (tblF (cksL H) (lastL H) (N.take j)).length + (tblR (cksL H) (lastL H) tg (S.take i)).length := List.length_append ..
   have hrl2 : (S.take i).length ≤ 1000 := by rw [List.length_take]; omega
   have hO := tags_IOf_sp m1 m2 all (lastL H) tg nm hf.nd (fun x hx => by have := hf.pl x hx; omega) (by omega) y (by rw [hy, show all.map ckKey = cksL H from hx12])
   obtain ⟨z, hz⟩ : ∃ z, z = y.getD tgd0 := ⟨_, rfl⟩
   rw [← hz] at hO
   refine Zr (k:=Ye 1 (k:=?_))
   refine r_eload Tryz.underlying9 rfl rfl ((get_map (m := i) (by omega)).trans (by rw [← hnm])) rfl ?_
   refine Vv (k:=Wq (Qc (k:=Zm [_, _] (k:=Qv (k:=?_)))))
   refine r_call1 hO rfl rfl rfl ?_
   refine Vv (k:=?_)
   refine wo_pv (pv_extract (v := .agg #[vS z.tag, vS z.target, vS z.value, vS z.source, .bool z.spread, .bool z.own]) rfl rfl) rfl ?_
   refine wo_pv (pv_extract (v := vB y.isSome) rfl rfl) rfl ?_
   refine Zc [vS [], vS [], vS [], vS [], .bool false, .bool false] (k:=fun b9 => Zp (k:=Vv (k:=Wq (Qc (k:=Vv (k:=Wq (Zi (t:=fun h36 => ?_) (f:=fun h36 => ?_))))))))
   ·
    obtain rfl : y = some z := by cases y with | none => simp at h36 | some q => rw [hz]; rfl
    have hrz : tblR (cksL H) (lastL H) tg (S.take (i + 1)) = tblR (cksL H) (lastL H) tg (S.take i) ++ [z] := hrs
    refine Zr (k:=Vv (k:=Zm [_, _, _, _, _, _] (k:=Zv [_] (cs := [_, _, _, _, _, _]) (k:=fun b39 => ?_))))
    refine r_append1 (sz := 6) (bytes := 72) Tryz.underlying80 ti90 rfl rfl rfl rfl rfl rfl rfl (by rfl) (by rfl) (by omega) (by simp only [maxLen]; omega) rfl (fun a40 c40 => ?_)
    refine Vv (k:=Wn (Yb (Ya (Zr (k:=Qv (k:=Wn ?_))))))
    exact zb94next1
   ·
    obtain rfl : y = none := by cases y with | none => rfl | some q => simp at h36
    have hrz : tblR (cksL H) (lastL H) tg (S.take (i + 1)) = tblR (cksL H) (lastL H) tg (S.take i) := by rw [hrs]; exact List.append_nil _
    refine Zk (k:=Yb (Ya (Zr (k:=Qv (k:=Wn ?_)))))
    exact zb94next1
  ·
   refine Ze (k:=Xa (Xi (Xb (Yb (Ya (Zr (k:=Qv (k:=Wn ?_))))))))
   have hi2 : i = S.length := by omega
   subst hi2
   rw [List.take_length, ← hfs]
   exact to_inv ⟨(j + 1, oa, oc), by dsimp only; omega⟩ (by dsimp only; omega) ⟨rfl, rfl, rfl, rfl, rfl, trivial⟩ ent_pick
 ·
  refine Ze (k:=Xa (Xi (Xb (Ya (Qc (k:=Qv (k:=Wq (Zt (k:=?_)))))))))
  have hj2 : j = N.length := by omega
  subst hj2
  rw [List.take_length]
  exact fin_ret (ta, tc) (vs := [_]) (Cs := []) rfl (.tmp rfl .nil) rfl trivial ent_pick
end
section
set_option maxRecDepth 100000
def cmpB (x y : Bs) : Int := if x < y then -1 else if y < x then 1 else 0
theorem cmp_isNaN_sp (x : Bs) : SpF Tryz.prog 102 [vS x] (.bool false) := by
 refine Sp.body (n := 6) Tryz.call102 Tryz.func102 rfl rfl rfl ?_
 refine Qc (k:=Vv (k:=Wq (Qc (k:=Qv (k:=Qv (k:=Wq (Zt (k:=?_))))))))
 exact fin_ret () (vs := [.bool (decide (¬ x = x))]) (Cs := []) rfl (.tmp rfl .nil) (by simp [pack]) trivial ent_nil
theorem cmp_Compare_sp (x y : Bs) : SpF Tryz.prog 58 [vS x, vS y] (vI (cmpB x y)) := by
 refine Sp.body (n := 20) Tryz.call58 Tryz.func58 rfl rfl rfl ?_
 refine Qc (k:=Vv (k:=Wq (Qc (k:=Vv (k:=?_)))))
 refine r_callF (cmp_isNaN_sp _) rfl rfl rfl ?_
 refine Vv (k:=Wq (Qc (k:=Vv (k:=?_))))
 refine r_callF (cmp_isNaN_sp _) rfl rfl rfl ?_
 refine Vv (k:=Wq (Za (k:=Qc (k:=Vv (k:=Wq (Zi (t:=fun h11 => ?_) (f:=fun h11 => ?_)))))))
 ·
  cases h11
  --done
 ·
  refine Zk (k:=Ya (Za (k:=Qc (k:=Vv (k:=Wq (Zi (t:=fun h13 => ?_) (f:=fun h13 => ?_)))))))
  ·
   cases h13
   --done
  ·
   refine Zk (k:=Ya (Za (k:=Qc (k:=Qv (k:=Vv (k:=Wq (Zi (t:=fun h16 => ?_) (f:=fun h16 => ?_))))))))
   ·
    refine Qc (k:=Vv (k:=Wq (Zt (k:=Va ?_))))
    have h : x < y := (blt_iff x y).1 h16
    rw [show cmpB x y = -1 by rw [cmpB, if_pos h]]
    exact fin_ret () (vs := [_]) (Cs := []) rfl (.tmp rfl .nil) rfl trivial ent_nil
   ·
    refine Zk (k:=Ya (Za (k:=Qc (k:=Qv (k:=Vv (k:=Wq (Zi (t:=fun h19 => ?_) (f:=fun h19 => ?_))))))))
    ·
     refine Qc (k:=Vv (k:=Wq (Zt (k:=Va ?_))))
     have h1 : ¬ x < y := fun h => by rw [(blt_iff x y).2 h] at h16; cases h16
     have h2 : y < x := by
      simp only [Bool.not_eq_true', Bool.or_eq_false_iff, decide_eq_false_iff_not] at h19
      exact Std.lt_of_le_of_ne (List.not_lt.1 h1) (fun e => h19.2 e.symm)
     rw [show cmpB x y = 1 by rw [cmpB, if_neg h1, if_pos h2]]
     exact fin_ret () (vs := [_]) (Cs := []) rfl (.tmp rfl .nil) rfl trivial ent_nil
    ·
     refine Zk (k:=Ya (Qc (k:=Vv (k:=Wq (Zt (k:=?_))))))
     have h1 : ¬ x < y := fun h => by rw [(blt_iff x y).2 h] at h16; cases h16
     have h2 : x = y := by
      rw [show blt x y = false from by simpa using h16] at h19
      simpa using h19
     subst h2
     rw [show cmpB x x = 0 by rw [cmpB, if_neg h1, if_neg h1]]
     exact fin_ret () (vs := [_]) (Cs := []) rfl (.tmp rfl .nil) rfl trivial ent_nil
def orI : List Int → Int
 | [] => 0
 | x :: r => if x = 0 then orI r else x
theorem orI_drop {l : List Int} {j : Nat} (h : j < l.length) : orI (l.drop j) = if l[j] = 0 then orI (l.drop (j + 1)) else l[j] := by rw [List.drop_eq_getElem_cons h, orI]
theorem cmp_Or_sp (b : Nat) (l : List Int) (hl : l.length ≤ 1000000) : Sp1 Tryz.prog 57 [.slice (some ⟨b, 0, none⟩) l.length l.length] [Ce b 3 (l.map vI)] (vI (orI l)) [Ce b 3 (l.map vI)] := by
 refine Sp.body (n := 18) Tryz.call57 Tryz.func57 rfl rfl rfl ?_
 refine Qc (k:=Vv (k:=Wq (Qc (k:=Vv (k:=Wq (Za (k:=Qc (k:=Vv (k:=?_)))))))))
 refine Qv (k:=Wq (Zb (k:=?_)))
 refine p_loop (fun (i : { j : Nat // j ≤ l.length ∧ orI (l.drop j) = orI l }) => [(3, vI 0), (6, .slice (some ⟨b, 0, none⟩) l.length l.length), (7, vI l.length), (8, vI i.1)]) (fun (i : { j : Nat // j ≤ l.length ∧ orI (l.drop j) = orI l }) => [Ce b 3 (l.map vI)]) (fun (i : { j : Nat // j ≤ l.length ∧ orI (l.drop j) = orI l }) => l.length - i.1) rfl (⟨0, Nat.zero_le _, rfl⟩) ?_ ?_ (fun i => ?_)
 · exact ⟨rfl, rfl, rfl, rfl, trivial⟩
 ·
  exact ent_pick
 obtain ⟨j, hj, ho⟩ := i
 try dsimp only
 refine Qc (k:=Vv (k:=Wq (Za (k:=Zi (t:=fun h9 => ?_) (f:=fun h9 => ?_)))))
 ·
  refine Zk (k:=Ya (Za (k:=Zb (k:=Qc (k:=Ye 1 (k:=Ym (k:=Vv (k:=Wq (Qc (k:=?_))))))))))
  refine Qv (k:=Vv (k:=Wq (Zi (t:=fun h14 => ?_) (f:=fun h14 => ?_))))
  ·
   refine Qc (k:=Qv (k:=Wq (Zt (k:=Vb (Va (Vi (Vb (Va ?_))))))))
   have hjl : j < l.length := by omega
   rw [← ho, orI_drop hjl, if_neg h14]
   exact fin_ret () (vs := [_]) (Cs := []) rfl (.tmp rfl .nil) rfl trivial ent_pick
  ·
   refine Zk (k:=Yb (Ya (Zr (k:=Qv (k:=Wn ?_)))))
   have hjl : j < l.length := by omega
   refine to_inv ⟨j + 1, by omega, ?_⟩ (by dsimp only; omega) ⟨rfl, rfl, rfl, rfl, trivial⟩ ent_pick
   have h0 : l[j] = 0 := Classical.not_not.1 h14
   rw [← ho, orI_drop hjl, if_pos h0]
 ·
  refine Ze (k:=Xa (Xi (Xb (Ya (Qc (k:=Qv (k:=Wq (Zt (k:=?_)))))))))
  have hjl : j = l.length := by omega
  subst hjl
  rw [← ho, List.drop_length, orI]
  exact fin_ret () (vs := [_]) (Cs := []) rfl (.tmp rfl .nil) rfl trivial ent_pick
theorem cmp_Or2_sp (b : Nat) (x y : Int) : Sp1 Tryz.prog 57 [.slice (some ⟨b, 0, none⟩) 2 2] [Ce b 3 [vI x, vI y]] (vI (if x = 0 then y else x)) [Ce b 3 [vI x, vI y]] := by
 have h := cmp_Or_sp b [x, y] (by simp)
 have e : orI [x, y] = if x = 0 then y else x := by
  simp only [orI]
  by_cases hy : y = 0 <;> simp [hy]
 rw [e] at h
 exact h
/-- First by one text, then by another. -/
def cmp2 (a b : Bs × Bs) : Int := if cmpB a.1 b.1 = 0 then cmpB a.2 b.2 else cmpB a.1 b.1
theorem cmpB_lt {x y : Bs} : cmpB x y < 0 ↔ x < y := by
 unfold cmpB
 by_cases h : x < y
 · simp [h]
 · by_cases h2 : y < x <;> simp [h, h2]
theorem cmpB_0 {x y : Bs} : cmpB x y = 0 ↔ x = y := by
 unfold cmpB
 by_cases h : x < y
 · simp only [h, if_true]; exact ⟨fun e => by omega, fun e => by subst e; exact absurd h (List.lt_irrefl x)⟩
 · by_cases h2 : y < x
   · simp only [h, h2, if_true, if_false]; exact ⟨fun e => by omega, fun e => by subst e; exact absurd h2 (List.lt_irrefl x)⟩
   · simp only [h, h2, if_false, true_iff]
     exact List.le_antisymm (List.not_lt.1 h2) (List.not_lt.1 h)
def lt2 (a b : Bs × Bs) : Prop := a.1 < b.1 ∨ (a.1 = b.1 ∧ a.2 < b.2)
theorem cmp2_lt {a b : Bs × Bs} : cmp2 a b < 0 ↔ lt2 a b := by
 unfold cmp2 lt2
 by_cases h : cmpB a.1 b.1 = 0
 · rw [if_pos h, cmpB_lt]
   have e := cmpB_0.1 h
   rw [e]
   exact ⟨fun x => .inr ⟨rfl, x⟩, fun x => x.elim (fun y => absurd y (List.lt_irrefl _)) (·.2)⟩
 · rw [if_neg h, cmpB_lt]
   have e : a.1 ≠ b.1 := fun x => h (cmpB_0.2 x)
   exact ⟨.inl, fun x => x.elim id (fun y => absurd y.1 e)⟩
theorem lt2_irr (a : Bs × Bs) : ¬ lt2 a a := fun h => h.elim (List.lt_irrefl _) (fun x => List.lt_irrefl _ x.2)
theorem lt2_tr {a b c : Bs × Bs} (h : lt2 a b) (k : lt2 b c) : lt2 a c := by
 rcases h with h | ⟨h1, h2⟩
 · rcases k with k | ⟨k1, k2⟩
   · exact .inl (List.lt_trans h k)
   · exact .inl (by rw [← k1]; exact h)
 · rcases k with k | ⟨k1, k2⟩
   · exact .inl (by rw [h1]; exact k)
   · exact .inr ⟨h1.trans k1, List.lt_trans h2 k2⟩
theorem lt2_or (a b : Bs × Bs) : lt2 a b ∨ a = b ∨ lt2 b a := by
 by_cases h : a.1 < b.1
 · exact .inl (.inl h)
 · by_cases h2 : b.1 < a.1
   · exact .inr (.inr (.inl h2))
   · have e : a.1 = b.1 := List.le_antisymm (List.not_lt.1 h2) (List.not_lt.1 h)
     by_cases h3 : a.2 < b.2
     · exact .inl (.inr ⟨e, h3⟩)
     · by_cases h4 : b.2 < a.2
       · exact .inr (.inr (.inr ⟨e.symm, h4⟩))
       · exact .inr (.inl (Prod.ext e (List.le_antisymm (List.not_lt.1 h4) (List.not_lt.1 h3))))
/-- A comparison's contract, as the sort asks for it. -/
theorem Sp.grown {P : Program} {f : FuncId} {args : List Value} {v : Value} (sp : SpF P f args v) (w : World) : Calls P f args.toArray w fun e w' => e = .returned v ∧ ∃ q os, w' = Go.Sort.grow (w.drewN q) os := by
 have t : Sat w ⟨fun b => w.heap[b]?, w⟩ (Res.emp.add Res.emp) := ⟨fun _ _ e => e, fun _ _ e => by simp [Res.add, Res.emp] at e, fun _ => .inr rfl, Env.refl w⟩
 refine (callsIn_wide.1 (sp.calls w _ Res.emp Res.emp (Res.dj_emp _) t trivial)).mono ?_
 rintro e w' ⟨x, M', h', rfl, _, l, _, t', _⟩
 have en := t'.env
 rw [← l.2] at en
 refine ⟨rfl, w'.drawn - w.drawn, w'.heap.extract w.heap.size w'.heap.size, ?_⟩
 have hold : ∀ k, k < w.heap.size → w'.heap[k]? = w.heap[k]? := fun k hk => by
  have e1 : w.heap[k]? = some w.heap[k] := Array.getElem?_eq_getElem hk
  rw [e1]
  exact t'.im k _ (l.1 k _ e1)
 have hd : w.drawn + (w'.drawn - w.drawn) = w'.drawn := by
  have h : w.drawn ≤ w'.drawn := en.up
  omega
 have hh : w'.heap = w.heap ++ w'.heap.extract w.heap.size w'.heap.size := by
  apply Array.ext_getElem?
  intro k
  have hs := en.size
  rw [Array.getElem?_append]
  by_cases hk : k < w.heap.size
  · rw [if_pos hk]; exact hold k hk
  · rw [if_neg hk, Array.getElem?_extract]
    by_cases hk2 : k < w'.heap.size
    · rw [if_pos (by omega)]
      congr 1
      omega
    · rw [if_neg (by omega)]
      exact Array.getElem?_eq_none (by omega)
 cases w' with
 | mk heap tape drawn os output =>
   have h1 := en.os
   have h2 := en.tape
   have h3 := en.output
   dsimp only at h1 h2 h3 hd hh
   subst h1; subst h2; subst h3
   show _ = ({ heap := w.heap ++ _, tape := w.tape, drawn := w.drawn + _, os := w.os, output := w.output } : World)
   rw [hd, ← hh]
end
section
set_option maxRecDepth 100000
open Go.Sort (flatK HoldsK PermIn SortedIn)
theorem flatK_list {α : Type} [Inhabited α] {enc : α → List Value} {k : Nat} (hk : ∀ x, (enc x).length = k) (l : List α) : flatK enc k l.toArray = (l.flatMap enc).toArray := by
 refine Go.Sort.ext_get! (by simp [flat_len hk]) fun t ht => ?_
 have ht' : t < l.length * k := by simpa using ht
 rw [Go.Sort.get_flatK _ _ _ _ (by simpa using ht')]
 have k0 : 0 < k := by
  rcases Nat.eq_zero_or_pos k with h | h
  · subst h; omega
  · exact h
 have hd : t / k < l.length := (Nat.div_lt_iff_lt_mul k0).2 ht'
 have hm : t % k < k := Nat.mod_lt _ k0
 have hg := get_flat hk hd
 have e : (enc l[t / k])[t % k]? = (l.flatMap enc)[t]? := by
  rw [← hg, List.getElem?_take_of_lt hm, List.getElem?_drop, Nat.div_add_mod']
 have e2 : l.toArray[t / k]! = l[t / k] := by simp [hd]
 rw [e2, List.getElem!_eq_getElem?_getD, e, List.getElem!_toArray, List.getElem!_eq_getElem?_getD]
section
variable {α : Type} [Inhabited α] {P : Program} {f g : Nat} {T : TypeId} {k : Nat} {enc : α → List Value}
theorem sortF_sp (hk : ∀ x, (enc x).length = k) (lt : α → α → Bool)
    (en : ∀ (args : Array Value) (w : World), (callFunc f args).run P w = .ok (.enter f args) w)
    (hn : SpF P f [.slice none 0 0, .func (.func g) #[] #[]] (.tuple #[]))
    (hc : ∀ (blk cap : Nat) (d : Array α) (w : World), HoldsK enc k w blk 0 d → blk < w.heap.size → d.size < 4611686018427387904 → Calls P f #[.slice (some ⟨blk, 0, none⟩) d.size cap, .func (.func g) #[] #[]] w fun e w' => e = .returned (.tuple #[]) ∧ ∃ d' n os, PermIn 0 d.size d d' ∧ SortedIn lt 0 d.size d' ∧ w' = sortWorldK enc k w blk 0 n d' os)
    (a : Option Addr) (n c : Nat) (l : List α) (hl : l.length = n) (hb : n < 4611686018427387904) :
    Sp P f [.slice a n c, .func (.func g) #[] #[]] [Row T k (.slice a n c) n (l.flatMap enc)] (X := List α) (fun _ => .tuple #[]) (fun q => q.Perm l ∧ q.Pairwise fun x y => lt y x = false) (fun q => [Row T k (.slice a n c) n (q.flatMap enc)]) := by
 subst hl
 refine ⟨en, fun w M h hf d t s => ?_⟩
 obtain ⟨h1, h2, d12, e, hr, _⟩ := s
 subst e
 rcases hr with ⟨hv, hl, hx⟩ | ⟨gg, cap, cur, hv, hnc, hcm, hcl, hxl, htk, hh⟩
 · have hl0 : l = [] := List.eq_nil_of_length_eq_zero hl
   subst hl0
   cases hv
   refine (hn.calls w M (h1.add h2) hf d t trivial).mono ?_
   rintro ee w' ⟨x, M', h', rfl, _, le, dj, t', _⟩
   exact ⟨[], M', h', rfl, ⟨List.Perm.refl _, List.Pairwise.nil⟩, le, dj, t', Res.emp, h', Res.emp_dj _, rfl, .inl ⟨rfl, rfl, rfl⟩, trivial⟩
 · cases hv
   subst hh
   obtain ⟨d1, d2⟩ := Res.dj_add_left.1 d
   have hg : w.heap[gg]? = some (.cells cur.toArray T (0, 0)) := t.ow _ _ (by simp [Res.add, Res.one])
   have hlt : gg < w.heap.size := (Array.getElem?_eq_some_iff.1 hg).1
   have hH : HoldsK enc k w gg 0 l.toArray := by
    intro j hj
    rw [flatK_list hk] at hj ⊢
    have hj' : j < (l.flatMap enc).length := by simpa using hj
    have hc : cur[j]? = some (l.flatMap enc)[j] := by
     have := congrArg (fun q => q[j]?) htk
     rw [List.getElem?_take_of_lt (by rw [← hxl]; exact hj'), List.getElem?_eq_getElem hj'] at this
     exact this
    refine ⟨?_, ?_⟩
    · simp only [World.cell?, Nat.zero_add, hg]
      rw [List.getElem!_toArray, List.getElem!_eq_getElem?_getD, List.getElem?_eq_getElem hj']
      simpa using hc
    · simp [World.frozen?, hg]
   have hcall := hc gg c l.toArray w hH hlt (by simpa using hb)
   refine CallsIn.mono (callsIn_wide.2 hcall) ?_
   rintro ee w' ⟨rfl, d', m, os, hp, hs, rfl⟩
   obtain ⟨q, rfl⟩ : ∃ q : List α, d' = q.toArray := ⟨d'.toList, by simp⟩
   have hql : q.length = l.length := by simpa using hp.1
   have hperm : q.Perm l := by
    have := hp.2.2
    simp only [List.size_toArray, Array.toList_extract, List.extract_eq_take_drop, List.drop_zero, Nat.sub_zero] at this
    rwa [List.take_of_length_le (by omega), List.take_of_length_le (Nat.le_refl _)] at this
   have hsort : q.Pairwise fun x y => lt y x = false := by
    rw [List.pairwise_iff_getElem]
    intro i j hi hj hij
    have := hs i j (Nat.zero_le _) hij (by simpa [← hql] using hj)
    simpa [hi, hj] using this
   have hfl : (q.flatMap enc).length = l.length * k := by rw [flat_len hk, hql]
   have hput : (Go.Sort.putRowK enc k (Go.Sort.ahead w m) gg 0 q.toArray).heap[gg]? = some (.cells (q.flatMap enc ++ cur.drop (q.flatMap enc).length).toArray T (0, 0)) := by
    have h0 : (Go.Sort.ahead w m).heap[gg]? = some (.cells cur.toArray T (0, 0)) := hg
    simp only [Go.Sort.putRowK, flatK_list hk, Go.Sort.putRow, Go.Sort.mapBlock, Array.getElem?_modify, if_true, h0, Option.map_some, Go.Sort.onCells]
    generalize q.flatMap enc = F at hfl ⊢
    congr 2
    apply Array.ext'
    simp only [Go.Sort.putCells, Array.toList_mapIdx]
    apply List.ext_getElem?
    intro j
    simp only [List.getElem?_mapIdx, Nat.zero_le, true_and, Nat.zero_add, List.size_toArray, Nat.sub_zero]
    by_cases hj : j < F.length
    · have hjc : j < cur.length := by
        have := congrArg List.length htk
        rw [List.length_take] at this
        omega
      rw [List.getElem?_append_left hj]
      simp [hj, hjc]
    · rw [List.getElem?_append_right (Nat.le_of_not_lt hj), List.getElem?_drop]
      have e : F.length + (j - F.length) = j := by omega
      rw [e]
      cases hc : cur[j]? with
      | none => simp [hc]
      | some v => simp [hc, hj]
   have hoth : ∀ i, i ≠ gg → (Go.Sort.putRowK enc k (Go.Sort.ahead w m) gg 0 q.toArray).heap[i]? = w.heap[i]? := by
    intro i hi
    simp only [Go.Sort.putRowK, Go.Sort.putRow, Go.Sort.mapBlock, Array.getElem?_modify, Ne.symm hi, if_false]
    rfl
   have t1 : Sat w M ((Res.one gg (.cells cur.toArray T (0, 0))).add (h2.add hf)) := by rw [← Res.add_assoc]; exact t
   have t2 := Sat.setBlk (Res.dj_add_right.2 ⟨d12, d1⟩) t1 hput hoth ⟨rfl, rfl, rfl, by simp [Go.Sort.putRowK, Go.Sort.putRow, Go.Sort.mapBlock, Go.Sort.ahead], up_add m up_rfl⟩
   have dn : (Res.one gg (.cells (q.flatMap enc ++ cur.drop (q.flatMap enc).length).toArray T (0, 0))).dj (h2.add hf) := dj_one_any (Res.dj_add_right.2 ⟨d12, d1⟩)
   obtain ⟨dn1, dn2⟩ := Res.dj_add_right.1 dn
   have hcl2 : l.length * k ≤ cur.length := by
    have := congrArg List.length htk
    rw [List.length_take] at this
    omega
   refine ⟨q, M, (Res.one gg (.cells (q.flatMap enc ++ cur.drop (q.flatMap enc).length).toArray T (0, 0))).add h2, rfl, ⟨hperm, hsort⟩, Kn.le_refl _, Res.dj_add_left.2 ⟨dn2, d2⟩, ?_, Res.one gg _, h2, dn1, rfl, .inr ⟨gg, c, q.flatMap enc ++ cur.drop (q.flatMap enc).length, rfl, hnc, hcm, ?_, hfl, ?_, rfl⟩, trivial⟩
   · rw [Res.add_assoc]; exact sat_grow t2 os
   · rw [List.length_append, List.length_drop, ← hcl]; omega
   · rw [← hfl, List.take_left' rfl]
end
theorem SWO2 {α : Type} (key : α → Bs × Bs) : Go.Sort.SWO (ltOf fun x y => cmp2 (key x) (key y)) where
 irrefl x := by
  rw [ltOf, decide_eq_false_iff_not, cmp2_lt]
  exact lt2_irr _
 trans x y z h1 h2 := by
  rw [ltOf, decide_eq_true_iff, cmp2_lt] at *
  exact lt2_tr h1 h2
 ntrans x y z h1 h2 := by
  rw [ltOf, decide_eq_false_iff_not, cmp2_lt] at *
  intro h
  rcases lt2_or (key x) (key y) with h3 | h3 | h3
  · exact h1 h3
  · rw [h3] at h; exact h2 h
  · exact h2 (lt2_tr h3 h)
end
section
set_option maxRecDepth 100000
section
variable {r : Option Nat} {P : Program} {n : Nat} {ops : Array Oper} {os : List Oper} {A : List HP} {L : Loc} {Hs : List HP} {Q : Out} {ty : TypeId} {d : Nat} {pos : String} {after : Array Edge} {c : Code}
end
def brB : Bs := [98, 114, 97, 110, 99, 104]
def trB : Bs := [116, 114, 117, 110, 107]
/-- The branch of a name. -/
def brF (C : List (Bs × Ck)) (l : Ls) (name : Bs) : Bs := if ((ofT C l brB name).getD tgd0).value ≠ [] then ((ofT C l brB name).getD tgd0).value else trB
noncomputable def brH (H : Ks) (name : Bs) : Bs := brF (cksL H) (lastL H) name
set_option maxHeartbeats 2000000 in
theorem heads_branch_sp (m1 m2 : Nat) (all : List CkN) (l : Ls) (name : Bs) (hnd : (all.map (·.1)).Nodup) (hz : ∀ x ∈ all, x.2.2.parents.length ≤ 9223372036854775807) (hal : all.length ≤ 4398046511104) :
    Sp1 Tryz.prog 78 [.agg #[.map (some m1), .map (some m2)], vS name] [MX.MapS MX.pairE m1 (lsK l), MapS m2 (ckK all), CkMs all] (vS (brF (all.map ckKey) l name)) [MX.MapS MX.pairE m1 (lsK l), MapS m2 (ckK all), CkMs all] := by
 have hO := tags_IOf_sp m1 m2 all l brB name hnd hz hal _ rfl
 have hbr : brF (all.map ckKey) l name = if ((ofT (all.map ckKey) l brB name).getD tgd0).value ≠ [] then ((ofT (all.map ckKey) l brB name).getD tgd0).value else trB := rfl
 generalize ofT (all.map ckKey) l brB name = y at *
 obtain ⟨t, ht⟩ : ∃ t, t = y.getD tgd0 := ⟨_, rfl⟩
 rw [← ht] at hO hbr
 refine Sp.body (n := 18) Tryz.call78 Tryz.func78 rfl rfl rfl ?_
 refine Qc (k:=Zx [_, _] (k:=fun b2 => Vv (k:=Wq (Za (k:=Qc (k:=Zm [_, _] (k:=Vv (k:=?_))))))))
 refine r_call1 hO rfl rfl rfl ?_
 refine Vv (k:=?_)
 refine wo_pv (pv_extract (v := .agg #[vS t.tag, vS t.target, vS t.value, vS t.source, .bool t.spread, .bool t.own]) rfl rfl) rfl ?_
 refine wo_pv (pv_extract (v := vB y.isSome) rfl rfl) rfl ?_
 refine Zc [vS [], vS [], vS [], vS [], .bool false, .bool false] (k:=fun b5 => Zp (k:=Vv (k:=Wq (Qc (k:=Qx 2 9 (k:=Vv (k:=Wq (Zi (t:=fun h15 => ?_) (f:=fun h15 => ?_)))))))))
 ·
  refine Qc (k:=Qx 2 9 (k:=Vv (k:=Wq (Zt (k:=Va ?_)))))
  rw [hbr, if_pos h15]
  exact fin_ret () (vs := [_]) (Cs := []) rfl (.tmp rfl .nil) rfl trivial ent_pick
 ·
  refine Zk (k:=Ya (Qc (k:=Vv (k:=Wq (Zt (k:=?_))))))
  rw [hbr, if_neg h15]
  exact fin_ret () (vs := [_]) (Cs := []) rfl (.tmp rfl .nil) rfl trivial ent_pick
end
end Go.Proofs.YtdnoacgopfcpbaaGreat
