/- Texts of this proof, put together: P18Q, P18C, SR10l, SBook, PKeep, PKeep2, SKeep3, PKeep3. -/
import Derived.Test.YtomgdbanbpjedaaGreatQ24
set_option linter.unusedVariables false
set_option linter.unusedSimpArgs false
namespace Go.Proofs.YtomgdbanbpjedaaGreat
section
/-! With the word. -/
section
variable {C : List (Bs × Ck)} {l : Ls} {k : Nat} {name : Bs}
end
/-! The first one no check-in any more. -/
theorem mput_perm {K R : Ks} {n : Bs} {a v : Value} (hp : K.Perm ((n, a) :: R)) (hn : (K.map (·.1)).Nodup) : (mput K n v).Perm ((n, v) :: R) := by
 have hn2 : (((n, a) :: R).map (·.1)).Nodup := (hp.map (·.1)).nodup_iff.1 hn
 have nd : ∀ {l : Ks}, (l.map (·.1)).Nodup → l.Nodup := fun h => (List.pairwise_map.1 h).imp fun hab e => hab (by rw [e])
 refine (List.perm_ext_iff_of_nodup (nd (mput_nodup hn n v)) (nd (l := (n, v) :: R) hn2)).2 fun p => ?_
 have key : p ∈ mput K n v ↔ mlook (mput K n v) p.1 = some p.2 := ⟨fun h => mlook_of_mem (mput_nodup hn n v) h, fun h => mem_of_mlook h⟩
 rw [key, mlook_mput]
 by_cases e : n = p.1
 · rw [if_pos e]
   constructor
   · intro h
     rw [show p = (n, v) from Prod.ext e.symm (Option.some.inj h).symm]; exact List.mem_cons_self
   · intro h
     rcases List.mem_cons.1 h with h | h
     · rw [h]
     · simp only [List.map_cons, List.nodup_cons] at hn2
       exact absurd (e ▸ List.mem_map_of_mem (f := fun p : Bs × Value => p.1) h) hn2.1
 · rw [if_neg e]
   constructor
   · intro h
     have := hp.mem_iff.1 (mem_of_mlook h)
     rcases List.mem_cons.1 this with h2 | h2
     · exact absurd (congrArg Prod.fst h2).symm e
     · exact List.mem_cons_of_mem _ h2
   · intro h
     rcases List.mem_cons.1 h with h2 | h2
     · exact absurd (congrArg Prod.fst h2).symm e
     · exact mlook_of_mem hn (hp.mem_iff.2 (List.mem_cons_of_mem _ h2))
end
section
set_option maxRecDepth 100000
theorem coWs_ok : ∀ m, m < 108 → (sumN (coT m) fun a _ _ _ _ => a) = coWs.getD m 0 := by
 intro m hm
 rw [← coB_eq]
 have key : ∀ (l : List Nat) (k : Nat), coChk l k = true → k + l.length ≤ 108 → (∀ j, j < l.length → l.getD j 0 = coWs.getD (k + j) 0) → k ≤ m → m < k + l.length → coS (coB m) = coWs.getD m 0 := fun l k h hl he h1 h2 => by
  have := coChk_ok l k h (m - k) (by omega)
  rw [he (m - k) (by omega), show k + (m - k) = m by omega] at this
  exact this
 by_cases h0 : m < 18
 · exact key _ _ coW0 (by decide) (by decide) (by omega) (by simp; omega)
 by_cases h1 : m < 36
 · exact key _ _ coW1 (by decide) (by decide) (by omega) (by simp; omega)
 by_cases h2 : m < 54
 · exact key _ _ coW2 (by decide) (by decide) (by omega) (by simp; omega)
 by_cases h3 : m < 72
 · exact key _ _ coW3 (by decide) (by decide) (by omega) (by simp; omega)
 by_cases h4 : m < 90
 · exact key _ _ coW4 (by decide) (by decide) (by omega) (by simp; omega)
 · exact key _ _ coW5 (by decide) (by decide) (by omega) (by simp; omega)
theorem coN_inj {m k : Nat} (hm : m < 108) (hk : k < 108) (h : coN m = coN k) : m = k := by
 refine Classical.byContradiction fun hne => ?_
 refine first_ne ?_ h
 rw [coWs_ok m hm, coWs_ok k hk]
 have hn := (List.nodup_append.1 coWs_nd).1
 intro e
 have hm2 : m < coWs.length := hm
 have hk2 : k < coWs.length := hk
 rw [List.getD_eq_getElem?_getD, List.getD_eq_getElem?_getD, List.getElem?_eq_getElem hm2, List.getElem?_eq_getElem hk2] at e
 exact hne (nodup_inj hn hm2 hk2 e)
theorem xN_sha (a : Nat) : ∃ t, xN a = shaB t ∧ (sumN t fun a _ _ _ _ => a) ∈ chW := by
 match a with
 | 0 => exact ⟨_, rfl, by rw [tgA, chW_0]; decide⟩
 | 1 => exact ⟨_, rfl, by rw [tgB, chW_1]; decide⟩
 | _ + 2 => exact ⟨_, rfl, by rw [tgC, chW_2]; decide⟩
theorem coN_x {m : Nat} (hm : m < 108) (a : Nat) : coN m ≠ xN a := by
 obtain ⟨t, e, hw⟩ := xN_sha a
 rw [e]
 refine first_ne ?_
 rw [coWs_ok m hm]
 have hm2 : m < coWs.length := hm
 rw [List.getD_eq_getElem?_getD, List.getElem?_eq_getElem hm2]
 exact (List.nodup_append.1 coWs_nd).2.2 _ (List.getElem_mem hm2) _ hw
theorem xN_ne : (xN 0 ≠ xN 1 ∧ xN 0 ≠ xN 2) ∧ xN 1 ≠ xN 2 := ⟨⟨tgD_no.xy, tgD_no.xz⟩, tgD_no.yz⟩
theorem xN_inj {a b : Nat} (ha : a < 3) (hb : b < 3) (h : xN a = xN b) : a = b := by
 obtain ⟨⟨d1, d2⟩, d3⟩ := xN_ne
 refine Classical.byContradiction fun hne => ?_
 have : (a = 0 ∧ b = 1) ∨ (a = 0 ∧ b = 2) ∨ (a = 1 ∧ b = 2) ∨ (a = 1 ∧ b = 0) ∨ (a = 2 ∧ b = 0) ∨ (a = 2 ∧ b = 1) := by omega
 rcases this with ⟨rfl, rfl⟩ | ⟨rfl, rfl⟩ | ⟨rfl, rfl⟩ | ⟨rfl, rfl⟩ | ⟨rfl, rfl⟩ | ⟨rfl, rfl⟩
 · exact d1 h
 · exact d2 h
 · exact d3 h
 · exact d1 h.symm
 · exact d2 h.symm
 · exact d3 h.symm
theorem xN_isN (a : Nat) : isN (xN a) = true := by
 match a with
 | 0 => exact isN_sha _
 | 1 => exact isN_sha _
 | _ + 2 => exact isN_sha _
theorem kB_cases (k : Nat) : (kB k = 43 ∨ kB k = 42) ∨ kB k = 45 := by
 match k with
 | 0 => exact .inl (.inl rfl)
 | 1 => exact .inl (.inr rfl)
 | _ + 2 => exact .inr rfl
theorem coC_right {m : Nat} (hm : m < 108) : RightCt (coC m) := by
 refine ctOne_right ⟨by omega, by omega⟩ ?_ (by decide) (xN_isN _) ?_
 · rcases kB_cases (m / 2 % 3) with (h | h) | h <;> rw [h] <;> decide
 · have : m % 2 = 0 ∨ m % 2 = 1 := by omega
   rcases this with h | h <;> rw [h] <;> decide
def coL (cs : List Nat) : List (Bs × Bs) := tgL [] ++ cs.map fun m => (coN m, coT m)
structure CoI (K : Ks) (cs : List Nat) : Prop where
 held : HeldP K (coL cs)
 lt : ∀ m ∈ cs, m < 108
theorem tgL_names (n : Bs) : n ∈ (tgL []).map (·.1) ↔ ∃ a, a < 3 ∧ n = xN a := by
 simp only [tgL, List.map_cons, List.map_nil, List.mem_cons, List.not_mem_nil, or_false]
 constructor
 · rintro (h | h | h)
   · exact ⟨0, by omega, h⟩
   · exact ⟨1, by omega, h⟩
   · exact ⟨2, by omega, h⟩
 · rintro ⟨a, ha, e⟩
   match a, ha with
   | 0, _ => exact .inl e
   | 1, _ => exact .inr (.inl e)
   | 2, _ => exact .inr (.inr e)
theorem coI_0 {K : Ks} (hp : K.Perm ((tgL []).map fun p => (p.1, vS p.2))) : CoI K [] := ⟨by simpa [coL] using tgL_held right_t0 tgD_no hp, by simp⟩
theorem coI_put {K : Ks} {cs : List Nat} (h : CoI K cs) {m : Nat} (hm : m < 108) : ∃ cs', CoI (mput K (coN m) (vS (coT m))) cs' ∧ (∀ j, j ∈ cs' ↔ j ∈ cs ∨ j = m) ∧ cs'.length ≤ cs.length + 1 := by
 by_cases hc : m ∈ cs
 · refine ⟨cs, ⟨?_, h.lt⟩, fun j => ⟨.inl, fun e => e.elim id fun e => by rw [e]; exact hc⟩, by omega⟩
   have hmem : (coN m, coT m) ∈ coL cs := List.mem_append_right _ (List.mem_map.2 ⟨m, hc, rfl⟩)
   have hmK : (coN m, vS (coT m)) ∈ K := h.held.perm.mem_iff.2 (List.mem_map.2 ⟨_, hmem, rfl⟩)
   obtain ⟨l1, l2, eK⟩ := List.append_of_mem hmK
   have hp : K.Perm ((coN m, vS (coT m)) :: (l1 ++ l2)) := by rw [eK]; exact List.perm_middle
   exact ⟨((mput_perm hp h.held.knd).trans hp.symm).trans h.held.perm, h.held.nd, h.held.tx⟩
 · refine ⟨cs ++ [m], ⟨?_, fun j hj => ?_⟩, fun j => by simp, by simp⟩
   · have := h.held.put (n := coN m) (s := coT m) (fun hn => ?_) (Nat.le_trans (ctB_len (coC_right hm)) (by decide))
     · simpa [coL, List.map_append, List.append_assoc] using this
     · rw [coL, List.map_append, List.mem_append] at hn
       rcases hn with hn | hn
       · obtain ⟨a, _, e⟩ := (tgL_names _).1 hn
         exact coN_x hm a e
       · obtain ⟨p, hp, e⟩ := List.mem_map.1 hn
         obtain ⟨j, hj, rfl⟩ := List.mem_map.1 hp
         exact hc (by rw [← coN_inj (h.lt j hj) hm e]; exact hj)
   · rcases List.mem_append.1 hj with hj | hj
     · exact h.lt j hj
     · rw [List.mem_singleton.1 hj]; exact hm
/-! What is said of the chain. -/
def coD (m : Nat) : Sd := ⟨⟨kB (m / 2 % 3), [116], xN (m / 6 % 3), []⟩, ((m / 18 : Nat) : Int), coN m⟩
theorem coI_sd {K : Ks} {cs : List Nat} (h : CoI K cs) (s : Sd) : s ∈ sdL K ↔ ∃ m ∈ cs, s = coD m := by
 rw [h.held.sd]
 have e1 := opsB_ck (right_A right_t0) (tgX [])
 have e2 := opsB_ck (tgB_right []) (tgY [])
 have e3 := opsB_ck (tgC_right []) (tgZ [])
 constructor
 · rintro ⟨p, hp, t, ht, e⟩
   rcases List.mem_append.1 hp with hp | hp
   · exfalso
     simp only [tgL, List.mem_cons, List.not_mem_nil, or_false] at hp
     rcases hp with rfl | rfl | rfl
     · rw [show ((tgX [], tgA []) : Bs × Bs).2 = ckB (ckMe [] [] me 0) from rfl, e1] at ht; cases ht
     · rw [show ((tgY [], tgB []) : Bs × Bs).2 = ckB (ckMe [tgX []] [] me 0) from rfl, e2] at ht; cases ht
     · rw [show ((tgZ [], tgC []) : Bs × Bs).2 = ckB (ckMe [tgY []] [] me 0) from rfl, e3] at ht; cases ht
   · obtain ⟨m, hm, rfl⟩ := List.mem_map.1 hp
     have e4 := opsB_ct (coC_right (h.lt m hm)) (coN m)
     dsimp only at ht e
     rw [show coT m = ctB (coC m) from rfl, e4] at ht e
     rw [show t = ⟨kB (m / 2 % 3), [116], xN (m / 6 % 3), []⟩ from List.mem_singleton.1 ht] at e
     exact ⟨m, hm, e⟩
 · rintro ⟨m, hm, rfl⟩
   have e4 := opsB_ct (coC_right (h.lt m hm)) (coN m)
   refine ⟨(coN m, coT m), List.mem_append_right _ (List.mem_map.2 ⟨m, hm, rfl⟩), ⟨kB (m / 2 % 3), [116], xN (m / 6 % 3), []⟩, ?_, ?_⟩
   · dsimp only; rw [show coT m = ctB (coC m) from rfl, e4]; exact List.mem_singleton.2 rfl
   · dsimp only; rw [show coT m = ctB (coC m) from rfl, e4]; rfl
theorem sdL_sorted {K : Ks} (hn : (K.map (·.1)).Nodup) : (sdL K).Pairwise fun s t => s.src ≤ t.src := by
 unfold sdL sdF
 rw [List.pairwise_flatMap]
 refine ⟨fun n _ => ?_, ?_⟩
 · unfold sdOf
   rw [List.pairwise_map]
   exact List.pairwise_of_forall fun _ _ => List.le_refl _
 · refine List.Pairwise.imp (S := fun a b => ∀ x ∈ sdOf K a, ∀ y ∈ sdOf K b, x.src ≤ y.src) (fun {a b} hab => ?_) (sortB_sorted (K.map (·.1)))
   intro s hs t ht
   obtain ⟨_, _, rfl⟩ := List.mem_map.1 hs
   obtain ⟨_, _, rfl⟩ := List.mem_map.1 ht
   exact hab
structure BestP (cs : List Nat) (a m : Nat) : Prop where
 mem : m ∈ cs
 at_ : m / 6 % 3 = a
 max : ∀ j ∈ cs, j / 6 % 3 = a → j / 18 < m / 18 ∨ (j / 18 = m / 18 ∧ coN j ≤ coN m)
def BestO (cs : List Nat) (a : Nat) : Option Nat → Prop
 | none => ∀ j ∈ cs, j / 6 % 3 ≠ a
 | some m => BestP cs a m
theorem best_look {K : Ks} {cs : List Nat} (h : CoI K cs) {a : Nat} (ha : a < 3) {o : Option Nat} (ho : BestO cs a o) : llook (lastL K) ([116], xN a) = o.map coD := by
 have hs := coI_sd h
 have hkey : ∀ m ∈ cs, sdKey (coD m) = ([116], xN a) → m / 6 % 3 = a := fun m hm e => xN_inj (by omega) ha (congrArg Prod.snd e)
 cases o with
 | none =>
   refine lastF_none fun s hsm e => ?_
   obtain ⟨m, hm, rfl⟩ := (hs s).1 hsm
   exact ho m hm (hkey m hm e)
 | some m =>
   have hb : BestP cs a m := ho
   have hin : coD m ∈ sdL K := (hs _).2 ⟨m, hb.mem, rfl⟩
   have hk : sdKey (coD m) = ([116], xN a) := by rw [← hb.at_]; rfl
   unfold lastL
   cases e : llook (lastF (sdL K)) ([116], xN a) with
   | none => exact absurd hk ((lastF_ok (sdL K)).2.1 _ e _ hin)
   | some s =>
     obtain ⟨ek, l1, l2, e1, p1, p2⟩ := (lastF_ok (sdL K)).2.2 _ s e
     obtain ⟨j, hj, rfl⟩ := (hs s).1 (by rw [e1]; simp)
     have ja := hkey j hj ek
     have hso := sdL_sorted h.held.knd
     rw [e1] at hso hin
     have hmx := hb.max j hj ja
     show some (coD j) = some (coD m)
     rcases List.mem_append.1 hin with hin | hin
     · have d1 : ((m / 18 : Nat) : Int) ≤ ((j / 18 : Nat) : Int) := p1 _ hin hk
       have hle : coN m ≤ coN j := (List.pairwise_append.1 hso).2.2 _ hin _ List.mem_cons_self
       have : coN j = coN m := by
        rcases hmx with h1 | ⟨_, h2⟩
        · exfalso; omega
        · exact List.le_antisymm h2 hle
       rw [coN_inj (h.lt j hj) (h.lt m hb.mem) this]
     · rcases List.mem_cons.1 hin with h1 | h1
       · rw [h1]
       · have d1 : ((m / 18 : Nat) : Int) < ((j / 18 : Nat) : Int) := p2 _ h1 hk
         exfalso
         rcases hmx with h2 | ⟨h2, _⟩ <;> omega
theorem best_step {cs cs' : List Nat} {m a : Nat} {o : Option Nat} (ho : BestO cs a o) (hc : ∀ j, j ∈ cs' ↔ j ∈ cs ∨ j = m) : (m / 6 % 3 ≠ a → BestO cs' a o) ∧ (m / 6 % 3 = a → (∀ k, o = some k → k / 18 < m / 18 ∨ (m / 18 = k / 18 ∧ coN k < coN m)) → BestO cs' a (some m)) ∧ (m / 6 % 3 = a → ∀ k, o = some k → ¬ (k / 18 < m / 18) → ¬ (m / 18 = k / 18 ∧ coN k < coN m) → BestO cs' a o) := by
 refine ⟨fun hne => ?_, fun he hk => ?_, fun he k hk h1 h2 => ?_⟩
 · cases o with
   | none =>
     intro j hj
     rcases (hc j).1 hj with h | rfl
     · exact ho j h
     · exact hne
   | some k =>
     have hb : BestP cs a k := ho
     refine ⟨(hc _).2 (.inl hb.mem), hb.at_, fun j hj ja => ?_⟩
     rcases (hc j).1 hj with h | rfl
     · exact hb.max j h ja
     · exact absurd ja hne
 · refine ⟨(hc _).2 (.inr rfl), he, fun j hj ja => ?_⟩
   rcases (hc j).1 hj with h | rfl
   · cases o with
     | none => exact absurd ja (ho j h)
     | some k =>
       have hb : BestP cs a k := ho
       have h3 := hb.max j h ja
       have h4 := hk k rfl
       rcases h3 with h3 | ⟨h3, h5⟩ <;> rcases h4 with h4 | ⟨h4, h6⟩
       · exact .inl (by omega)
       · exact .inl (by omega)
       · exact .inl (by omega)
       · exact .inr ⟨by omega, List.le_trans h5 (List.le_of_lt h6)⟩
   · exact .inr ⟨rfl, List.le_refl _⟩
 · subst hk
   have hb : BestP cs a k := ho
   refine ⟨(hc _).2 (.inl hb.mem), hb.at_, fun j hj ja => ?_⟩
   rcases (hc j).1 hj with h | rfl
   · exact hb.max j h ja
   · by_cases e : j / 18 < k / 18
     · exact .inl e
     · refine .inr ⟨by omega, ?_⟩
       exact List.not_lt.1 fun hl => h2 ⟨by omega, hl⟩
/-! The ways. -/
def spB (s : Bool) : Option Nat → Bool
 | none => s
 | some m => decide (kB (m / 2 % 3) = 42)
def haB (s : Bool) : Option Nat → Bool
 | none => s
 | some m => !decide (kB (m / 2 % 3) = 45)
def sprd (o : Nat → Option Nat) : Nat → Bool
 | 0 => false
 | i + 1 => spB (sprd o i) (o i)
noncomputable def coE (name : Bs) (i m : Nat) : Option Tgd := if (coD m).op.kind = 45 ∨ ((coD m).op.kind = 43 ∧ xN i ≠ name) then none else some ⟨[116], name, (coD m).op.value, (coD m).src, decide ((coD m).op.kind = 42), decide (xN i = name)⟩
noncomputable def coR (o : Nat → Option Nat) (name : Bs) : Nat → Option Tgd
 | 0 => match o 0 with
   | none => none
   | some m => coE name 0 m
 | i + 1 => match o (i + 1) with
   | none => coR o name i
   | some m => coE name (i + 1) m
structure CkP (C : List (Bs × Ck)) : Prop where
 c : ∀ i, i < 3 → ∃ c, clook C (xN i) = some c ∧ firstB c = if i = 0 then [] else xN (i - 1)
 z : clook C [] = none
theorem coR_way {C : List (Bs × Ck)} {l : Ls} {o : Nat → Option Nat} (hC : CkP C) (hl : ∀ a, a < 3 → llook l ([116], xN a) = (o a).map coD) (name : Bs) : ∀ i f, i < 3 → i < f → wayF C l [116] name f (xN i) = coR o name i := by
 intro i
 induction i with
 | zero =>
   intro f h3 hf
   obtain ⟨f, rfl⟩ : ∃ g, f = g + 1 := ⟨f - 1, by omega⟩
   obtain ⟨c, hc, hfc⟩ := hC.c 0 h3
   rw [wayF, hc]
   dsimp only
   rw [hl 0 h3, coR, hfc]
   cases o 0 with
   | none =>
     show wayF C l [116] name f [] = none
     cases f with
     | zero => rfl
     | succ f => rw [wayF, hC.z]
   | some m => rfl
 | succ i ih =>
   intro f h3 hf
   obtain ⟨f, rfl⟩ : ∃ g, f = g + 1 := ⟨f - 1, by omega⟩
   obtain ⟨c, hc, hfc⟩ := hC.c (i + 1) h3
   rw [wayF, hc]
   dsimp only
   rw [hl (i + 1) h3, coR, hfc]
   cases o (i + 1) with
   | none => exact ih f (by omega) (by omega)
   | some m => rfl
theorem coE_up {name : Bs} {i m : Nat} (h : xN i ≠ name) : (coE name i m).isSome = decide (kB (m / 2 % 3) = 42) ∧ ((coE name i m).isSome = true → ((coE name i m).getD tgd0).target = name ∧ ((coE name i m).getD tgd0).own = false) := by
 unfold coE
 simp only [coD]
 rcases kB_cases (m / 2 % 3) with (e | e) | e <;> simp [e, h]
theorem coE_own {i m : Nat} : (coE (xN i) i m).isSome = !decide (kB (m / 2 % 3) = 45) ∧ ((coE (xN i) i m).isSome = true → ((coE (xN i) i m).getD tgd0).target = xN i ∧ ((coE (xN i) i m).getD tgd0).own = true) := by
 unfold coE
 simp only [coD]
 rcases kB_cases (m / 2 % 3) with (e | e) | e <;> simp [e]
theorem coR_up (o : Nat → Option Nat) (name : Bs) : ∀ j, (∀ i, i ≤ j → xN i ≠ name) → (coR o name j).isSome = sprd o (j + 1) ∧ ((coR o name j).isSome = true → ((coR o name j).getD tgd0).target = name ∧ ((coR o name j).getD tgd0).own = false) := by
 intro j
 induction j with
 | zero =>
   intro h
   rw [coR, sprd]
   cases e : o 0 with
   | none => exact ⟨rfl, fun h => by cases h⟩
   | some m => exact coE_up (h 0 (Nat.le_refl _))
 | succ j ih =>
   intro h
   rw [coR, sprd]
   cases e : o (j + 1) with
   | none => exact ih fun i hi => h i (by omega)
   | some m => exact coE_up (h (j + 1) (Nat.le_refl _))
theorem coR_own (o : Nat → Option Nat) : ∀ i, i < 3 → (coR o (xN i) i).isSome = haB (sprd o i) (o i) ∧ ((coR o (xN i) i).isSome = true → ((coR o (xN i) i).getD tgd0).target = xN i ∧ ((coR o (xN i) i).getD tgd0).own = (o i).isSome) := by
 intro i hi
 cases i with
 | zero =>
   rw [coR, sprd]
   cases e : o 0 with
   | none => exact ⟨rfl, fun h => by cases h⟩
   | some m => exact coE_own
 | succ j =>
   rw [coR]
   cases e : o (j + 1) with
   | none => exact coR_up o (xN (j + 1)) j fun i hi2 e => by have := xN_inj (by omega) hi e; omega
   | some m => exact coE_own
theorem co_of {K : Ks} {cs : List Nat} (h : CoI K cs) {o : Nat → Option Nat} (ho : ∀ a, a < 3 → BestO cs a (o a)) {i : Nat} (hi : i < 3) : ofT (cksL K) (lastL K) [116] (xN i) = coR o (xN i) i := by
 have hh := h.held
 have hx : clook (cksL K) (tgX []) = some (ckMe [] [] me 0) := hh.ck (s := tgA []) (by simp [coL, tgL]) (right_read (right_A right_t0))
 have hy : clook (cksL K) (tgY []) = some (ckMe [tgX []] [] me 0) := hh.ck (s := tgB []) (by simp [coL, tgL]) (right_read (tgB_right []))
 have hz : clook (cksL K) (tgZ []) = some (ckMe [tgY []] [] me 0) := hh.ck (s := tgC []) (by simp [coL, tgL]) (right_read (tgC_right []))
 have h0 : clook (cksL K) [] = none := hh.nock fun p hp e => by
  exfalso
  rcases List.mem_append.1 hp with hp | hp
  · obtain ⟨a, _, e2⟩ := (tgL_names p.1).1 (List.mem_map_of_mem (f := fun p : Bs × Bs => p.1) hp)
    have := isN_len (xN_isN a)
    rw [← e2, e] at this; cases this
  · obtain ⟨m, _, rfl⟩ := List.mem_map.1 hp
    exact sha_ne (s := coT m) (t := []) (by decide) e
 have hnm : ((cksL K).map (·.1)).Perm [tgX [], tgY [], tgZ []] := hh.cnames (by simp [tgD_no.xy, tgD_no.xz, tgD_no.yz]) fun n => by
  have r1 := right_read (right_A right_t0)
  have r2 := right_read (tgB_right [])
  have r3 := right_read (tgC_right [])
  constructor
  · intro hn
    simp only [List.mem_cons, List.not_mem_nil, or_false] at hn
    rcases hn with rfl | rfl | rfl
    · exact ⟨(tgX [], tgA []), by simp [coL, tgL], rfl, by dsimp only; rw [tgA, r1]; rfl⟩
    · exact ⟨(tgY [], tgB []), by simp [coL, tgL], rfl, by dsimp only; rw [tgB, r2]; rfl⟩
    · exact ⟨(tgZ [], tgC []), by simp [coL, tgL], rfl, by dsimp only; rw [tgC, r3]; rfl⟩
  · rintro ⟨p, hp, e, hr⟩
    rcases List.mem_append.1 hp with hp | hp
    · rw [← e]
      exact List.mem_map_of_mem (f := fun p : Bs × Bs => p.1) hp
    · obtain ⟨m, hm, rfl⟩ := List.mem_map.1 hp
      dsimp only at hr
      rw [show coT m = ctB (coC m) from rfl, (ct_read (coC_right (h.lt m hm))).2] at hr
      cases hr
 have hlen : (cksL K).length = 3 := by have := hnm.length_eq; rwa [List.length_map] at this
 have hC : CkP (cksL K) := ⟨fun i hi => by
  match i, hi with
  | 0, _ => exact ⟨_, hx, rfl⟩
  | 1, _ => exact ⟨_, hy, rfl⟩
  | 2, _ => exact ⟨_, hz, rfl⟩, h0⟩
 rw [ofT, hlen]
 exact coR_way hC (fun a ha => best_look h ha (ho a ha)) (xN i) i 3 hi hi
theorem coI_len {K : Ks} {cs : List Nat} (h : CoI K cs) : K.length = 3 + cs.length := by rw [h.held.len]; simp [coL, tgL]; omega
end
section
set_option maxRecDepth 100000
theorem isN_40 {s : Bs} (h : isN s = true) : s.length ≤ 40 := by rw [isN_len h]; omega
end
section
set_option maxRecDepth 100000
def withinI (n lo hi : Int) : Int := lo + n % (hi - lo + 1)
theorem withinI_in {n lo hi : Int} (h : lo ≤ hi) : lo ≤ withinI n lo hi ∧ withinI n lo hi ≤ hi := by
 have h1 := Int.emod_nonneg n (show hi - lo + 1 ≠ 0 by omega)
 have h2 := Int.emod_lt_of_pos n (show 0 < hi - lo + 1 by omega)
 unfold withinI; omega
theorem tmod_cases (n m : Int) (hm : 1 ≤ m) : (0 ≤ n.tmod m ∧ n.tmod m = n % m ∨ n.tmod m < 0 ∧ n.tmod m + m = n % m) ∧ -m < n.tmod m ∧ n.tmod m < m := by
 have e1 := Int.emod_nonneg n (show m ≠ 0 by omega)
 have e2 := Int.emod_lt_of_pos n (show 0 < m by omega)
 have hd := Int.emod_emod_of_dvd n (Int.dvd_refl m)
 rcases Int.lt_or_le n 0 with h | h
 · have h2 : n.tmod m = -((-n) % m) := by
     have : n = -(-n) := by omega
     conv => lhs; rw [this]
     rw [Int.neg_tmod, Int.tmod_eq_emod_of_nonneg (by omega)]
   have e3 := Int.emod_nonneg (-n) (show m ≠ 0 by omega)
   have e4 := Int.emod_lt_of_pos (-n) (show 0 < m by omega)
   have hs : (n % m + (-n) % m) % m = 0 := by
    rw [← Int.add_emod, Int.add_right_neg, Int.zero_emod]
   by_cases hz : (-n) % m = 0
   · have : n % m = 0 := by
       rw [hz, Int.add_zero, Int.emod_emod_of_dvd n (Int.dvd_refl m)] at hs; exact hs
     rw [h2, hz, this]; omega
   · have hsum : n % m + (-n) % m = m := by
       have hpos : 0 < n % m + (-n) % m := by omega
       have hlt : n % m + (-n) % m < m + m := by omega
       have hge : m ≤ n % m + (-n) % m := by
        apply Classical.byContradiction; intro hc
        rw [Int.emod_eq_of_lt (by omega) (by omega)] at hs
        omega
       have : (n % m + (-n) % m - m) % m = 0 := by rw [Int.sub_emod, hs]; simp
       rw [Int.emod_eq_of_lt (by omega) (by omega)] at this
       omega
     rw [h2]; omega
 · rw [Int.tmod_eq_emod_of_nonneg h]; omega
theorem zb18ret {G : Prop} (h : G := by exact fin_ret () (vs := [_]) rfl (.tmp rfl .nil) (by rw [hw]; exact congrArg vI (by omega)) trivial ent_nil) : G := h
theorem book_Within_sp (n lo hi : Int) (h1 : -1099511627776 ≤ lo) (h2 : lo ≤ hi) (h3 : hi ≤ 1099511627776) : SpF Tryz.prog 18 [vI n, vI lo, vI hi] (vI (withinI n lo hi)) := by
 have hc := tmod_cases n (hi - lo + 1) (by omega)
 have hw : withinI n lo hi = lo + n % (hi - lo + 1) := rfl
 refine Sp.body (n := 24) Tryz.call18 Tryz.func18 rfl rfl rfl ?_
 refine Qc (k:=Vv (k:=Wq (Qc (k:=Qv (k:=Qv (k:=Vv (k:=?_)))))))
 refine wo_pv (pv_remt rfl rfl (by omega)) rfl ?_
 refine Vv (k:=Wq (Za (k:=Qc (k:=Qv (k:=Wq (Zi (t:=fun h14 => ?_) (f:=fun h14 => ?_)))))))
 ·
  refine Zr (k:=Qv (k:=Qv (k:=Qv (k:=Vv (k:=Wq (Qc (k:=Vv (k:=?_))))))))
  refine Qv (k:=Vv (k:=Wq (Zt (k:=?_))))
  exact zb18ret
 ·
  refine Zk (k:=Ya (Qc (k:=Qv (k:=Qv (k:=Wq (Zt (k:=?_)))))))
  exact zb18ret
end
def piecesL : List Bs := ["line one\n".toUTF8.data.toList, "the second line is longer\n".toUTF8.data.toList, "x".toUTF8.data.toList, "0;".toUTF8.data.toList, "abcabcabc".toUTF8.data.toList, "\n".toUTF8.data.toList, "3:xyz".toUTF8.data.toList, "tail of it all".toUTF8.data.toList]
def beginL : List Bs := ["".toUTF8.data.toList, "a common beginning of some texts, long enough for deltas between these; ".toUTF8.data.toList, "another beginning, of other texts, as long as the first one is, or a bit longer; ".toUTF8.data.toList]
def wordsL : List Bs := ["a".toUTF8.data.toList, "branch".toUTF8.data.toList, "c.txt".toUTF8.data.toList, "d/e".toUTF8.data.toList, "rel-1".toUTF8.data.toList, "zz".toUTF8.data.toList]
def pieceI (b x : Int) : Bs := piecesL.getD (withinI (IntKind.i64.wrap (x + bits .and .i64 b 1)) 0 7).toNat []
def textF (b : Int) : List Int → Bs → Bs
 | [], out => out
 | x :: r, out => if out.length < 170 then textF b r (out ++ pieceI b x) else out
def textB (b : Int) (l : List Int) : Bs := textF b l []
def longB (b : Int) (l : List Int) (n : Int) : Bs := beginL.getD (withinI n 0 2).toNat [] ++ (textB b l).take 160
def contB (n : Int) : Bs := longB 0 [withinI n 0 15, withinI n 0 15 / 2, withinI n 0 15 / 4] (withinI n 0 15 % 3)
def nameB (n : Int) : Bs := shaB (contB n)
theorem isN_name (n : Int) : isN (nameB n) = true := decide_eq_true ⟨shaB_len _, shaB_mem _⟩
/-- Where a tag of the keeper's points to. -/
abbrev TgtOk (own : Bool) (t : Bs) : Prop := (own = true → t = [42]) ∧ (own = false → ∃ n, t = nameB n)
structure KTag (own : Bool) (t : Tg) : Prop where
 kind : t.kind.toNat = 43 ∨ t.kind.toNat = 42 ∨ (t.kind.toNat = 45 ∧ t.value = [])
 val : t.value.length ≤ 12
 tgt : TgtOk own t.target
structure KTags (own : Bool) (j : Nat) (l : List Tg) : Prop where
 len : l.length ≤ 3
 tag : ∀ t ∈ l, KTag own t
 name : ∀ t ∈ l, ∃ i, i < j ∧ t.name = wordsL.getD i []
 rise : l.Pairwise (fun x y => blt x.name y.name = true)
theorem words_ok : ∀ i, i < 6 → wordP (wordsL.getD i []) ∧ (wordsL.getD i []).length ≤ 10 := by
 have : ∀ i : Fin 6, wordP (wordsL.getD i.1 []) ∧ (wordsL.getD i.1 []).length ≤ 10 := by decide
 exact fun i h => this ⟨i, h⟩
theorem KTags.more {own : Bool} {j : Nat} {l : List Tg} (h : KTags own j l) : KTags own (j + 1) l := ⟨h.len, h.tag, fun t ht => by obtain ⟨i, hi, e⟩ := h.name t ht; exact ⟨i, by omega, e⟩, h.rise⟩
theorem blt_irr (a : Bs) : blt a a = false := by
 rw [blt_eq, decide_eq_false_iff_not]; exact List.lt_irrefl a
theorem KTags.right {own : Bool} {l : List Tg} (h : KTags own 6 l) : RightT own l := by
 refine ⟨fun i hi => ?_, by have := h.len; omega⟩
 have e : l.getD i tg0 = l[i] := by simp [hi]
 have hm : l[i] ∈ l := List.getElem_mem hi
 have hk := h.tag _ hm
 obtain ⟨w, hw, hn⟩ := h.name _ hm
 refine ⟨by rw [e]; exact hk.kind, by rw [e, hn]; exact (words_ok w hw).1, by rw [e]; exact hk.val, by rw [e]; exact ⟨hk.tgt.1, fun o => by obtain ⟨n, e⟩ := hk.tgt.2 o; rw [e]; exact isN_name n⟩, fun h0 => ?_⟩
 have e2 : l.getD (i - 1) tg0 = l[i - 1] := by simp [show i - 1 < l.length by omega]
 have hr := List.pairwise_iff_getElem.1 h.rise (i - 1) i (by omega) hi (by omega)
 rw [e, e2]
 exact ⟨.inl hr, fun e3 => by rw [e3, blt_irr] at hr; cases hr⟩
theorem KTags.z {own : Bool} {j : Nat} {l : List Tg} (h : KTags own j l) (hj : j ≤ 6) : TgZ l := ⟨by have := h.len; omega, fun t ht => by
 obtain ⟨w, hw, hn⟩ := h.name t ht
 have h1 := (words_ok w (by omega)).2
 have h2 := (h.tag t ht).val
 have h3 : t.target.length ≤ 40 := by
  cases own with
  | true => rw [(h.tag t ht).tgt.1 rfl]; simp
  | false => obtain ⟨n, e⟩ := (h.tag t ht).tgt.2 rfl; rw [e]; exact isN_40 (isN_name n)
 rw [hn]; omega⟩
section
set_option maxRecDepth 100000
/-- A control of the keeper. -/
structure KCt (c : Ct) : Prop where
 right : RightCt c
 tgt : ∀ t ∈ c.tags, ∃ n, t.target = nameB n
 z : TgZ c.tags
theorem KTags.ct {d : Int} {w : Bs} {ts : List Tg} (h : KTags false 6 ts) (hd : 0 ≤ d ∧ d ≤ 9) (hw : wordP w) (h0 : 0 < ts.length) : KCt ⟨d, ts, w⟩ :=
 ⟨⟨by dsimp only; omega, h0, h.right, hw⟩, fun t ht => (h.tag t ht).tgt.2 rfl, h.z (Nat.le_refl _)⟩
theorem KTags.one (n : Int) : KTags false 6 [⟨43, "a".toUTF8.data.toList, nameB n, []⟩] := by
 refine ⟨by simp, ?_, ?_, List.pairwise_singleton _ _⟩
 · intro t ht
   rw [List.mem_singleton.1 ht]
   exact ⟨.inl rfl, Nat.zero_le _, ⟨(fun h => by cases h), fun _ => ⟨n, rfl⟩⟩⟩
 · intro t ht
   rw [List.mem_singleton.1 ht]
   exact ⟨0, by omega, rfl⟩
end
section
section
variable {P : Program} {n : Nat} {L : Loc} {ty : TypeId}
theorem pv_quow {x y : Operand} {k : IntKind} {i j : Int} {t yt : TypeId} (hx : ev L x = some (.int k i)) (hy : ev L y = some (.int k j)) (h : 1 ≤ j) :
    PV P n L (.binOp .quo t x y yt) ty (.int k (k.wrap (i.tdiv j))) := pv_arith hx hy fun w => by
     have hj : ¬ (j = 0) := by omega
     simp [binOp, Op.intDiv, hj]
end
structure KFiles (whole : Bool) (j : Nat) (l : List (Bs × Bs)) : Prop where
 len : l.length ≤ 2
 hash : ∀ f ∈ l, (∃ n, f.2 = nameB n) ∨ (whole = false ∧ f.2 = [])
 name : ∀ f ∈ l, ∃ i, i < j ∧ f.1 = wordsL.getD i []
 rise : l.Pairwise (fun x y => blt x.1 y.1 = true)
theorem KFiles.more {own : Bool} {j : Nat} {l : List (Bs × Bs)} (h : KFiles own j l) : KFiles own (j + 1) l := ⟨h.len, h.hash, fun t ht => by obtain ⟨i, hi, e⟩ := h.name t ht; exact ⟨i, by omega, e⟩, h.rise⟩
theorem KFiles.right {w : Bool} {l : List (Bs × Bs)} (h : KFiles w 6 l) : RightF w l := by
 refine ⟨fun i hi => ?_, by have := h.len; omega⟩
 have e : l.getD i ([], []) = l[i] := by simp [hi]
 have hm : l[i] ∈ l := List.getElem_mem hi
 obtain ⟨k, hk, hn⟩ := h.name _ hm
 refine ⟨by rw [e, hn]; exact (words_ok k hk).1, fun h0 => ?_, ?_⟩
 · have e2 : l.getD (i - 1) ([], []) = l[i - 1] := by simp [show i - 1 < l.length by omega]
   rw [e, e2]
   exact List.pairwise_iff_getElem.1 h.rise (i - 1) i (by omega) hi (by omega)
 · rw [e]
   rcases h.hash _ hm with ⟨n, e2⟩ | ⟨h1, h2⟩
   · left; rw [e2]; exact isN_name n
   · right; exact ⟨h1, h2⟩
structure KPars (j : Nat) (l : List Bs) : Prop where
 len : l.length ≤ j
 all : ∀ p ∈ l, ∃ n, p = nameB n
 two : l.Nodup
theorem KPars.right {j : Nat} {l : List Bs} (h : KPars j l) (hj : j ≤ 2) : RightP l 3 := by
 refine ⟨fun i hi => ?_, by have := h.len; omega⟩
 have e : l.getD i [] = l[i] := by simp [hi]
 rw [e]
 obtain ⟨n, hn⟩ := h.all _ (List.getElem_mem hi)
 refine ⟨by rw [hn]; exact isN_name n, fun hm => ?_⟩
 obtain ⟨k, hk, ek⟩ := List.getElem_of_mem hm
 rw [List.getElem_take] at ek
 have hki : k < i := by rw [List.length_take] at hk; omega
 exact absurd ek ((List.pairwise_iff_getElem.1 h.two) k i (by omega) hi hki)
/-- A check-in of the keeper. -/
structure KCk (c : Ck) : Prop where
 right : RightK c
 base : c.base = [] ∨ ∃ n, c.base = nameB n
 files : ∀ f ∈ c.files, f.2 = [] ∨ ∃ n, f.2 = nameB n
 pars : ∀ p ∈ c.parents, ∃ n, p = nameB n
 z : CkZ c
theorem KCk.mk' {base com user : Bs} {date : Int} {fs : List (Bs × Bs)} {ps : List Bs} {ts : List Tg} (hb : base = [] ∨ ∃ n, base = nameB n) (hc : com.length ≤ 12) (hd : 0 ≤ date ∧ date ≤ 9) (hu : wordP user ∧ user.length ≤ 3)
    (hf : KFiles (decide (base = [])) 6 fs) (hp : KPars 2 ps) (ht : KTags true 6 ts) : KCk ⟨base, com, date, fs, ps, ts, user⟩ := by
 refine ⟨⟨?_, by dsimp only; omega, by dsimp only; omega, hf.right, hp.right (Nat.le_refl _), ht.right, hu.1⟩, hb, fun f h => ?_, hp.all, ?_⟩
 · rcases hb with h | ⟨n, h⟩
   · exact .inl h
   · right; dsimp only; rw [h]; exact isN_name n
 · rcases hf.hash f h with h | h
   · exact .inr h
   · exact .inl h.2
 · have h40 : ∀ n, (nameB n).length = 40 := fun n => shaB_len _
   refine ⟨?_, by dsimp only; omega, by dsimp only; omega, by have := hf.len; dsimp only; omega, fun f h => ?_, by have := hp.len; dsimp only; omega, fun p h => ?_, ht.z (Nat.le_refl _)⟩
   · rcases hb with h | ⟨n, h⟩
     · dsimp only; rw [h]; exact Nat.zero_le _
     · dsimp only; rw [h, h40]; omega
   · obtain ⟨k, hk, hn⟩ := hf.name f h
     have h1 := (words_ok k hk).2
     rw [← hn] at h1
     refine ⟨by omega, ?_⟩
     rcases hf.hash f h with ⟨n, h⟩ | h
     · rw [h, h40]; omega
     · rw [h.2]; exact Nat.zero_le _
   · obtain ⟨n, h⟩ := hp.all p h
     rw [h, h40]; omega
end
end Go.Proofs.YtomgdbanbpjedaaGreat
