/- Texts of this proof, put together: PShaN, P18, P18R, P18L, MapIns. -/
import Derived.Test.YtomgdbanbpjedaaGreatQ21
set_option linter.unusedVariables false
set_option linter.unusedSimpArgs false
namespace Go.Proofs.YtomgdbanbpjedaaGreat
def frc {α : Type} (n : Nat) (k : Nat → α) : α := match n with | 0 => k 0 | m + 1 => k (m + 1)
theorem frc_eq {α : Type} (n : Nat) (k : Nat → α) : frc n k = k n := by cases n <;> rfl
def rotN (x k : Nat) : Nat := Nat.lor (Nat.mod (Nat.shiftLeft x k) 4294967296) (Nat.shiftRight x (Nat.sub 32 k))
def addN (x y : Nat) : Nat := Nat.mod (Nat.add x y) 4294967296
def notN (x : Nat) : Nat := Nat.sub 4294967295 x
theorem rotN_eq (x : UInt32) {k : Nat} (h0 : 0 < k) (h : k < 32) : rotN x.toNat k = (rotl x k).toNat := by
 have h1 : (UInt32.ofNat k).toNat % 32 = k := by rw [UInt32.toNat_ofNat']; omega
 have h2 : (UInt32.ofNat (32 - k)).toNat % 32 = 32 - k := by rw [UInt32.toNat_ofNat']; omega
 rw [rotl, UInt32.toNat_or, UInt32.toNat_shiftLeft, UInt32.toNat_shiftRight, h1, h2]; rfl
theorem addN_eq (x y : UInt32) : addN x.toNat y.toNat = (x + y).toNat := by rw [UInt32.toNat_add]; rfl
theorem notN_eq (x : UInt32) : notN x.toNat = (~~~x).toNat := by rw [UInt32.toNat_not]; rfl
theorem andN_eq (x y : UInt32) : Nat.land x.toNat y.toNat = (x &&& y).toNat := by rw [UInt32.toNat_and]; rfl
theorem orN_eq (x y : UInt32) : Nat.lor x.toNat y.toNat = (x ||| y).toNat := by rw [UInt32.toNat_or]; rfl
theorem xorN_eq (x y : UInt32) : Nat.xor x.toNat y.toNat = (x ^^^ y).toNat := by rw [UInt32.toNat_xor]; rfl
/-! The words. -/
def wordsN : Bs → Nat → List Nat → List Nat
 | b, 0, r => r
 | a :: b :: c :: d :: l, k + 1, r => frc (Nat.add (Nat.add (Nat.mul a.toNat 16777216) (Nat.mul b.toNat 65536)) (Nat.add (Nat.mul c.toNat 256) d.toNat)) fun w => wordsN l k (w :: r)
 | _, _ + 1, r => r
def moreN : Nat → List Nat → List Nat
 | 0, r => r
 | k + 1, r => frc (rotN (Nat.xor (Nat.xor (Nat.xor (r.getD 2 0) (r.getD 7 0)) (r.getD 13 0)) (r.getD 15 0)) 1) fun w => moreN k (w :: r)
theorem blkW_nat (b : Bs) (i : Nat) : (blkW b i).toNat = (b.getD (4 * i) 0).toNat * 16777216 + (b.getD (4 * i + 1) 0).toNat * 65536 + ((b.getD (4 * i + 2) 0).toNat * 256 + (b.getD (4 * i + 3) 0).toNat) := by
 unfold blkW byteW
 generalize b.getD (4 * i) 0 = p, b.getD (4 * i + 1) 0 = q, b.getD (4 * i + 2) 0 = u, b.getD (4 * i + 3) 0 = v
 have hp : p.toNat < 256 := p.toNat_lt
 have hq : q.toNat < 256 := q.toNat_lt
 have hu : u.toNat < 256 := u.toNat_lt
 have hv : v.toNat < 256 := v.toNat_lt
 have e24 : (UInt32.ofNat 24).toNat % 32 = 24 := rfl
 have e16 : (UInt32.ofNat 16).toNat % 32 = 16 := rfl
 have e8 : (UInt32.ofNat 8).toNat % 32 = 8 := rfl
 rw [UInt32.toNat_or, UInt32.toNat_or, UInt32.toNat_or, UInt32.toNat_shiftLeft, UInt32.toNat_shiftLeft, UInt32.toNat_shiftLeft, e24, e16, e8, UInt8.toNat_toUInt32, UInt8.toNat_toUInt32, UInt8.toNat_toUInt32, UInt8.toNat_toUInt32]
 rw [Nat.shiftLeft_eq, Nat.shiftLeft_eq, Nat.shiftLeft_eq]
 rw [Nat.mod_eq_of_lt (by omega : p.toNat * 2 ^ 24 < 2 ^ 32), Nat.mod_eq_of_lt (by omega : q.toNat * 2 ^ 16 < 2 ^ 32), Nat.mod_eq_of_lt (by omega : u.toNat * 2 ^ 8 < 2 ^ 32)]
 rw [Nat.or_assoc, Nat.or_assoc]
 have e1 := Nat.two_pow_add_eq_or_of_lt (i := 8) (b := v.toNat) (by omega) u.toNat
 have e2 := Nat.two_pow_add_eq_or_of_lt (i := 16) (b := 2 ^ 8 * u.toNat + v.toNat) (by omega) q.toNat
 have e3 := Nat.two_pow_add_eq_or_of_lt (i := 24) (b := 2 ^ 16 * q.toNat + (2 ^ 8 * u.toNat + v.toNat)) (by omega) p.toNat
 rw [Nat.mul_comm u.toNat, Nat.mul_comm q.toNat, Nat.mul_comm p.toNat, ← e1, ← e2, ← e3]
 omega
def revT (l : List UInt32) : List Nat := (l.map UInt32.toNat).reverse
theorem revT_snoc (l : List UInt32) (x : UInt32) : revT (l ++ [x]) = x.toNat :: revT l := by simp [revT]
theorem revT_getD (l : List UInt32) (j : Nat) (h : j < l.length) : (revT l).getD j 0 = (l.getD (l.length - 1 - j) 0).toNat := by
 have h1 : l.length - 1 - j < l.length := by omega
 simp [revT, h, h1, List.getElem?_reverse]
theorem wordsN_eq (b : Bs) (hb : b.length = 64) : ∀ (k j : Nat), k + j = 16 → wordsN (b.drop (4 * j)) k (revT (spreadL b j)) = revT (spreadL b 16) := by
 intro k
 induction k with
 | zero =>
   intro j h
   obtain rfl : j = 16 := by omega
   rw [wordsN]
 | succ k ih =>
   intro j h
   have hl : 4 * j + 4 ≤ b.length := by omega
   have hd : b.drop (4 * j) = b.getD (4 * j) 0 :: b.getD (4 * j + 1) 0 :: b.getD (4 * j + 2) 0 :: b.getD (4 * j + 3) 0 :: b.drop (4 * (j + 1)) := by
    have g : ∀ i, i < b.length → b.drop i = b.getD i 0 :: b.drop (i + 1) := fun i hi => by
     rw [List.drop_eq_getElem_cons hi]
     simp [hi]
    rw [g (4 * j) (by omega), g (4 * j + 1) (by omega), g (4 * j + 1 + 1) (by omega), g (4 * j + 1 + 1 + 1) (by omega), show 4 * (j + 1) = 4 * j + 1 + 1 + 1 + 1 by omega]
   rw [hd, wordsN, frc_eq]
   have := ih (j + 1) (by omega)
   rw [← this, spreadL, revT_snoc, if_pos (by omega : j < 16), blkW_nat]
   rfl
theorem moreN_eq (b : Bs) : ∀ (k j : Nat), 16 ≤ j → moreN k (revT (spreadL b j)) = revT (spreadL b (j + k)) := by
 intro k
 induction k with
 | zero => intro j _; rfl
 | succ k ih =>
   intro j hj
   have hl := spreadL_len b j
   rw [moreN, frc_eq, revT_getD _ _ (by omega), revT_getD _ _ (by omega), revT_getD _ _ (by omega), revT_getD _ _ (by omega), hl, xorN_eq, xorN_eq, xorN_eq, rotN_eq _ (by decide) (by decide)]
   rw [show j + (k + 1) = j + 1 + k by omega, ← ih (j + 1) (by omega), spreadL, revT_snoc, if_neg (by omega : ¬ j < 16), nextW]
   rw [show j - 1 - 2 = j - 3 by omega, show j - 1 - 7 = j - 8 by omega, show j - 1 - 13 = j - 14 by omega, show j - 1 - 15 = j - 16 by omega]
/-! The rounds. -/
def mixN (p b c d : Nat) : Nat :=
 match p with
 | 0 => Nat.add (Nat.lor (Nat.land b c) (Nat.land (notN b) d)) 0x5a827999
 | 1 => Nat.add (Nat.xor (Nat.xor b c) d) 0x6ed9eba1
 | 2 => Nat.add (Nat.lor (Nat.lor (Nat.land b c) (Nat.land b d)) (Nat.land c d)) 0x8f1bbcdc
 | _ => Nat.add (Nat.xor (Nat.xor b c) d) 0xca62c1d6
def goN {α : Type} : List Nat → Nat → Nat → Nat → Nat → Nat → Nat → (Nat → Nat → Nat → Nat → Nat → α) → α
 | [], _, a, b, c, d, e, k => k a b c d e
 | w :: ws, i, a, b, c, d, e, k => frc (Nat.mod (Nat.add (Nat.add (Nat.add (rotN a 5) (mixN (Nat.div i 20) b c d)) e) w) 4294967296) fun t => frc (rotN b 30) fun b' => frc (Nat.succ i) fun i' => goN ws i' t a b' c d k
theorem round_nat (w : List UInt32) (i : Nat) (s : W5) : (roundW w i s).a.toNat = Nat.mod (Nat.add (Nat.add (Nat.add (rotN s.a.toNat 5) (mixN (Nat.div i 20) s.b.toNat s.c.toNat s.d.toNat)) s.e.toNat) (w.getD i 0).toNat) 4294967296 := by
 have key : ∀ f k : UInt32, ∀ m : Nat, m = f.toNat + k.toNat → (rotl s.a 5 + f + s.e + k + w.getD i 0).toNat = Nat.mod (Nat.add (Nat.add (Nat.add (rotN s.a.toNat 5) m) s.e.toNat) (w.getD i 0).toNat) 4294967296 := by
  intro f k m hm
  rw [rotN_eq _ (by decide) (by decide), hm]
  simp only [UInt32.toNat_add]
  show _ = ((rotl s.a 5).toNat + (f.toNat + k.toNat) + s.e.toNat + (w.getD i 0).toNat) % 4294967296
  omega
 show (rotl s.a 5 + (mixW i s.b s.c s.d).1 + s.e + (mixW i s.b s.c s.d).2 + w.getD i 0).toNat = _
 refine key _ _ _ ?_
 have hd : Nat.div i 20 = i / 20 := rfl
 rw [hd]
 unfold mixW
 rcases e : i / 20 with _ | _ | _ | n
 · rw [if_pos rfl]
   show Nat.add (Nat.lor (Nat.land s.b.toNat s.c.toNat) (Nat.land (notN s.b.toNat) s.d.toNat)) 0x5a827999 = _
   rw [notN_eq, andN_eq, andN_eq, orN_eq]; rfl
 · rw [if_neg (by decide), if_pos rfl]
   show Nat.add (Nat.xor (Nat.xor s.b.toNat s.c.toNat) s.d.toNat) 0x6ed9eba1 = _
   rw [xorN_eq, xorN_eq]; rfl
 · rw [if_neg (by decide), if_neg (by decide), if_pos rfl]
   show Nat.add (Nat.lor (Nat.lor (Nat.land s.b.toNat s.c.toNat) (Nat.land s.b.toNat s.d.toNat)) (Nat.land s.c.toNat s.d.toNat)) 0x8f1bbcdc = _
   rw [andN_eq, andN_eq, andN_eq, orN_eq, orN_eq]; rfl
 · rw [if_neg (by omega), if_neg (by omega), if_neg (by omega)]
   show Nat.add (Nat.xor (Nat.xor s.b.toNat s.c.toNat) s.d.toNat) 0xca62c1d6 = _
   rw [xorN_eq, xorN_eq]; rfl
theorem goN_eq {α : Type} (w : List UInt32) (h : W5) (k : Nat → Nat → Nat → Nat → Nat → α) : ∀ (m i : Nat), m + i = w.length → goN ((w.drop i).map UInt32.toNat) i (roundsW w h i).a.toNat (roundsW w h i).b.toNat (roundsW w h i).c.toNat (roundsW w h i).d.toNat (roundsW w h i).e.toNat k =
    k (roundsW w h w.length).a.toNat (roundsW w h w.length).b.toNat (roundsW w h w.length).c.toNat (roundsW w h w.length).d.toNat (roundsW w h w.length).e.toNat := by
 intro m
 induction m with
 | zero => intro i e; rw [show i = w.length by omega, List.drop_length]; rfl
 | succ m ih =>
   intro i e
   have hi : i < w.length := by omega
   rw [List.drop_eq_getElem_cons hi, List.map_cons, goN, frc_eq, frc_eq, frc_eq, ← ih (i + 1) (by omega)]
   have h1 := round_nat w i (roundsW w h i)
   rw [show (w.getD i 0) = w[i] by simp [hi]] at h1
   rw [← h1, rotN_eq _ (by decide) (by decide)]
   rfl
/-! A block; a content. -/
def takeN {α : Type} (b : Bs) (a0 b0 c0 d0 e0 : Nat) (k : Nat → Nat → Nat → Nat → Nat → α) : α :=
 goN (moreN 64 (wordsN b 16 [])).reverse 0 a0 b0 c0 d0 e0 fun a b c d e => frc (addN a0 a) fun a => frc (addN b0 b) fun b => frc (addN c0 c) fun c => frc (addN d0 d) fun d => frc (addN e0 e) fun e => k a b c d e
theorem takeN_eq {α : Type} (b : Bs) (hb : b.length = 64) (h : W5) (k : Nat → Nat → Nat → Nat → Nat → α) : takeN b h.a.toNat h.b.toNat h.c.toNat h.d.toNat h.e.toNat k = k (takeW h b).a.toNat (takeW h b).b.toNat (takeW h b).c.toNat (takeW h b).d.toNat (takeW h b).e.toNat := by
 have h1 : wordsN b 16 [] = revT (spreadL b 16) := wordsN_eq b hb 16 0 rfl
 have h2 := moreN_eq b 64 16 (Nat.le_refl _)
 have h3 : (revT (spreadL b 80)).reverse = (spreadL b 80).map UInt32.toNat := by simp [revT]
 have h4 := goN_eq (α := α) (spreadL b 80) h (fun x y z u v => frc (addN h.a.toNat x) fun x => frc (addN h.b.toNat y) fun y => frc (addN h.c.toNat z) fun z => frc (addN h.d.toNat u) fun u => frc (addN h.e.toNat v) fun v => k x y z u v) 80 0 (by rw [spreadL_len])
 rw [List.drop_zero, spreadL_len] at h4
 rw [takeN, h1, h2, h3]
 refine h4.trans ?_
 simp only [frc_eq, addN_eq]
 rfl
def blksN {α : Type} : Nat → Bs → Nat → Nat → Nat → Nat → Nat → (Nat → Nat → Nat → Nat → Nat → α) → α
 | 0, _, a, b, c, d, e, k => k a b c d e
 | n + 1, p, a, b, c, d, e, k => takeN (p.take 64) a b c d e fun a b c d e => blksN n (p.drop 64) a b c d e k
theorem blksN_eq {α : Type} (p : Bs) (h : W5) (k : Nat → Nat → Nat → Nat → Nat → α) (N : Nat) (hp : p.length = 64 * N) : ∀ (m i : Nat), m + i = N → blksN m (p.drop (64 * i)) (sumsW p h i).a.toNat (sumsW p h i).b.toNat (sumsW p h i).c.toNat (sumsW p h i).d.toNat (sumsW p h i).e.toNat k =
    k (sumsW p h N).a.toNat (sumsW p h N).b.toNat (sumsW p h N).c.toNat (sumsW p h N).d.toNat (sumsW p h N).e.toNat := by
 intro m
 induction m with
 | zero => intro i e; rw [show i = N by omega]; rfl
 | succ m ih =>
   intro i e
   rw [blksN, takeN_eq _ (by rw [List.length_take, List.length_drop]; omega), List.drop_drop, show 64 * i + 64 = 64 * (i + 1) by omega]
   exact ih (i + 1) (by omega)
/-- A content's five words. -/
def sumN {α : Type} (s : Bs) (k : Nat → Nat → Nat → Nat → Nat → α) : α := frc (blocksN s) fun n => blksN n (padB s) 0x67452301 0xefcdab89 0x98badcfe 0x10325476 0xc3d2e1f0 k
theorem sumN_eq {α : Type} (s : Bs) (k : Nat → Nat → Nat → Nat → Nat → α) : sumN s k = k (sumsW (padB s) h0W (blocksN s)).a.toNat (sumsW (padB s) h0W (blocksN s)).b.toNat (sumsW (padB s) h0W (blocksN s)).c.toNat (sumsW (padB s) h0W (blocksN s)).d.toNat (sumsW (padB s) h0W (blocksN s)).e.toNat := by
 rw [sumN, frc_eq]
 exact blksN_eq (padB s) h0W k (blocksN s) (padB_len s) (blocksN s) 0 rfl
def hexN (x : Nat) : Bs := (List.range 8).map fun j => hexD.getD (Nat.land (Nat.shiftRight x (28 - 4 * j)) 15) 0
theorem hexN_eq (x : UInt32) : hexN x.toNat = hexW x := by
 unfold hexN hexW
 refine List.map_congr_left fun j hj => ?_
 have hj8 := List.mem_range.1 hj
 have h1 : (UInt32.ofNat (28 - 4 * j)).toNat % 32 = 28 - 4 * j := by rw [UInt32.toNat_ofNat']; omega
 rw [UInt32.toNat_and, UInt32.toNat_shiftRight, h1]; rfl
def shaN (s : Bs) : Bs := sumN s fun a b c d e => hexN a ++ (hexN b ++ (hexN c ++ (hexN d ++ hexN e)))
theorem shaN_eq (s : Bs) : shaN s = shaB s := by
 rw [shaN, sumN_eq]
 simp only [hexN_eq, shaB, W5.list, List.flatMap_cons, List.flatMap_nil, List.append_nil]
/-- The first words alone tell contents apart. -/
theorem hexW_inj {x y : UInt32} (h : hexW x = hexW y) : x = y := by
 have key : ∀ j, j < 8 → (x.toNat >>> (28 - 4 * j)) &&& 15 = (y.toNat >>> (28 - 4 * j)) &&& 15 := by
  intro j hj
  have h2 := congrArg (fun l => l.getD j 0) (by rw [← hexN_eq, ← hexN_eq] at h; exact h : hexN x.toNat = hexN y.toNat)
  simp only [hexN, List.getD_eq_getElem?_getD, List.getElem?_map, List.getElem?_range hj, Option.map_some, Option.getD_some] at h2
  have inj : ∀ a b : Fin 16, hexD.getD a.1 0 = hexD.getD b.1 0 → a = b := by decide
  have la : Nat.land (x.toNat.shiftRight (28 - 4 * j)) 15 < 16 := Nat.lt_of_le_of_lt (Nat.and_le_right (n := x.toNat.shiftRight (28 - 4 * j)) (m := 15)) (by decide)
  have lb : Nat.land (y.toNat.shiftRight (28 - 4 * j)) 15 < 16 := Nat.lt_of_le_of_lt (Nat.and_le_right (n := y.toNat.shiftRight (28 - 4 * j)) (m := 15)) (by decide)
  have := inj ⟨_, la⟩ ⟨_, lb⟩ (by simpa [List.getD_eq_getElem?_getD] using h2)
  exact congrArg Fin.val this
 have hx : x.toNat < 4294967296 := x.toNat_lt
 have hy : y.toNat < 4294967296 := y.toNat_lt
 have f : ∀ n k : Nat, (n >>> k) &&& 15 = n / 2 ^ k % 16 := fun n k => by
  rw [Nat.shiftRight_eq_div_pow, show (15 : Nat) = 2 ^ 4 - 1 from rfl, Nat.and_two_pow_sub_one_eq_mod]
 have k0 := key 0 (by decide); have k1 := key 1 (by decide); have k2 := key 2 (by decide); have k3 := key 3 (by decide)
 have k4 := key 4 (by decide); have k5 := key 5 (by decide); have k6 := key 6 (by decide); have k7 := key 7 (by decide)
 simp only [f] at k0 k1 k2 k3 k4 k5 k6 k7
 apply UInt32.toNat_inj.1
 omega
theorem first_ne {s t : Bs} (h : (sumN s fun a _ _ _ _ => a) ≠ (sumN t fun a _ _ _ _ => a)) : shaB s ≠ shaB t := fun e => by
 rw [sumN_eq, sumN_eq] at h
 apply h
 have e2 : (shaB s).take 8 = (shaB t).take 8 := by rw [e]
 have f : ∀ u : Bs, (shaB u).take 8 = hexW (sumsW (padB u) h0W (blocksN u)).a := fun u => by
  rw [shaB, W5.list, List.flatMap_cons, List.take_left' (hexW_len _)]
 rw [f, f] at e2
 rw [hexW_inj e2]
section
def me : Bs := [109, 101]
def ckMe (ps : List Bs) (ts : List Tg) (u : Bs) (d : Int) : Ck := ⟨[], [], d, [], ps, ts, u⟩
theorem right_me {ps : List Bs} {ts : List Tg} {u : Bs} {d : Int} (hp : ∀ p ∈ ps, isN p = true) (hn : ps.Nodup) (hl : ps.length ≤ 3) (ht : RightT true ts) (hu : wordP u) (hd : 0 ≤ d ∧ d ≤ 1073741824) : RightK (ckMe ps ts u d) := by
 refine ⟨.inl rfl, Nat.zero_le _, hd, ⟨fun i hi => absurd hi (Nat.not_lt_zero _), Nat.zero_le _⟩, ⟨fun i hi => ?_, by show (ps.length : Int) ≤ 3; omega⟩, ht, hu⟩
 have hi : i < ps.length := hi
 have hg : ps.getD i [] = ps[i] := by simp [hi]
 show isN (ps.getD i []) = true ∧ ps.getD i [] ∉ ps.take i
 rw [hg]
 refine ⟨hp _ (List.getElem_mem hi), fun hm => ?_⟩
 obtain ⟨j, hj, e⟩ := List.getElem_of_mem hm
 rw [List.length_take] at hj
 rw [List.getElem_take] at e
 have := nodup_inj hn (by omega) hi e
 omega
theorem right_z {c : Ck} (h : RightK c) : CkZ c := by
 have e := (prgCk_some (prgCk_cards h)).2.2.2.2.2.2
 have := ckZ_prg (ck_small h) (by decide)
 rwa [← e] at this
theorem right_read {c : Ck} (h : RightK c) : readK (ckB c) = some c := readK_iff.2 ⟨h, rfl⟩
theorem ckB_len {c : Ck} (h : RightK c) : (ckB c).length ≤ 10043 := by
 have := ck_small h
 rw [ckB, printB, sealB_len]; omega
theorem ctB_len {c : Ct} (h : RightCt c) : (ctB c).length ≤ 10043 := by
 have := ct_small h
 rw [ctB, printB, sealB_len]; omega
theorem ct_read {c : Ct} (h : RightCt c) : readCt (ctB c) = some c ∧ readK (ctB c) = none := by
 have : readCt (ctB c) = some c := readCt_iff.2 ⟨h, rfl⟩
 exact ⟨this, only_ct this⟩
theorem right_one {k : UInt8} {nm tgt v : Bs} (hk : k.toNat = 43 ∨ k.toNat = 42 ∨ (k.toNat = 45 ∧ v = [])) (hn : wordP nm) (hv : v.length ≤ 12) (ht : isN tgt = true) : RightT false [⟨k, nm, tgt, v⟩] :=
 ⟨fun i hi => by
  have : i = 0 := by simp at hi; omega
  subst this
  exact ⟨hk, hn, hv, ⟨(fun h => by cases h), fun _ => ht⟩, fun h => by omega⟩, by simp⟩
theorem opsB_ck {c : Ck} (h : RightK c) (n : Bs) : opsB n (ckB c) = (c.tags.map fun t => { t with target := n }, c.date) := by rw [opsB, right_read h]
theorem opsB_ct {c : Ct} (h : RightCt c) (n : Bs) : opsB n (ctB c) = (c.tags, c.date) := by
 obtain ⟨h1, h2⟩ := ct_read h
 rw [opsB, h2, h1]; rfl
/-! What is held. -/
structure HeldP (K : Ks) (L : List (Bs × Bs)) : Prop where
 perm : K.Perm (L.map fun p => (p.1, vS p.2))
 nd : (L.map (·.1)).Nodup
 tx : ∀ p ∈ L, p.2.length ≤ 1073741824
namespace HeldP
variable {K : Ks} {L : List (Bs × Bs)} (h : HeldP K L)
include h
theorem keys : (K.map (·.1)).Perm (L.map (·.1)) := by
 have := h.perm.map (·.1)
 rwa [List.map_map] at this
theorem knd : (K.map (·.1)).Nodup := h.keys.nodup_iff.2 h.nd
theorem txt : TxtK K := fun p hp => by
 obtain ⟨q, hq, e⟩ := List.mem_map.1 (h.perm.mem_iff.1 hp)
 rw [← e]
 exact ⟨q.2, rfl, h.tx q hq⟩
theorem len : K.length = L.length := by have := h.perm.length_eq; rwa [List.length_map] at this
theorem get {p : Bs × Bs} (hp : p ∈ L) : getB K p.1 = p.2 := by
 have hm : (p.1, vS p.2) ∈ K := h.perm.mem_iff.2 (List.mem_map_of_mem (f := fun p : Bs × Bs => (p.1, vS p.2)) hp)
 unfold getB
 rw [mlook_of_mem h.knd hm]
 simp [bytesV, vS]
theorem mem {n : Bs} : n ∈ keysS K ↔ n ∈ L.map (·.1) := by rw [keysS_mem]; exact h.keys.mem_iff
theorem sd {s : Sd} : s ∈ sdL K ↔ ∃ p ∈ L, ∃ t ∈ (opsB p.1 p.2).1, s = ⟨t, (opsB p.1 p.2).2, p.1⟩ := by
 unfold sdL sdF
 rw [List.mem_flatMap]
 constructor
 · rintro ⟨n, hn, hs⟩
   obtain ⟨p, hp, rfl⟩ := List.mem_map.1 (h.mem.1 hn)
   obtain ⟨t, ht, e⟩ := List.mem_map.1 hs
   rw [h.get hp] at ht e
   exact ⟨p, hp, t, ht, e.symm⟩
 · rintro ⟨p, hp, t, ht, e⟩
   refine ⟨p.1, h.mem.2 (List.mem_map_of_mem (f := fun p : Bs × Bs => p.1) hp), ?_⟩
   refine List.mem_map.2 ⟨t, ?_, ?_⟩
   · rw [h.get hp]; exact ht
   · rw [h.get hp]; exact e.symm
theorem cks {x : Bs × Ck} : x ∈ cksL K ↔ ∃ p ∈ L, p.1 = x.1 ∧ readK p.2 = some x.2 := by
 unfold cksL
 rw [cks_mem]
 constructor
 · rintro ⟨h1, h2⟩
   obtain ⟨p, hp, e⟩ := List.mem_map.1 (h.mem.1 h1)
   rw [← e, h.get hp] at h2
   exact ⟨p, hp, e, h2⟩
 · rintro ⟨p, hp, e, h2⟩
   rw [← e]
   exact ⟨h.mem.2 (List.mem_map_of_mem (f := fun p : Bs × Bs => p.1) hp), by rw [h.get hp]; exact h2⟩
theorem cnd : ((cksL K).map (·.1)).Nodup := ((sortB_perm _).nodup_iff.2 h.knd).sublist (cksF_sub K _)
theorem ck {n : Bs} {s : Bs} {c : Ck} (hp : (n, s) ∈ L) (hr : readK s = some c) : clook (cksL K) n = some c := by
 have hm : (n, c) ∈ cksL K := h.cks.2 ⟨(n, s), hp, rfl, hr⟩
 have hn := h.cnd
 generalize cksL K = C at hm hn
 induction C with
 | nil => cases hm
 | cons a r ih =>
   simp only [List.map_cons, List.nodup_cons] at hn
   rw [clook]
   rcases List.mem_cons.1 hm with e | e
   · subst e; rw [if_pos rfl]
   · rw [if_neg (fun e2 => hn.1 (by rw [e2]; exact List.mem_map_of_mem (f := fun p : Bs × Ck => p.1) e))]
     exact ih e hn.2
theorem nock {n : Bs} (hp : ∀ p ∈ L, p.1 = n → readK p.2 = none) : clook (cksL K) n = none := by
 have hm : ∀ x ∈ cksL K, x.1 ≠ n := fun x hx e => by
  obtain ⟨p, h1, h2, h3⟩ := h.cks.1 hx
  rw [hp p h1 (h2.trans e)] at h3
  cases h3
 generalize cksL K = C at hm
 induction C with
 | nil => rfl
 | cons a r ih =>
   rw [clook, if_neg (hm a (by simp))]
   exact ih fun x hx => hm x (by simp [hx])
theorem put {n s : Bs} (hn : n ∉ L.map (·.1)) (hs : s.length ≤ 1073741824) : HeldP (mput K n (vS s)) (L ++ [(n, s)]) := by
 have hk : n ∉ K.map (·.1) := fun hm => hn (h.keys.mem_iff.1 hm)
 have hp : ∀ (ks : Ks), n ∉ ks.map (·.1) → mput ks n (vS s) = ks ++ [(n, vS s)] := by
  intro ks
  induction ks with
  | nil => intro _; rfl
  | cons p r ih =>
    intro hn
    simp only [List.map_cons, List.mem_cons, not_or] at hn
    rw [mput, if_neg (fun e => hn.1 e.symm), ih hn.2]; rfl
 refine ⟨?_, ?_, fun p hp => ?_⟩
 · rw [hp K hk, List.map_append]
   exact h.perm.append_right _
 · rw [List.map_append, List.nodup_append]
   exact ⟨h.nd, by simp, fun a ha b hb e => hn (by simp at hb; rw [← hb, ← e]; exact ha)⟩
 · rcases List.mem_append.1 hp with hp | hp
   · exact h.tx p hp
   · rw [List.mem_singleton.1 hp]; exact hs
/-- The check-ins' names. -/
theorem cnames {l : List Bs} (hl : l.Nodup) (hm : ∀ n, n ∈ l ↔ ∃ p ∈ L, p.1 = n ∧ (readK p.2).isSome = true) : ((cksL K).map (·.1)).Perm l := by
 refine (List.perm_ext_iff_of_nodup h.cnd hl).2 fun n => ?_
 rw [hm]
 constructor
 · intro hx
   obtain ⟨x, hx, e⟩ := List.mem_map.1 hx
   obtain ⟨p, h1, h2, h3⟩ := h.cks.1 hx
   exact ⟨p, h1, h2.trans e, by rw [h3]; rfl⟩
 · rintro ⟨p, h1, h2, h3⟩
   obtain ⟨c, hc⟩ := Option.isSome_iff_exists.1 h3
   exact List.mem_map.2 ⟨(n, c), h.cks.2 ⟨p, h1, h2, hc⟩, rfl⟩
end HeldP
theorem names_one {K : Ks} {t : Bs} (h : ∀ s ∈ sdL K, s.op.name = t) (he : ∃ s, s ∈ sdL K) : namesL (lastL K) = [t] := by
 have hs := dedS_sorted _ (sortB_sorted ((lastL K).map fun p => p.1.1))
 have hm : ∀ n, n ∈ namesL (lastL K) ↔ n = t := fun n => by
  unfold namesL
  rw [dedS_mem, (sortB_perm _).mem_iff]
  constructor
  · intro hn
    obtain ⟨p, hp, e⟩ := List.mem_map.1 hn
    obtain ⟨s, h1, h2⟩ := (lastF_keys (sdL K) p.1).1 (List.mem_map_of_mem (f := fun p : (Bs × Bs) × Sd => p.1) hp)
    rw [← e, ← h2]; exact h s h1
  · rintro rfl
    obtain ⟨s, hs⟩ := he
    have hk := (lastF_keys (sdL K) (sdKey s)).2 ⟨s, hs, rfl⟩
    obtain ⟨p, hp, e⟩ := List.mem_map.1 hk
    refine List.mem_map.2 ⟨p, hp, ?_⟩
    rw [e]; exact h s hs
 have hn : (namesL (lastL K)).Nodup := hs.imp fun h e => by subst e; exact List.lt_irrefl _ h
 generalize namesL (lastL K) = l at hm hn
 cases l with
 | nil => exact absurd ((hm t).2 rfl) (by simp)
 | cons a r =>
   have ha := (hm a).1 (by simp)
   subst ha
   cases r with
   | nil => rfl
   | cons b r =>
     have hb := (hm b).1 (by simp)
     subst hb
     simp at hn
/-- How many rows a table has, for one tag. -/
theorem tbl_one {K : Ks} {t : Bs} {l : List Bs} (hn : namesL (lastL K) = [t]) (hp : ((cksL K).map (·.1)).Perm l) : (tblT (cksL K) (lastL K)).length = ((l.map fun n => (ofT (cksL K) (lastL K) t n).toList.length).sum) := by
 have e : tblT (cksL K) (lastL K) = tblR (cksL K) (lastL K) t (sortB ((cksL K).map (·.1))) := by
  rw [tblT_eq, hn]; simp [tblR]
 rw [e, tblR, List.length_flatMap]
 have := (((sortB_perm ((cksL K).map (·.1))).trans hp).map fun n => (ofT (cksL K) (lastL K) t n).toList.length)
 exact this.sum_nat
end
def tgA (ops : List Tg) : Bs := ckB (ckMe [] ops me 0)
def tgX (ops : List Tg) : Bs := shaB (tgA ops)
def tgB (ops : List Tg) : Bs := ckB (ckMe [tgX ops] [] me 0)
def tgY (ops : List Tg) : Bs := shaB (tgB ops)
def tgC (ops : List Tg) : Bs := ckB (ckMe [tgY ops] [] me 0)
def tgZ (ops : List Tg) : Bs := shaB (tgC ops)
structure TgD (ops : List Tg) : Prop where
 xy : tgX ops ≠ tgY ops
 xz : tgX ops ≠ tgZ ops
 yz : tgY ops ≠ tgZ ops
theorem me_word : wordP me := by decide
theorem right_t0 : RightT true [] := ⟨fun i hi => absurd hi (Nat.not_lt_zero _), by decide⟩
theorem right_A {ops : List Tg} (h : RightT true ops) : RightK (ckMe [] ops me 0) := right_me (by simp) List.nodup_nil (by decide) h me_word (by decide)
theorem right_P {x u : Bs} {d : Int} (h : isN x = true) (hu : wordP u) (hd : 0 ≤ d ∧ d ≤ 1073741824) : RightK (ckMe [x] [] u d) := right_me (by simpa using h) (by simp) (by simp) right_t0 hu hd
def tgL (ops : List Tg) : List (Bs × Bs) := [(tgX ops, tgA ops), (tgY ops, tgB ops), (tgZ ops, tgC ops)]
theorem tgL_held {ops : List Tg} (h : RightT true ops) (d : TgD ops) {K : Ks} (hp : K.Perm ((tgL ops).map fun p => (p.1, vS p.2))) : HeldP K (tgL ops) := by
 refine ⟨hp, ?_, fun p hp => ?_⟩
 · simp [tgL, d.xy, d.xz, d.yz]
 · have h1 := ckB_len (right_A h)
   have h2 := ckB_len (right_P (d := 0) (isN_sha (tgA ops)) me_word (by decide))
   have h3 := ckB_len (right_P (d := 0) (isN_sha (tgB ops)) me_word (by decide))
   simp only [tgL, List.mem_cons, List.not_mem_nil, or_false] at hp
   rcases hp with rfl | rfl | rfl
   · show (ckB _).length ≤ _; omega
   · show (ckB (ckMe [shaB (tgA ops)] [] me 0)).length ≤ _; omega
   · show (ckB (ckMe [shaB (tgB ops)] [] me 0)).length ≤ _; omega
/-! The runs. -/
def opsR : List Tg := [⟨42, [116], [42], [118]⟩]
theorem opsR_right : RightT true opsR := by decide
def ctOne (d : Int) (k : UInt8) (tgt v u : Bs) : Ct := ⟨d, [⟨k, [116], tgt, v⟩], u⟩
theorem ctOne_right {d : Int} {k : UInt8} {tgt v u : Bs} (hd : 0 ≤ d ∧ d ≤ 1073741824) (hk : k.toNat = 43 ∨ k.toNat = 42 ∨ (k.toNat = 45 ∧ v = [])) (hv : v.length ≤ 12) (ht : isN tgt = true) (hu : wordP u) : RightCt (ctOne d k tgt v u) :=
 ⟨hd, Nat.zero_lt_one, right_one hk (by decide) hv ht, hu⟩
def ctR : Ct := ctOne 3 45 (tgZ opsR) [] me
theorem ctR_right : RightCt ctR := ctOne_right (by decide) (.inr (.inr ⟨by decide, rfl⟩)) (by decide) (isN_sha _) me_word
def rnL : List (Bs × Bs) := tgL opsR ++ [([107], ctB ctR)]
theorem sha_ne {s t : Bs} (h : t.length ≠ 40) : shaB s ≠ t := fun e => h (by rw [← e]; exact shaB_len _)
theorem rn_held {K : Ks} (d : TgD opsR) (hp : K.Perm ((tgL opsR).map fun p => (p.1, vS p.2))) : HeldP (mput K [107] (vS (ctB ctR))) rnL := by
 refine (tgL_held opsR_right d hp).put ?_ (Nat.le_trans (ctB_len ctR_right) (by decide))
 simp only [tgL, List.map_cons, List.map_nil, List.mem_cons, List.not_mem_nil, or_false, not_or]
 exact ⟨(sha_ne (by decide)).symm, (sha_ne (by decide)).symm, (sha_ne (by decide)).symm⟩
def sdA : Sd := ⟨⟨42, [116], tgX opsR, [118]⟩, 0, tgX opsR⟩
def sdK : Sd := ⟨⟨45, [116], tgZ opsR, []⟩, 3, [107]⟩
theorem tgB_right (ops : List Tg) : RightK (ckMe [tgX ops] [] me 0) := right_P (isN_sha _) me_word (by decide)
theorem tgC_right (ops : List Tg) : RightK (ckMe [tgY ops] [] me 0) := right_P (isN_sha _) me_word (by decide)
theorem rn_sd {K : Ks} (h : HeldP K rnL) (s : Sd) : s ∈ sdL K ↔ s = sdA ∨ s = sdK := by
 rw [h.sd]
 have e1 := opsB_ck (right_A opsR_right) (tgX opsR)
 have e2 := opsB_ck (tgB_right opsR) (tgY opsR)
 have e3 := opsB_ck (tgC_right opsR) (tgZ opsR)
 have e4 := opsB_ct ctR_right [107]
 simp only [rnL, tgL, List.cons_append, List.nil_append, List.mem_cons, List.not_mem_nil, or_false, exists_eq_or_imp, exists_eq_left]
 rw [show tgA opsR = ckB (ckMe [] opsR me 0) from rfl, show tgB opsR = ckB (ckMe [tgX opsR] [] me 0) from rfl, show tgC opsR = ckB (ckMe [tgY opsR] [] me 0) from rfl, e1, e2, e3, e4]
 simp [ckMe, opsR, ctR, ctOne, sdA, sdK]
structure RunP (K : Ks) : Prop where
 x : ofT (cksL K) (lastL K) [116] (tgX opsR) = some ⟨[116], tgX opsR, [118], tgX opsR, true, true⟩
 y : ofT (cksL K) (lastL K) [116] (tgY opsR) = some ⟨[116], tgY opsR, [118], tgX opsR, true, false⟩
 z : ofT (cksL K) (lastL K) [116] (tgZ opsR) = none
 n : namesL (lastL K) = [[116]]
 t : (tblT (cksL K) (lastL K)).length = 2
theorem run_ok {K : Ks} (d : TgD opsR) (h : HeldP K rnL) : RunP K := by
 have hx : clook (cksL K) (tgX opsR) = some (ckMe [] opsR me 0) := h.ck (s := tgA opsR) (by simp [rnL, tgL]) (right_read (right_A opsR_right))
 have hy : clook (cksL K) (tgY opsR) = some (ckMe [tgX opsR] [] me 0) := h.ck (s := tgB opsR) (by simp [rnL, tgL]) (right_read (tgB_right opsR))
 have hz : clook (cksL K) (tgZ opsR) = some (ckMe [tgY opsR] [] me 0) := h.ck (s := tgC opsR) (by simp [rnL, tgL]) (right_read (tgC_right opsR))
 have hnm : ((cksL K).map (·.1)).Perm [tgX opsR, tgY opsR, tgZ opsR] := h.cnames (by simp [d.xy, d.xz, d.yz]) fun n => by
  have r1 := right_read (right_A opsR_right)
  have r2 := right_read (tgB_right opsR)
  have r3 := right_read (tgC_right opsR)
  have r4 := (ct_read ctR_right).2
  simp only [rnL, tgL, List.cons_append, List.nil_append, List.mem_cons, List.not_mem_nil, or_false, exists_eq_or_imp, exists_eq_left]
  rw [show tgA opsR = ckB (ckMe [] opsR me 0) from rfl, show tgB opsR = ckB (ckMe [tgX opsR] [] me 0) from rfl, show tgC opsR = ckB (ckMe [tgY opsR] [] me 0) from rfl, r1, r2, r3, r4]
  simp [eq_comm]
 have hlen : (cksL K).length = 3 := by have := hnm.length_eq; rwa [List.length_map] at this
 have hsd := rn_sd h
 have lx : llook (lastL K) ([116], tgX opsR) = some sdA := lastF_one ((hsd _).2 (.inl rfl)) rfl fun o ho hk => by
  rcases (hsd o).1 ho with rfl | rfl
  · rfl
  · exact absurd (congrArg Prod.snd hk) (fun e => d.xz (by exact e.symm))
 have lz : llook (lastL K) ([116], tgZ opsR) = some sdK := lastF_one ((hsd _).2 (.inr rfl)) rfl fun o ho hk => by
  rcases (hsd o).1 ho with rfl | rfl
  · exact absurd (congrArg Prod.snd hk) (fun e => d.xz (by exact e))
  · rfl
 have ly : llook (lastL K) ([116], tgY opsR) = none := lastF_none fun o ho hk => by
  rcases (hsd o).1 ho with rfl | rfl
  · exact absurd (congrArg Prod.snd hk) (fun e => d.xy (by exact e))
  · exact absurd (congrArg Prod.snd hk) (fun e => d.yz (by exact e.symm))
 have ex : ofT (cksL K) (lastL K) [116] (tgX opsR) = some ⟨[116], tgX opsR, [118], tgX opsR, true, true⟩ := by
  rw [ofT, hlen, wayF, hx]
  dsimp only
  rw [lx]
  simp [sdA]
 have ey : ofT (cksL K) (lastL K) [116] (tgY opsR) = some ⟨[116], tgY opsR, [118], tgX opsR, true, false⟩ := by
  rw [ofT, hlen, wayF, hy]
  dsimp only
  rw [ly]
  dsimp only
  rw [show firstB (ckMe [tgX opsR] [] me 0) = tgX opsR from rfl, wayF, hx]
  dsimp only
  rw [lx]
  simp [sdA, d.xy]
 have ez : ofT (cksL K) (lastL K) [116] (tgZ opsR) = none := by
  rw [ofT, hlen, wayF, hz]
  dsimp only
  rw [lz]
  simp [sdK]
 have en : namesL (lastL K) = [[116]] := names_one (fun s hs => by rcases (hsd s).1 hs with rfl | rfl <;> rfl) ⟨sdA, (hsd _).2 (.inl rfl)⟩
 refine ⟨ex, ey, ez, en, ?_⟩
 rw [tbl_one en hnm]
 simp [ex, ey, ez]
section
set_option maxRecDepth 100000
theorem aopsR_b : bodyB (ckCards (ckMe [] opsR me 0)) = [67, 32, 46, 10, 68, 32, 48, 10, 84, 32, 42, 116, 32, 42, 32, 118, 10, 85, 32, 109, 101, 10] := by decide +kernel
theorem aopsR_s : shaN [67, 32, 46, 10, 68, 32, 48, 10, 84, 32, 42, 116, 32, 42, 32, 118, 10, 85, 32, 109, 101, 10] = [97, 52, 50, 54, 48, 102, 53, 57, 51, 57, 48, 57, 100, 101, 100, 56, 49, 101, 52, 100, 51, 102, 99, 50, 48, 101, 52, 48, 51, 97, 57, 102, 54, 57, 97, 48, 99, 49, 49, 100] := by decide +kernel
theorem aopsR_t : ckB (ckMe [] opsR me 0) = [67, 32, 46, 10, 68, 32, 48, 10, 84, 32, 42, 116, 32, 42, 32, 118, 10, 85, 32, 109, 101, 10, 90, 32, 97, 52, 50, 54, 48, 102, 53, 57, 51, 57, 48, 57, 100, 101, 100, 56, 49, 101, 52, 100, 51, 102, 99, 50, 48, 101, 52, 48, 51, 97, 57, 102, 54, 57, 97, 48, 99, 49, 49, 100, 10] := by rw [ckB, printB, aopsR_b, sealB, ← shaN_eq, aopsR_s]; rfl
theorem aopsR_x : shaB (ckB (ckMe [] opsR me 0)) = [102, 50, 52, 50, 52, 53, 56, 48, 54, 54, 51, 52, 56, 48, 99, 55, 99, 49, 54, 57, 101, 51, 101, 49, 55, 99, 53, 48, 55, 57, 100, 57, 50, 100, 55, 53, 98, 54, 98, 53] := by rw [aopsR_t, ← shaN_eq]; decide +kernel
theorem tgX_opsR : tgX opsR = [102, 50, 52, 50, 52, 53, 56, 48, 54, 54, 51, 52, 56, 48, 99, 55, 99, 49, 54, 57, 101, 51, 101, 49, 55, 99, 53, 48, 55, 57, 100, 57, 50, 100, 55, 53, 98, 54, 98, 53] := aopsR_x
theorem bopsR_b : bodyB (ckCards (ckMe [[102, 50, 52, 50, 52, 53, 56, 48, 54, 54, 51, 52, 56, 48, 99, 55, 99, 49, 54, 57, 101, 51, 101, 49, 55, 99, 53, 48, 55, 57, 100, 57, 50, 100, 55, 53, 98, 54, 98, 53]] [] me 0)) = [67, 32, 46, 10, 68, 32, 48, 10, 80, 32, 102, 50, 52, 50, 52, 53, 56, 48, 54, 54, 51, 52, 56, 48, 99, 55, 99, 49, 54, 57, 101, 51, 101, 49, 55, 99, 53, 48, 55, 57, 100, 57, 50, 100, 55, 53, 98, 54, 98, 53, 10, 85, 32, 109, 101, 10] := by decide +kernel
theorem bopsR_s : shaN [67, 32, 46, 10, 68, 32, 48, 10, 80, 32, 102, 50, 52, 50, 52, 53, 56, 48, 54, 54, 51, 52, 56, 48, 99, 55, 99, 49, 54, 57, 101, 51, 101, 49, 55, 99, 53, 48, 55, 57, 100, 57, 50, 100, 55, 53, 98, 54, 98, 53, 10, 85, 32, 109, 101, 10] = [56, 52, 102, 97, 56, 55, 52, 54, 54, 49, 98, 101, 97, 54, 51, 99, 53, 55, 48, 101, 49, 56, 100, 48, 98, 102, 50, 102, 49, 55, 56, 49, 57, 100, 53, 100, 50, 56, 48, 57] := by decide +kernel
theorem bopsR_t : ckB (ckMe [[102, 50, 52, 50, 52, 53, 56, 48, 54, 54, 51, 52, 56, 48, 99, 55, 99, 49, 54, 57, 101, 51, 101, 49, 55, 99, 53, 48, 55, 57, 100, 57, 50, 100, 55, 53, 98, 54, 98, 53]] [] me 0) = [67, 32, 46, 10, 68, 32, 48, 10, 80, 32, 102, 50, 52, 50, 52, 53, 56, 48, 54, 54, 51, 52, 56, 48, 99, 55, 99, 49, 54, 57, 101, 51, 101, 49, 55, 99, 53, 48, 55, 57, 100, 57, 50, 100, 55, 53, 98, 54, 98, 53, 10, 85, 32, 109, 101, 10, 90, 32, 56, 52, 102, 97, 56, 55, 52, 54, 54, 49, 98, 101, 97, 54, 51, 99, 53, 55, 48, 101, 49, 56, 100, 48, 98, 102, 50, 102, 49, 55, 56, 49, 57, 100, 53, 100, 50, 56, 48, 57, 10] := by rw [ckB, printB, bopsR_b, sealB, ← shaN_eq, bopsR_s]; rfl
theorem bopsR_x : shaB (ckB (ckMe [[102, 50, 52, 50, 52, 53, 56, 48, 54, 54, 51, 52, 56, 48, 99, 55, 99, 49, 54, 57, 101, 51, 101, 49, 55, 99, 53, 48, 55, 57, 100, 57, 50, 100, 55, 53, 98, 54, 98, 53]] [] me 0)) = [101, 97, 56, 51, 53, 52, 56, 49, 97, 55, 53, 52, 52, 98, 52, 102, 97, 57, 53, 56, 48, 57, 101, 100, 55, 101, 56, 57, 102, 49, 52, 51, 54, 101, 53, 99, 101, 51, 51, 102] := by rw [bopsR_t, ← shaN_eq]; decide +kernel
theorem tgY_opsR : tgY opsR = [101, 97, 56, 51, 53, 52, 56, 49, 97, 55, 53, 52, 52, 98, 52, 102, 97, 57, 53, 56, 48, 57, 101, 100, 55, 101, 56, 57, 102, 49, 52, 51, 54, 101, 53, 99, 101, 51, 51, 102] := by rw [tgY, tgB, tgX_opsR]; exact bopsR_x
theorem copsR_b : bodyB (ckCards (ckMe [[101, 97, 56, 51, 53, 52, 56, 49, 97, 55, 53, 52, 52, 98, 52, 102, 97, 57, 53, 56, 48, 57, 101, 100, 55, 101, 56, 57, 102, 49, 52, 51, 54, 101, 53, 99, 101, 51, 51, 102]] [] me 0)) = [67, 32, 46, 10, 68, 32, 48, 10, 80, 32, 101, 97, 56, 51, 53, 52, 56, 49, 97, 55, 53, 52, 52, 98, 52, 102, 97, 57, 53, 56, 48, 57, 101, 100, 55, 101, 56, 57, 102, 49, 52, 51, 54, 101, 53, 99, 101, 51, 51, 102, 10, 85, 32, 109, 101, 10] := by decide +kernel
theorem copsR_s : shaN [67, 32, 46, 10, 68, 32, 48, 10, 80, 32, 101, 97, 56, 51, 53, 52, 56, 49, 97, 55, 53, 52, 52, 98, 52, 102, 97, 57, 53, 56, 48, 57, 101, 100, 55, 101, 56, 57, 102, 49, 52, 51, 54, 101, 53, 99, 101, 51, 51, 102, 10, 85, 32, 109, 101, 10] = [51, 100, 50, 57, 51, 57, 99, 99, 52, 98, 57, 54, 48, 49, 57, 53, 101, 49, 55, 97, 99, 55, 48, 100, 57, 51, 54, 55, 56, 99, 100, 98, 52, 102, 56, 55, 97, 48, 99, 54] := by decide +kernel
theorem copsR_t : ckB (ckMe [[101, 97, 56, 51, 53, 52, 56, 49, 97, 55, 53, 52, 52, 98, 52, 102, 97, 57, 53, 56, 48, 57, 101, 100, 55, 101, 56, 57, 102, 49, 52, 51, 54, 101, 53, 99, 101, 51, 51, 102]] [] me 0) = [67, 32, 46, 10, 68, 32, 48, 10, 80, 32, 101, 97, 56, 51, 53, 52, 56, 49, 97, 55, 53, 52, 52, 98, 52, 102, 97, 57, 53, 56, 48, 57, 101, 100, 55, 101, 56, 57, 102, 49, 52, 51, 54, 101, 53, 99, 101, 51, 51, 102, 10, 85, 32, 109, 101, 10, 90, 32, 51, 100, 50, 57, 51, 57, 99, 99, 52, 98, 57, 54, 48, 49, 57, 53, 101, 49, 55, 97, 99, 55, 48, 100, 57, 51, 54, 55, 56, 99, 100, 98, 52, 102, 56, 55, 97, 48, 99, 54, 10] := by rw [ckB, printB, copsR_b, sealB, ← shaN_eq, copsR_s]; rfl
theorem copsR_x : shaB (ckB (ckMe [[101, 97, 56, 51, 53, 52, 56, 49, 97, 55, 53, 52, 52, 98, 52, 102, 97, 57, 53, 56, 48, 57, 101, 100, 55, 101, 56, 57, 102, 49, 52, 51, 54, 101, 53, 99, 101, 51, 51, 102]] [] me 0)) = [50, 54, 100, 54, 48, 100, 53, 55, 54, 51, 97, 102, 56, 53, 101, 97, 102, 55, 53, 99, 54, 100, 53, 50, 50, 98, 51, 102, 52, 51, 98, 51, 57, 50, 102, 52, 100, 57, 55, 51] := by rw [copsR_t, ← shaN_eq]; decide +kernel
theorem tgZ_opsR : tgZ opsR = [50, 54, 100, 54, 48, 100, 53, 55, 54, 51, 97, 102, 56, 53, 101, 97, 102, 55, 53, 99, 54, 100, 53, 50, 50, 98, 51, 102, 52, 51, 98, 51, 57, 50, 102, 52, 100, 57, 55, 51] := by rw [tgZ, tgC, tgY_opsR]; exact copsR_x
theorem tgD_opsR : TgD opsR := ⟨by rw [tgX_opsR, tgY_opsR]; decide, by rw [tgX_opsR, tgZ_opsR]; decide, by rw [tgY_opsR, tgZ_opsR]; decide⟩
theorem ano_b : bodyB (ckCards (ckMe [] [] me 0)) = [67, 32, 46, 10, 68, 32, 48, 10, 85, 32, 109, 101, 10] := by decide +kernel
theorem ano_s : shaN [67, 32, 46, 10, 68, 32, 48, 10, 85, 32, 109, 101, 10] = [49, 51, 48, 53, 97, 52, 97, 102, 101, 100, 51, 53, 49, 99, 54, 55, 52, 54, 52, 101, 56, 49, 52, 50, 49, 55, 56, 51, 101, 97, 98, 50, 55, 52, 97, 48, 97, 56, 57, 56] := by decide +kernel
theorem ano_t : ckB (ckMe [] [] me 0) = [67, 32, 46, 10, 68, 32, 48, 10, 85, 32, 109, 101, 10, 90, 32, 49, 51, 48, 53, 97, 52, 97, 102, 101, 100, 51, 53, 49, 99, 54, 55, 52, 54, 52, 101, 56, 49, 52, 50, 49, 55, 56, 51, 101, 97, 98, 50, 55, 52, 97, 48, 97, 56, 57, 56, 10] := by rw [ckB, printB, ano_b, sealB, ← shaN_eq, ano_s]; rfl
theorem ano_x : shaB (ckB (ckMe [] [] me 0)) = [99, 52, 97, 54, 54, 52, 54, 99, 49, 57, 48, 48, 98, 101, 100, 51, 101, 54, 48, 50, 52, 53, 100, 56, 51, 52, 50, 56, 100, 97, 100, 50, 97, 52, 50, 53, 55, 51, 48, 53] := by rw [ano_t, ← shaN_eq]; decide +kernel
theorem tgX_no : tgX [] = [99, 52, 97, 54, 54, 52, 54, 99, 49, 57, 48, 48, 98, 101, 100, 51, 101, 54, 48, 50, 52, 53, 100, 56, 51, 52, 50, 56, 100, 97, 100, 50, 97, 52, 50, 53, 55, 51, 48, 53] := ano_x
theorem bno_b : bodyB (ckCards (ckMe [[99, 52, 97, 54, 54, 52, 54, 99, 49, 57, 48, 48, 98, 101, 100, 51, 101, 54, 48, 50, 52, 53, 100, 56, 51, 52, 50, 56, 100, 97, 100, 50, 97, 52, 50, 53, 55, 51, 48, 53]] [] me 0)) = [67, 32, 46, 10, 68, 32, 48, 10, 80, 32, 99, 52, 97, 54, 54, 52, 54, 99, 49, 57, 48, 48, 98, 101, 100, 51, 101, 54, 48, 50, 52, 53, 100, 56, 51, 52, 50, 56, 100, 97, 100, 50, 97, 52, 50, 53, 55, 51, 48, 53, 10, 85, 32, 109, 101, 10] := by decide +kernel
theorem bno_s : shaN [67, 32, 46, 10, 68, 32, 48, 10, 80, 32, 99, 52, 97, 54, 54, 52, 54, 99, 49, 57, 48, 48, 98, 101, 100, 51, 101, 54, 48, 50, 52, 53, 100, 56, 51, 52, 50, 56, 100, 97, 100, 50, 97, 52, 50, 53, 55, 51, 48, 53, 10, 85, 32, 109, 101, 10] = [48, 48, 50, 57, 54, 56, 57, 98, 54, 52, 50, 55, 57, 100, 53, 97, 98, 99, 101, 99, 54, 101, 97, 53, 57, 99, 50, 99, 53, 97, 102, 51, 57, 99, 50, 56, 49, 101, 53, 56] := by decide +kernel
theorem bno_t : ckB (ckMe [[99, 52, 97, 54, 54, 52, 54, 99, 49, 57, 48, 48, 98, 101, 100, 51, 101, 54, 48, 50, 52, 53, 100, 56, 51, 52, 50, 56, 100, 97, 100, 50, 97, 52, 50, 53, 55, 51, 48, 53]] [] me 0) = [67, 32, 46, 10, 68, 32, 48, 10, 80, 32, 99, 52, 97, 54, 54, 52, 54, 99, 49, 57, 48, 48, 98, 101, 100, 51, 101, 54, 48, 50, 52, 53, 100, 56, 51, 52, 50, 56, 100, 97, 100, 50, 97, 52, 50, 53, 55, 51, 48, 53, 10, 85, 32, 109, 101, 10, 90, 32, 48, 48, 50, 57, 54, 56, 57, 98, 54, 52, 50, 55, 57, 100, 53, 97, 98, 99, 101, 99, 54, 101, 97, 53, 57, 99, 50, 99, 53, 97, 102, 51, 57, 99, 50, 56, 49, 101, 53, 56, 10] := by rw [ckB, printB, bno_b, sealB, ← shaN_eq, bno_s]; rfl
theorem bno_x : shaB (ckB (ckMe [[99, 52, 97, 54, 54, 52, 54, 99, 49, 57, 48, 48, 98, 101, 100, 51, 101, 54, 48, 50, 52, 53, 100, 56, 51, 52, 50, 56, 100, 97, 100, 50, 97, 52, 50, 53, 55, 51, 48, 53]] [] me 0)) = [55, 55, 50, 50, 48, 97, 53, 101, 102, 101, 53, 101, 99, 55, 51, 99, 56, 98, 98, 55, 56, 52, 50, 51, 55, 97, 100, 97, 101, 97, 50, 97, 54, 52, 102, 102, 53, 101, 53, 100] := by rw [bno_t, ← shaN_eq]; decide +kernel
theorem tgY_no : tgY [] = [55, 55, 50, 50, 48, 97, 53, 101, 102, 101, 53, 101, 99, 55, 51, 99, 56, 98, 98, 55, 56, 52, 50, 51, 55, 97, 100, 97, 101, 97, 50, 97, 54, 52, 102, 102, 53, 101, 53, 100] := by rw [tgY, tgB, tgX_no]; exact bno_x
theorem cno_b : bodyB (ckCards (ckMe [[55, 55, 50, 50, 48, 97, 53, 101, 102, 101, 53, 101, 99, 55, 51, 99, 56, 98, 98, 55, 56, 52, 50, 51, 55, 97, 100, 97, 101, 97, 50, 97, 54, 52, 102, 102, 53, 101, 53, 100]] [] me 0)) = [67, 32, 46, 10, 68, 32, 48, 10, 80, 32, 55, 55, 50, 50, 48, 97, 53, 101, 102, 101, 53, 101, 99, 55, 51, 99, 56, 98, 98, 55, 56, 52, 50, 51, 55, 97, 100, 97, 101, 97, 50, 97, 54, 52, 102, 102, 53, 101, 53, 100, 10, 85, 32, 109, 101, 10] := by decide +kernel
theorem cno_s : shaN [67, 32, 46, 10, 68, 32, 48, 10, 80, 32, 55, 55, 50, 50, 48, 97, 53, 101, 102, 101, 53, 101, 99, 55, 51, 99, 56, 98, 98, 55, 56, 52, 50, 51, 55, 97, 100, 97, 101, 97, 50, 97, 54, 52, 102, 102, 53, 101, 53, 100, 10, 85, 32, 109, 101, 10] = [49, 101, 99, 97, 56, 54, 101, 48, 52, 102, 55, 48, 99, 102, 97, 54, 51, 52, 101, 98, 51, 55, 97, 53, 97, 49, 54, 54, 52, 101, 100, 56, 100, 102, 51, 53, 99, 55, 101, 57] := by decide +kernel
theorem cno_t : ckB (ckMe [[55, 55, 50, 50, 48, 97, 53, 101, 102, 101, 53, 101, 99, 55, 51, 99, 56, 98, 98, 55, 56, 52, 50, 51, 55, 97, 100, 97, 101, 97, 50, 97, 54, 52, 102, 102, 53, 101, 53, 100]] [] me 0) = [67, 32, 46, 10, 68, 32, 48, 10, 80, 32, 55, 55, 50, 50, 48, 97, 53, 101, 102, 101, 53, 101, 99, 55, 51, 99, 56, 98, 98, 55, 56, 52, 50, 51, 55, 97, 100, 97, 101, 97, 50, 97, 54, 52, 102, 102, 53, 101, 53, 100, 10, 85, 32, 109, 101, 10, 90, 32, 49, 101, 99, 97, 56, 54, 101, 48, 52, 102, 55, 48, 99, 102, 97, 54, 51, 52, 101, 98, 51, 55, 97, 53, 97, 49, 54, 54, 52, 101, 100, 56, 100, 102, 51, 53, 99, 55, 101, 57, 10] := by rw [ckB, printB, cno_b, sealB, ← shaN_eq, cno_s]; rfl
theorem cno_x : shaB (ckB (ckMe [[55, 55, 50, 50, 48, 97, 53, 101, 102, 101, 53, 101, 99, 55, 51, 99, 56, 98, 98, 55, 56, 52, 50, 51, 55, 97, 100, 97, 101, 97, 50, 97, 54, 52, 102, 102, 53, 101, 53, 100]] [] me 0)) = [53, 53, 99, 52, 55, 99, 98, 97, 100, 50, 53, 48, 102, 48, 49, 54, 49, 48, 99, 57, 48, 101, 50, 49, 55, 50, 55, 102, 101, 52, 53, 56, 97, 53, 97, 52, 56, 55, 53, 53] := by rw [cno_t, ← shaN_eq]; decide +kernel
theorem tgZ_no : tgZ [] = [53, 53, 99, 52, 55, 99, 98, 97, 100, 50, 53, 48, 102, 48, 49, 54, 49, 48, 99, 57, 48, 101, 50, 49, 55, 50, 55, 102, 101, 52, 53, 56, 97, 53, 97, 52, 56, 55, 53, 53] := by rw [tgZ, tgC, tgY_no]; exact cno_x
theorem tgD_no : TgD [] := ⟨by rw [tgX_no, tgY_no]; decide, by rw [tgX_no, tgZ_no]; decide, by rw [tgY_no, tgZ_no]; decide⟩
end
section
section
variable {r : Option Nat} {P : Program} {n : Nat} {ops : Array Oper} {os : List Oper} {A : List HP} {L : Loc} {Hs : List HP} {Q : Out} {ty : TypeId} {d : Nat} {pos : String} {after : Array Edge} {c : Code}
theorem d_next4 (j1 j2 j3 j4 : Nat) {o1 o2 o3 o4 : Oper} {k : Nat} {ls : Array Bool} (hr : Region.ready .any ops ls = [j1, j2, j3, j4]) (ho1 : ops[j1]? = some o1) (ho2 : ops[j2]? = some o2) (ho3 : ops[j3]? = some o3) (ho4 : ops[j4]? = some o4)
    (h1 : AnOp r P n ops A o1 (fun L' Hs' => An r P n ops A Q k (ls.setIfInBounds j1 true) L' Hs') L Hs)
    (h2 : AnOp r P n ops A o2 (fun L' Hs' => An r P n ops A Q k (ls.setIfInBounds j2 true) L' Hs') L Hs)
    (h3 : AnOp r P n ops A o3 (fun L' Hs' => An r P n ops A Q k (ls.setIfInBounds j3 true) L' Hs') L Hs)
    (h4 : AnOp r P n ops A o4 (fun L' Hs' => An r P n ops A Q k (ls.setIfInBounds j4 true) L' Hs') L Hs) :
    An r P n ops A Q (k + 1) ls L Hs := ⟨(fun e => by rw [hr] at e; cases e), fun i hi => by
     rw [hr] at hi
     simp only [List.mem_cons, List.not_mem_nil, or_false] at hi
     rcases hi with rfl | rfl | rfl | rfl
     · exact ⟨o1, ho1, .inl h1⟩
     · exact ⟨o2, ho2, .inl h2⟩
     · exact ⟨o3, ho3, .inl h3⟩
     · exact ⟨o4, ho4, .inl h4⟩⟩
theorem an_mkmap {K : Loc → List HP → Prop} {t : TypeId} (hd : Nat.blt d n = true) (k : ∀ b, K ((d, .map (some b)) :: L) (MapS b [] :: Hs)) : AnOp r P n ops A ⟨some d, .makeMap t none, ty, pos, after, none⟩ K L Hs := by
 refine ⟨hd, .inr ⟨.inl rfl, Nat, fun b => .map (some b), fun _ => True, [], Hs, fun b => [MapS b []], Ent.refl _, ?_, fun b _ => k b⟩⟩
 intro a fr w M h hA hf dj dj' s sA t'
 have e : (execOp a.eval ⟨some d, .makeMap t none, ty, pos, after, none⟩).run P w = .ok (.value (.map (some w.heap.size))) (w.alloc (.map #[] 0)) := by simp [execOp, Instr.makeMap, newObj, Sem.run]
 rw [e]
 have t2 := t'.alloc (.map #[] 0)
 obtain ⟨f1, f2⟩ := fresh_none t'
 obtain ⟨f3, f4⟩ := Res.add_none.1 f2
 obtain ⟨f5, f6⟩ := Res.add_none.1 f3
 refine ⟨w.heap.size, M, (Res.one w.heap.size (.map #[] 0)).add h, rfl, trivial, Kn.le_refl _, Res.dj_add_left.2 ⟨one_dj f6, dj⟩, ?_, ?_, Res.one w.heap.size (.map #[] 0), h, one_dj f5, rfl, ⟨_, _, rfl, MapG.nil⟩, trivial⟩
 · obtain ⟨x1, x2⟩ := Res.dj_add_left.1 dj'
   exact Res.dj_add_left.2 ⟨Res.dj_add_left.2 ⟨one_dj f4, x1⟩, x2⟩
 · rw [Res.add_assoc, Res.add_assoc]
   rw [Res.add_assoc] at t2
   exact t2
theorem opt_insert {t kt e : TypeId} {x y z : Operand} {b : Nat} {ks : Ks} {k : List UInt8} {v : Value} (ht : P.underlying t = some (.map kt e)) (hk : P.underlying kt = some .string)
    (hx : ev L x = some (.map (some b))) (hy : ev L y = some (vS k)) (hz : ev L z = some v) :
    OpT r P n ⟨none, .insert t x y z, ty, pos, after, none⟩ A L [MapS b ks] (fun _ : Unit => undef) (fun _ => True) (fun _ => [MapS b (mput ks k v)]) :=
 opt_mapUpdate (pos := pos) (after := after) (ty := ty) ht hk hx hy hz
theorem an_insert {K : Loc → List HP → Prop} {t kt e : TypeId} {x y z : Operand} {b : Nat} {ks : Ks} {k : List UInt8} {v : Value} {Rs : List HP} (ht : P.underlying t = some (.map kt e)) (hk : P.underlying kt = some .string)
    (hx : ev L x = some (.map (some b))) (hy : ev L y = some (vS k)) (hz : ev L z = some v) [h : MapPC b ks Hs Rs] (k' : K L (MapS b (mput ks k v) :: Rs)) : AnOp r P n ops A ⟨none, .insert t x y z, ty, pos, after, none⟩ K L Hs := by
 haveI : PicksC [MapS b ks] Hs Rs := ⟨.cons h.get .nil⟩
 exact an_opT (opt_insert ht hk hx hy hz (ks := ks)) rfl (fun _ _ => k')
end
theorem mput3 {k1 k2 k3 : List UInt8} {v1 v2 v3 : Value} (h12 : k1 ≠ k2) (h13 : k1 ≠ k3) (h23 : k2 ≠ k3) : mput (mput (mput [] k1 v1) k2 v2) k3 v3 = [(k1, v1), (k2, v2), (k3, v3)] := by simp [mput, h12, h13, h23]
section
variable {α : Type} (a b c : α)
theorem pm123 : [a, b, c].Perm [a, b, c] := .refl _
theorem pm132 : [a, c, b].Perm [a, b, c] := .cons _ (.swap _ _ _)
theorem pm213 : [b, a, c].Perm [a, b, c] := .swap _ _ _
theorem pm231 : [b, c, a].Perm [a, b, c] := (List.Perm.cons b (.swap _ _ _)).trans (.swap _ _ _)
theorem pm312 : [c, a, b].Perm [a, b, c] := (List.Perm.swap a c [b]).trans (.cons _ (.swap _ _ _))
theorem pm321 : [c, b, a].Perm [a, b, c] := (List.Perm.swap b c [a]).trans ((List.Perm.cons b (.swap _ _ _)).trans (.swap _ _ _))
end
end
end Go.Proofs.YtomgdbanbpjedaaGreat
