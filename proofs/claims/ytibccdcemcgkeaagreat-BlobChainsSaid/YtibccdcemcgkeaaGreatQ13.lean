/- Texts of this proof, put together: PShaN, PRuns8, Goto, SBlob, SBlob2. -/
import Derived.Test.YtibccdcemcgkeaaGreatQ12
set_option linter.unusedVariables false
set_option linter.unusedSimpArgs false
namespace Go.Proofs.YtibccdcemcgkeaaGreat
def frc {α : Type} (n : Nat) (k : Nat → α) : α := match n with | 0 => k 0 | m + 1 => k (m + 1)
theorem frc_eq {α : Type} (n : Nat) (k : Nat → α) : frc n k = k n := by cases n <;> rfl
def rotN (x k : Nat) : Nat := Nat.lor (Nat.mod (Nat.shiftLeft x k) 4294967296) (Nat.shiftRight x (Nat.sub 32 k))
def addN (x y : Nat) : Nat := Nat.mod (Nat.add x y) 4294967296
def notN (x : Nat) : Nat := Nat.sub 4294967295 x
theorem rotN_eq (x : UInt32) {k : Nat} (h0 : 0 < k) (h : k < 32) : rotN x.toNat k = (rotl x k).toNat := by
 have h1 : (UInt32.ofNat k).toNat % 32 = k := by rw [UInt32.toNat_ofNat']; omega
 have h2 : (UInt32.ofNat (32 - k)).toNat % 32 = 32 - k := by rw [UInt32.toNat_ofNat']; omega
 rw [rotl, UInt32.toNat_or, UInt32.toNat_shiftLeft, UInt32.toNat_shiftRight, h1, h2]; rfl
theorem addN_eq (x y : UInt32) : addN x.toNat y.toNat = (x + y).toNat := by rw [UInt32.toNat_add]; rfl
theorem notN_eq (x : UInt32) : notN x.toNat = (~~~x).toNat := by rw [UInt32.toNat_not]; rfl
theorem andN_eq (x y : UInt32) : Nat.land x.toNat y.toNat = (x &&& y).toNat := by rw [UInt32.toNat_and]; rfl
theorem orN_eq (x y : UInt32) : Nat.lor x.toNat y.toNat = (x ||| y).toNat := by rw [UInt32.toNat_or]; rfl
theorem xorN_eq (x y : UInt32) : Nat.xor x.toNat y.toNat = (x ^^^ y).toNat := by rw [UInt32.toNat_xor]; rfl
/-! The words. -/
def wordsN : Bs → Nat → List Nat → List Nat
 | b, 0, r => r
 | a :: b :: c :: d :: l, k + 1, r => frc (Nat.add (Nat.add (Nat.mul a.toNat 16777216) (Nat.mul b.toNat 65536)) (Nat.add (Nat.mul c.toNat 256) d.toNat)) fun w => wordsN l k (w :: r)
 | _, _ + 1, r => r
def moreN : Nat → List Nat → List Nat
 | 0, r => r
 | k + 1, r => frc (rotN (Nat.xor (Nat.xor (Nat.xor (r.getD 2 0) (r.getD 7 0)) (r.getD 13 0)) (r.getD 15 0)) 1) fun w => moreN k (w :: r)
theorem blkW_nat (b : Bs) (i : Nat) : (blkW b i).toNat = (b.getD (4 * i) 0).toNat * 16777216 + (b.getD (4 * i + 1) 0).toNat * 65536 + ((b.getD (4 * i + 2) 0).toNat * 256 + (b.getD (4 * i + 3) 0).toNat) := by
 unfold blkW byteW
 generalize b.getD (4 * i) 0 = p, b.getD (4 * i + 1) 0 = q, b.getD (4 * i + 2) 0 = u, b.getD (4 * i + 3) 0 = v
 have hp : p.toNat < 256 := p.toNat_lt
 have hq : q.toNat < 256 := q.toNat_lt
 have hu : u.toNat < 256 := u.toNat_lt
 have hv : v.toNat < 256 := v.toNat_lt
 have e24 : (UInt32.ofNat 24).toNat % 32 = 24 := rfl
 have e16 : (UInt32.ofNat 16).toNat % 32 = 16 := rfl
 have e8 : (UInt32.ofNat 8).toNat % 32 = 8 := rfl
 rw [UInt32.toNat_or, UInt32.toNat_or, UInt32.toNat_or, UInt32.toNat_shiftLeft, UInt32.toNat_shiftLeft, UInt32.toNat_shiftLeft, e24, e16, e8, UInt8.toNat_toUInt32, UInt8.toNat_toUInt32, UInt8.toNat_toUInt32, UInt8.toNat_toUInt32]
 rw [Nat.shiftLeft_eq, Nat.shiftLeft_eq, Nat.shiftLeft_eq]
 rw [Nat.mod_eq_of_lt (by omega : p.toNat * 2 ^ 24 < 2 ^ 32), Nat.mod_eq_of_lt (by omega : q.toNat * 2 ^ 16 < 2 ^ 32), Nat.mod_eq_of_lt (by omega : u.toNat * 2 ^ 8 < 2 ^ 32)]
 rw [Nat.or_assoc, Nat.or_assoc]
 have e1 := Nat.two_pow_add_eq_or_of_lt (i := 8) (b := v.toNat) (by omega) u.toNat
 have e2 := Nat.two_pow_add_eq_or_of_lt (i := 16) (b := 2 ^ 8 * u.toNat + v.toNat) (by omega) q.toNat
 have e3 := Nat.two_pow_add_eq_or_of_lt (i := 24) (b := 2 ^ 16 * q.toNat + (2 ^ 8 * u.toNat + v.toNat)) (by omega) p.toNat
 rw [Nat.mul_comm u.toNat, Nat.mul_comm q.toNat, Nat.mul_comm p.toNat, ← e1, ← e2, ← e3]
 omega
def revT (l : List UInt32) : List Nat := (l.map UInt32.toNat).reverse
theorem revT_snoc (l : List UInt32) (x : UInt32) : revT (l ++ [x]) = x.toNat :: revT l := by simp [revT]
theorem revT_getD (l : List UInt32) (j : Nat) (h : j < l.length) : (revT l).getD j 0 = (l.getD (l.length - 1 - j) 0).toNat := by
 have h1 : l.length - 1 - j < l.length := by omega
 simp [revT, h, h1, List.getElem?_reverse]
theorem wordsN_eq (b : Bs) (hb : b.length = 64) : ∀ (k j : Nat), k + j = 16 → wordsN (b.drop (4 * j)) k (revT (spreadL b j)) = revT (spreadL b 16) := by
 intro k
 induction k with
 | zero =>
   intro j h
   obtain rfl : j = 16 := by omega
   rw [wordsN]
 | succ k ih =>
   intro j h
   have hl : 4 * j + 4 ≤ b.length := by omega
   have hd : b.drop (4 * j) = b.getD (4 * j) 0 :: b.getD (4 * j + 1) 0 :: b.getD (4 * j + 2) 0 :: b.getD (4 * j + 3) 0 :: b.drop (4 * (j + 1)) := by
    have g : ∀ i, i < b.length → b.drop i = b.getD i 0 :: b.drop (i + 1) := fun i hi => by
     rw [List.drop_eq_getElem_cons hi]
     simp [hi]
    rw [g (4 * j) (by omega), g (4 * j + 1) (by omega), g (4 * j + 1 + 1) (by omega), g (4 * j + 1 + 1 + 1) (by omega), show 4 * (j + 1) = 4 * j + 1 + 1 + 1 + 1 by omega]
   rw [hd, wordsN, frc_eq]
   have := ih (j + 1) (by omega)
   rw [← this, spreadL, revT_snoc, if_pos (by omega : j < 16), blkW_nat]
   rfl
theorem moreN_eq (b : Bs) : ∀ (k j : Nat), 16 ≤ j → moreN k (revT (spreadL b j)) = revT (spreadL b (j + k)) := by
 intro k
 induction k with
 | zero => intro j _; rfl
 | succ k ih =>
   intro j hj
   have hl := spreadL_len b j
   rw [moreN, frc_eq, revT_getD _ _ (by omega), revT_getD _ _ (by omega), revT_getD _ _ (by omega), revT_getD _ _ (by omega), hl, xorN_eq, xorN_eq, xorN_eq, rotN_eq _ (by decide) (by decide)]
   rw [show j + (k + 1) = j + 1 + k by omega, ← ih (j + 1) (by omega), spreadL, revT_snoc, if_neg (by omega : ¬ j < 16), nextW]
   rw [show j - 1 - 2 = j - 3 by omega, show j - 1 - 7 = j - 8 by omega, show j - 1 - 13 = j - 14 by omega, show j - 1 - 15 = j - 16 by omega]
/-! The rounds. -/
def mixN (p b c d : Nat) : Nat :=
 match p with
 | 0 => Nat.add (Nat.lor (Nat.land b c) (Nat.land (notN b) d)) 0x5a827999
 | 1 => Nat.add (Nat.xor (Nat.xor b c) d) 0x6ed9eba1
 | 2 => Nat.add (Nat.lor (Nat.lor (Nat.land b c) (Nat.land b d)) (Nat.land c d)) 0x8f1bbcdc
 | _ => Nat.add (Nat.xor (Nat.xor b c) d) 0xca62c1d6
def goN {α : Type} : List Nat → Nat → Nat → Nat → Nat → Nat → Nat → (Nat → Nat → Nat → Nat → Nat → α) → α
 | [], _, a, b, c, d, e, k => k a b c d e
 | w :: ws, i, a, b, c, d, e, k => frc (Nat.mod (Nat.add (Nat.add (Nat.add (rotN a 5) (mixN (Nat.div i 20) b c d)) e) w) 4294967296) fun t => frc (rotN b 30) fun b' => frc (Nat.succ i) fun i' => goN ws i' t a b' c d k
theorem round_nat (w : List UInt32) (i : Nat) (s : W5) : (roundW w i s).a.toNat = Nat.mod (Nat.add (Nat.add (Nat.add (rotN s.a.toNat 5) (mixN (Nat.div i 20) s.b.toNat s.c.toNat s.d.toNat)) s.e.toNat) (w.getD i 0).toNat) 4294967296 := by
 have key : ∀ f k : UInt32, ∀ m : Nat, m = f.toNat + k.toNat → (rotl s.a 5 + f + s.e + k + w.getD i 0).toNat = Nat.mod (Nat.add (Nat.add (Nat.add (rotN s.a.toNat 5) m) s.e.toNat) (w.getD i 0).toNat) 4294967296 := by
  intro f k m hm
  rw [rotN_eq _ (by decide) (by decide), hm]
  simp only [UInt32.toNat_add]
  show _ = ((rotl s.a 5).toNat + (f.toNat + k.toNat) + s.e.toNat + (w.getD i 0).toNat) % 4294967296
  omega
 show (rotl s.a 5 + (mixW i s.b s.c s.d).1 + s.e + (mixW i s.b s.c s.d).2 + w.getD i 0).toNat = _
 refine key _ _ _ ?_
 have hd : Nat.div i 20 = i / 20 := rfl
 rw [hd]
 unfold mixW
 rcases e : i / 20 with _ | _ | _ | n
 · rw [if_pos rfl]
   show Nat.add (Nat.lor (Nat.land s.b.toNat s.c.toNat) (Nat.land (notN s.b.toNat) s.d.toNat)) 0x5a827999 = _
   rw [notN_eq, andN_eq, andN_eq, orN_eq]; rfl
 · rw [if_neg (by decide), if_pos rfl]
   show Nat.add (Nat.xor (Nat.xor s.b.toNat s.c.toNat) s.d.toNat) 0x6ed9eba1 = _
   rw [xorN_eq, xorN_eq]; rfl
 · rw [if_neg (by decide), if_neg (by decide), if_pos rfl]
   show Nat.add (Nat.lor (Nat.lor (Nat.land s.b.toNat s.c.toNat) (Nat.land s.b.toNat s.d.toNat)) (Nat.land s.c.toNat s.d.toNat)) 0x8f1bbcdc = _
   rw [andN_eq, andN_eq, andN_eq, orN_eq, orN_eq]; rfl
 · rw [if_neg (by omega), if_neg (by omega), if_neg (by omega)]
   show Nat.add (Nat.xor (Nat.xor s.b.toNat s.c.toNat) s.d.toNat) 0xca62c1d6 = _
   rw [xorN_eq, xorN_eq]; rfl
theorem goN_eq {α : Type} (w : List UInt32) (h : W5) (k : Nat → Nat → Nat → Nat → Nat → α) : ∀ (m i : Nat), m + i = w.length → goN ((w.drop i).map UInt32.toNat) i (roundsW w h i).a.toNat (roundsW w h i).b.toNat (roundsW w h i).c.toNat (roundsW w h i).d.toNat (roundsW w h i).e.toNat k =
    k (roundsW w h w.length).a.toNat (roundsW w h w.length).b.toNat (roundsW w h w.length).c.toNat (roundsW w h w.length).d.toNat (roundsW w h w.length).e.toNat := by
 intro m
 induction m with
 | zero => intro i e; rw [show i = w.length by omega, List.drop_length]; rfl
 | succ m ih =>
   intro i e
   have hi : i < w.length := by omega
   rw [List.drop_eq_getElem_cons hi, List.map_cons, goN, frc_eq, frc_eq, frc_eq, ← ih (i + 1) (by omega)]
   have h1 := round_nat w i (roundsW w h i)
   rw [show (w.getD i 0) = w[i] by simp [hi]] at h1
   rw [← h1, rotN_eq _ (by decide) (by decide)]
   rfl
/-! A block; a content. -/
def takeN {α : Type} (b : Bs) (a0 b0 c0 d0 e0 : Nat) (k : Nat → Nat → Nat → Nat → Nat → α) : α :=
 goN (moreN 64 (wordsN b 16 [])).reverse 0 a0 b0 c0 d0 e0 fun a b c d e => frc (addN a0 a) fun a => frc (addN b0 b) fun b => frc (addN c0 c) fun c => frc (addN d0 d) fun d => frc (addN e0 e) fun e => k a b c d e
theorem takeN_eq {α : Type} (b : Bs) (hb : b.length = 64) (h : W5) (k : Nat → Nat → Nat → Nat → Nat → α) : takeN b h.a.toNat h.b.toNat h.c.toNat h.d.toNat h.e.toNat k = k (takeW h b).a.toNat (takeW h b).b.toNat (takeW h b).c.toNat (takeW h b).d.toNat (takeW h b).e.toNat := by
 have h1 : wordsN b 16 [] = revT (spreadL b 16) := wordsN_eq b hb 16 0 rfl
 have h2 := moreN_eq b 64 16 (Nat.le_refl _)
 have h3 : (revT (spreadL b 80)).reverse = (spreadL b 80).map UInt32.toNat := by simp [revT]
 have h4 := goN_eq (α := α) (spreadL b 80) h (fun x y z u v => frc (addN h.a.toNat x) fun x => frc (addN h.b.toNat y) fun y => frc (addN h.c.toNat z) fun z => frc (addN h.d.toNat u) fun u => frc (addN h.e.toNat v) fun v => k x y z u v) 80 0 (by rw [spreadL_len])
 rw [List.drop_zero, spreadL_len] at h4
 rw [takeN, h1, h2, h3]
 refine h4.trans ?_
 simp only [frc_eq, addN_eq]
 rfl
def blksN {α : Type} : Nat → Bs → Nat → Nat → Nat → Nat → Nat → (Nat → Nat → Nat → Nat → Nat → α) → α
 | 0, _, a, b, c, d, e, k => k a b c d e
 | n + 1, p, a, b, c, d, e, k => takeN (p.take 64) a b c d e fun a b c d e => blksN n (p.drop 64) a b c d e k
theorem blksN_eq {α : Type} (p : Bs) (h : W5) (k : Nat → Nat → Nat → Nat → Nat → α) (N : Nat) (hp : p.length = 64 * N) : ∀ (m i : Nat), m + i = N → blksN m (p.drop (64 * i)) (sumsW p h i).a.toNat (sumsW p h i).b.toNat (sumsW p h i).c.toNat (sumsW p h i).d.toNat (sumsW p h i).e.toNat k =
    k (sumsW p h N).a.toNat (sumsW p h N).b.toNat (sumsW p h N).c.toNat (sumsW p h N).d.toNat (sumsW p h N).e.toNat := by
 intro m
 induction m with
 | zero => intro i e; rw [show i = N by omega]; rfl
 | succ m ih =>
   intro i e
   rw [blksN, takeN_eq _ (by rw [List.length_take, List.length_drop]; omega), List.drop_drop, show 64 * i + 64 = 64 * (i + 1) by omega]
   exact ih (i + 1) (by omega)
/-- A content's five words. -/
def sumN {α : Type} (s : Bs) (k : Nat → Nat → Nat → Nat → Nat → α) : α := frc (blocksN s) fun n => blksN n (padB s) 0x67452301 0xefcdab89 0x98badcfe 0x10325476 0xc3d2e1f0 k
theorem sumN_eq {α : Type} (s : Bs) (k : Nat → Nat → Nat → Nat → Nat → α) : sumN s k = k (sumsW (padB s) h0W (blocksN s)).a.toNat (sumsW (padB s) h0W (blocksN s)).b.toNat (sumsW (padB s) h0W (blocksN s)).c.toNat (sumsW (padB s) h0W (blocksN s)).d.toNat (sumsW (padB s) h0W (blocksN s)).e.toNat := by
 rw [sumN, frc_eq]
 exact blksN_eq (padB s) h0W k (blocksN s) (padB_len s) (blocksN s) 0 rfl
def hexN (x : Nat) : Bs := (List.range 8).map fun j => hexD.getD (Nat.land (Nat.shiftRight x (28 - 4 * j)) 15) 0
theorem hexN_eq (x : UInt32) : hexN x.toNat = hexW x := by
 unfold hexN hexW
 refine List.map_congr_left fun j hj => ?_
 have hj8 := List.mem_range.1 hj
 have h1 : (UInt32.ofNat (28 - 4 * j)).toNat % 32 = 28 - 4 * j := by rw [UInt32.toNat_ofNat']; omega
 rw [UInt32.toNat_and, UInt32.toNat_shiftRight, h1]; rfl
/-- The first words alone tell contents apart. -/
theorem hexW_inj {x y : UInt32} (h : hexW x = hexW y) : x = y := by
 have key : ∀ j, j < 8 → (x.toNat >>> (28 - 4 * j)) &&& 15 = (y.toNat >>> (28 - 4 * j)) &&& 15 := by
  intro j hj
  have h2 := congrArg (fun l => l.getD j 0) (by rw [← hexN_eq, ← hexN_eq] at h; exact h : hexN x.toNat = hexN y.toNat)
  simp only [hexN, List.getD_eq_getElem?_getD, List.getElem?_map, List.getElem?_range hj, Option.map_some, Option.getD_some] at h2
  have inj : ∀ a b : Fin 16, hexD.getD a.1 0 = hexD.getD b.1 0 → a = b := by decide
  have la : Nat.land (x.toNat.shiftRight (28 - 4 * j)) 15 < 16 := Nat.lt_of_le_of_lt (Nat.and_le_right (n := x.toNat.shiftRight (28 - 4 * j)) (m := 15)) (by decide)
  have lb : Nat.land (y.toNat.shiftRight (28 - 4 * j)) 15 < 16 := Nat.lt_of_le_of_lt (Nat.and_le_right (n := y.toNat.shiftRight (28 - 4 * j)) (m := 15)) (by decide)
  have := inj ⟨_, la⟩ ⟨_, lb⟩ (by simpa [List.getD_eq_getElem?_getD] using h2)
  exact congrArg Fin.val this
 have hx : x.toNat < 4294967296 := x.toNat_lt
 have hy : y.toNat < 4294967296 := y.toNat_lt
 have f : ∀ n k : Nat, (n >>> k) &&& 15 = n / 2 ^ k % 16 := fun n k => by
  rw [Nat.shiftRight_eq_div_pow, show (15 : Nat) = 2 ^ 4 - 1 from rfl, Nat.and_two_pow_sub_one_eq_mod]
 have k0 := key 0 (by decide); have k1 := key 1 (by decide); have k2 := key 2 (by decide); have k3 := key 3 (by decide)
 have k4 := key 4 (by decide); have k5 := key 5 (by decide); have k6 := key 6 (by decide); have k7 := key 7 (by decide)
 simp only [f] at k0 k1 k2 k3 k4 k5 k6 k7
 apply UInt32.toNat_inj.1
 omega
theorem first_ne {s t : Bs} (h : (sumN s fun a _ _ _ _ => a) ≠ (sumN t fun a _ _ _ _ => a)) : shaB s ≠ shaB t := fun e => by
 rw [sumN_eq, sumN_eq] at h
 apply h
 have e2 : (shaB s).take 8 = (shaB t).take 8 := by rw [e]
 have f : ∀ u : Bs, (shaB u).take 8 = hexW (sumsW (padB u) h0W (blocksN u)).a := fun u => by
  rw [shaB, W5.list, List.flatMap_cons, List.take_left' (hexW_len _)]
 rw [f, f] at e2
 rw [hexW_inj e2]
section
theorem decN_3 {n : Nat} (h : n < 1000) : (decN n).length ≤ 3 := by
 rw [decN]
 split
 · simp
 · rw [decN]
   split
   · simp
   · rw [decN, if_pos (by omega)]; simp
theorem rowText_le {r : Rw} (hk : r.key.length < 1000) (hv : r.val.length < 1000) : (rowText r).length ≤ 8 + r.key.length + r.val.length := by
 have h1 := decN_3 hk
 have h2 := decN_3 hv
 unfold rowText
 split <;> simp <;> omega
theorem textOf_one {r : Rw} (hk : r.key.length < 1000) (hv : r.val.length < 1000) : (textOf [r]).length ≤ 8 + r.key.length + r.val.length := by
 have := rowText_le hk hv
 simpa [textOf] using this
theorem textOf_two {r q : Rw} (hk : r.key.length < 1000) (hv : r.val.length < 1000) (hk2 : q.key.length < 1000) (hv2 : q.val.length < 1000) : (textOf [r, q]).length ≤ 16 + r.key.length + r.val.length + (q.key.length + q.val.length) := by
 have h1 := rowText_le hk hv
 have h2 := rowText_le hk2 hv2
 simp [textOf]
 omega
theorem getB_nil (k : Bs) : getB [] k = [] := by simp [getB, mlook, bytesV, vS]
section
variable (a b x y m : Bs)
def k81 : Ks := doR [] [⟨98 :: a, 102 :: x, false⟩]
def k82 : Ks := doR (k81 a x) [⟨98 :: b, 100 :: (a ++ m), false⟩]
def k83 : Ks := doR (k82 a b x m) [⟨98 :: b, 102 :: y, false⟩, ⟨98 :: a, [], true⟩]
theorem k81_nd : ((k81 a x).map (·.1)).Nodup := doR_nd _ List.nodup_nil
theorem k82_nd : ((k82 a b x m).map (·.1)).Nodup := doR_nd _ (k81_nd a x)
theorem k81_get (k : Bs) : getB (k81 a x) k = if 98 :: a = k then 102 :: x else [] := by
 rw [show k81 a x = doOne [] ⟨98 :: a, 102 :: x, false⟩ from rfl, getB_doOne (K := []) List.nodup_nil, getB_nil]; rfl
theorem k82_get (k : Bs) : getB (k82 a b x m) k = if 98 :: b = k then 100 :: (a ++ m) else getB (k81 a x) k := by
 rw [show k82 a b x m = doOne (k81 a x) ⟨98 :: b, 100 :: (a ++ m), false⟩ from rfl, getB_doOne (k81_nd a x)]; rfl
theorem k83_get (k : Bs) : getB (k83 a b x y m) k = if 98 :: a = k then [] else if 98 :: b = k then 102 :: y else getB (k82 a b x m) k := by
 rw [show k83 a b x y m = doOne (doOne (k82 a b x m) ⟨98 :: b, 102 :: y, false⟩) ⟨98 :: a, [], true⟩ from rfl, getB_doOne (doOne_nd (k82_nd a b x m) _), getB_doOne (k82_nd a b x m)]; rfl
theorem k82_nms {n : Bs} : n ∈ nmsB (k82 a b x m) ↔ n = a ∨ n = b := by
 rw [nms_mem, show k82 a b x m = doOne (doOne [] ⟨98 :: a, 102 :: x, false⟩) ⟨98 :: b, 100 :: (a ++ m), false⟩ from rfl, key_doOne (K := doOne [] _) (doOne_nd (K := []) List.nodup_nil _), key_doOne (K := []) List.nodup_nil]
 by_cases e : b = n
 · simp [e]
 · by_cases e2 : a = n
   · simp [e, e2]
   · simp [e, e2, Ne.symm e, Ne.symm e2]
theorem k83_nms (hab : a ≠ b) {n : Bs} : n ∈ nmsB (k83 a b x y m) ↔ n = b := by
 rw [nms_mem, show k83 a b x y m = doOne (doOne (k82 a b x m) ⟨98 :: b, 102 :: y, false⟩) ⟨98 :: a, [], true⟩ from rfl, key_doOne (doOne_nd (k82_nd a b x m) _), key_doOne (k82_nd a b x m), ← nms_mem, k82_nms]
 by_cases e : a = n
 · subst e; simp [hab]
 · by_cases e2 : b = n
   · subst e2; simp [hab]
   · simp [e, e2, Ne.symm e, Ne.symm e2]
end
structure R8 (a b x t : Bs) : Prop where
 ab : a ≠ b
 al : a.length = 40
 bl : b.length = 40
 x1 : 60 ≤ x.length
 t1 : t.length < 16
 xt : x.length + t.length ≤ 300
variable {a b x t : Bs} (r : R8 a b x t)
theorem r8_row1 : rowB [] a x [] = ⟨98 :: a, 102 :: x, false⟩ := rowB_none (no_ctn (getB_nil _) 3)
include r
theorem R8.row2 : rowB (k81 a x) b (x ++ t) a = ⟨98 :: b, 100 :: (a ++ makeB x (x ++ t)), false⟩ := by
 have h : getB (k81 a x) (98 :: a) = 102 :: x := by rw [k81_get, if_pos rfl]
 exact rowB_pre (full_ctn h 3) r.al (by rw [full_dep h]; decide) (by rw [full_sta h]; exact decide_eq_false r.ab) r.x1 r.t1 r.xt
theorem R8.get2a : getB (k82 a b x (makeB x (x ++ t))) (98 :: a) = 102 :: x := by
 rw [k82_get, if_neg (by simpa using fun e => r.ab e.symm), k81_get, if_pos rfl]
omit r in
theorem r8_get2b : getB (k82 a b x (makeB x (x ++ t))) (98 :: b) = 100 :: (a ++ makeB x (x ++ t)) := by rw [k82_get, if_pos rfl]
theorem R8.ctn2 : ctnB (k82 a b x (makeB x (x ++ t))) b = some (x ++ t) := by
 have hx := r.xt
 rw [ctnB, del_ctn r.al r8_get2b, full_ctn r.get2a]
 exact apply_make (by simp; omega) (by omega)
theorem R8.drop : dropB (k82 a b x (makeB x (x ++ t))) a = [⟨98 :: b, 102 :: (x ++ t), false⟩, ⟨98 :: a, [], true⟩] := by
 have hk : (mlook (k82 a b x (makeB x (x ++ t))) (98 :: a)).isSome = true := mlook_isSome.2 (nms_mem.1 ((k82_nms a b x _).2 (.inl rfl)))
 rw [dropB, if_pos hk, dropF, flat_only (b := b) (nms_nodup (k82_nd a b x _)) ((k82_nms a b x _).2 (.inr rfl))]
 · rw [dropO, del_based r.al r8_get2b, r.ctn2]
   simp [dropG, r.ab.symm]
 · intro n hn hb
   rcases (k82_nms a b x _).1 hn with rfl | rfl
   · rw [dropO, full_based r.get2a]; rfl
   · exact absurd rfl hb
theorem R8.get3 : getB (k83 a b x (x ++ t) (makeB x (x ++ t))) (98 :: b) = 102 :: (x ++ t) := by
 rw [k83_get, if_neg (by simpa using r.ab), if_pos rfl]
theorem R8.check (hb : shaB (x ++ t) = b) : checkB (k83 a b x (x ++ t) (makeB x (x ++ t))) = true := by
 unfold checkB
 rw [List.all_eq_true]
 intro n hn
 have := (k83_nms a b x _ _ r.ab).1 hn
 subst this
 rw [show ctnB _ n = _ from full_ctn r.get3 3]
 exact decide_eq_true (congrArg some hb)
omit r
def x81 : Bs := ([97, 32, 116, 101, 120, 116, 32, 116, 104, 97, 116, 32, 105, 115, 32, 108, 111, 110, 103, 32, 101, 110, 111, 117, 103, 104, 32, 116, 111, 32, 98, 101, 32, 119, 111, 114, 116, 104, 32, 97, 32, 100, 101, 108, 116, 97, 44, 32, 105, 102, 32, 97]).append [110, 111, 116, 104, 101, 114, 32, 111, 110, 101, 32, 105, 115, 32, 108, 105, 107, 101, 32, 105, 116, 44, 32, 97, 115, 32, 116, 104, 101, 32, 110, 101, 120, 116, 32, 111, 110, 101, 32, 105, 115, 59, 32, 105, 116, 32, 103, 111, 101, 115, 32, 111, 110]
theorem x81_len : x81.length = 105 := by decide +kernel
theorem r8_one : R8 (shaB x81) (shaB (x81 ++ [33])) x81 [33] :=
 ⟨first_ne (by decide +kernel), shaB_len _, shaB_len _, by rw [x81_len]; decide, by decide, by rw [x81_len]; decide⟩
end
section
section
variable {r : Option Nat} {P : Program} {n : Nat} {L : Loc} {Hs : List HP} {Q : Out} {c : Code}
def gotoO {ι : Type} (n : Nat) (Li : ι → Loc) (Hi : ι → List HP) (lt : ι → Prop) (l : Nat) (Q : Out) : Out
 | .goto l' => if Nat.beq l' l then fun a M h => ∃ j, lt j ∧ St n (Li j) (Hi j) a M h else fun _ _ _ => False
 | e => Q e
theorem wc_mono {c : Code} {Q1 Q2 : Out} (hq : ∀ e a M h, Q1 e a M h → Q2 e a M h) (h : wc r P n c L Hs Q1) : wc r P n c L Hs Q2 := fun a M m s w hf d t =>
 wpIn_mono (h a M m s w hf d t) fun e a' w' ⟨M', h', l, d', t', q⟩ => ⟨M', h', l, d', t', hq _ _ _ _ q⟩
theorem wc_gscope {ι : Type} {body Y : Code} {l : Nat} (Li : ι → Loc) (Hi : ι → List HP) (μ : ι → Nat) (hfl : findLabel body l = some Y)
    (round : ∀ i, wc r P n Y (Li i) (Hi i) (gotoO n Li Hi (fun j => μ j < μ i) l Q))
    (start : wc r P n body L Hs (gotoO n Li Hi (fun _ => True) l Q)) : wc r P n (.scope body) L Hs Q := by
 intro a M m s w hf d t b k cs hro hb hr
 have h0 : (lone (b.atR a (.code (.scope body) :: k)) cs w).fenced P (WF r) := fenced_calm hb hr rfl
 have hgo : gotoIn l (.inScope body :: k) = some (.code Y :: .inScope body :: k) := by simp [gotoIn, hfl]
 -- what comes of the ends of a piece of code within the scope
 have key : ∀ (u : Nat) (i : ι), μ i = u → ∀ (a : Act) (M : Kn) (m : Res) (w : World), St n (Li i) (Hi i) a M m → m.dj hf → Sat w M (m.add hf) →
     ∃ e a' w', lift M hf Q e a' w' ∧ ArrivesIn (Machine.fenced P (WF r)) P (lone (b.atR a (.code Y :: .inScope body :: k)) cs w) b k cs e a' w' := by
  intro u
  induction u using Nat.strongRecOn with
  | _ u ih =>
    intro i hi a M m w s d t
    obtain ⟨e, a₁, w₁, ⟨M', h', le, d', t', q⟩, harr⟩ := round i a M m s w hf d t b (.inScope body :: k) cs hro hb hr
    cases e with
    | normal => exact ⟨.normal, a₁, w₁, ⟨M', h', le, d', t', q⟩, StepsIn.trans harr (.one (fenced_calm hb hr rfl) stepR_inScope)⟩
    | exit id =>
      have hx : exitTo id (.inScope body :: k) = exitTo id k := by simp [exitTo]
      exact ⟨.exit id, a₁, w₁, ⟨M', h', le, d', t', q⟩, fun k' hk => harr.1 k' (by rw [hx]; exact hk), fun hr' hk => harr.2 hr' (by rw [hx]; exact hk)⟩
    | goto l' =>
      by_cases hl : l' = l
      · subst hl
        have hbq : Nat.beq l' l' = true := by simp
        simp only [gotoO, hbq, if_true] at q
        obtain ⟨j, hj, sj⟩ := q
        obtain ⟨e₂, a₂, w₂, hq₂, harr₂⟩ := ih (μ j) (hi ▸ hj) j rfl a₁ M' h' w₁ sj d' t'
        exact ⟨e₂, a₂, w₂, lift_le le hq₂, .of_steps (harr.1 _ hgo) harr₂⟩
      · have := nbeq hl
        simp only [gotoO, this, Bool.false_eq_true, if_false] at q
    | ret => exact ⟨_, a₁, w₁, ⟨M', h', le, d', t', q⟩, harr⟩
    | panic ch => exact ⟨_, a₁, w₁, ⟨M', h', le, d', t', q⟩, harr⟩
    | outgrown => exact ⟨_, a₁, w₁, ⟨M', h', le, d', t', q⟩, harr⟩
 obtain ⟨e, a₁, w₁, ⟨M', h', le, d', t', q⟩, harr⟩ := start a M m s w hf d t b (.inScope body :: k) cs hro hb hr
 cases e with
 | normal => exact ⟨.normal, a₁, w₁, ⟨M', h', le, d', t', q⟩, .head h0 stepR_scope (StepsIn.trans harr (.one (fenced_calm hb hr rfl) stepR_inScope))⟩
 | exit id =>
   have hx : exitTo id (.inScope body :: k) = exitTo id k := by simp [exitTo]
   exact ⟨.exit id, a₁, w₁, ⟨M', h', le, d', t', q⟩, fun k' hk => .head h0 stepR_scope (harr.1 k' (by rw [hx]; exact hk)),
    fun hr' hk => let ⟨k₁, h1, h2⟩ := harr.2 hr' (by rw [hx]; exact hk); ⟨k₁, h1, .head h0 stepR_scope h2⟩⟩
 | goto l' =>
   by_cases hl : l' = l
   · subst hl
     have hbq : Nat.beq l' l' = true := by simp
     simp only [gotoO, hbq, if_true] at q
     obtain ⟨j, _, sj⟩ := q
     obtain ⟨e₂, a₂, w₂, hq₂, harr₂⟩ := key (μ j) j rfl a₁ M' h' w₁ sj d' t'
     exact ⟨e₂, a₂, w₂, lift_le le hq₂, .of_steps (.head h0 stepR_scope (harr.1 _ hgo)) harr₂⟩
   · have := nbeq hl
     simp only [gotoO, this, Bool.false_eq_true, if_false] at q
 | ret => exact ⟨_, a₁, w₁, ⟨M', h', le, d', t', q⟩, .of_steps (.one h0 stepR_scope) harr⟩
 | panic ch => exact ⟨_, a₁, w₁, ⟨M', h', le, d', t', q⟩, .of_steps (.one h0 stepR_scope) harr⟩
 | outgrown => exact ⟨_, a₁, w₁, ⟨M', h', le, d', t', q⟩, .of_steps (.one h0 stepR_scope) harr⟩
/-- A scope whose label stands behind its first part. -/
theorem p_gscope {ι : Type} (Li : ι → Loc) (Hi : ι → List HP) (μ : ι → Nat) (l : Nat) (h : c = .scope (bB c)) (hb : bB c = .seq (sA (bB c)) (.seq (.label l) (sB (sB (bB c))))) (hfl : findLabel (bB c) l = some (.seq .skip (sB (sB (bB c)))))
    (round : ∀ i, wc r P n (sB (sB (bB c))) (Li i) (Hi i) (gotoO n Li Hi (fun j => μ j < μ i) l Q))
    (start : wc r P n (sA (bB c)) L Hs (invO n Li Hi (fun _ => True) (scopeO Q))) : wc r P n c L Hs Q := by
 rw [h]
 refine wc_gscope Li Hi μ hfl (fun i => wc_seq (wc_skip (to_then (round i)))) ?_
 rw [hb]
 refine wc_seq ?_
 refine wc_mono (fun e a M x q => ?_) start
 cases e with
 | normal =>
   obtain ⟨i, _, s⟩ := q
   have h1 : wc r P n (.seq (.label l) (sB (sB (bB c)))) (Li i) (Hi i) (gotoO n Li Hi (fun _ => True) l Q) := wc_seq (wc_label (to_then (wc_mono (fun e a M x q => by
    cases e with
    | goto l' =>
      simp only [gotoO] at q ⊢
      split at q
      · rename_i e; simp only [e, if_true]; obtain ⟨j, _, s⟩ := q; exact ⟨j, trivial, s⟩
      · exact q.elim
    | _ => exact q) (round i))))
   exact h1 a M x s
 | goto l' => exact q.elim
 | _ => exact q
theorem p_goto (l : Nat) (h : c = .goto l) (k : tw n Q (.goto l) L Hs) : wc r P n c L Hs Q := by rw [h]; exact wc_goto k
theorem to_inv_goto {ι : Type} {Li : ι → Loc} {Hi : ι → List HP} {lt : ι → Prop} {l : Nat} (h : tw n Q (.goto l) L Hs) : tw n (invO n Li Hi lt Q) (.goto l) L Hs := h
theorem to_goto {ι : Type} {Li : ι → Loc} {Hi : ι → List HP} {lt : ι → Prop} {l : Nat} (j : ι) (hj : lt j) (hc : Cov L (Li j)) (e : Ent Hs (Hi j)) : tw n (gotoO n Li Hi lt l Q) (.goto l) L Hs := fun a M h s => by
 have hbq : Nat.beq l l = true := by simp
 simp only [gotoO, hbq, if_true]
 exact ⟨j, hj, s.ent hc e⟩
theorem t_g_ret {ι : Type} {Li : ι → Loc} {Hi : ι → List HP} {lt : ι → Prop} {l : Nat} (h : tw n Q .ret L Hs) : tw n (gotoO n Li Hi lt l Q) .ret L Hs := h
theorem an_yield {α : Type} {y : Value} {enc : α → List Value} {ok : List α → α → Prop} {J Jx : List α → HP} (ys : YSpec P y enc ok J Jx) (pre : List α) (x : α) (hok : ok pre x) {K : Loc → List HP → Prop} {ops : Array Oper} {A : List HP} {ty : TypeId} {d : Nat} {pos : String} {after : Array Edge} {f : Operand} {args : Array Operand} {ts : Array TypeId} (hf : ev L f = some y) (ha : evs L args.toList = some (enc x)) (hd : Nat.blt d n = true)
    {Rs : List HP} [hp : PickC (J pre) Hs Rs] (kt : K ((d, .bool true) :: L) (J (pre ++ [x]) :: Rs)) (kf : K ((d, .bool false) :: L) (Jx (pre ++ [x]) :: Rs)) :
    AnOp r P n ops A ⟨some d, .call ⟨.value f, args, ts⟩, ty, pos, after, none⟩ K L Hs := by
 haveI : PicksC [J pre] Hs Rs := ⟨.cons hp.get .nil⟩
 refine an_opT (opt_yield ys pre x hok hf ha) (by simpa [dstOk] using hd) (fun b _ => ?_)
 cases b
 · exact kf
 · exact kt
end
end
section
set_option maxRecDepth 100000
def basV (x : Option (Bs × Bs)) : Value := .tuple #[vS (x.getD ([], [])).1, vS (x.getD ([], [])).2, vB x.isSome]
theorem zb97ret3 {G : Prop} (h : G := by
    rw [if_pos (by first | (left; omega) | (right; exact fun h => absurd ((e100 _).2 h) (by assumption)))]
    exact fin_ret () (vs := [_, _, _]) (Cs := []) rfl (.tmp rfl (.tmp rfl (.tmp rfl .nil))) rfl trivial ent_pick) : G := h
theorem blob_based_sp (s p : Nat) (J : Jn) (K : Ks) (hK : TxtK K) (n : Bs) (hn : n.length ≤ 1099511627776) : Sp1 Tryz.prog 97 [.pointer (some ⟨s, 0, none⟩), vS n] [IsS s p J K] (basV (basedB K n)) [IsS s p J K] := by
 have e100 : ∀ c : UInt8, ((c.toNat : Int) = 100) ↔ c = 100 := fun c => u8_eq c 100 (by decide)
 obtain ⟨hv, hvl⟩ := hK.get (98 :: n)
 unfold basedB
 obtain ⟨v, hvv⟩ : ∃ v, v = getB K (98 :: n) := ⟨_, rfl⟩
 rw [← hvv] at hv hvl ⊢
 have hG := store_Get_sp s p J K (98 :: n)
 rw [hv] at hG
 refine Sp.body (n := 28) Tryz.call97 Tryz.func97 rfl rfl rfl ?_
 refine Qc (k:=Qv (k:=Vv (k:=Wq (Qc (k:=Qv (k:=?_))))))
 refine wo_pv (pv_cat rfl rfl (by simp only [List.length_singleton]; omega)) rfl ?_
 refine r_call1 hG rfl rfl rfl ?_
 refine Vv (k:=?_)
 refine wo_pv (pv_extract (v := vS v) rfl rfl) rfl ?_
 refine wo_pv (pv_extract (v := vB (mlook K (98 :: n)).isSome) rfl rfl) rfl ?_
 refine Qv (k:=Wq (Za (k:=Qc (k:=Qv (k:=Qv (k:=Gi 3 (t:=fun h19 => ?_) (f:=fun h19 => ?_)))))))
 ·
  refine O1 (k:=O1 (k:=O1 (k:=P1 (k:=Wq (Z1 (k:=Qc (k:=Qv (k:=Vv (k:=Wq ?_)))))))))
  refine Zt (k:=Va ?_)
  exact zb97ret3
 ·
  refine J0 (k:=I0 (k:=?_))
  refine wo_pv (pv_indexm (m := 0) Tryz.underlying9 rfl rfl rfl (by omega)) rfl ?_
  refine J0 (k:=P0 (k:=Wq (Zi (t:=fun h23 => ?_) (f:=fun h23 => ?_))))
  ·
   refine Qc (k:=Qv (k:=Vv (k:=Wq (Zt (k:=Va ?_)))))
   exact zb97ret3
  ·
   refine Zk (k:=Ya (Za (k:=Dw [] (k:=?_))))
   refine Dv 0 (k:=?_)
   refine d_first 1 rfl rfl rfl (by kernel_rfl) (by kernel_rfl) (tl_pv (pv_slice_inm (m := 1) (o := 41) Tryz.underlying9 rfl rfl rfl rfl rfl (by omega) (by omega))) ?_
   refine Dv 2 (k:=?_)
   refine d_first 3 rfl rfl rfl (by kernel_rfl) (by kernel_rfl) (tl_pv (pv_slice_fromm (m := 41) Tryz.underlying9 rfl rfl rfl (by omega))) ?_
   refine Dv 4 (k:=Dv 5 (k:=Dv 6 (k:=Dd (k:=Ya (Zt (k:=?_))))))
   rw [if_neg (by rintro (h | h); omega; exact h ((e100 _).1 (by first | assumption | (apply Classical.not_not.1; assumption))))]
   exact fin_ret () (vs := [_, _, _]) (Cs := []) rfl (.tmp rfl (.tmp rfl (.tmp rfl .nil))) rfl trivial ent_pick
theorem zb40ret7 {G : Prop} (h : G := by
    rw [if_pos (by first | exact .inl h43 | exact .inr (fun h => absurd ((e102 _).2 h) (by assumption)))] at hap2
    rw [appD_none] at hap2
    rw [← hap2]
    exact fin_ret () (vs := [_, _]) (Cs := []) rfl (.tmp rfl (.tmp rfl .nil)) rfl trivial ent_pick) : G := h
theorem zb40join5 {G : Prop} (h : G := by
    first
    | (have e : ctnR K (3 - ds.length) n = fullB K n := by
         cases h : 3 - ds.length with
         | zero => rfl
         | succ k => rw [ctnR, ← hx]
       exact to_inv ⟨(), by rw [← e]; exact hap⟩ trivial ⟨rfl, rfl, rfl, trivial⟩ ent_pick)
    | (have e : ctnR K (3 - ds.length) n = fullB K n := by rw [show 3 - ds.length = 0 by omega]; rfl
       exact to_inv ⟨(), by rw [← e]; exact hap⟩ trivial ⟨rfl, rfl, rfl, trivial⟩ ent_pick)) : G := h
set_option maxHeartbeats 4000000 in
theorem blob_Content_sp (s p : Nat) (J : Jn) (K : Ks) (hK : TxtK K) (n0 : Bs) (hn0 : n0.length ≤ 1099511627776) : Sp1 Tryz.prog 40 [.pointer (some ⟨s, 0, none⟩), vS n0] [IsS s p J K] (apV (ctnB K n0)) [IsS s p J K] := by
 have e102 : ∀ c : UInt8, ((c.toNat : Int) = 102) ↔ c = 102 := fun c => u8_eq c 102 (by decide)
 refine Sp.body (n := 70) Tryz.call40 Tryz.func40 rfl rfl rfl ?_
 refine Qc (k:=Qv (k:=Wq ?_))
 refine p_gscope (fun (i : { x : (Option Addr × Nat) × List Bs × Bs // x.2.1.length ≤ 3 ∧ x.2.2.length ≤ 1099511627776 ∧ (∀ d ∈ x.2.1, d.length ≤ 1073741824) ∧ appD x.2.1 (ctnR K (3 - x.2.1.length) x.2.2) = ctnB K n0 }) => [(0, .pointer (some ⟨s, 0, none⟩)), (1, vS i.1.2.2), (6, .slice i.1.1.1 i.1.2.1.length i.1.1.2)]) (fun (i : { x : (Option Addr × Nat) × List Bs × Bs // x.2.1.length ≤ 3 ∧ x.2.2.length ≤ 1099511627776 ∧ (∀ d ∈ x.2.1, d.length ≤ 1073741824) ∧ appD x.2.1 (ctnR K (3 - x.2.1.length) x.2.2) = ctnB K n0 }) => [Row 9 1 (.slice i.1.1.1 i.1.2.1.length i.1.1.2) i.1.2.1.length (i.1.2.1.map vS), IsS s p J K]) (fun (i : { x : (Option Addr × Nat) × List Bs × Bs // x.2.1.length ≤ 3 ∧ x.2.2.length ≤ 1099511627776 ∧ (∀ d ∈ x.2.1, d.length ≤ 1073741824) ∧ appD x.2.1 (ctnR K (3 - x.2.1.length) x.2.2) = ctnB K n0 }) => 3 - i.1.2.1.length) 0 rfl rfl rfl (fun i => ?_) ?_
 ·
  obtain ⟨⟨⟨da, dc⟩, ds, n⟩, hds, hn, hdl, hap⟩ := i
  dsimp only at hds hn hdl hap ⊢
  obtain ⟨x, hx⟩ : ∃ x, x = basedB K n := ⟨_, rfl⟩
  have hB := blob_based_sp s p J K hK n hn
  have hxl : ∀ b d, x = some (b, d) → b.length = 40 ∧ d.length ≤ 1073741824 := fun b d e => basedB_len hK (by rw [← hx]; exact e)
  rw [← hx] at hB
  try dsimp only
  refine Qc (k:=Qv (k:=?_))
  refine r_call1 hB rfl rfl rfl ?_
  refine Vv (k:=?_)
  refine wo_pv (pv_extract (v := vS (x.getD ([], [])).1) rfl rfl) rfl ?_
  refine wo_pv (pv_extract (v := vS (x.getD ([], [])).2) rfl rfl) rfl ?_
  refine wo_pv (pv_extract (v := vB x.isSome) rfl rfl) rfl ?_
  refine Qv (k:=Vv (k:=Wq ?_))
  refine p_cut (fun (i : { u : Unit // appD ds (fullB K n) = ctnB K n0 }) => [(0, .pointer (some ⟨s, 0, none⟩)), (1, vS n), (6, .slice da ds.length dc)]) (fun (i : { u : Unit // appD ds (fullB K n) = ctnB K n0 }) => [Row 9 1 (.slice da ds.length dc) ds.length (ds.map vS), IsS s p J K]) rfl (fun i => ?_) ?_
  ·
   obtain ⟨u, hap2⟩ := i
   obtain ⟨hv, hvl⟩ := hK.get (98 :: n)
   unfold fullB at hap2
   obtain ⟨v, hvv⟩ : ∃ v, v = getB K (98 :: n) := ⟨_, rfl⟩
   rw [← hvv] at hv hvl hap2
   have hG := store_Get_sp s p J K (98 :: n)
   rw [hv] at hG
   try dsimp only
   refine Qc (k:=Qv (k:=?_))
   refine wo_pv (pv_cat rfl rfl (by simp only [List.length_singleton]; omega)) rfl ?_
   refine r_call1 hG rfl rfl rfl ?_
   refine Vv (k:=?_)
   refine wo_pv (pv_extract (v := vS v) rfl rfl) rfl ?_
   refine wo_pv (pv_extract (v := vB (mlook K (98 :: n)).isSome) rfl rfl) rfl ?_
   refine Qv (k:=Wq (Za (k:=Qc (k:=Qv (k:=Vv (k:=Gi 2 (t:=fun h43 => ?_) (f:=fun h43 => ?_)))))))
   ·
    refine O1 (k:=O1 (k:=O1 (k:=P1 (k:=Wq (Z1 (k:=Qc (k:=Qv (k:=Wq (Zt (k:=?_))))))))))
    refine Va ?_
    refine t_g_ret ?_
    exact zb40ret7
   ·
    have hv0 : 0 < v.length := List.length_pos_iff.2 h43
    refine J0 (k:=I0 (k:=?_))
    refine wo_pv (pv_indexm (m := 0) Tryz.underlying9 rfl rfl rfl (by omega)) rfl ?_
    refine J0 (k:=P0 (k:=Wq (Zi (t:=fun h47 => ?_) (f:=fun h47 => ?_))))
    ·
     refine Qc (k:=Qv (k:=Wq (Zt (k:=Va ?_))))
     refine t_g_ret ?_
     exact zb40ret7
    ·
     refine Zk (k:=Ya (Za (k:=?_)))
     have hne : v ≠ [] := by assumption
     have hv0 : 0 < v.length := List.length_pos_iff.2 hne
     rw [if_neg (by rintro (h | h); exact hne h; exact h ((e102 _).1 (by first | assumption | (apply Classical.not_not.1; assumption))))] at hap2
     refine Zr (k:=Vv (k:=?_))
     refine wo_pv (pv_slice_fromm (m := 1) Tryz.underlying9 rfl rfl rfl (by omega)) rfl ?_
     refine Vv (k:=Wq (Za (k:=Qc (k:=Qv (k:=Qv (k:=Wq (Zb (k:=?_))))))))
     refine p_loop (fun (i : { x : Nat × Bs // x.1 ≤ ds.length ∧ x.2.length ≤ 1073741824 ∧ appD (ds.take x.1) (some x.2) = ctnB K n0 }) => [(0, .pointer (some ⟨s, 0, none⟩)), (6, .slice da ds.length dc), (12, vS i.1.2), (13, vI ((i.1.1 : Int) - 1))]) (fun (i : { x : Nat × Bs // x.1 ≤ ds.length ∧ x.2.length ≤ 1073741824 ∧ appD (ds.take x.1) (some x.2) = ctnB K n0 }) => [Row 9 1 (.slice da ds.length dc) ds.length (ds.map vS), IsS s p J K]) (fun (i : { x : Nat × Bs // x.1 ≤ ds.length ∧ x.2.length ≤ 1073741824 ∧ appD (ds.take x.1) (some x.2) = ctnB K n0 }) => i.1.1) rfl (⟨(ds.length, v.drop 1), Nat.le_refl _, by dsimp only; rw [List.length_drop]; omega, by dsimp only; rw [List.take_length]; exact hap2⟩) ?_ ?_ (fun i => ?_)
     · exact ⟨rfl, rfl, rfl, rfl, trivial⟩
     ·
      exact ent_pick
     obtain ⟨⟨j, out⟩, hj, ho, haj⟩ := i
     dsimp only at hj ho haj ⊢
     try dsimp only
     refine Za (k:=Qc (k:=Qv (k:=Wq (Zi (t:=fun h54 => ?_) (f:=fun h54 => ?_)))))
     ·
      refine Zk (k:=Ya (Za (k:=Zb (k:=Za (k:=?_)))))
      have hj1 : 0 < j := by omega
      have hjd : ds.getD (j - 1) [] ∈ ds := by
       have : ds.getD (j - 1) [] = ds[j - 1] := by simp [show j - 1 < ds.length by omega]
       rw [this]; exact List.getElem_mem _
      have hdz := hdl _ hjd
      have htk : ds.take j = ds.take (j - 1) ++ [ds.getD (j - 1) []] := by
       have := List.take_succ_eq_append_getElem (l := ds) (i := j - 1) (by omega)
       rw [show j - 1 + 1 = j by omega] at this
       rw [this]; simp [show j - 1 < ds.length by omega]
      rw [htk, appD_snoc, Option.bind_some] at haj
      obtain ⟨y, hy⟩ : ∃ y, y = applyB out (ds.getD (j - 1) []) := ⟨_, rfl⟩
      have hA := delta_Apply_sp out (ds.getD (j - 1) []) (by omega) (by omega)
      have hyl : ∀ t, y = some t → t.length ≤ 300 := fun t e => applyB_len (by rw [← hy]; exact e)
      rw [← hy] at hA haj
      refine Zr (k:=Qv (k:=Vv (k:=?_)))
      refine r_elemAddr (m := j - 1) (sz := 1) Tryz.underlying27 ti9 rfl rfl rfl (by omega) (by omega) (by rw [List.length_map]; omega) (Nat.mul_one _) rfl ?_
      refine Yl (hv:=by exact get_mapD [] (m := j - 1) (by omega)) (k:=?_)
      refine r_callF hA rfl rfl rfl ?_
      refine Vv (k:=?_)
      refine wo_pv (pv_extract (v := vS (y.getD [])) rfl rfl) rfl ?_
      refine wo_pv (pv_extract (v := vB y.isSome) rfl rfl) rfl ?_
      refine Qv (k:=Wq (Za (k:=Qc (k:=Qv (k:=Wq (Zi (t:=fun h67 => ?_) (f:=fun h67 => ?_)))))))
      ·
       obtain rfl : y = none := by cases y with | none => rfl | some z => simp at h67
       rw [appD_none] at haj
       refine Qc (k:=Qv (k:=Wq (Zt (k:=Va (Vb (Va (Vi (Vb (Va ?_)))))))))
       refine t_g_ret ?_
       rw [← haj]
       exact fin_ret () (vs := [_, _]) (Cs := []) rfl (.tmp rfl (.tmp rfl .nil)) rfl trivial ent_pick
      ·
       obtain ⟨t, rfl⟩ : ∃ z, y = some z := by cases y with | none => simp at h67 | some z => exact ⟨z, rfl⟩
       have htl := hyl t rfl
       dsimp only [Option.getD_some]
       refine Zk (k:=Ya (Zr (k:=Qv (k:=Wn (Yb (Ya (Zr (k:=Qv (k:=Vv (k:=?_))))))))))
       refine Wn ?_
       refine to_inv ⟨(j - 1, t), by dsimp only; omega, by dsimp only; omega, haj⟩ (by dsimp only; omega) ⟨rfl, rfl, rfl, (by dsimp only; rw [show (((j - 1 : Nat) : Int) - 1) = (j : Int) - 1 - 1 by omega]; rfl), trivial⟩ ent_pick
     ·
      refine Ze (k:=Xa (Xi (Xb (Ya (Qc (k:=Qv (k:=Vv (k:=Wq (Zt (k:=?_))))))))))
      refine t_g_ret ?_
      have hj0 : j = 0 := by omega
      subst hj0
      rw [← haj]
      exact fin_ret () (vs := [_, _]) (Cs := []) rfl (.tmp rfl (.tmp rfl .nil)) rfl trivial ent_pick
  ·
   refine Qc (k:=Qv (k:=Gi 1 (t:=fun h24 => ?_) (f:=fun h24 => ?_)))
   ·
    obtain ⟨⟨b, d⟩, rfl⟩ : ∃ y, x = some y := by cases x with | none => simp at h24 | some y => exact ⟨y, rfl⟩
    obtain ⟨hbl, hdl2⟩ := hxl b d rfl
    dsimp only [Option.getD_some]
    refine J1 (k:=J1 (k:=J1 (k:=P1 (k:=Wq (Zi (t:=fun h28 => ?_) (f:=fun h28 => ?_))))))
    ·
     refine Qc (k:=Qv (k:=Zv [_] (cs := [_]) (k:=fun b31 => ?_)))
     refine r_append1 (sz := 1) (bytes := 16) Tryz.underlying27 ti9 rfl rfl rfl rfl rfl rfl rfl (by rfl) (by rfl) (by omega) (by simp only [maxLen]; omega) rfl (fun a32 c32 => ?_)
     refine Qv (k:=Vv (k:=Wq ?_))
     refine p_goto 0 rfl ?_
     refine to_inv_goto ?_
     refine to_goto ⟨((a32, c32), ds ++ [d], b), by simp; omega, by dsimp only; omega, fun e he => (List.mem_append.1 he).elim (hdl e) (fun h => by rw [List.mem_singleton.1 h]; exact hdl2), ?_⟩ (by simp; omega) ⟨rfl, rfl, by dsimp only; rw [List.length_append, List.length_singleton]; rfl, trivial⟩ ?_
     · dsimp only
       rw [appD_snoc, List.length_append, List.length_singleton, ← hap]
       congr 1
       rw [show 3 - ds.length = 3 - (ds.length + 1) + 1 by omega, ctnR, ← hx]
     · dsimp only
       rw [List.length_append, List.length_singleton]
       exact ent_step (row_norm (by rfl) (by simp)) ent_pick
    ·
     refine Zk (k:=?_)
     exact zb40join5
   ·
    obtain rfl : x = none := by cases x with | none => rfl | some y => simp at h24
    refine O0 (k:=O0 (k:=O0 (k:=P0 (k:=Wq (Z0 (k:=Zk (k:=?_)))))))
    exact zb40join5
 ·
  refine Zr (k:=Vv (k:=Wn ?_))
  refine to_inv ⟨((none, 0), [], n0), Nat.zero_le _, hn0, (fun d h => by cases h), rfl⟩ trivial ⟨rfl, rfl, rfl, trivial⟩ ((row_nil (e := 9) (sz := 1)).trans (show Ent _ [Row 9 1 (.slice none 0 0) 0 [], IsS s p J K] from ent_pick))
end
section
set_option maxRecDepth 100000
theorem zb42ret3 {G : Prop} (h : G := by
    rw [if_pos (by first | exact .inl h20 | exact .inr ⟨fun h => absurd ((e102 _).2 h) (by assumption), fun h => absurd ((e100 _).2 h) (by assumption)⟩)]
    exact fin_ret () (vs := [_]) (Cs := []) rfl (.tmp rfl .nil) rfl trivial ent_pick) : G := h
theorem zb42join4 {G : Prop} (h : G := by
    refine to_inv ⟨(), ?_⟩ trivial ⟨rfl, rfl, trivial⟩ ent_pick
    rintro (h | ⟨h1, h2⟩)
    · exact h20 h
    · first
      | exact h1 ((e102 _).1 (by first | assumption | (apply Classical.not_not.1; assumption)))
      | exact h2 ((e100 _).1 (by first | assumption | (apply Classical.not_not.1; assumption)))) : G := h
set_option maxHeartbeats 1000000 in
theorem blob_Depth_sp (s p : Nat) (J : Jn) (K : Ks) (hK : TxtK K) (n0 : Bs) (hn0 : n0.length ≤ 1099511627776) : Sp1 Tryz.prog 42 [.pointer (some ⟨s, 0, none⟩), vS n0] [IsS s p J K] (vI (depB K n0)) [IsS s p J K] := by
 have e102 : ∀ c : UInt8, ((c.toNat : Int) = 102) ↔ c = 102 := fun c => u8_eq c 102 (by decide)
 have e100 : ∀ c : UInt8, ((c.toNat : Int) = 100) ↔ c = 100 := fun c => u8_eq c 100 (by decide)
 obtain ⟨hv, hvl⟩ := hK.get (98 :: n0)
 unfold depB
 obtain ⟨v, hvv⟩ : ∃ v, v = getB K (98 :: n0) := ⟨_, rfl⟩
 rw [← hvv] at hv hvl ⊢
 have hG := store_Get_sp s p J K (98 :: n0)
 rw [hv] at hG
 refine Sp.body (n := 45) Tryz.call42 Tryz.func42 rfl rfl rfl ?_
 refine Qc (k:=Vv (k:=Wq (Qc (k:=Qv (k:=?_)))))
 refine wo_pv (pv_cat rfl rfl (by simp only [List.length_singleton]; omega)) rfl ?_
 refine r_call1 hG rfl rfl rfl ?_
 refine Vv (k:=?_)
 refine wo_pv (pv_extract (v := vS v) rfl rfl) rfl ?_
 refine wo_pv (pv_extract (v := vB (mlook K (98 :: n0)).isSome) rfl rfl) rfl ?_
 refine Qv (k:=Wq ?_)
 refine p_cut (fun (i : { u : Unit // ¬ (v = [] ∨ (v.getD 0 0 ≠ 102 ∧ v.getD 0 0 ≠ 100)) }) => [(0, .pointer (some ⟨s, 0, none⟩)), (1, vS n0)]) (fun (i : { u : Unit // ¬ (v = [] ∨ (v.getD 0 0 ≠ 102 ∧ v.getD 0 0 ≠ 100)) }) => [IsS s p J K]) rfl (fun i => ?_) ?_
 ·
  obtain ⟨u, hne⟩ := i
  rw [if_neg hne]
  try dsimp only
  refine Za (k:=Qc (k:=Vv (k:=Wq (Zb (k:=?_)))))
  refine p_loop (fun (i : { x : Nat × Bs // x.1 ≤ 4 ∧ x.2.length ≤ 1099511627776 ∧ x.1 + depF K (4 - x.1) x.2 = depF K 4 n0 }) => [(0, .pointer (some ⟨s, 0, none⟩)), (1, vS i.1.2), (30, vI i.1.1)]) (fun (i : { x : Nat × Bs // x.1 ≤ 4 ∧ x.2.length ≤ 1099511627776 ∧ x.1 + depF K (4 - x.1) x.2 = depF K 4 n0 }) => [IsS s p J K]) (fun (i : { x : Nat × Bs // x.1 ≤ 4 ∧ x.2.length ≤ 1099511627776 ∧ x.1 + depF K (4 - x.1) x.2 = depF K 4 n0 }) => 4 - i.1.1) rfl (⟨(0, n0), Nat.zero_le _, hn0, Nat.zero_add _⟩) ?_ ?_ (fun i => ?_)
  · exact ⟨rfl, rfl, rfl, trivial⟩
  ·
   exact ent_pick
  obtain ⟨⟨j, n⟩, hj, hn, hd⟩ := i
  dsimp only at hj hn hd ⊢
  obtain ⟨x, hx⟩ : ∃ x, x = basedB K n := ⟨_, rfl⟩
  have hB := blob_based_sp s p J K hK n hn
  have hxl : ∀ b d, x = some (b, d) → b.length = 40 := fun b d e => (basedB_len hK (by rw [← hx]; exact e)).1
  rw [← hx] at hB
  try dsimp only
  refine Qc (k:=Vv (k:=Wq (Za (k:=Zi (t:=fun h31 => ?_) (f:=fun h31 => ?_)))))
  ·
   refine Zk (k:=Ya (Za (k:=Zb (k:=Qc (k:=Qv (k:=Wq (Qc (k:=Vv (k:=?_)))))))))
   refine Vv (k:=?_)
   refine r_call1 hB rfl rfl rfl ?_
   refine Vv (k:=?_)
   refine wo_pv (pv_extract (v := vS (x.getD ([], [])).1) rfl rfl) rfl ?_
   refine wo_pv (pv_extract (v := vS (x.getD ([], [])).2) rfl rfl) rfl ?_
   refine wo_pv (pv_extract (v := vB x.isSome) rfl rfl) rfl ?_
   refine Qv (k:=Vv (k:=Wq (Za (k:=Qc (k:=Qv (k:=Wq (Zi (t:=fun h41 => ?_) (f:=fun h41 => ?_))))))))
   ·
    obtain rfl : x = none := by cases x with | none => rfl | some z => simp at h41
    have hz : depF K (4 - j) n = 0 := by rw [show 4 - j = 3 - j + 1 by omega, depF, ← hx]
    rw [hz] at hd
    refine Qc (k:=Qv (k:=Wq (Zt (k:=Va (Vb (Va (Vi (Vb (Va ?_)))))))))
    rw [← hd]
    exact fin_ret () (vs := [_]) (Cs := []) rfl (.tmp rfl .nil) rfl trivial ent_pick
   ·
    obtain ⟨⟨b, d⟩, rfl⟩ : ∃ z, x = some z := by cases x with | none => simp at h41 | some z => exact ⟨z, rfl⟩
    have hbl := hxl b d rfl
    have hz : depF K (4 - j) n = depF K (4 - (j + 1)) b + 1 := by rw [show 4 - j = 4 - (j + 1) + 1 by omega, depF, ← hx]
    rw [hz] at hd
    dsimp only [Option.getD_some]
    refine Zk (k:=Ya (Zr (k:=Qv (k:=Wn (Yb (Ya (Zr (k:=Qv (k:=Wn ?_)))))))))
    exact to_inv ⟨(j + 1, b), by dsimp only; omega, by dsimp only; omega, by dsimp only; omega⟩ (by dsimp only; omega) ⟨rfl, rfl, rfl, trivial⟩ ent_pick
  ·
   refine Ze (k:=Xa (Xi (Xb (Ya (Qc (k:=Vv (k:=Wq (Zt (k:=?_)))))))))
   have hj4 : j = 4 := by omega
   subst hj4
   rw [← hd]
   exact fin_ret () (vs := [_]) (Cs := []) rfl (.tmp rfl .nil) rfl trivial ent_pick
 ·
  refine Qc (k:=Qv (k:=Vv (k:=Gi 2 (t:=fun h20 => ?_) (f:=fun h20 => ?_))))
  ·
   refine O1 (k:=O1 (k:=O1 (k:=O1 (k:=Ou (k:=Ou (k:=Ou (k:=O1 (k:=P1 (k:=Wq (Z1 (k:=Za (k:=?_))))))))))))
   refine Zr (k:=Vv (k:=Wq (Zt (k:=Vi ?_))))
   exact zb42ret3
  ·
   have hv0 : 0 < v.length := List.length_pos_iff.2 h20
   refine J0 (k:=I0 (k:=?_))
   refine wo_pv (pv_indexm (m := 0) Tryz.underlying9 rfl rfl rfl (by omega)) rfl ?_
   refine J0 (k:=J0 (k:=Gi 6 (t:=fun h24 => ?_) (f:=fun h24 => ?_)))
   ·
    refine J1 (k:=I1 (k:=?_))
    refine wo_pv (pv_indexm (m := 0) Tryz.underlying9 rfl rfl rfl (by omega)) rfl ?_
    refine J1 (k:=I0 (k:=P1 (k:=P0 (k:=Wq (Zi (t:=fun h29 => ?_) (f:=fun h29 => ?_))))))
    ·
     refine Qc (k:=Vv (k:=Wq (Zt (k:=Vi ?_))))
     exact zb42ret3
    ·
     refine Zk (k:=?_)
     exact zb42join4
   ·
    refine O0 (k:=O0 (k:=O0 (k:=I0 (k:=P0 (k:=P0 (k:=Wq (Z0 (k:=Zk (k:=?_)))))))))
    exact zb42join4
set_option maxHeartbeats 1000000 in
theorem blob_stands_sp (s p : Nat) (J : Jn) (K : Ks) (hK : TxtK K) (n0 on : Bs) (hn0 : n0.length ≤ 1099511627776) : Sp1 Tryz.prog 95 [.pointer (some ⟨s, 0, none⟩), vS n0, vS on] [IsS s p J K] (vB (staB K n0 on)) [IsS s p J K] := by
 refine Sp.body (n := 26) Tryz.call95 Tryz.func95 rfl rfl rfl ?_
 refine Qc (k:=Vv (k:=Wq (Za (k:=Qc (k:=Vv (k:=Wq (Zb (k:=?_))))))))
 refine p_loop (fun (i : { x : Nat × Bs // x.1 ≤ 4 ∧ x.2.length ≤ 1099511627776 ∧ staF K on (4 - x.1) x.2 = staB K n0 on }) => [(0, .pointer (some ⟨s, 0, none⟩)), (1, vS i.1.2), (2, vS on), (10, vI i.1.1)]) (fun (i : { x : Nat × Bs // x.1 ≤ 4 ∧ x.2.length ≤ 1099511627776 ∧ staF K on (4 - x.1) x.2 = staB K n0 on }) => [IsS s p J K]) (fun (i : { x : Nat × Bs // x.1 ≤ 4 ∧ x.2.length ≤ 1099511627776 ∧ staF K on (4 - x.1) x.2 = staB K n0 on }) => 4 - i.1.1) rfl (⟨(0, n0), Nat.zero_le _, hn0, rfl⟩) ?_ ?_ (fun i => ?_)
 · exact ⟨rfl, rfl, rfl, rfl, trivial⟩
 ·
  exact ent_pick
 obtain ⟨⟨j, n⟩, hj, hn, hd⟩ := i
 dsimp only at hj hn hd ⊢
 obtain ⟨x, hx⟩ : ∃ x, x = basedB K n := ⟨_, rfl⟩
 have hB := blob_based_sp s p J K hK n hn
 have hxl : ∀ b d, x = some (b, d) → b.length = 40 := fun b d e => (basedB_len hK (by rw [← hx]; exact e)).1
 rw [← hx] at hB
 try dsimp only
 refine Qc (k:=Vv (k:=Wq (Za (k:=Zi (t:=fun h11 => ?_) (f:=fun h11 => ?_)))))
 ·
  refine Zk (k:=Ya (Za (k:=Zb (k:=Za (k:=Za (k:=?_))))))
  rw [show 4 - j = 4 - (j + 1) + 1 by omega, staF, ← hx] at hd
  refine Zr (k:=Qv (k:=Vv (k:=Wq (Zi (t:=fun h14 => ?_) (f:=fun h14 => ?_)))))
  ·
   rw [if_pos h14] at hd
   refine Qc (k:=Vv (k:=Wq (Zt (k:=Va (Vb (Va (Vi (Vb (Va ?_)))))))))
   rw [← hd]
   exact fin_ret () (vs := [_]) (Cs := []) rfl (.tmp rfl .nil) rfl trivial ent_pick
  ·
   rw [if_neg h14] at hd
   refine Zk (k:=Ya (Qc (k:=Qv (k:=?_))))
   refine r_call1 hB rfl rfl rfl ?_
   refine Vv (k:=?_)
   refine wo_pv (pv_extract (v := vS (x.getD ([], [])).1) rfl rfl) rfl ?_
   refine wo_pv (pv_extract (v := vS (x.getD ([], [])).2) rfl rfl) rfl ?_
   refine wo_pv (pv_extract (v := vB x.isSome) rfl rfl) rfl ?_
   refine Qv (k:=Vv (k:=Wq (Za (k:=Qc (k:=Qv (k:=Wq (Zi (t:=fun h23 => ?_) (f:=fun h23 => ?_))))))))
   ·
    obtain rfl : x = none := by cases x with | none => rfl | some z => simp at h23
    refine Qc (k:=Vv (k:=Wq (Zt (k:=Va (Vb (Va (Vi (Vb (Va ?_)))))))))
    rw [← hd]
    exact fin_ret () (vs := [_]) (Cs := []) rfl (.tmp rfl .nil) rfl trivial ent_pick
   ·
    obtain ⟨⟨b, d⟩, rfl⟩ : ∃ z, x = some z := by cases x with | none => simp at h23 | some z => exact ⟨z, rfl⟩
    have hbl := hxl b d rfl
    dsimp only [Option.getD_some] at hd ⊢
    refine Zk (k:=Ya (Zr (k:=Qv (k:=Wn (Yb (Ya (Zr (k:=Qv (k:=Wn ?_)))))))))
    exact to_inv ⟨(j + 1, b), by dsimp only; omega, by dsimp only; omega, hd⟩ (by dsimp only; omega) ⟨rfl, rfl, rfl, rfl, trivial⟩ ent_pick
 ·
  refine Ze (k:=Xa (Xi (Xb (Ya (Qc (k:=Vv (k:=Wq (Zt (k:=?_)))))))))
  have hj4 : j = 4 := by omega
  subst hj4
  rw [← hd]
  exact fin_ret () (vs := [_]) (Cs := []) rfl (.tmp rfl .nil) rfl trivial ent_pick
end
end Go.Proofs.YtibccdcemcgkeaaGreat
