/- Texts of this proof, put together: Sorts, SHeads2, SSameS, SSameLf, SHeads4, SHeads5, SClLf, SLinks2, SLinks3, SSamePl, SClPl, KeepOf, SR10l, SBook. -/
import Derived.Ground.SlsfProg
import Derived.Test.YtdnoacgopfcpbaaGreatQ21
set_option linter.unusedVariables false
set_option linter.unusedSimpArgs false
namespace Go.Proofs.YtdnoacgopfcpbaaGreat
end Go.Proofs.YtdnoacgopfcpbaaGreat
/- The library's contracts at this translation, printed by the kit's tools; remarks taken out. -/
namespace Go.Proofs
open Go.Shelf
def Tryz.sortFP_ren : Go.Shelf.Ren := ⟨fun | 6 => 55 | 15 => 101 | 14 => 100 | 28 => 146 | 29 => 147 | 20 => 138 | 21 => 139 | 22 => 140 | 23 => 141 | 24 => 142 | 25 => 143 | 26 => 144 | 27 => 145 | 46 => 192 | 47 => 193 | 48 => 194 | 49 => 195 | 50 => 196 | 57 => 221 | n => n, fun | 22 => 32 | 24 => 37 | 25 => 107 | 3 => 3 | 39 => 97 | 0 => 0 | 53 => 94 | 55 => 96 | 4 => 4 | 46 => 207 | 45 => 206 | 50 => 167 | 5 => 5 | 9 => 9 | 66 => 253 | 70 => 257 | 76 => 273 | 77 => 274 | n => n, fun | n => n⟩
theorem Tryz.sortFP : Go.Proofs.SlLaysF0.n6 Tryz.prog Tryz.sortFP_ren := {
 mixed := by kernel_rfl
 f6 := ⟨Tryz.f55.name, by decide, Tryz.func55.trans (congrArg some (by kernel_rfl))⟩
 f14 := ⟨Tryz.f100.name, by decide, Tryz.func100.trans (congrArg some (by kernel_rfl))⟩
 f15 := Tryz.func101.trans (congrArg some (by kernel_rfl))
 f20 := ⟨Tryz.f138.name, by decide, Tryz.func138.trans (congrArg some (by kernel_rfl))⟩
 f21 := ⟨Tryz.f139.name, by decide, Tryz.func139.trans (congrArg some (by kernel_rfl))⟩
 f22 := ⟨Tryz.f140.name, by decide, Tryz.func140.trans (congrArg some (by kernel_rfl))⟩
 f23 := ⟨Tryz.f141.name, by decide, Tryz.func141.trans (congrArg some (by kernel_rfl))⟩
 f24 := ⟨Tryz.f142.name, by decide, Tryz.func142.trans (congrArg some (by kernel_rfl))⟩
 f25 := ⟨Tryz.f143.name, by decide, Tryz.func143.trans (congrArg some (by kernel_rfl))⟩
 f26 := ⟨Tryz.f144.name, by decide, Tryz.func144.trans (congrArg some (by kernel_rfl))⟩
 f27 := ⟨Tryz.f145.name, by decide, Tryz.func145.trans (congrArg some (by kernel_rfl))⟩
 f28 := Tryz.func146.trans (congrArg some (by kernel_rfl))
 f29 := Tryz.func147.trans (congrArg some (by kernel_rfl))
 f46 := ⟨Tryz.f192.name, by decide, Tryz.func192.trans (congrArg some (by kernel_rfl))⟩
 f47 := Tryz.func193.trans (congrArg some (by kernel_rfl))
 f48 := Tryz.func194.trans (congrArg some (by kernel_rfl))
 f49 := ⟨Tryz.f195.name, by decide, Tryz.func195.trans (congrArg some (by kernel_rfl))⟩
 f50 := ⟨Tryz.f196.name, by decide, Tryz.func196.trans (congrArg some (by kernel_rfl))⟩
 f57 := ⟨Tryz.f221.name, by decide, Tryz.func221.trans (congrArg some (by kernel_rfl))⟩
 t0 := Tryz.underlying0
 a0 := Tryz.isAgg0
 z0 := Tryz.sizeOf0
 v0 := Tryz.zeroValue0
 t3 := Tryz.underlying3
 a3 := Tryz.isAgg3
 z3 := Tryz.sizeOf3
 v3 := Tryz.zeroValue3
 t4 := Tryz.underlying4
 a4 := Tryz.isAgg4
 z4 := Tryz.sizeOf4
 v4 := Tryz.zeroValue4
 t5 := Tryz.underlying5
 a5 := Tryz.isAgg5
 z5 := Tryz.sizeOf5
 v5 := Tryz.zeroValue5
 t9 := Tryz.underlying9
 a9 := Tryz.isAgg9
 z9 := Tryz.sizeOf9
 v9 := Tryz.zeroValue9
 t22 := Tryz.underlying32
 a22 := Tryz.isAgg32
 z22 := Tryz.sizeOf32
 v22 := Tryz.zeroValue32
 t25 := Tryz.underlying107
 a25 := Tryz.isAgg107
 z25 := Tryz.sizeOf107
 v25 := Tryz.zeroValue107
 t39 := Tryz.underlying97
 a39 := Tryz.isAgg97
 z39 := Tryz.sizeOf97
 v39 := Tryz.zeroValue97
 t45 := Tryz.underlying206
 a45 := Tryz.isAgg206
 z45 := Tryz.sizeOf206
 v45 := Tryz.zeroValue206
 t46 := Tryz.underlying207
 a46 := Tryz.isAgg207
 z46 := Tryz.sizeOf207
 v46 := Tryz.zeroValue207
 t50 := Tryz.underlying167
 a50 := Tryz.isAgg167
 z50 := Tryz.sizeOf167
 v50 := Tryz.zeroValue167
 t53 := Tryz.underlying94
 a53 := Tryz.isAgg94
 z53 := Tryz.sizeOf94
 v53 := Tryz.zeroValue94
 t55 := Tryz.underlying96
 a55 := Tryz.isAgg96
 z55 := Tryz.sizeOf96
 v55 := Tryz.zeroValue96
 t66 := Tryz.underlying253
 a66 := Tryz.isAgg253
 z66 := Tryz.sizeOf253
 v66 := Tryz.zeroValue253
 t70 := Tryz.underlying257
 a70 := Tryz.isAgg257
 z70 := Tryz.sizeOf257
 v70 := Tryz.zeroValue257
 t76 := Tryz.underlying273
 a76 := Tryz.isAgg273
 z76 := Tryz.sizeOf273
 v76 := Tryz.zeroValue273
 t77 := Tryz.underlying274
 a77 := Tryz.isAgg274
 z77 := Tryz.sizeOf274
 v77 := Tryz.zeroValue274 }
def Tryz.sortFL_ren : Go.Shelf.Ren := ⟨fun | 6 => 79 | 15 => 101 | 14 => 129 | 28 => 146 | 29 => 147 | 20 => 171 | 21 => 172 | 22 => 173 | 23 => 174 | 24 => 175 | 25 => 176 | 26 => 177 | 27 => 178 | 46 => 214 | 47 => 193 | 48 => 194 | 49 => 215 | 50 => 216 | 57 => 232 | n => n, fun | 22 => 64 | 24 => 63 | 25 => 144 | 3 => 3 | 39 => 97 | 0 => 0 | 53 => 94 | 55 => 96 | 4 => 4 | 46 => 207 | 45 => 206 | 50 => 167 | 5 => 5 | 9 => 9 | 66 => 253 | 70 => 257 | 76 => 273 | 77 => 274 | n => n, fun | n => n⟩
theorem Tryz.sortFL : Go.Proofs.SlLaysF0.n6 Tryz.prog Tryz.sortFL_ren := {
 mixed := by kernel_rfl
 f6 := ⟨Tryz.f79.name, by decide, Tryz.func79.trans (congrArg some (by kernel_rfl))⟩
 f14 := ⟨Tryz.f129.name, by decide, Tryz.func129.trans (congrArg some (by kernel_rfl))⟩
 f15 := Tryz.func101.trans (congrArg some (by kernel_rfl))
 f20 := ⟨Tryz.f171.name, by decide, Tryz.func171.trans (congrArg some (by kernel_rfl))⟩
 f21 := ⟨Tryz.f172.name, by decide, Tryz.func172.trans (congrArg some (by kernel_rfl))⟩
 f22 := ⟨Tryz.f173.name, by decide, Tryz.func173.trans (congrArg some (by kernel_rfl))⟩
 f23 := ⟨Tryz.f174.name, by decide, Tryz.func174.trans (congrArg some (by kernel_rfl))⟩
 f24 := ⟨Tryz.f175.name, by decide, Tryz.func175.trans (congrArg some (by kernel_rfl))⟩
 f25 := ⟨Tryz.f176.name, by decide, Tryz.func176.trans (congrArg some (by kernel_rfl))⟩
 f26 := ⟨Tryz.f177.name, by decide, Tryz.func177.trans (congrArg some (by kernel_rfl))⟩
 f27 := ⟨Tryz.f178.name, by decide, Tryz.func178.trans (congrArg some (by kernel_rfl))⟩
 f28 := Tryz.func146.trans (congrArg some (by kernel_rfl))
 f29 := Tryz.func147.trans (congrArg some (by kernel_rfl))
 f46 := ⟨Tryz.f214.name, by decide, Tryz.func214.trans (congrArg some (by kernel_rfl))⟩
 f47 := Tryz.func193.trans (congrArg some (by kernel_rfl))
 f48 := Tryz.func194.trans (congrArg some (by kernel_rfl))
 f49 := ⟨Tryz.f215.name, by decide, Tryz.func215.trans (congrArg some (by kernel_rfl))⟩
 f50 := ⟨Tryz.f216.name, by decide, Tryz.func216.trans (congrArg some (by kernel_rfl))⟩
 f57 := ⟨Tryz.f232.name, by decide, Tryz.func232.trans (congrArg some (by kernel_rfl))⟩
 t0 := Tryz.underlying0
 a0 := Tryz.isAgg0
 z0 := Tryz.sizeOf0
 v0 := Tryz.zeroValue0
 t3 := Tryz.underlying3
 a3 := Tryz.isAgg3
 z3 := Tryz.sizeOf3
 v3 := Tryz.zeroValue3
 t4 := Tryz.underlying4
 a4 := Tryz.isAgg4
 z4 := Tryz.sizeOf4
 v4 := Tryz.zeroValue4
 t5 := Tryz.underlying5
 a5 := Tryz.isAgg5
 z5 := Tryz.sizeOf5
 v5 := Tryz.zeroValue5
 t9 := Tryz.underlying9
 a9 := Tryz.isAgg9
 z9 := Tryz.sizeOf9
 v9 := Tryz.zeroValue9
 t22 := Tryz.underlying64
 a22 := Tryz.isAgg64
 z22 := Tryz.sizeOf64
 v22 := Tryz.zeroValue64
 t25 := Tryz.underlying144
 a25 := Tryz.isAgg144
 z25 := Tryz.sizeOf144
 v25 := Tryz.zeroValue144
 t39 := Tryz.underlying97
 a39 := Tryz.isAgg97
 z39 := Tryz.sizeOf97
 v39 := Tryz.zeroValue97
 t45 := Tryz.underlying206
 a45 := Tryz.isAgg206
 z45 := Tryz.sizeOf206
 v45 := Tryz.zeroValue206
 t46 := Tryz.underlying207
 a46 := Tryz.isAgg207
 z46 := Tryz.sizeOf207
 v46 := Tryz.zeroValue207
 t50 := Tryz.underlying167
 a50 := Tryz.isAgg167
 z50 := Tryz.sizeOf167
 v50 := Tryz.zeroValue167
 t53 := Tryz.underlying94
 a53 := Tryz.isAgg94
 z53 := Tryz.sizeOf94
 v53 := Tryz.zeroValue94
 t55 := Tryz.underlying96
 a55 := Tryz.isAgg96
 z55 := Tryz.sizeOf96
 v55 := Tryz.zeroValue96
 t66 := Tryz.underlying253
 a66 := Tryz.isAgg253
 z66 := Tryz.sizeOf253
 v66 := Tryz.zeroValue253
 t70 := Tryz.underlying257
 a70 := Tryz.isAgg257
 z70 := Tryz.sizeOf257
 v70 := Tryz.zeroValue257
 t76 := Tryz.underlying273
 a76 := Tryz.isAgg273
 z76 := Tryz.sizeOf273
 v76 := Tryz.zeroValue273
 t77 := Tryz.underlying274
 a77 := Tryz.isAgg274
 z77 := Tryz.sizeOf274
 v77 := Tryz.zeroValue274 }
end Go.Proofs
namespace Go.Proofs.YtdnoacgopfcpbaaGreat
section
set_option maxRecDepth 100000
structure Lf where
 branch : Bs
 name : Bs
 deriving DecidableEq
instance : Inhabited Lf := ⟨⟨[], []⟩⟩
def lfCells (p : Lf) : List Value := [vS p.branch, vS p.name]
def lfKey (p : Lf) : Bs × Bs := (p.branch, p.name)
theorem Leaves_cmp_sp (x y : Lf) : SpF Tryz.prog 80 [.agg (lfCells x).toArray, .agg (lfCells y).toArray] (vI (cmp2 (lfKey x) (lfKey y))) := by
 obtain ⟨c1, p1⟩ := x
 obtain ⟨c2, p2⟩ := y
 refine Sp.body (n := 17) Tryz.call80 Tryz.func80 rfl rfl rfl ?_
 refine Qc (k:=Zx [_, _] (k:=fun b2 => Zx [_, _] (k:=fun b3 => Vv (k:=Wq (Za (k:=Dw [Ce b2 63 [vS c1, vS p1], Ce b3 63 [vS c2, vS p2]] (k:=?_)))))))
 refine Di 0 (t:=Uf 0 9) (k:=Di 1 (t:=Ul) (k:=Di 2 (t:=Uf 0 9) (k:=Di 3 (t:=Ul) (k:=Di 5 (t:=Uf 1 9) (k:=Di 6 (t:=Ul) (k:=Di 7 (t:=Uf 1 9) (k:=Di 8 (t:=Ul) (k:=Dn 4 (k:=?_)))))))))
 refine an_callF (cmp_Compare_sp _ _) rfl rfl rfl ?_
 refine Dn 9 (k:=?_)
 refine an_callF (cmp_Compare_sp _ _) rfl rfl rfl ?_
 refine Dn 10 (k:=Nl [_, _] (cs := [_, _]) (k:=fun b15 => Dn 11 (k:=?_)))
 refine an_call1 (cmp_Or2_sp b15 (cmpB c1 c2) (cmpB p1 p2)) rfl rfl rfl ?_
 refine Dv 12 (k:=Dd (k:=Ya (Zt (k:=?_))))
 exact fin_ret () (vs := [_]) (Cs := []) rfl (.tmp rfl .nil) rfl trivial ent_nil
theorem insLf_nil (g : Nat) : SpF Tryz.prog 171 [.slice none 0 0, vI 0, vI 0, .func (.func g) #[] #[]] (.tuple #[]) := by
 refine Sp.body (n := 53) Tryz.call171 Tryz.func171 rfl rfl rfl ?_
 refine Qc (k:=Qv (k:=Vv (k:=Wq (Zb (k:=?_)))))
 refine p_loop (fun (i : Unit) => [(0, .slice none 0 0), (1, vI 0), (2, vI 0), (8, vI 1)]) (fun (i : Unit) => []) (fun (i : Unit) => 0) rfl (()) ?_ ?_ (fun i => ?_)
 · exact ⟨rfl, rfl, rfl, rfl, trivial⟩
 ·
  exact Ent.refl _
 try dsimp only
 refine Za (k:=Qc (k:=Qv (k:=Vv (k:=Wq (Zi (t:=fun h14 => ?_) (f:=fun h14 => ?_))))))
 ·
  simp at h14
  --done
 ·
  refine Ze (k:=Xa (Xi (Xb ?_)))
  exact fin_end () (vs := []) (Cs := []) rfl .nil rfl trivial ent_nil
theorem pdqLf_nil (g : Nat) : SpF Tryz.prog 129 [.slice none 0 0, vI 0, vI 0, vI 0, .func (.func g) #[] #[]] (.tuple #[]) := by
 refine Sp.body (n := 148) Tryz.call129 Tryz.func129 rfl rfl rfl ?_
 refine Qc (k:=Vv (k:=Wq (Qc (k:=Vv (k:=Wq (Zb (k:=?_)))))))
 refine p_loop (fun (i : Unit) => [(0, .slice none 0 0), (1, vI 0), (2, vI 0), (3, vI 0), (4, .func (.func g) #[] #[])]) (fun (i : Unit) => []) (fun (i : Unit) => 0) rfl (()) ?_ ?_ (fun i => ?_)
 · exact ⟨rfl, rfl, rfl, rfl, rfl, trivial⟩
 ·
  exact Ent.refl _
 try dsimp only
 refine Zb (k:=Qc (k:=Qv (k:=Qv (k:=Wq (Za (k:=Qc (k:=Vv (k:=?_))))))))
 refine Vv (k:=Wq (Zi (t:=fun h25 => ?_) (f:=fun h25 => ?_)))
 ·
  refine Qc (k:=Qv (k:=Qv (k:=?_)))
  refine r_callF (insLf_nil g) rfl rfl rfl ?_
  refine Wq (Zt (k:=Va (Vb (Vi (Vb ?_)))))
  exact fin_ret () (vs := []) (Cs := []) rfl .nil rfl trivial ent_nil
 ·
  simp at h25
  --done
theorem SortLf_nil (g : Nat) : SpF Tryz.prog 79 [.slice none 0 0, .func (.func g) #[] #[]] (.tuple #[]) := by
 refine Sp.body (n := 14) Tryz.call79 Tryz.func79 rfl rfl rfl ?_
 refine Qc (k:=Qv (k:=Vv (k:=Wq (Zr (k:=Qv (k:=Vv (k:=?_)))))))
 refine wo_pv (pv_conv_in (i := 0) rfl Tryz.underlying3 Tryz.underlying97 (by decide)) rfl ?_
 refine r_callF bits_Len_zero rfl rfl rfl ?_
 refine Vv (k:=?_)
 refine r_callF (pdqLf_nil g) rfl rfl rfl ?_
 refine Wn ?_
 exact fin_end () (vs := []) (Cs := []) rfl .nil rfl trivial ent_nil
theorem slices_SortLf_sp (a : Option Addr) (n c : Nat) (l : List Lf) (hl : l.length = n) (hb : n < 4611686018427387904) :
    Sp Tryz.prog 79 [.slice a n c, .func (.func 80) #[] #[]] [Row 63 2 (.slice a n c) n (l.flatMap lfCells)] (X := List Lf) (fun _ => .tuple #[]) (fun q => q.Perm l ∧ q.Pairwise fun x y => ltOf (fun x y => cmp2 (lfKey x) (lfKey y)) y x = false) (fun q => [Row 63 2 (.slice a n c) n (q.flatMap lfCells)]) :=
 sortF_sp (T := 63) (k := 2) (enc := lfCells) (fun _ => rfl) _ Tryz.call79 (SortLf_nil _) (fun blk cap d w hH hb hs => by
  have hcon := AnyQ.slices_SortFunc Tryz.sortFL 2 Tryz.isAgg63 Tryz.sizeOf63 lfCells (fun _ => rfl) (fun x v hv => by
   simp only [lfCells, List.mem_cons, List.not_mem_nil, or_false] at hv
   rcases hv with rfl | rfl <;> rfl) (fun x y => cmp2 (lfKey x) (lfKey y)) (SWO2 lfKey) 80 #[] blk 0 cap d w Tryz.call80 (fun m os dk hs x y => by
    have := Sp.grown (Leaves_cmp_sp x y) (sortWorldK lfCells 2 w blk 0 m dk os)
    simpa using this) hH hb hs
  exact hcon) a n c l hl hb
/-- Those with a child on their branch. -/
def inC (br : Bs → Bs) (n : Bs) (x : Bs × Ck) : Prop := firstB x.2 = n ∧ firstB x.2 ≠ x.1 ∧ br (firstB x.2) = br x.1
instance {br : Bs → Bs} {n : Bs} {x : Bs × Ck} : Decidable (inC br n x) := inferInstanceAs (Decidable (_ ∧ _ ∧ _))
def inB (br : Bs → Bs) (l : List (Bs × Ck)) (n : Bs) : Bool := decide (∃ x ∈ l, inC br n x)
def inStep (br : Bs → Bs) (m : Ks) (x : Bs × Ck) : Ks := if firstB x.2 ≠ x.1 ∧ br (firstB x.2) = br x.1 then mput m (firstB x.2) (vB true) else m
def inK (br : Bs → Bs) (l : List (Bs × Ck)) : Ks := l.foldl (inStep br) []
theorem inK_snoc (br : Bs → Bs) (l : List (Bs × Ck)) (x : Bs × Ck) : inK br (l ++ [x]) = inStep br (inK br l) x := by simp [inK]
theorem inK_look (br : Bs → Bs) (n : Bs) (l : List (Bs × Ck)) : (mlook (inK br l) n).getD (vB false) = vB (inB br l n) := by
 have key : ∀ (l : List (Bs × Ck)) (m : Ks) (b : Bool), (mlook m n).getD (vB false) = vB b → (mlook (l.foldl (inStep br) m) n).getD (vB false) = vB (b || inB br l n) := by
  intro l
  induction l with
  | nil => intro m b h; rw [List.foldl_nil, h]; simp [inB]
  | cons a l ih =>
    intro m b h
    rw [List.foldl_cons]
    have h2 : (mlook (inStep br m a) n).getD (vB false) = vB (b || decide (inC br n a)) := by
     unfold inStep
     by_cases hc : firstB a.2 ≠ a.1 ∧ br (firstB a.2) = br a.1
     · rw [if_pos hc, mlook_mput]
       by_cases hn : firstB a.2 = n
       · rw [if_pos hn, show decide (inC br n a) = true from decide_eq_true ⟨hn, hc⟩]; simp
       · rw [if_neg hn, show decide (inC br n a) = false from decide_eq_false (fun x => hn x.1), h]; simp
     · rw [if_neg hc, show decide (inC br n a) = false from decide_eq_false (fun x => hc x.2), h]; simp
    rw [ih _ _ h2]
    congr 1
    rw [Bool.or_assoc]
    congr 1
    rw [Bool.eq_iff_iff]
    simp [inB]
 have := key l [] false rfl
 rw [Bool.false_or] at this
 exact this
def lvOf (br : Bs → Bs) (C : List (Bs × Ck)) (x : Bs × Ck) : List Lf := if inB br C x.1 then [] else [⟨br x.1, x.1⟩]
def lvF (br : Bs → Bs) (C l : List (Bs × Ck)) : List Lf := l.flatMap (lvOf br C)
theorem lvF_snoc (br : Bs → Bs) (C l : List (Bs × Ck)) (x : Bs × Ck) : lvF br C (l ++ [x]) = lvF br C l ++ lvOf br C x := by simp [lvF]
theorem lvF_len (br : Bs → Bs) (C l : List (Bs × Ck)) : (lvF br C l).length ≤ l.length := by
 induction l with
 | nil => exact Nat.le_refl _
 | cons a l ih =>
   unfold lvF at *
   rw [List.flatMap_cons, List.length_append, List.length_cons]
   have : (lvOf br C a).length ≤ 1 := by unfold lvOf; split <;> simp
   omega
/-- The leaves, unsorted. -/
noncomputable def lvL (H : Ks) : List Lf := lvF (brH H) (cksL H) (cksL H)
theorem cksL_len' (H : Ks) : (cksL H).length ≤ H.length := by
 have h1 := (cksF_sub H (keysS H)).length_le
 rw [keysS_len, List.length_map] at h1
 exact h1
theorem okC_len2 {H : Ks} {pre : List CkN} {x : CkN} (h : okC H pre x) : pre.length < H.length := by
 obtain ⟨⟨r, e⟩, _, _⟩ := h
 have h1 := cksL_len' H
 have h2 := congrArg List.length e
 rw [List.length_append, List.length_cons, List.length_map] at h2
 omega
abbrev LvI (b : Nat) (acc : List Lf) : HP := Ex fun s : Option Addr × Nat => Al [Ce b 64 [.slice s.1 acc.length s.2], Row 63 2 (.slice s.1 acc.length s.2) acc.length (acc.flatMap lfCells)]
set_option maxHeartbeats 8000000 in
theorem heads_Leaves_sp (b : Nat) (H : Ks) (hH : TxtK H) (hnd : (H.map (·.1)).Nodup) (hn : H.length ≤ 1000000) :
    Sp Tryz.prog 32 [.map (some b)] [MapS b H] (X := (Option Addr × Nat) × List Lf) (fun x => .slice x.1.1 x.2.length x.1.2) (fun x => x.2.Perm (lvL H) ∧ x.2.Pairwise fun x y => ltOf (fun x y => cmp2 (lfKey x) (lfKey y)) y x = false) (fun x => [Row 63 2 (.slice x.1.1 x.2.length x.1.2) x.2.length (x.2.flatMap lfCells), MapS b H]) := by
 refine Sp.body (n := 52) Tryz.call32 Tryz.func32 rfl rfl rfl ?_
 refine Qc (k:=Vv (k:=Wq (Qc (k:=Vv (k:=?_)))))
 refine r_callX (tags_Read_sp b H hH (by omega)) rfl rfl rfl (fun x hx => ?_)
 obtain ⟨m1, m2, al⟩ := x
 dsimp only at hx ⊢
 have hf := fin_ok hnd hx
 have hB : ∀ name, Sp1 Tryz.prog 78 [.agg #[.map (some m1), .map (some m2)], vS name] [MX.MapS MX.pairE m1 (lsK (lastL H)), MapS m2 (ckK al), CkMs al] (vS (brH H name)) [MX.MapS MX.pairE m1 (lsK (lastL H)), MapS m2 (ckK al), CkMs al] := fun name => by
  have := heads_branch_sp m1 m2 al (lastL H) name hf.nd (fun x hx => by have := hf.pl x hx; omega) (by have := hf.le; omega)
  rw [show al.map ckKey = cksL H from hx] at this
  exact this
 have hlv : lvL H = lvF (brH H) (cksL H) (cksL H) := rfl
 generalize brH H = br at *
 generalize lsK (lastL H) = lk1 at *
 generalize ckK al = lk2 at *
 refine Zc [.map none, .map none] (k:=fun b3 => Zp (k:=Wq (Qc (k:=?_))))
 refine r_mkmap rfl (fun b12 => ?_)
 refine Zc [.map none] (k:=fun b4 => Zo (k:=Wq (Za (k:=Qc (k:=Vv (k:=?_))))))
 refine r_callX (links_Checkins_sp (some b)) rfl rfl rfl (fun cb _ => ?_)
 refine Wq (Zb (k:=?_))
 refine p_rangeFuncX (fun pre => [MapS b12 (inK br (pre.map ckKey)), Ce b3 140 [.map (some m1), .map (some m2)], Ce b4 71 [.map (some b12)], MX.MapS MX.pairE m1 lk1, MapS m2 lk2, CkMs al, MapS b H]) (fun j pre => [Pu False]) (fun pre => [MapS b12 (inK br (pre.map ckKey)), Ce b3 140 [.map (some m1), .map (some m2)], Ce b4 71 [.map (some b12)], MX.MapS MX.pairE m1 lk1, MapS m2 lk2, CkMs al]) rfl (links_Checkins_it cb b H hH (by omega)) rfl (fun _ => by rfl) rfl (fun pre => ?_) (fun pre => ?_) ?_ (fun l pre x hok => ?_) (fun all hfin => ?_) (fun j pre hs => ?_)
 · exact ent_pick
 · exact ent_pick
 · (rw [show inK br (([] : List CkN).map ckKey) = [] from rfl]; exact ent_pick)
 ·
  have hsn : inK br ((pre ++ [x]).map ckKey) = inStep br (inK br (pre.map ckKey)) (ckKey x) := by rw [List.map_append, List.map_cons, List.map_nil, inK_snoc]
  obtain ⟨nm, xa, ck⟩ := x
  dsimp only [ckV, ckVals, ckKey] at hsn ⊢
  generalize inK br (pre.map ckKey) = ik at hsn ⊢
  have hpl2 : ck.parents.length ≤ 3 := by
   have := (readK_iff.1 hok.2.2).1.parents.len
   dsimp only at this
   omega
  have hFi := links_First_sp (B := SlI xa.pa (ck.parents.map vS)) xa ck (by omega) sla_sli
  unfold CkM
  refine wc_al ?_
  refine Qc (k:=Vv (k:=Wq (Zr (k:=Zc [vS [], vS [], .int .i64 0, .slice none 0 0, .slice none 0 0, .slice none 0 0, vS []] (k:=fun b6 => Zp (k:=Wg (Zb (k:=Qc (k:=Zm [_, _, _, _, _, _, _] (k:=?_))))))))))
  refine r_call1 hFi rfl rfl rfl ?_
  refine Vv (k:=Wq (Za (k:=Dw [Ce b3 140 [.map (some m1), .map (some m2)]] (k:=?_))))
  refine Dv 0 (k:=Dv 1 (k:=Dv 2 (k:=Dv 3 (k:=Gd 3 (t:=fun h22 => ?_) (f:=fun h22 => ?_)))))
  ·
   refine d_first 4 rfl rfl rfl (by kernel_rfl) (by kernel_rfl) (tl_in (b := true) rfl (tl_loada (vs := [_, _]) Tryz.underlying140 rfl ti140 rfl (by exact Nat.le_of_ble_eq_true rfl) (by rfl))) ?_
   refine Di 5 (t:=U1 (h:=Uv)) (k:=?_)
   refine d_first 7 rfl rfl rfl (by kernel_rfl) (by kernel_rfl) (tl_in (b := true) rfl (tl_loada (vs := [_, _]) Tryz.underlying140 rfl ti140 rfl (by exact Nat.le_of_ble_eq_true rfl) (by rfl))) ?_
   refine Di 8 (t:=U1 (h:=Uv)) (k:=Dn 6 (k:=?_))
   refine an_in (b := true) rfl ?_
   refine an_call1 (hB _) rfl rfl rfl ?_
   refine Dn 9 (k:=?_)
   refine an_in (b := true) rfl ?_
   refine an_call1 (hB _) rfl rfl rfl ?_
   refine Di 10 (t:=U1 (h:=Uv)) (k:=DP1 11 (k:=Dd (k:=Ya (Zi (t:=fun h30 => ?_) (f:=fun h30 => ?_)))))
   ·
    refine Zr (k:=Zd (k:=Vv (k:=?_)))
    refine r_mapUpdate Tryz.underlying71 Tryz.underlying9 rfl rfl rfl ?_
    refine Wn (Yb ?_)
    refine to_round ?_
    rw [hsn, inStep]
    first
    | (rw [if_pos ⟨h22, h30⟩]; exact ent_pick)
    | (rw [if_neg (fun hh => h30 hh.2)]; exact ent_pick)
    | (rw [if_neg (fun hh => h22 hh.1)]; exact ent_pick)
   ·
    refine Zk (k:=Yb ?_)
    refine to_round ?_
    rw [hsn, inStep]
    first
    | (rw [if_pos ⟨h22, h30⟩]; exact ent_pick)
    | (rw [if_neg (fun hh => h30 hh.2)]; exact ent_pick)
    | (rw [if_neg (fun hh => h22 hh.1)]; exact ent_pick)
  ·
   refine D0 4 (k:=D0 5 (k:=D0 6 (k:=D0 7 (k:=D0 8 (k:=D0 9 (k:=D0 10 (k:=DP0 11 (k:=Dd (k:=Ya (Z0 (k:=Zk (k:=?_))))))))))))
   refine Yb ?_
   refine to_round ?_
   rw [hsn, inStep]
   first
   | (rw [if_pos ⟨h22, h30⟩]; exact ent_pick)
   | (rw [if_neg (fun hh => h30 hh.2)]; exact ent_pick)
   | (rw [if_neg (fun hh => h22 hh.1)]; exact ent_pick)
 ·
  rw [show all.map ckKey = cksL H from hfin]
  have hik := fun n => inK_look br n (cksL H)
  generalize inK br (cksL H) = ik at hik ⊢
  refine Yb (Ya (Qc (k:=Zc [.slice none 0 0] (k:=fun b8 => Wq (Za (k:=Qc (k:=Vv (k:=?_))))))))
  refine r_callX (links_Checkins_sp (some b)) rfl rfl rfl (fun cb2 _ => ?_)
  refine Wq (Zb (k:=?_))
  refine p_rangeFuncX (fun pre => [LvI b8 (lvF br (cksL H) (pre.map ckKey)), MapS b12 ik, Ce b3 140 [.map (some m1), .map (some m2)], Ce b4 71 [.map (some b12)], MX.MapS MX.pairE m1 lk1, MapS m2 lk2, CkMs al, MapS b H]) (fun j pre => [Pu False]) (fun pre => [LvI b8 (lvF br (cksL H) (pre.map ckKey)), MapS b12 ik, Ce b3 140 [.map (some m1), .map (some m2)], Ce b4 71 [.map (some b12)], MX.MapS MX.pairE m1 lk1, MapS m2 lk2, CkMs al]) rfl (links_Checkins_it cb2 b H hH (by omega)) rfl (fun _ => by rfl) rfl (fun pre => ?_) (fun pre => ?_) ?_ (fun l pre x hok => ?_) (fun all hfin => ?_) (fun j pre hs => ?_)
  · exact ent_pick
  · exact ent_pick
  · (refine ent_app ?_; refine ent_ex (none, 0) (ent_al ?_); dsimp only; rw [show lvF br (cksL H) (([] : List CkN).map ckKey) = [] from rfl]; exact ent_cons (ent_step row_nil ent_pick))
  ·
   have hpl := okC_len2 hok
   have hcl : (lvF br (cksL H) (pre.map ckKey)).length ≤ pre.length := by
    have := lvF_len br (cksL H) (pre.map ckKey)
    rwa [List.length_map] at this
   have hsn : lvF br (cksL H) ((pre ++ [x]).map ckKey) = lvF br (cksL H) (pre.map ckKey) ++ lvOf br (cksL H) (ckKey x) := by rw [List.map_append, List.map_cons, List.map_nil, lvF_snoc]
   obtain ⟨nm, xa, ck⟩ := x
   dsimp only [ckV, ckVals, ckKey] at hsn ⊢
   generalize lvF br (cksL H) (pre.map ckKey) = acc0 at hsn hcl ⊢
   unfold CkM
   refine wc_al ?_
   refine wc_ent' (ent_pick1 (.there (.there (.there .here)))) ?_
   refine wc_exi fun s => wc_al ?_
   refine Zr (k:=Vv (k:=Wg (Zb (k:=Qc (k:=Zd (k:=Vv (k:=?_)))))))
   refine r_lookup (v := vB (inB br (cksL H) nm)) Tryz.underlying71 Tryz.underlying9 ti4 rfl rfl rfl (hik nm) rfl ?_
   refine Vv (k:=Wq (Zi (t:=fun h40 => ?_) (f:=fun h40 => ?_)))
   ·
    refine Dw [Ce b8 64 [.slice s.1 acc0.length s.2], Ce b3 140 [.map (some m1), .map (some m2)]] (k:=?_)
    refine Di 0 (t:=Ul) (k:=?_)
    refine d_first 1 rfl rfl rfl (by kernel_rfl) (by kernel_rfl) (tl_loada (vs := [_, _]) Tryz.underlying140 rfl ti140 rfl (by exact Nat.le_of_ble_eq_true rfl) (by rfl)) ?_
    refine Dv 2 (k:=Dv 4 (k:=Dn 3 (k:=?_)))
    refine an_call1 (hB _) rfl rfl rfl ?_
    refine Di 5 (t:=Ux (Ps [_, _])) (k:=Dn 6 (k:=Nl [_] (cs := [_, _]) (k:=fun b47 => Dn 7 (k:=?_))))
    refine an_append1 (sz := 2) (bytes := 32) Tryz.underlying64 ti63 rfl rfl rfl rfl rfl rfl rfl (by rfl) (by rfl) (by omega) (by simp only [maxLen]; omega) rfl (fun a48 c48 => ?_)
    refine d_last 8 (by kernel_rfl) rfl (by kernel_rfl) (by kernel_rfl) ?_
    refine No (k:=Yb ?_)
    refine to_round ?_
    rw [hsn, lvOf]
    first
    | (rw [if_neg (by rw [inB, decide_eq_false h40]; simp)]
       refine ent_ex (a48, c48) (ent_al ?_)
       simp only [List.length_append, List.length_cons, List.length_nil, Nat.zero_add, List.flatMap_append, List.flatMap_cons, List.flatMap_nil, List.append_nil, lfCells]
       exact ent_pick)
    | (rw [if_pos (show inB br (cksL H) nm = true from decide_eq_true (Classical.not_not.1 h40)), List.append_nil]
       refine ent_ex s (ent_al ?_)
       exact ent_pick)
   ·
    refine Zk (k:=Yb ?_)
    refine to_round ?_
    rw [hsn, lvOf]
    first
    | (rw [if_neg (by rw [inB, decide_eq_false h40]; simp)]
       refine ent_ex (a48, c48) (ent_al ?_)
       simp only [List.length_append, List.length_cons, List.length_nil, Nat.zero_add, List.flatMap_append, List.flatMap_cons, List.flatMap_nil, List.append_nil, lfCells]
       exact ent_pick)
    | (rw [if_pos (show inB br (cksL H) nm = true from decide_eq_true (Classical.not_not.1 h40)), List.append_nil]
       refine ent_ex s (ent_al ?_)
       exact ent_pick)
  ·
   simp only [List.cons_append, List.nil_append]
   rw [show all.map ckKey = cksL H from hfin, ← hlv]
   have hal : (lvL H).length ≤ H.length := by
    rw [hlv]
    exact Nat.le_trans (lvF_len _ _ _) (cksL_len' H)
   refine Yb (Ya (Za (k:=?_)))
   refine wc_exi fun s => wc_al ?_
   refine Zr (k:=Zd (k:=?_))
   refine r_callX (slices_SortLf_sp s.1 _ s.2 (lvL H) rfl (by omega)) rfl rfl rfl (fun q hq => ?_)
   have hql := hq.1.length_eq
   refine Wq (Qc (k:=Zd (k:=Vv (k:=Wq (Zt (k:=?_))))))
   refine fin_ret ((s.1, s.2), q) (vs := [.slice s.1 (lvL H).length s.2]) (Cs := []) rfl (.tmp rfl .nil) (by rw [← hql]; rfl) hq ?_
   dsimp only
   rw [hql]
   exact ent_pick
  ·
   exact wc_no (fun s => by obtain ⟨_, _, _, _, a, _⟩ := s; exact a)
 ·
  exact wc_no (fun s => by obtain ⟨_, _, _, _, a, _⟩ := s; exact a)
end
section
set_option maxRecDepth 100000
theorem picksSelf : ∀ As : List HP, Picks As As []
 | [] => .nil
 | A :: r => .cons .here (picksSelf r)
theorem takeStep {α : Type} {l l' : List α} {j : Nat} (h : j < l.length) (h' : j < l'.length) (e : l.take j = l'.take j) (x : l[j] = l'[j]) : l.take (j + 1) = l'.take (j + 1) := by
 rw [List.take_succ_eq_append_getElem h, List.take_succ_eq_append_getElem h', e, x]
end
section
set_option maxRecDepth 100000
theorem eqLf (a b : Lf) : eqCells [vS a.branch, vS a.name] [vS b.branch, vS b.name] = decide (a = b) := by
 obtain ⟨a0, a1⟩ := a
 obtain ⟨b0, b1⟩ := b
 simp only [eqCells, eqCell_s, Bool.and_true, Lf.mk.injEq, Bool.decide_and]
end
section
set_option maxRecDepth 100000
theorem SL.perm {As Bs : List HP} (p : As.Perm Bs) : ∀ {M : Kn} {h : Res}, SL As M h → SL Bs M h := by
 induction p with
 | nil => intro M h s; exact s
 | cons A _ ih =>
   intro M h s
   obtain ⟨h1, h2, d, e, a, t⟩ := s
   exact ⟨h1, h2, d, e, a, ih t⟩
 | swap A B l =>
   intro M h s
   obtain ⟨h1, h2, d, e, b, k1, k2, d', e', a, t⟩ := s
   subst e'
   obtain ⟨d1, d2⟩ := Res.dj_add_right.1 d
   exact ⟨k1, h1.add k2, Res.dj_add_right.2 ⟨Res.dj_comm d1, d'⟩, by rw [e, ← Res.add_assoc, Res.add_comm d1, Res.add_assoc], a, h1, k2, d2, rfl, b, t⟩
 | trans _ _ ih1 ih2 => intro M h s; exact ih2 (ih1 s)
/-- Names of one branch, in memory. -/
structure Gr where
 b : Bs
 a : Option Addr
 c : Nat
 ns : List Bs
/-- They never turn any more. -/
def GIs (G : List Gr) : HP := ⟨fun M _ => ∀ g ∈ G, SlIAt g.a (g.ns.map vS) M Res.emp, fun le h g hg => (SlI g.a (g.ns.map vS)).mono (h := Res.emp) le (h g hg)⟩
instance {G : List Gr} : PersC (GIs G) := ⟨fun e => e⟩
/-- The groups of the names so far. -/
structure GOk (br : Bs → Bs) (pre : List Bs) (G : List Gr) : Prop where
 nd : (G.map (·.b)).Nodup
 ns : ∀ g ∈ G, g.ns = pre.filter (fun n => decide (br n = g.b)) ∧ g.ns ≠ [] ∧ g.a ≠ none
 mem : ∀ n ∈ pre, br n ∈ G.map (·.b)
 len : G.length ≤ pre.length
theorem GOk.nil (br : Bs → Bs) : GOk br [] [] := ⟨List.nodup_nil, (fun g h => by cases h), (fun n h => by cases h), Nat.le_refl _⟩
theorem GOk.new {br : Bs → Bs} {pre : List Bs} {G : List Gr} (h : GOk br pre G) {n : Bs} (hn : br n ∉ G.map (·.b)) (a : Option Addr) (ha : a ≠ none) (c : Nat) : GOk br (pre ++ [n]) (G ++ [⟨br n, a, c, [n]⟩]) := by
 have hno : ∀ m ∈ pre, br m ≠ br n := fun m hm e => hn (by rw [← e]; exact h.mem m hm)
 refine ⟨?_, fun g hg => ?_, fun m hm => ?_, by simp [h.len]⟩
 · rw [List.map_append, List.nodup_append]
   exact ⟨h.nd, by simp, fun x hx y hy e => by simp at hy; subst hy; subst e; exact hn hx⟩
 · rw [List.filter_append]
   rcases List.mem_append.1 hg with hg | hg
   · obtain ⟨h1, h2, h3⟩ := h.ns g hg
     have : br n ≠ g.b := fun e => hn (by rw [e]; exact List.mem_map_of_mem (f := fun g : Gr => g.b) hg)
     refine ⟨?_, h2, h3⟩
     rw [← h1]
     simp [this]
   · rw [List.mem_singleton.1 hg]
     refine ⟨?_, by simp, ha⟩
     dsimp only
     rw [List.filter_eq_nil_iff.2 (fun m hm => by simpa using hno m hm)]
     simp
 · rw [List.map_append, List.mem_append]
   rcases List.mem_append.1 hm with hm | hm
   · exact .inl (h.mem m hm)
   · rw [List.mem_singleton.1 hm]; exact .inr (by simp)
theorem GOk.more {br : Bs → Bs} {pre : List Bs} {G : List Gr} (h : GOk br pre G) {n : Bs} {i : Nat} (hi : i < G.length) (hb : G[i].b = br n) (a : Option Addr) (ha : a ≠ none) (c : Nat) : GOk br (pre ++ [n]) (G.set i ⟨br n, a, c, G[i].ns ++ [n]⟩) := by
 have hk : (G.set i ⟨br n, a, c, G[i].ns ++ [n]⟩).map (·.b) = G.map (·.b) := by
  rw [List.map_set]
  apply List.ext_getElem?
  intro j
  rw [List.getElem?_set]
  by_cases e : i = j
  · subst e; simp [hi, hb]
  · rw [if_neg e]
 refine ⟨by rw [hk]; exact h.nd, fun g hg => ?_, fun m hm => ?_, by rw [List.length_set, List.length_append]; have := h.len; omega⟩
 · rw [List.filter_append]
   obtain ⟨j, hj, rfl⟩ := List.getElem_of_mem hg
   rw [List.length_set] at hj
   rw [List.getElem_set]
   by_cases e : i = j
   · subst e
     rw [if_pos rfl]
     obtain ⟨h1, _, _⟩ := h.ns _ (List.getElem_mem hi)
     refine ⟨?_, by simp, ha⟩
     dsimp only
     rw [hb] at h1
     rw [h1]; simp
   · rw [if_neg e]
     obtain ⟨h1, h2, h3⟩ := h.ns _ (List.getElem_mem hj)
     have hne : br n ≠ G[j].b := fun e2 => by
      have hl : i < (G.map (·.b)).length := by simpa using hi
      have hl2 : j < (G.map (·.b)).length := by simpa using hj
      exact e (nodup_inj h.nd hl hl2 (by simp [hb, e2]))
     refine ⟨?_, h2, h3⟩
     rw [← h1]
     simp [hne]
 · rw [hk]
   rcases List.mem_append.1 hm with hm | hm
   · exact h.mem m hm
   · rw [List.mem_singleton.1 hm, ← hb]
     exact List.mem_map_of_mem (f := fun g : Gr => g.b) (List.getElem_mem hi)
end
section
set_option maxRecDepth 100000
theorem row_some {e sz k n' c' : Nat} {a : Option Addr} {xs : List Value} {M : Kn} {h : Res} (x : (Row e sz (.slice a n' c') k xs).at_ M h) (hk : k ≠ 0) : a ≠ none := by
 rcases x with ⟨_, h0, _⟩ | ⟨g, cap, cur, e1, _⟩
 · exact absurd h0 hk
 · cases e1; simp
end
section
set_option maxRecDepth 100000
set_option maxHeartbeats 2000000 in
theorem slices_CloneLf_sp (a : Option Addr) (c : Nat) (l : List Lf) (hb : l.length ≤ 1000000) :
    Sp Tryz.prog 89 [.slice a l.length c] [Row 63 2 (.slice a l.length c) l.length (l.flatMap lfCells)] (X := Option Addr × Nat) (fun x => .slice x.1 l.length x.2) (fun _ => True) (fun x => [Row 63 2 (.slice x.1 l.length x.2) l.length (l.flatMap lfCells), Row 63 2 (.slice a l.length c) l.length (l.flatMap lfCells)]) := by
 have hfl : (l.flatMap lfCells).length = l.length * 2 := flat_len (f := lfCells) (sz := 2) (fun _ => rfl) l
 have hone : (l.flatMap lfCells).all oneCell = true := by
  rw [List.all_flatMap]
  exact List.all_eq_true.2 fun x _ => rfl
 refine Sp.body (n := 8) Tryz.call89 Tryz.func89 rfl rfl rfl ?_
 refine wc_know (A := Row 63 2 (.slice a l.length c) l.length (l.flatMap lfCells)) HasC.get (fun x => (row_some x : l.length ≠ 0 → a ≠ none)) (fun hnn => ?_)
 refine Qc (k:=Vv (k:=Wq (Za (k:=Qc (k:=Vv (k:=?_))))))
 refine wo_pv (pv_sleql_nil Tryz.underlying64 rfl rfl) rfl ?_
 refine Wq (Zi (t:=fun h4 => ?_) (f:=fun h4 => ?_))
 ·
  refine Qc (k:=Vv (k:=Wq (Zt (k:=Va ?_))))
  have hl0 : l = [] := by
   rcases Nat.eq_zero_or_pos l.length with h | h
   · exact List.eq_nil_of_length_eq_zero h
   · exact absurd (Option.isNone_iff_eq_none.1 h4) (hnn (by omega))
  subst hl0
  refine fin_ret (none, 0) (vs := [_]) (Cs := []) rfl (.tmp rfl .nil) rfl trivial ?_
  simp only [List.length_nil, List.flatMap_nil]
  exact (row_nil (e := 63) (sz := 2)).trans ent_pick
 ·
  refine Zk (k:=Ya (Qc (k:=Zv [] (cs := []) (k:=fun b5 => Vv (k:=?_)))))
  refine wo_ent' (ent_row (k := 0) (cap := 0) (sz := 2) (e := 63) (g := b5) (xs := []) (cur := []) (Nat.le_refl _) (by simp [maxLen]) rfl rfl rfl) ?_
  refine wo_opT (by intro c; simp) (opt_appendA (sz := 2) (bytes := 32) Tryz.underlying64 ti63 rfl rfl rfl rfl rfl rfl rfl (sla_row (e := 63) (sz := 2) (k := l.length) (n := l.length) (c := c) (a := a) (xs := l.flatMap lfCells)) hfl hone (by omega) (by simp only [maxLen]; omega) (k := 0) (xs := [])) rfl (fun x7 ⟨a7, c7, h7⟩ => ?_)
  subst h7
  rw [Nat.zero_add, List.nil_append]
  refine Vv (k:=Wq (Zt (k:=?_)))
  exact fin_ret (a7, c7) (vs := [_]) (Cs := []) rfl (.tmp rfl .nil) rfl trivial ent_pick
set_option maxHeartbeats 2000000 in
theorem slices_EqualLf_sp {As : List HP} {a a' : Option Addr} (n n' c c' : Nat) (l l' : List Lf) [h1 : RdSl a (l.flatMap lfCells) As] [h2 : RdSl a' (l'.flatMap lfCells) As] (hn : l.length = n) (hn' : l'.length = n') (hb : n ≤ 140737488355328) :
    Sp1 Tryz.prog 93 [.slice a n c, .slice a' n' c'] As (vB (decide (l = l'))) As := by
 subst hn; subst hn'
 haveI : PicksC As As [] := ⟨picksSelf As⟩
 refine Sp.body (n := 26) Tryz.call93 Tryz.func93 rfl rfl rfl ?_
 refine Qc (k:=Vv (k:=Wq (Za (k:=Qc (k:=Qv (k:=Qv (k:=Vv (k:=?_))))))))
 refine Wq (Zi (t:=fun h10 => ?_) (f:=fun h10 => ?_))
 ·
  refine Qc (k:=Vv (k:=Wq (Zt (k:=Va ?_))))
  have hn : ¬ l = l' := fun e => h10 (by rw [e])
  exact fin_ret () (vs := [_]) (Cs := []) rfl (.tmp rfl .nil) (by rw [decide_eq_false hn]; rfl) trivial (by rw [List.append_nil]; exact Ent.refl _)
 ·
  refine Zk (k:=Ya (Za (k:=Qc (k:=Qv (k:=Vv (k:=Wq (Zb (k:=?_))))))))
  refine p_loop (fun (i : { j : Nat // j ≤ l.length ∧ l.take j = l'.take j }) => [(0, .slice a l.length c), (1, .slice a' l'.length c'), (12, vI l.length), (13, vI i.1)]) (fun (i : { j : Nat // j ≤ l.length ∧ l.take j = l'.take j }) => As) (fun (i : { j : Nat // j ≤ l.length ∧ l.take j = l'.take j }) => l.length - i.1) rfl (⟨0, Nat.zero_le _, rfl⟩) ?_ ?_ (fun i => ?_)
  · exact ⟨rfl, rfl, rfl, rfl, trivial⟩
  ·
   exact Ent.refl _
  obtain ⟨j, hj, hw⟩ := i
  try dsimp only
  refine Qc (k:=Vv (k:=Wq (Za (k:=Zi (t:=fun h14 => ?_) (f:=fun h14 => ?_)))))
  ·
   refine Zk (k:=Ya (Za (k:=Zb (k:=Qc (k:=Qv (k:=Wq (Za (k:=?_))))))))
   have hjl : j < l.length := by omega
   have hjl' : j < l'.length := by omega
   have hq := eqLf l[j] l'[j]
   refine d_draw rfl rfl rfl As ?_
   refine Dv 0 (k:=Dv 1 (k:=?_))
   refine d_first 2 rfl rfl rfl (by kernel_rfl) (by kernel_rfl) (tl_elemAddr (sz := 2) Tryz.underlying64 ti63 rfl rfl rfl rfl (by omega) (by first | (rw [List.length_map]; omega) | (rw [flat_len (sz := 2) (fun _ => rfl)]; omega) | (simp; omega)) rfl) ?_
   refine d_first 3 rfl rfl rfl (by kernel_rfl) (by kernel_rfl) (tl_eloada (vs := [_, _]) (sz := 2) Tryz.underlying63 rfl ti63 rfl rfl (by rw [flat_len (sz := 2) (fun _ => rfl)]; omega) rfl (by refine get_flat (fun x => ?_) ?_ <;> first | rfl | omega)) ?_
   refine Dv 4 (k:=Dv 5 (k:=?_))
   refine d_first 6 rfl rfl rfl (by kernel_rfl) (by kernel_rfl) (tl_elemAddr (sz := 2) Tryz.underlying64 ti63 rfl rfl rfl rfl (by omega) (by first | (rw [List.length_map]; omega) | (rw [flat_len (sz := 2) (fun _ => rfl)]; omega) | (simp; omega)) rfl) ?_
   refine d_first 7 rfl rfl rfl (by kernel_rfl) (by kernel_rfl) (tl_eloada (vs := [_, _]) (sz := 2) Tryz.underlying63 rfl ti63 rfl rfl (by rw [flat_len (sz := 2) (fun _ => rfl)]; omega) rfl (by refine get_flat (fun x => ?_) ?_ <;> first | rfl | omega)) ?_
   refine d_first 8 rfl rfl rfl (by kernel_rfl) (by kernel_rfl) (tl_pv (pv_aneq [.string, .string] Tryz.underlying63 (by kernel_rfl) (by kernel_rfl) (by kernel_rfl) rfl rfl rfl)) ?_
   refine Dd (k:=?_)
   rw [hq]
   refine Ya (Zi (t:=fun h24 => ?_) (f:=fun h24 => ?_))
   ·
    refine Qc (k:=Vv (k:=Wq (Zt (k:=Vb (Va (Vi (Vb (Va ?_))))))))
    have hn : ¬ l = l' := fun e => by subst e; simp at h24
    exact fin_ret () (vs := [_]) (Cs := []) rfl (.tmp rfl .nil) (by rw [decide_eq_false hn]; rfl) trivial (by rw [List.append_nil]; exact Ent.refl _)
   ·
    refine Zk (k:=Yb (Ya (Zr (k:=Qv (k:=Wn ?_)))))
    have hx : l[j] = l'[j] := by simpa using h24
    exact to_inv ⟨j + 1, by omega, takeStep hjl hjl' hw hx⟩ (by dsimp only; omega) ⟨rfl, rfl, rfl, rfl, trivial⟩ (by rw [List.append_nil]; exact Ent.refl _)
  ·
   refine Ze (k:=Xa (Xi (Xb (Ya (Qc (k:=Vv (k:=Wq (Zt (k:=?_)))))))))
   have hjl : j = l.length := by omega
   subst hjl
   have he : l = l' := by
    have e1 : l'.length = l.length := by omega
    rw [List.take_length, ← e1, List.take_length] at hw
    exact hw
   exact fin_ret () (vs := [_]) (Cs := []) rfl (.tmp rfl .nil) (by rw [decide_eq_true he]; rfl) trivial (by rw [List.append_nil]; exact Ent.refl _)
end
section
set_option maxRecDepth 100000
theorem cksF_length (H : Ks) (l : List Bs) : (cksF H l).length ≤ l.length := by
 induction l with
 | nil => exact Nat.le_refl _
 | cons n l ih =>
   have : (ckOf H n).length ≤ 1 := by unfold ckOf; split <;> simp
   rw [cksF, List.flatMap_cons, List.length_append, List.length_cons]
   have h2 : (List.flatMap (ckOf H) l).length ≤ l.length := ih
   omega
theorem okC_len {H : Ks} {pre : List CkN} {x : CkN} (h : okC H pre x) : pre.length < H.length := by
 obtain ⟨⟨r, e⟩, _, _⟩ := h
 have h1 := cksF_length H (keysS H)
 rw [keysS_len] at h1
 have h2 := congrArg List.length e
 rw [List.length_append, List.length_cons, List.length_map] at h2
 have h3 : (cksL H).length = (cksF H (keysS H)).length := rfl
 omega
end
section
set_option maxRecDepth 100000
structure Pl where
 child : Bs
 parent : Bs
 prim : Bool
 deriving DecidableEq
instance : Inhabited Pl := ⟨⟨[], [], false⟩⟩
def plCells (p : Pl) : List Value := [vS p.child, vS p.parent, .bool p.prim]
def plKey (p : Pl) : Bs × Bs := (p.child, p.parent)
def plOf (x : Bs × Ck) : List Pl := x.2.parents.map fun p => ⟨x.1, p, decide (p = firstB x.2)⟩
def plF (l : List (Bs × Ck)) : List Pl := l.flatMap plOf
theorem plF_snoc (l : List (Bs × Ck)) (x : Bs × Ck) : plF (l ++ [x]) = plF l ++ plOf x := by simp [plF]
theorem Parents_cmp_sp (x y : Pl) : SpF Tryz.prog 56 [.agg (plCells x).toArray, .agg (plCells y).toArray] (vI (cmp2 (plKey x) (plKey y))) := by
 obtain ⟨c1, p1, m1⟩ := x
 obtain ⟨c2, p2, m2⟩ := y
 refine Sp.body (n := 17) Tryz.call56 Tryz.func56 rfl rfl rfl ?_
 refine Qc (k:=Zx [_, _, _] (k:=fun b2 => Zx [_, _, _] (k:=fun b3 => Vv (k:=Wq (Za (k:=Dw [Ce b2 37 [vS c1, vS p1, .bool m1], Ce b3 37 [vS c2, vS p2, .bool m2]] (k:=?_)))))))
 refine Di 0 (t:=Uf 0 9) (k:=Di 1 (t:=Ul) (k:=Di 2 (t:=Uf 0 9) (k:=Di 3 (t:=Ul) (k:=Di 5 (t:=Uf 1 9) (k:=Di 6 (t:=Ul) (k:=Di 7 (t:=Uf 1 9) (k:=Di 8 (t:=Ul) (k:=Dn 4 (k:=?_)))))))))
 refine an_callF (cmp_Compare_sp _ _) rfl rfl rfl ?_
 refine Dn 9 (k:=?_)
 refine an_callF (cmp_Compare_sp _ _) rfl rfl rfl ?_
 refine Dn 10 (k:=Nl [_, _] (cs := [_, _]) (k:=fun b15 => Dn 11 (k:=?_)))
 refine an_call1 (cmp_Or2_sp b15 (cmpB c1 c2) (cmpB p1 p2)) rfl rfl rfl ?_
 refine Dv 12 (k:=Dd (k:=Ya (Zt (k:=?_))))
 exact fin_ret () (vs := [_]) (Cs := []) rfl (.tmp rfl .nil) rfl trivial ent_nil
theorem insPl_nil (g : Nat) : SpF Tryz.prog 138 [.slice none 0 0, vI 0, vI 0, .func (.func g) #[] #[]] (.tuple #[]) := by
 refine Sp.body (n := 53) Tryz.call138 Tryz.func138 rfl rfl rfl ?_
 refine Qc (k:=Qv (k:=Vv (k:=Wq (Zb (k:=?_)))))
 refine p_loop (fun (i : Unit) => [(0, .slice none 0 0), (1, vI 0), (2, vI 0), (8, vI 1)]) (fun (i : Unit) => []) (fun (i : Unit) => 0) rfl (()) ?_ ?_ (fun i => ?_)
 · exact ⟨rfl, rfl, rfl, rfl, trivial⟩
 ·
  exact Ent.refl _
 try dsimp only
 refine Za (k:=Qc (k:=Qv (k:=Vv (k:=Wq (Zi (t:=fun h14 => ?_) (f:=fun h14 => ?_))))))
 ·
  simp at h14
  --done
 ·
  refine Ze (k:=Xa (Xi (Xb ?_)))
  exact fin_end () (vs := []) (Cs := []) rfl .nil rfl trivial ent_nil
theorem pdqPl_nil (g : Nat) : SpF Tryz.prog 100 [.slice none 0 0, vI 0, vI 0, vI 0, .func (.func g) #[] #[]] (.tuple #[]) := by
 refine Sp.body (n := 148) Tryz.call100 Tryz.func100 rfl rfl rfl ?_
 refine Qc (k:=Vv (k:=Wq (Qc (k:=Vv (k:=Wq (Zb (k:=?_)))))))
 refine p_loop (fun (i : Unit) => [(0, .slice none 0 0), (1, vI 0), (2, vI 0), (3, vI 0), (4, .func (.func g) #[] #[])]) (fun (i : Unit) => []) (fun (i : Unit) => 0) rfl (()) ?_ ?_ (fun i => ?_)
 · exact ⟨rfl, rfl, rfl, rfl, rfl, trivial⟩
 ·
  exact Ent.refl _
 try dsimp only
 refine Zb (k:=Qc (k:=Qv (k:=Qv (k:=Wq (Za (k:=Qc (k:=Vv (k:=?_))))))))
 refine Vv (k:=Wq (Zi (t:=fun h25 => ?_) (f:=fun h25 => ?_)))
 ·
  refine Qc (k:=Qv (k:=Qv (k:=?_)))
  refine r_callF (insPl_nil g) rfl rfl rfl ?_
  refine Wq (Zt (k:=Va (Vb (Vi (Vb ?_)))))
  exact fin_ret () (vs := []) (Cs := []) rfl .nil rfl trivial ent_nil
 ·
  simp at h25
  --done
theorem SortPl_nil (g : Nat) : SpF Tryz.prog 55 [.slice none 0 0, .func (.func g) #[] #[]] (.tuple #[]) := by
 refine Sp.body (n := 14) Tryz.call55 Tryz.func55 rfl rfl rfl ?_
 refine Qc (k:=Qv (k:=Vv (k:=Wq (Zr (k:=Qv (k:=Vv (k:=?_)))))))
 refine wo_pv (pv_conv_in (i := 0) rfl Tryz.underlying3 Tryz.underlying97 (by decide)) rfl ?_
 refine r_callF bits_Len_zero rfl rfl rfl ?_
 refine Vv (k:=?_)
 refine r_callF (pdqPl_nil g) rfl rfl rfl ?_
 refine Wn ?_
 exact fin_end () (vs := []) (Cs := []) rfl .nil rfl trivial ent_nil
theorem slices_SortPl_sp (a : Option Addr) (n c : Nat) (l : List Pl) (hl : l.length = n) (hb : n < 4611686018427387904) :
    Sp Tryz.prog 55 [.slice a n c, .func (.func 56) #[] #[]] [Row 37 3 (.slice a n c) n (l.flatMap plCells)] (X := List Pl) (fun _ => .tuple #[]) (fun q => q.Perm l ∧ q.Pairwise fun x y => ltOf (fun x y => cmp2 (plKey x) (plKey y)) y x = false) (fun q => [Row 37 3 (.slice a n c) n (q.flatMap plCells)]) :=
 sortF_sp (T := 37) (k := 3) (enc := plCells) (fun _ => rfl) _ Tryz.call55 (SortPl_nil _) (fun blk cap d w hH hb hs => by
  have hcon := AnyQ.slices_SortFunc Tryz.sortFP 3 Tryz.isAgg37 Tryz.sizeOf37 plCells (fun _ => rfl) (fun x v hv => by
   simp only [plCells, List.mem_cons, List.not_mem_nil, or_false] at hv
   rcases hv with rfl | rfl | rfl <;> rfl) (fun x y => cmp2 (plKey x) (plKey y)) (SWO2 plKey) 56 #[] blk 0 cap d w Tryz.call56 (fun m os dk hs x y => by
    have := Sp.grown (Parents_cmp_sp x y) (sortWorldK plCells 3 w blk 0 m dk os)
    simpa using this) hH hb hs
  exact hcon) a n c l hl hb
theorem cksF_mem {H : Ks} {l : List Bs} {x : Bs × Ck} (h : x ∈ cksF H l) : readK (getB H x.1) = some x.2 := by
 obtain ⟨n, _, hx⟩ := List.mem_flatMap.1 h
 unfold ckOf at hx
 split at hx
 · cases hx
 · rename_i c hc
   rw [List.mem_singleton] at hx
   subst hx
   exact hc
theorem plOf_len {H : Ks} {l : List Bs} {x : Bs × Ck} (h : x ∈ cksF H l) : (plOf x).length ≤ 3 := by
 have := (readK_iff.1 (cksF_mem h)).1.parents.len
 unfold plOf
 rw [List.length_map]
 omega
theorem plF_len {H : Ks} : ∀ {l r : List (Bs × Ck)}, cksL H = l ++ r → (plF l).length ≤ 3 * l.length := by
 intro l r h
 have hm : ∀ x ∈ l, (plOf x).length ≤ 3 := fun x hx => plOf_len (H := H) (l := keysS H) (by rw [show cksF H (keysS H) = cksL H from rfl, h]; exact List.mem_append_left _ hx)
 clear h
 induction l with
 | nil => simp [plF]
 | cons a l ih =>
   have h1 := hm a (List.mem_cons_self ..)
   have h2 := ih (fun x hx => hm x (List.mem_cons_of_mem _ hx))
   unfold plF at *
   rw [List.flatMap_cons, List.length_append, List.length_cons]
   omega
theorem cksL_len (H : Ks) : (cksL H).length ≤ H.length := by
 have h1 := cksF_length H (keysS H)
 rw [keysS_len] at h1
 exact h1
abbrev PaI (b : Nat) (acc : List Pl) : HP := Ex fun s : Option Addr × Nat => Al [Ce b 32 [.slice s.1 acc.length s.2], Row 37 3 (.slice s.1 acc.length s.2) acc.length (acc.flatMap plCells)]
set_option maxHeartbeats 4000000 in
theorem links_Parents_sp (b : Nat) (H : Ks) (hH : TxtK H) (hn : H.length ≤ 1000000) :
    Sp Tryz.prog 17 [.map (some b)] [MapS b H] (X := (Option Addr × Nat) × List Pl) (fun x => .slice x.1.1 x.2.length x.1.2) (fun x => x.2.Perm (plF (cksL H)) ∧ x.2.Pairwise fun x y => ltOf (fun x y => cmp2 (plKey x) (plKey y)) y x = false) (fun x => [Row 37 3 (.slice x.1.1 x.2.length x.1.2) x.2.length (x.2.flatMap plCells), MapS b H]) := by
 refine Sp.body (n := 33) Tryz.call17 Tryz.func17 rfl rfl rfl ?_
 refine Qc (k:=Vv (k:=Wq (Qc (k:=Zc [.slice none 0 0] (k:=fun b3 => Wq (Za (k:=Qc (k:=Vv (k:=?_)))))))))
 refine r_callX (links_Checkins_sp (some b)) rfl rfl rfl (fun cb _ => ?_)
 refine Wq (Zb (k:=?_))
 refine p_rangeFuncX (fun pre => [PaI b3 (plF (pre.map ckKey)), MapS b H]) (fun j pre => [Pu False]) (fun pre => [PaI b3 (plF (pre.map ckKey))]) rfl (links_Checkins_it cb b H hH (by omega)) rfl (fun _ => by rfl) rfl (fun pre => ?_) (fun pre => ?_) ?_ (fun l pre x hok => ?_) (fun all hfin => ?_) (fun j pre hs => ?_)
 · exact ent_pick
 · exact ent_pick
 · (refine ent_app ?_; refine ent_ex (none, 0) (ent_al ?_); dsimp only; rw [show plF (([] : List CkN).map ckKey) = [] from rfl]; exact ent_cons (ent_step row_nil ent_pick))
 ·
  have hpl := okC_len hok
  have hcl : (plF (pre.map ckKey)).length ≤ 3 * pre.length := by
   obtain ⟨⟨r, e⟩, _, _⟩ := hok
   have := plF_len e
   rwa [List.length_map] at this
  have hsn : plF ((pre ++ [x]).map ckKey) = plF (pre.map ckKey) ++ plOf (ckKey x) := by rw [List.map_append, List.map_cons, List.map_nil, plF_snoc]
  obtain ⟨nm, xa, ck⟩ := x
  dsimp only [ckV, ckVals, ckKey] at hsn ⊢
  generalize plF (pre.map ckKey) = acc0 at hsn hcl ⊢
  have hpl2 : ck.parents.length ≤ 3 := by
   have := (readK_iff.1 hok.2.2).1.parents.len
   dsimp only at this
   omega
  have hol : (plOf (nm, ck)).length = ck.parents.length := List.length_map ..
  have hFi := links_First_sp (B := SlI xa.pa (ck.parents.map vS)) xa ck (by omega) sla_sli
  unfold CkM
  refine wc_al ?_
  refine wc_ent' (ent_pick1 (.there (.there (.there .here)))) ?_
  refine wc_exi fun s => wc_al ?_
  refine Qc (k:=Vv (k:=Wq (Zr (k:=Zc [vS [], vS [], .int .i64 0, .slice none 0 0, .slice none 0 0, .slice none 0 0, vS []] (k:=fun b5 => Zp (k:=Wg (Zb (k:=Qc (k:=Vf 4 27 (k:=?_))))))))))
  refine Zd (k:=Qv (k:=Wq (Zb (k:=?_))))
  refine p_loop (fun (i : { x : (Option Addr × Nat) × Nat // x.2 ≤ ck.parents.length }) => [(3, .pointer (some ⟨b3, 0, none⟩)), (4, vS nm), (5, .pointer (some ⟨b5, 0, none⟩)), (13, .slice xa.pa ck.parents.length xa.pc), (14, vI ck.parents.length), (15, vI i.1.2)]) (fun (i : { x : (Option Addr × Nat) × Nat // x.2 ≤ ck.parents.length }) => [Ce b3 32 [.slice i.1.1.1 (acc0 ++ (plOf (nm, ck)).take i.1.2).length i.1.1.2], Row 37 3 (.slice i.1.1.1 (acc0 ++ (plOf (nm, ck)).take i.1.2).length i.1.1.2) (acc0 ++ (plOf (nm, ck)).take i.1.2).length ((acc0 ++ (plOf (nm, ck)).take i.1.2).flatMap plCells), Ce b5 30 [vS ck.base, vS ck.comment, vI ck.date, .slice xa.fa ck.files.length xa.fc, .slice xa.pa ck.parents.length xa.pc, .slice xa.ta ck.tags.length xa.tc, vS ck.user], SlI xa.pa (ck.parents.map vS), MapS b H]) (fun (i : { x : (Option Addr × Nat) × Nat // x.2 ≤ ck.parents.length }) => ck.parents.length - i.1.2) rfl (⟨(s, 0), Nat.zero_le _⟩) ?_ ?_ (fun i => ?_)
  · exact ⟨rfl, rfl, rfl, rfl, rfl, rfl, trivial⟩
  ·
   dsimp only
   rw [List.take_zero, List.append_nil]
   exact ent_pick
  obtain ⟨⟨⟨sa, sc⟩, j⟩, hj⟩ := i
  dsimp only at hj ⊢
  have hml : (acc0 ++ (plOf (nm, ck)).take j).length = acc0.length + j := by rw [List.length_append, List.length_take]; omega
  try dsimp only
  refine Qc (k:=Vv (k:=Wq (Za (k:=Zi (t:=fun h16 => ?_) (f:=fun h16 => ?_)))))
  ·
   refine Zk (k:=Ya (Za (k:=Zb (k:=Qc (k:=Ye 1 (k:=Ym (k:=Vv (k:=Wq (Dw [Ce b3 32 [.slice sa (acc0 ++ (plOf (nm, ck)).take j).length sc], Ce b5 30 [vS ck.base, vS ck.comment, vI ck.date, .slice xa.fa ck.files.length xa.fc, .slice xa.pa ck.parents.length xa.pc, .slice xa.ta ck.tags.length xa.tc, vS ck.user]] (k:=?_))))))))))
   refine Di 0 (t:=Ul) (k:=Dv 1 (k:=Dv 2 (k:=Dv 3 (k:=?_))))
   refine d_first 4 rfl rfl rfl (by kernel_rfl) (by kernel_rfl) (tl_loada (vs := [_, _, _, _, _, _, _]) Tryz.underlying30 rfl ti30 rfl (by exact Nat.le_of_ble_eq_true rfl) (by rfl)) ?_
   refine Dn 5 (k:=?_)
   refine an_call1 hFi rfl rfl rfl ?_
   refine Dv 6 (k:=Di 7 (t:=Ux (Ps [_, _, _])) (k:=Dn 8 (k:=Nl [_] (cs := [_, _, _]) (k:=fun b27 => Dn 9 (k:=?_)))))
   refine an_append1 (sz := 3) (bytes := 40) Tryz.underlying32 ti37 rfl rfl rfl rfl rfl rfl rfl (by rfl) (by rfl) (by omega) (by simp only [maxLen]; omega) rfl (fun a28 c28 => ?_)
   refine d_last 10 (by kernel_rfl) rfl (by kernel_rfl) (by kernel_rfl) ?_
   refine No (k:=Yb (Ya (Zr (k:=Qv (k:=Wn ?_)))))
   have hjl : j < ck.parents.length := by omega
   have hst : acc0 ++ (plOf (nm, ck)).take (j + 1) = acc0 ++ (plOf (nm, ck)).take j ++ [⟨nm, ck.parents[j], decide (ck.parents[j] = firstB ck)⟩] := by
    rw [List.take_succ_eq_append_getElem (by omega), ← List.append_assoc]
    simp [plOf]
   refine to_inv ⟨((a28, c28), j + 1), by dsimp only; omega⟩ (by dsimp only; omega) ⟨rfl, rfl, rfl, rfl, rfl, rfl, trivial⟩ ?_
   dsimp only
   rw [hst]
   simp only [List.length_append, List.length_cons, List.length_nil, Nat.zero_add, List.flatMap_append, List.flatMap_cons, List.flatMap_nil, List.append_nil, plCells]
   exact ent_pick
  ·
   refine Ze (k:=Xa (Xi (Xb (Yb ?_))))
   have hjl : (plOf (nm, ck)).take j = plOf (nm, ck) := List.take_of_length_le (by omega)
   refine to_round ?_
   rw [hsn, hjl]
   refine ent_ex (sa, sc) (ent_al ?_)
   exact ent_pick
 ·
  simp only [List.cons_append, List.nil_append]
  rw [show plF (all.map ckKey) = plF (cksL H) from by rw [show all.map ckKey = cksL H from hfin]]
  have hal := plF_len (H := H) (l := cksL H) (r := []) (List.append_nil _).symm
  have hal2 := cksL_len H
  refine Yb (Ya (Za (k:=?_)))
  refine wc_exi fun s => wc_al ?_
  refine Zr (k:=Zd (k:=?_))
  refine r_callX (slices_SortPl_sp s.1 _ s.2 (plF (cksL H)) rfl (by omega)) rfl rfl rfl (fun q hq => ?_)
  have hql := hq.1.length_eq
  refine Wq (Qc (k:=Zd (k:=Vv (k:=Wq (Zt (k:=?_))))))
  refine fin_ret ((s.1, s.2), q) (vs := [.slice s.1 (plF (cksL H)).length s.2]) (Cs := []) rfl (.tmp rfl .nil) (by rw [← hql]; rfl) hq ?_
  dsimp only
  rw [hql]
  exact ent_pick
 ·
  exact wc_no (fun s => by obtain ⟨_, _, _, _, a, _⟩ := s; exact a)
end
section
set_option maxRecDepth 100000
theorem eqPl (a b : Pl) : eqCells [vS a.child, vS a.parent, vB a.prim] [vS b.child, vS b.parent, vB b.prim] = decide (a = b) := by
 obtain ⟨a0, a1, a2⟩ := a
 obtain ⟨b0, b1, b2⟩ := b
 simp only [eqCells, eqCell_s, Bool.and_true, Pl.mk.injEq, Bool.decide_and]
 cases a2 <;> cases b2 <;> simp [eqCell, vB]
end
section
set_option maxRecDepth 100000
set_option maxHeartbeats 2000000 in
theorem slices_ClonePl_sp (a : Option Addr) (c : Nat) (l : List Pl) (hb : l.length ≤ 1000000) :
    Sp Tryz.prog 86 [.slice a l.length c] [Row 37 3 (.slice a l.length c) l.length (l.flatMap plCells)] (X := Option Addr × Nat) (fun x => .slice x.1 l.length x.2) (fun _ => True) (fun x => [Row 37 3 (.slice x.1 l.length x.2) l.length (l.flatMap plCells), Row 37 3 (.slice a l.length c) l.length (l.flatMap plCells)]) := by
 have hfl : (l.flatMap plCells).length = l.length * 3 := flat_len (f := plCells) (sz := 3) (fun _ => rfl) l
 have hone : (l.flatMap plCells).all oneCell = true := by
  rw [List.all_flatMap]
  exact List.all_eq_true.2 fun x _ => rfl
 refine Sp.body (n := 8) Tryz.call86 Tryz.func86 rfl rfl rfl ?_
 refine wc_know (A := Row 37 3 (.slice a l.length c) l.length (l.flatMap plCells)) HasC.get (fun x => (row_some x : l.length ≠ 0 → a ≠ none)) (fun hnn => ?_)
 refine Qc (k:=Vv (k:=Wq (Za (k:=Qc (k:=Vv (k:=?_))))))
 refine wo_pv (pv_sleql_nil Tryz.underlying32 rfl rfl) rfl ?_
 refine Wq (Zi (t:=fun h4 => ?_) (f:=fun h4 => ?_))
 ·
  refine Qc (k:=Vv (k:=Wq (Zt (k:=Va ?_))))
  have hl0 : l = [] := by
   rcases Nat.eq_zero_or_pos l.length with h | h
   · exact List.eq_nil_of_length_eq_zero h
   · exact absurd (Option.isNone_iff_eq_none.1 h4) (hnn (by omega))
  subst hl0
  refine fin_ret (none, 0) (vs := [_]) (Cs := []) rfl (.tmp rfl .nil) rfl trivial ?_
  simp only [List.length_nil, List.flatMap_nil]
  exact (row_nil (e := 37) (sz := 3)).trans ent_pick
 ·
  refine Zk (k:=Ya (Qc (k:=Zv [] (cs := []) (k:=fun b5 => Vv (k:=?_)))))
  refine wo_ent' (ent_row (k := 0) (cap := 0) (sz := 3) (e := 37) (g := b5) (xs := []) (cur := []) (Nat.le_refl _) (by simp [maxLen]) rfl rfl rfl) ?_
  refine wo_opT (by intro c; simp) (opt_appendA (sz := 3) (bytes := 40) Tryz.underlying32 ti37 rfl rfl rfl rfl rfl rfl rfl (sla_row (e := 37) (sz := 3) (k := l.length) (n := l.length) (c := c) (a := a) (xs := l.flatMap plCells)) hfl hone (by omega) (by simp only [maxLen]; omega) (k := 0) (xs := [])) rfl (fun x7 ⟨a7, c7, h7⟩ => ?_)
  subst h7
  rw [Nat.zero_add, List.nil_append]
  refine Vv (k:=Wq (Zt (k:=?_)))
  exact fin_ret (a7, c7) (vs := [_]) (Cs := []) rfl (.tmp rfl .nil) rfl trivial ent_pick
set_option maxHeartbeats 2000000 in
theorem slices_EqualPl_sp {As : List HP} {a a' : Option Addr} (n n' c c' : Nat) (l l' : List Pl) [h1 : RdSl a (l.flatMap plCells) As] [h2 : RdSl a' (l'.flatMap plCells) As] (hn : l.length = n) (hn' : l'.length = n') (hb : n ≤ 140737488355328) :
    Sp1 Tryz.prog 90 [.slice a n c, .slice a' n' c'] As (vB (decide (l = l'))) As := by
 subst hn; subst hn'
 haveI : PicksC As As [] := ⟨picksSelf As⟩
 refine Sp.body (n := 26) Tryz.call90 Tryz.func90 rfl rfl rfl ?_
 refine Qc (k:=Vv (k:=Wq (Za (k:=Qc (k:=Qv (k:=Qv (k:=Vv (k:=?_))))))))
 refine Wq (Zi (t:=fun h10 => ?_) (f:=fun h10 => ?_))
 ·
  refine Qc (k:=Vv (k:=Wq (Zt (k:=Va ?_))))
  have hn : ¬ l = l' := fun e => h10 (by rw [e])
  exact fin_ret () (vs := [_]) (Cs := []) rfl (.tmp rfl .nil) (by rw [decide_eq_false hn]; rfl) trivial (by rw [List.append_nil]; exact Ent.refl _)
 ·
  refine Zk (k:=Ya (Za (k:=Qc (k:=Qv (k:=Vv (k:=Wq (Zb (k:=?_))))))))
  refine p_loop (fun (i : { j : Nat // j ≤ l.length ∧ l.take j = l'.take j }) => [(0, .slice a l.length c), (1, .slice a' l'.length c'), (12, vI l.length), (13, vI i.1)]) (fun (i : { j : Nat // j ≤ l.length ∧ l.take j = l'.take j }) => As) (fun (i : { j : Nat // j ≤ l.length ∧ l.take j = l'.take j }) => l.length - i.1) rfl (⟨0, Nat.zero_le _, rfl⟩) ?_ ?_ (fun i => ?_)
  · exact ⟨rfl, rfl, rfl, rfl, trivial⟩
  ·
   exact Ent.refl _
  obtain ⟨j, hj, hw⟩ := i
  try dsimp only
  refine Qc (k:=Vv (k:=Wq (Za (k:=Zi (t:=fun h14 => ?_) (f:=fun h14 => ?_)))))
  ·
   refine Zk (k:=Ya (Za (k:=Zb (k:=Qc (k:=Qv (k:=Wq (Za (k:=?_))))))))
   have hjl : j < l.length := by omega
   have hjl' : j < l'.length := by omega
   have hq := eqPl l[j] l'[j]
   refine d_draw rfl rfl rfl As ?_
   refine Dv 0 (k:=Dv 1 (k:=?_))
   refine d_first 2 rfl rfl rfl (by kernel_rfl) (by kernel_rfl) (tl_elemAddr (sz := 3) Tryz.underlying32 ti37 rfl rfl rfl rfl (by omega) (by first | (rw [List.length_map]; omega) | (rw [flat_len (sz := 3) (fun _ => rfl)]; omega) | (simp; omega)) rfl) ?_
   refine d_first 3 rfl rfl rfl (by kernel_rfl) (by kernel_rfl) (tl_eloada (vs := [_, _, _]) (sz := 3) Tryz.underlying37 rfl ti37 rfl rfl (by rw [flat_len (sz := 3) (fun _ => rfl)]; omega) rfl (by refine get_flat (fun x => ?_) ?_ <;> first | rfl | omega)) ?_
   refine Dv 4 (k:=Dv 5 (k:=?_))
   refine d_first 6 rfl rfl rfl (by kernel_rfl) (by kernel_rfl) (tl_elemAddr (sz := 3) Tryz.underlying32 ti37 rfl rfl rfl rfl (by omega) (by first | (rw [List.length_map]; omega) | (rw [flat_len (sz := 3) (fun _ => rfl)]; omega) | (simp; omega)) rfl) ?_
   refine d_first 7 rfl rfl rfl (by kernel_rfl) (by kernel_rfl) (tl_eloada (vs := [_, _, _]) (sz := 3) Tryz.underlying37 rfl ti37 rfl rfl (by rw [flat_len (sz := 3) (fun _ => rfl)]; omega) rfl (by refine get_flat (fun x => ?_) ?_ <;> first | rfl | omega)) ?_
   refine d_first 8 rfl rfl rfl (by kernel_rfl) (by kernel_rfl) (tl_pv (pv_aneq [.string, .string, .bool] Tryz.underlying37 (by kernel_rfl) (by kernel_rfl) (by kernel_rfl) rfl rfl rfl)) ?_
   refine Dd (k:=?_)
   rw [hq]
   refine Ya (Zi (t:=fun h24 => ?_) (f:=fun h24 => ?_))
   ·
    refine Qc (k:=Vv (k:=Wq (Zt (k:=Vb (Va (Vi (Vb (Va ?_))))))))
    have hn : ¬ l = l' := fun e => by subst e; simp at h24
    exact fin_ret () (vs := [_]) (Cs := []) rfl (.tmp rfl .nil) (by rw [decide_eq_false hn]; rfl) trivial (by rw [List.append_nil]; exact Ent.refl _)
   ·
    refine Zk (k:=Yb (Ya (Zr (k:=Qv (k:=Wn ?_)))))
    have hx : l[j] = l'[j] := by simpa using h24
    exact to_inv ⟨j + 1, by omega, takeStep hjl hjl' hw hx⟩ (by dsimp only; omega) ⟨rfl, rfl, rfl, rfl, trivial⟩ (by rw [List.append_nil]; exact Ent.refl _)
  ·
   refine Ze (k:=Xa (Xi (Xb (Ya (Qc (k:=Vv (k:=Wq (Zt (k:=?_)))))))))
   have hjl : j = l.length := by omega
   subst hjl
   have he : l = l' := by
    have e1 : l'.length = l.length := by omega
    rw [List.take_length, ← e1, List.take_length] at hw
    exact hw
   exact fin_ret () (vs := [_]) (Cs := []) rfl (.tmp rfl .nil) (by rw [decide_eq_true he]; rfl) trivial (by rw [List.append_nil]; exact Ent.refl _)
end
/-- A list of whole numbers in memory. -/
structure IntsV where
 a : Option Addr
 c : Nat
 l : List Int
def IntsV.cell (x : IntsV) : Value := .slice x.a x.l.length x.c
def IntsV.ok (w : World) (x : IntsV) : Prop := x.l.length ≤ 9223372036854775807 ∧ At w (SlI x.a (x.l.map vI))
section
set_option maxRecDepth 100000
theorem isN_40 {s : Bs} (h : isN s = true) : s.length ≤ 40 := by rw [isN_len h]; omega
end
section
set_option maxRecDepth 100000
def withinI (n lo hi : Int) : Int := lo + n % (hi - lo + 1)
end
end Go.Proofs.YtdnoacgopfcpbaaGreat
