/- Texts of this proof, put together: Types. -/
import Derived.Test.YtibccdcemcgkeaaGreatProg
import Derived.Test.YtibccdcemcgkeaaGreatQ01
set_option linter.unusedVariables false
section
namespace Go.Proofs.YtibccdcemcgkeaaGreat
theorem ti0 : Tryz.prog.info? 0 = some Tryz.t0 := by kernel_rfl
instance ui0 : UndC Tryz.prog 0 Tryz.t0.desc := ⟨Tryz.underlying0⟩
instance ii0 : InfC Tryz.prog 0 Tryz.t0 := ⟨ti0⟩
theorem ti1 : Tryz.prog.info? 1 = some Tryz.t1 := by kernel_rfl
instance ui1 : UndC Tryz.prog 1 Tryz.t1.desc := ⟨Tryz.underlying1⟩
instance ii1 : InfC Tryz.prog 1 Tryz.t1 := ⟨ti1⟩
theorem ti2 : Tryz.prog.info? 2 = some Tryz.t2 := by kernel_rfl
instance ui2 : UndC Tryz.prog 2 Tryz.t2.desc := ⟨Tryz.underlying2⟩
instance ii2 : InfC Tryz.prog 2 Tryz.t2 := ⟨ti2⟩
theorem ti3 : Tryz.prog.info? 3 = some Tryz.t3 := by kernel_rfl
instance ui3 : UndC Tryz.prog 3 Tryz.t3.desc := ⟨Tryz.underlying3⟩
instance ii3 : InfC Tryz.prog 3 Tryz.t3 := ⟨ti3⟩
theorem ti4 : Tryz.prog.info? 4 = some Tryz.t4 := by kernel_rfl
instance ui4 : UndC Tryz.prog 4 Tryz.t4.desc := ⟨Tryz.underlying4⟩
instance ii4 : InfC Tryz.prog 4 Tryz.t4 := ⟨ti4⟩
theorem ti5 : Tryz.prog.info? 5 = some Tryz.t5 := by kernel_rfl
instance ui5 : UndC Tryz.prog 5 Tryz.t5.desc := ⟨Tryz.underlying5⟩
instance ii5 : InfC Tryz.prog 5 Tryz.t5 := ⟨ti5⟩
theorem ti6 : Tryz.prog.info? 6 = some Tryz.t6 := by kernel_rfl
instance ui6 : UndC Tryz.prog 6 Tryz.t5.desc := ⟨Tryz.underlying6⟩
instance ii6 : InfC Tryz.prog 6 Tryz.t6 := ⟨ti6⟩
theorem ti7 : Tryz.prog.info? 7 = some Tryz.t7 := by kernel_rfl
instance ui7 : UndC Tryz.prog 7 Tryz.t7.desc := ⟨Tryz.underlying7⟩
instance ii7 : InfC Tryz.prog 7 Tryz.t7 := ⟨ti7⟩
theorem ti8 : Tryz.prog.info? 8 = some Tryz.t8 := by kernel_rfl
instance ui8 : UndC Tryz.prog 8 Tryz.t7.desc := ⟨Tryz.underlying8⟩
instance ii8 : InfC Tryz.prog 8 Tryz.t8 := ⟨ti8⟩
theorem ti9 : Tryz.prog.info? 9 = some Tryz.t9 := by kernel_rfl
instance ui9 : UndC Tryz.prog 9 Tryz.t9.desc := ⟨Tryz.underlying9⟩
instance ii9 : InfC Tryz.prog 9 Tryz.t9 := ⟨ti9⟩
theorem ti10 : Tryz.prog.info? 10 = some Tryz.t10 := by kernel_rfl
instance ui10 : UndC Tryz.prog 10 Tryz.t9.desc := ⟨Tryz.underlying10⟩
instance ii10 : InfC Tryz.prog 10 Tryz.t10 := ⟨ti10⟩
theorem ti11 : Tryz.prog.info? 11 = some Tryz.t11 := by kernel_rfl
instance ui11 : UndC Tryz.prog 11 Tryz.t9.desc := ⟨Tryz.underlying11⟩
instance ii11 : InfC Tryz.prog 11 Tryz.t11 := ⟨ti11⟩
theorem ti12 : Tryz.prog.info? 12 = some Tryz.t12 := by kernel_rfl
instance ui12 : UndC Tryz.prog 12 Tryz.t12.desc := ⟨Tryz.underlying12⟩
instance ii12 : InfC Tryz.prog 12 Tryz.t12 := ⟨ti12⟩
theorem ti13 : Tryz.prog.info? 13 = some Tryz.t13 := by kernel_rfl
instance ui13 : UndC Tryz.prog 13 Tryz.t13.desc := ⟨Tryz.underlying13⟩
instance ii13 : InfC Tryz.prog 13 Tryz.t13 := ⟨ti13⟩
theorem ti14 : Tryz.prog.info? 14 = some Tryz.t14 := by kernel_rfl
instance ui14 : UndC Tryz.prog 14 Tryz.t13.desc := ⟨Tryz.underlying14⟩
instance ii14 : InfC Tryz.prog 14 Tryz.t14 := ⟨ti14⟩
theorem ti15 : Tryz.prog.info? 15 = some Tryz.t15 := by kernel_rfl
instance ui15 : UndC Tryz.prog 15 Tryz.t15.desc := ⟨Tryz.underlying15⟩
instance ii15 : InfC Tryz.prog 15 Tryz.t15 := ⟨ti15⟩
theorem ti16 : Tryz.prog.info? 16 = some Tryz.t16 := by kernel_rfl
instance ui16 : UndC Tryz.prog 16 Tryz.t16.desc := ⟨Tryz.underlying16⟩
instance ii16 : InfC Tryz.prog 16 Tryz.t16 := ⟨ti16⟩
theorem ti17 : Tryz.prog.info? 17 = some Tryz.t17 := by kernel_rfl
instance ui17 : UndC Tryz.prog 17 Tryz.t17.desc := ⟨Tryz.underlying17⟩
instance ii17 : InfC Tryz.prog 17 Tryz.t17 := ⟨ti17⟩
theorem ti18 : Tryz.prog.info? 18 = some Tryz.t18 := by kernel_rfl
instance ui18 : UndC Tryz.prog 18 Tryz.t18.desc := ⟨Tryz.underlying18⟩
instance ii18 : InfC Tryz.prog 18 Tryz.t18 := ⟨ti18⟩
theorem ti19 : Tryz.prog.info? 19 = some Tryz.t19 := by kernel_rfl
instance ui19 : UndC Tryz.prog 19 Tryz.t18.desc := ⟨Tryz.underlying19⟩
instance ii19 : InfC Tryz.prog 19 Tryz.t19 := ⟨ti19⟩
theorem ti20 : Tryz.prog.info? 20 = some Tryz.t20 := by kernel_rfl
instance ui20 : UndC Tryz.prog 20 Tryz.t20.desc := ⟨Tryz.underlying20⟩
instance ii20 : InfC Tryz.prog 20 Tryz.t20 := ⟨ti20⟩
theorem ti21 : Tryz.prog.info? 21 = some Tryz.t21 := by kernel_rfl
instance ui21 : UndC Tryz.prog 21 Tryz.t21.desc := ⟨Tryz.underlying21⟩
instance ii21 : InfC Tryz.prog 21 Tryz.t21 := ⟨ti21⟩
theorem ti22 : Tryz.prog.info? 22 = some Tryz.t22 := by kernel_rfl
instance ui22 : UndC Tryz.prog 22 Tryz.t22.desc := ⟨Tryz.underlying22⟩
instance ii22 : InfC Tryz.prog 22 Tryz.t22 := ⟨ti22⟩
theorem ti23 : Tryz.prog.info? 23 = some Tryz.t23 := by kernel_rfl
instance ui23 : UndC Tryz.prog 23 Tryz.t23.desc := ⟨Tryz.underlying23⟩
instance ii23 : InfC Tryz.prog 23 Tryz.t23 := ⟨ti23⟩
theorem ti24 : Tryz.prog.info? 24 = some Tryz.t24 := by kernel_rfl
instance ui24 : UndC Tryz.prog 24 Tryz.t24.desc := ⟨Tryz.underlying24⟩
instance ii24 : InfC Tryz.prog 24 Tryz.t24 := ⟨ti24⟩
theorem ti25 : Tryz.prog.info? 25 = some Tryz.t25 := by kernel_rfl
instance ui25 : UndC Tryz.prog 25 Tryz.t24.desc := ⟨Tryz.underlying25⟩
instance ii25 : InfC Tryz.prog 25 Tryz.t25 := ⟨ti25⟩
theorem ti26 : Tryz.prog.info? 26 = some Tryz.t26 := by kernel_rfl
instance ui26 : UndC Tryz.prog 26 Tryz.t26.desc := ⟨Tryz.underlying26⟩
instance ii26 : InfC Tryz.prog 26 Tryz.t26 := ⟨ti26⟩
theorem ti27 : Tryz.prog.info? 27 = some Tryz.t27 := by kernel_rfl
instance ui27 : UndC Tryz.prog 27 Tryz.t27.desc := ⟨Tryz.underlying27⟩
instance ii27 : InfC Tryz.prog 27 Tryz.t27 := ⟨ti27⟩
theorem ti28 : Tryz.prog.info? 28 = some Tryz.t28 := by kernel_rfl
instance ui28 : UndC Tryz.prog 28 Tryz.t28.desc := ⟨Tryz.underlying28⟩
instance ii28 : InfC Tryz.prog 28 Tryz.t28 := ⟨ti28⟩
theorem ti29 : Tryz.prog.info? 29 = some Tryz.t29 := by kernel_rfl
instance ui29 : UndC Tryz.prog 29 Tryz.t29.desc := ⟨Tryz.underlying29⟩
instance ii29 : InfC Tryz.prog 29 Tryz.t29 := ⟨ti29⟩
theorem ti30 : Tryz.prog.info? 30 = some Tryz.t30 := by kernel_rfl
instance ui30 : UndC Tryz.prog 30 Tryz.t29.desc := ⟨Tryz.underlying30⟩
instance ii30 : InfC Tryz.prog 30 Tryz.t30 := ⟨ti30⟩
theorem ti31 : Tryz.prog.info? 31 = some Tryz.t31 := by kernel_rfl
instance ui31 : UndC Tryz.prog 31 Tryz.t31.desc := ⟨Tryz.underlying31⟩
instance ii31 : InfC Tryz.prog 31 Tryz.t31 := ⟨ti31⟩
theorem ti32 : Tryz.prog.info? 32 = some Tryz.t32 := by kernel_rfl
instance ui32 : UndC Tryz.prog 32 Tryz.t32.desc := ⟨Tryz.underlying32⟩
instance ii32 : InfC Tryz.prog 32 Tryz.t32 := ⟨ti32⟩
theorem ti33 : Tryz.prog.info? 33 = some Tryz.t33 := by kernel_rfl
instance ui33 : UndC Tryz.prog 33 Tryz.t32.desc := ⟨Tryz.underlying33⟩
instance ii33 : InfC Tryz.prog 33 Tryz.t33 := ⟨ti33⟩
theorem ti34 : Tryz.prog.info? 34 = some Tryz.t34 := by kernel_rfl
instance ui34 : UndC Tryz.prog 34 Tryz.t34.desc := ⟨Tryz.underlying34⟩
instance ii34 : InfC Tryz.prog 34 Tryz.t34 := ⟨ti34⟩
theorem ti35 : Tryz.prog.info? 35 = some Tryz.t35 := by kernel_rfl
instance ui35 : UndC Tryz.prog 35 Tryz.t35.desc := ⟨Tryz.underlying35⟩
instance ii35 : InfC Tryz.prog 35 Tryz.t35 := ⟨ti35⟩
theorem ti36 : Tryz.prog.info? 36 = some Tryz.t36 := by kernel_rfl
instance ui36 : UndC Tryz.prog 36 Tryz.t36.desc := ⟨Tryz.underlying36⟩
instance ii36 : InfC Tryz.prog 36 Tryz.t36 := ⟨ti36⟩
theorem ti37 : Tryz.prog.info? 37 = some Tryz.t37 := by kernel_rfl
instance ui37 : UndC Tryz.prog 37 Tryz.t37.desc := ⟨Tryz.underlying37⟩
instance ii37 : InfC Tryz.prog 37 Tryz.t37 := ⟨ti37⟩
theorem ti38 : Tryz.prog.info? 38 = some Tryz.t38 := by kernel_rfl
instance ui38 : UndC Tryz.prog 38 Tryz.t38.desc := ⟨Tryz.underlying38⟩
instance ii38 : InfC Tryz.prog 38 Tryz.t38 := ⟨ti38⟩
theorem ti39 : Tryz.prog.info? 39 = some Tryz.t39 := by kernel_rfl
instance ui39 : UndC Tryz.prog 39 Tryz.t38.desc := ⟨Tryz.underlying39⟩
instance ii39 : InfC Tryz.prog 39 Tryz.t39 := ⟨ti39⟩
theorem ti40 : Tryz.prog.info? 40 = some Tryz.t40 := by kernel_rfl
instance ui40 : UndC Tryz.prog 40 Tryz.t40.desc := ⟨Tryz.underlying40⟩
instance ii40 : InfC Tryz.prog 40 Tryz.t40 := ⟨ti40⟩
theorem ti41 : Tryz.prog.info? 41 = some Tryz.t41 := by kernel_rfl
instance ui41 : UndC Tryz.prog 41 Tryz.t40.desc := ⟨Tryz.underlying41⟩
instance ii41 : InfC Tryz.prog 41 Tryz.t41 := ⟨ti41⟩
theorem ti42 : Tryz.prog.info? 42 = some Tryz.t42 := by kernel_rfl
instance ui42 : UndC Tryz.prog 42 Tryz.t42.desc := ⟨Tryz.underlying42⟩
instance ii42 : InfC Tryz.prog 42 Tryz.t42 := ⟨ti42⟩
theorem ti43 : Tryz.prog.info? 43 = some Tryz.t43 := by kernel_rfl
instance ui43 : UndC Tryz.prog 43 Tryz.t42.desc := ⟨Tryz.underlying43⟩
instance ii43 : InfC Tryz.prog 43 Tryz.t43 := ⟨ti43⟩
theorem ti44 : Tryz.prog.info? 44 = some Tryz.t44 := by kernel_rfl
instance ui44 : UndC Tryz.prog 44 Tryz.t44.desc := ⟨Tryz.underlying44⟩
instance ii44 : InfC Tryz.prog 44 Tryz.t44 := ⟨ti44⟩
theorem ti45 : Tryz.prog.info? 45 = some Tryz.t45 := by kernel_rfl
instance ui45 : UndC Tryz.prog 45 Tryz.t44.desc := ⟨Tryz.underlying45⟩
instance ii45 : InfC Tryz.prog 45 Tryz.t45 := ⟨ti45⟩
theorem ti46 : Tryz.prog.info? 46 = some Tryz.t46 := by kernel_rfl
instance ui46 : UndC Tryz.prog 46 Tryz.t46.desc := ⟨Tryz.underlying46⟩
instance ii46 : InfC Tryz.prog 46 Tryz.t46 := ⟨ti46⟩
theorem ti47 : Tryz.prog.info? 47 = some Tryz.t47 := by kernel_rfl
instance ui47 : UndC Tryz.prog 47 Tryz.t47.desc := ⟨Tryz.underlying47⟩
instance ii47 : InfC Tryz.prog 47 Tryz.t47 := ⟨ti47⟩
theorem ti48 : Tryz.prog.info? 48 = some Tryz.t48 := by kernel_rfl
instance ui48 : UndC Tryz.prog 48 Tryz.t48.desc := ⟨Tryz.underlying48⟩
instance ii48 : InfC Tryz.prog 48 Tryz.t48 := ⟨ti48⟩
theorem ti49 : Tryz.prog.info? 49 = some Tryz.t49 := by kernel_rfl
instance ui49 : UndC Tryz.prog 49 Tryz.t49.desc := ⟨Tryz.underlying49⟩
instance ii49 : InfC Tryz.prog 49 Tryz.t49 := ⟨ti49⟩
theorem ti50 : Tryz.prog.info? 50 = some Tryz.t50 := by kernel_rfl
instance ui50 : UndC Tryz.prog 50 Tryz.t50.desc := ⟨Tryz.underlying50⟩
instance ii50 : InfC Tryz.prog 50 Tryz.t50 := ⟨ti50⟩
theorem ti51 : Tryz.prog.info? 51 = some Tryz.t51 := by kernel_rfl
instance ui51 : UndC Tryz.prog 51 Tryz.t51.desc := ⟨Tryz.underlying51⟩
instance ii51 : InfC Tryz.prog 51 Tryz.t51 := ⟨ti51⟩
theorem ti52 : Tryz.prog.info? 52 = some Tryz.t52 := by kernel_rfl
instance ui52 : UndC Tryz.prog 52 Tryz.t52.desc := ⟨Tryz.underlying52⟩
instance ii52 : InfC Tryz.prog 52 Tryz.t52 := ⟨ti52⟩
theorem ti53 : Tryz.prog.info? 53 = some Tryz.t53 := by kernel_rfl
instance ui53 : UndC Tryz.prog 53 Tryz.t53.desc := ⟨Tryz.underlying53⟩
instance ii53 : InfC Tryz.prog 53 Tryz.t53 := ⟨ti53⟩
theorem ti54 : Tryz.prog.info? 54 = some Tryz.t54 := by kernel_rfl
instance ui54 : UndC Tryz.prog 54 Tryz.t53.desc := ⟨Tryz.underlying54⟩
instance ii54 : InfC Tryz.prog 54 Tryz.t54 := ⟨ti54⟩
theorem ti55 : Tryz.prog.info? 55 = some Tryz.t55 := by kernel_rfl
instance ui55 : UndC Tryz.prog 55 Tryz.t55.desc := ⟨Tryz.underlying55⟩
instance ii55 : InfC Tryz.prog 55 Tryz.t55 := ⟨ti55⟩
theorem ti56 : Tryz.prog.info? 56 = some Tryz.t56 := by kernel_rfl
instance ui56 : UndC Tryz.prog 56 Tryz.t56.desc := ⟨Tryz.underlying56⟩
instance ii56 : InfC Tryz.prog 56 Tryz.t56 := ⟨ti56⟩
theorem ti57 : Tryz.prog.info? 57 = some Tryz.t57 := by kernel_rfl
instance ui57 : UndC Tryz.prog 57 Tryz.t57.desc := ⟨Tryz.underlying57⟩
instance ii57 : InfC Tryz.prog 57 Tryz.t57 := ⟨ti57⟩
theorem ti58 : Tryz.prog.info? 58 = some Tryz.t58 := by kernel_rfl
instance ui58 : UndC Tryz.prog 58 Tryz.t58.desc := ⟨Tryz.underlying58⟩
instance ii58 : InfC Tryz.prog 58 Tryz.t58 := ⟨ti58⟩
theorem ti59 : Tryz.prog.info? 59 = some Tryz.t59 := by kernel_rfl
instance ui59 : UndC Tryz.prog 59 Tryz.t59.desc := ⟨Tryz.underlying59⟩
instance ii59 : InfC Tryz.prog 59 Tryz.t59 := ⟨ti59⟩
theorem ti60 : Tryz.prog.info? 60 = some Tryz.t60 := by kernel_rfl
instance ui60 : UndC Tryz.prog 60 Tryz.t60.desc := ⟨Tryz.underlying60⟩
instance ii60 : InfC Tryz.prog 60 Tryz.t60 := ⟨ti60⟩
theorem ti61 : Tryz.prog.info? 61 = some Tryz.t61 := by kernel_rfl
instance ui61 : UndC Tryz.prog 61 Tryz.t61.desc := ⟨Tryz.underlying61⟩
instance ii61 : InfC Tryz.prog 61 Tryz.t61 := ⟨ti61⟩
theorem ti62 : Tryz.prog.info? 62 = some Tryz.t62 := by kernel_rfl
instance ui62 : UndC Tryz.prog 62 Tryz.t62.desc := ⟨Tryz.underlying62⟩
instance ii62 : InfC Tryz.prog 62 Tryz.t62 := ⟨ti62⟩
theorem ti63 : Tryz.prog.info? 63 = some Tryz.t63 := by kernel_rfl
instance ui63 : UndC Tryz.prog 63 Tryz.t63.desc := ⟨Tryz.underlying63⟩
instance ii63 : InfC Tryz.prog 63 Tryz.t63 := ⟨ti63⟩
theorem ti64 : Tryz.prog.info? 64 = some Tryz.t64 := by kernel_rfl
instance ui64 : UndC Tryz.prog 64 Tryz.t64.desc := ⟨Tryz.underlying64⟩
instance ii64 : InfC Tryz.prog 64 Tryz.t64 := ⟨ti64⟩
theorem ti65 : Tryz.prog.info? 65 = some Tryz.t65 := by kernel_rfl
instance ui65 : UndC Tryz.prog 65 Tryz.t65.desc := ⟨Tryz.underlying65⟩
instance ii65 : InfC Tryz.prog 65 Tryz.t65 := ⟨ti65⟩
theorem ti66 : Tryz.prog.info? 66 = some Tryz.t66 := by kernel_rfl
instance ui66 : UndC Tryz.prog 66 Tryz.t65.desc := ⟨Tryz.underlying66⟩
instance ii66 : InfC Tryz.prog 66 Tryz.t66 := ⟨ti66⟩
theorem ti67 : Tryz.prog.info? 67 = some Tryz.t67 := by kernel_rfl
instance ui67 : UndC Tryz.prog 67 Tryz.t67.desc := ⟨Tryz.underlying67⟩
instance ii67 : InfC Tryz.prog 67 Tryz.t67 := ⟨ti67⟩
theorem ti68 : Tryz.prog.info? 68 = some Tryz.t68 := by kernel_rfl
instance ui68 : UndC Tryz.prog 68 Tryz.t68.desc := ⟨Tryz.underlying68⟩
instance ii68 : InfC Tryz.prog 68 Tryz.t68 := ⟨ti68⟩
theorem ti69 : Tryz.prog.info? 69 = some Tryz.t69 := by kernel_rfl
instance ui69 : UndC Tryz.prog 69 Tryz.t69.desc := ⟨Tryz.underlying69⟩
instance ii69 : InfC Tryz.prog 69 Tryz.t69 := ⟨ti69⟩
theorem ti70 : Tryz.prog.info? 70 = some Tryz.t70 := by kernel_rfl
instance ui70 : UndC Tryz.prog 70 Tryz.t70.desc := ⟨Tryz.underlying70⟩
instance ii70 : InfC Tryz.prog 70 Tryz.t70 := ⟨ti70⟩
theorem ti71 : Tryz.prog.info? 71 = some Tryz.t71 := by kernel_rfl
instance ui71 : UndC Tryz.prog 71 Tryz.t71.desc := ⟨Tryz.underlying71⟩
instance ii71 : InfC Tryz.prog 71 Tryz.t71 := ⟨ti71⟩
theorem ti72 : Tryz.prog.info? 72 = some Tryz.t72 := by kernel_rfl
instance ui72 : UndC Tryz.prog 72 Tryz.t72.desc := ⟨Tryz.underlying72⟩
instance ii72 : InfC Tryz.prog 72 Tryz.t72 := ⟨ti72⟩
theorem ti73 : Tryz.prog.info? 73 = some Tryz.t73 := by kernel_rfl
instance ui73 : UndC Tryz.prog 73 Tryz.t73.desc := ⟨Tryz.underlying73⟩
instance ii73 : InfC Tryz.prog 73 Tryz.t73 := ⟨ti73⟩
theorem ti74 : Tryz.prog.info? 74 = some Tryz.t74 := by kernel_rfl
instance ui74 : UndC Tryz.prog 74 Tryz.t3.desc := ⟨Tryz.underlying74⟩
instance ii74 : InfC Tryz.prog 74 Tryz.t74 := ⟨ti74⟩
theorem ti75 : Tryz.prog.info? 75 = some Tryz.t75 := by kernel_rfl
instance ui75 : UndC Tryz.prog 75 Tryz.t75.desc := ⟨Tryz.underlying75⟩
instance ii75 : InfC Tryz.prog 75 Tryz.t75 := ⟨ti75⟩
theorem ti76 : Tryz.prog.info? 76 = some Tryz.t76 := by kernel_rfl
instance ui76 : UndC Tryz.prog 76 Tryz.t76.desc := ⟨Tryz.underlying76⟩
instance ii76 : InfC Tryz.prog 76 Tryz.t76 := ⟨ti76⟩
theorem ti77 : Tryz.prog.info? 77 = some Tryz.t77 := by kernel_rfl
instance ui77 : UndC Tryz.prog 77 Tryz.t76.desc := ⟨Tryz.underlying77⟩
instance ii77 : InfC Tryz.prog 77 Tryz.t77 := ⟨ti77⟩
theorem ti78 : Tryz.prog.info? 78 = some Tryz.t78 := by kernel_rfl
instance ui78 : UndC Tryz.prog 78 Tryz.t78.desc := ⟨Tryz.underlying78⟩
instance ii78 : InfC Tryz.prog 78 Tryz.t78 := ⟨ti78⟩
theorem ti79 : Tryz.prog.info? 79 = some Tryz.t79 := by kernel_rfl
instance ui79 : UndC Tryz.prog 79 Tryz.t79.desc := ⟨Tryz.underlying79⟩
instance ii79 : InfC Tryz.prog 79 Tryz.t79 := ⟨ti79⟩
theorem ti80 : Tryz.prog.info? 80 = some Tryz.t80 := by kernel_rfl
instance ui80 : UndC Tryz.prog 80 Tryz.t80.desc := ⟨Tryz.underlying80⟩
instance ii80 : InfC Tryz.prog 80 Tryz.t80 := ⟨ti80⟩
theorem ti81 : Tryz.prog.info? 81 = some Tryz.t81 := by kernel_rfl
instance ui81 : UndC Tryz.prog 81 Tryz.t81.desc := ⟨Tryz.underlying81⟩
instance ii81 : InfC Tryz.prog 81 Tryz.t81 := ⟨ti81⟩
theorem ti82 : Tryz.prog.info? 82 = some Tryz.t82 := by kernel_rfl
instance ui82 : UndC Tryz.prog 82 Tryz.t82.desc := ⟨Tryz.underlying82⟩
instance ii82 : InfC Tryz.prog 82 Tryz.t82 := ⟨ti82⟩
theorem ti83 : Tryz.prog.info? 83 = some Tryz.t83 := by kernel_rfl
instance ui83 : UndC Tryz.prog 83 Tryz.t83.desc := ⟨Tryz.underlying83⟩
instance ii83 : InfC Tryz.prog 83 Tryz.t83 := ⟨ti83⟩
theorem ti84 : Tryz.prog.info? 84 = some Tryz.t84 := by kernel_rfl
instance ui84 : UndC Tryz.prog 84 Tryz.t84.desc := ⟨Tryz.underlying84⟩
instance ii84 : InfC Tryz.prog 84 Tryz.t84 := ⟨ti84⟩
theorem ti85 : Tryz.prog.info? 85 = some Tryz.t85 := by kernel_rfl
instance ui85 : UndC Tryz.prog 85 Tryz.t85.desc := ⟨Tryz.underlying85⟩
instance ii85 : InfC Tryz.prog 85 Tryz.t85 := ⟨ti85⟩
theorem ti86 : Tryz.prog.info? 86 = some Tryz.t86 := by kernel_rfl
instance ui86 : UndC Tryz.prog 86 Tryz.t86.desc := ⟨Tryz.underlying86⟩
instance ii86 : InfC Tryz.prog 86 Tryz.t86 := ⟨ti86⟩
theorem ti87 : Tryz.prog.info? 87 = some Tryz.t87 := by kernel_rfl
instance ui87 : UndC Tryz.prog 87 Tryz.t87.desc := ⟨Tryz.underlying87⟩
instance ii87 : InfC Tryz.prog 87 Tryz.t87 := ⟨ti87⟩
theorem ti88 : Tryz.prog.info? 88 = some Tryz.t88 := by kernel_rfl
instance ui88 : UndC Tryz.prog 88 Tryz.t88.desc := ⟨Tryz.underlying88⟩
instance ii88 : InfC Tryz.prog 88 Tryz.t88 := ⟨ti88⟩
theorem ti89 : Tryz.prog.info? 89 = some Tryz.t89 := by kernel_rfl
instance ui89 : UndC Tryz.prog 89 Tryz.t89.desc := ⟨Tryz.underlying89⟩
instance ii89 : InfC Tryz.prog 89 Tryz.t89 := ⟨ti89⟩
theorem ti90 : Tryz.prog.info? 90 = some Tryz.t90 := by kernel_rfl
instance ui90 : UndC Tryz.prog 90 Tryz.t90.desc := ⟨Tryz.underlying90⟩
instance ii90 : InfC Tryz.prog 90 Tryz.t90 := ⟨ti90⟩
theorem ti91 : Tryz.prog.info? 91 = some Tryz.t91 := by kernel_rfl
instance ui91 : UndC Tryz.prog 91 Tryz.t91.desc := ⟨Tryz.underlying91⟩
instance ii91 : InfC Tryz.prog 91 Tryz.t91 := ⟨ti91⟩
theorem ti92 : Tryz.prog.info? 92 = some Tryz.t92 := by kernel_rfl
instance ui92 : UndC Tryz.prog 92 Tryz.t92.desc := ⟨Tryz.underlying92⟩
instance ii92 : InfC Tryz.prog 92 Tryz.t92 := ⟨ti92⟩
theorem ti93 : Tryz.prog.info? 93 = some Tryz.t93 := by kernel_rfl
instance ui93 : UndC Tryz.prog 93 Tryz.t93.desc := ⟨Tryz.underlying93⟩
instance ii93 : InfC Tryz.prog 93 Tryz.t93 := ⟨ti93⟩
theorem ti94 : Tryz.prog.info? 94 = some Tryz.t94 := by kernel_rfl
instance ui94 : UndC Tryz.prog 94 Tryz.t94.desc := ⟨Tryz.underlying94⟩
instance ii94 : InfC Tryz.prog 94 Tryz.t94 := ⟨ti94⟩
theorem ti95 : Tryz.prog.info? 95 = some Tryz.t95 := by kernel_rfl
instance ui95 : UndC Tryz.prog 95 Tryz.t94.desc := ⟨Tryz.underlying95⟩
instance ii95 : InfC Tryz.prog 95 Tryz.t95 := ⟨ti95⟩
theorem ti96 : Tryz.prog.info? 96 = some Tryz.t96 := by kernel_rfl
instance ui96 : UndC Tryz.prog 96 Tryz.t96.desc := ⟨Tryz.underlying96⟩
instance ii96 : InfC Tryz.prog 96 Tryz.t96 := ⟨ti96⟩
theorem ti97 : Tryz.prog.info? 97 = some Tryz.t97 := by kernel_rfl
instance ui97 : UndC Tryz.prog 97 Tryz.t96.desc := ⟨Tryz.underlying97⟩
instance ii97 : InfC Tryz.prog 97 Tryz.t97 := ⟨ti97⟩
theorem ti98 : Tryz.prog.info? 98 = some Tryz.t98 := by kernel_rfl
instance ui98 : UndC Tryz.prog 98 Tryz.t98.desc := ⟨Tryz.underlying98⟩
instance ii98 : InfC Tryz.prog 98 Tryz.t98 := ⟨ti98⟩
theorem ti99 : Tryz.prog.info? 99 = some Tryz.t99 := by kernel_rfl
instance ui99 : UndC Tryz.prog 99 Tryz.t99.desc := ⟨Tryz.underlying99⟩
instance ii99 : InfC Tryz.prog 99 Tryz.t99 := ⟨ti99⟩
theorem ti100 : Tryz.prog.info? 100 = some Tryz.t100 := by kernel_rfl
instance ui100 : UndC Tryz.prog 100 Tryz.t100.desc := ⟨Tryz.underlying100⟩
instance ii100 : InfC Tryz.prog 100 Tryz.t100 := ⟨ti100⟩
theorem ti101 : Tryz.prog.info? 101 = some Tryz.t101 := by kernel_rfl
instance ui101 : UndC Tryz.prog 101 Tryz.t101.desc := ⟨Tryz.underlying101⟩
instance ii101 : InfC Tryz.prog 101 Tryz.t101 := ⟨ti101⟩
theorem ti102 : Tryz.prog.info? 102 = some Tryz.t102 := by kernel_rfl
instance ui102 : UndC Tryz.prog 102 Tryz.t102.desc := ⟨Tryz.underlying102⟩
instance ii102 : InfC Tryz.prog 102 Tryz.t102 := ⟨ti102⟩
theorem ti103 : Tryz.prog.info? 103 = some Tryz.t103 := by kernel_rfl
instance ui103 : UndC Tryz.prog 103 Tryz.t103.desc := ⟨Tryz.underlying103⟩
instance ii103 : InfC Tryz.prog 103 Tryz.t103 := ⟨ti103⟩
theorem ti104 : Tryz.prog.info? 104 = some Tryz.t104 := by kernel_rfl
instance ui104 : UndC Tryz.prog 104 Tryz.t104.desc := ⟨Tryz.underlying104⟩
instance ii104 : InfC Tryz.prog 104 Tryz.t104 := ⟨ti104⟩
theorem ti105 : Tryz.prog.info? 105 = some Tryz.t105 := by kernel_rfl
instance ui105 : UndC Tryz.prog 105 Tryz.t105.desc := ⟨Tryz.underlying105⟩
instance ii105 : InfC Tryz.prog 105 Tryz.t105 := ⟨ti105⟩
theorem ti106 : Tryz.prog.info? 106 = some Tryz.t106 := by kernel_rfl
instance ui106 : UndC Tryz.prog 106 Tryz.t106.desc := ⟨Tryz.underlying106⟩
instance ii106 : InfC Tryz.prog 106 Tryz.t106 := ⟨ti106⟩
theorem ti107 : Tryz.prog.info? 107 = some Tryz.t107 := by kernel_rfl
instance ui107 : UndC Tryz.prog 107 Tryz.t107.desc := ⟨Tryz.underlying107⟩
instance ii107 : InfC Tryz.prog 107 Tryz.t107 := ⟨ti107⟩
theorem ti108 : Tryz.prog.info? 108 = some Tryz.t108 := by kernel_rfl
instance ui108 : UndC Tryz.prog 108 Tryz.t108.desc := ⟨Tryz.underlying108⟩
instance ii108 : InfC Tryz.prog 108 Tryz.t108 := ⟨ti108⟩
theorem ti109 : Tryz.prog.info? 109 = some Tryz.t109 := by kernel_rfl
instance ui109 : UndC Tryz.prog 109 Tryz.t108.desc := ⟨Tryz.underlying109⟩
instance ii109 : InfC Tryz.prog 109 Tryz.t109 := ⟨ti109⟩
theorem ti110 : Tryz.prog.info? 110 = some Tryz.t110 := by kernel_rfl
instance ui110 : UndC Tryz.prog 110 Tryz.t110.desc := ⟨Tryz.underlying110⟩
instance ii110 : InfC Tryz.prog 110 Tryz.t110 := ⟨ti110⟩
theorem ti111 : Tryz.prog.info? 111 = some Tryz.t111 := by kernel_rfl
instance ui111 : UndC Tryz.prog 111 Tryz.t111.desc := ⟨Tryz.underlying111⟩
instance ii111 : InfC Tryz.prog 111 Tryz.t111 := ⟨ti111⟩
theorem ti112 : Tryz.prog.info? 112 = some Tryz.t112 := by kernel_rfl
instance ui112 : UndC Tryz.prog 112 Tryz.t112.desc := ⟨Tryz.underlying112⟩
instance ii112 : InfC Tryz.prog 112 Tryz.t112 := ⟨ti112⟩
theorem ti113 : Tryz.prog.info? 113 = some Tryz.t113 := by kernel_rfl
instance ui113 : UndC Tryz.prog 113 Tryz.t113.desc := ⟨Tryz.underlying113⟩
instance ii113 : InfC Tryz.prog 113 Tryz.t113 := ⟨ti113⟩
theorem ti114 : Tryz.prog.info? 114 = some Tryz.t114 := by kernel_rfl
instance ui114 : UndC Tryz.prog 114 Tryz.t114.desc := ⟨Tryz.underlying114⟩
instance ii114 : InfC Tryz.prog 114 Tryz.t114 := ⟨ti114⟩
theorem ti115 : Tryz.prog.info? 115 = some Tryz.t115 := by kernel_rfl
instance ui115 : UndC Tryz.prog 115 Tryz.t115.desc := ⟨Tryz.underlying115⟩
instance ii115 : InfC Tryz.prog 115 Tryz.t115 := ⟨ti115⟩
theorem ti116 : Tryz.prog.info? 116 = some Tryz.t116 := by kernel_rfl
instance ui116 : UndC Tryz.prog 116 Tryz.t116.desc := ⟨Tryz.underlying116⟩
instance ii116 : InfC Tryz.prog 116 Tryz.t116 := ⟨ti116⟩
theorem ti117 : Tryz.prog.info? 117 = some Tryz.t117 := by kernel_rfl
instance ui117 : UndC Tryz.prog 117 Tryz.t117.desc := ⟨Tryz.underlying117⟩
instance ii117 : InfC Tryz.prog 117 Tryz.t117 := ⟨ti117⟩
theorem ti118 : Tryz.prog.info? 118 = some Tryz.t118 := by kernel_rfl
instance ui118 : UndC Tryz.prog 118 Tryz.t118.desc := ⟨Tryz.underlying118⟩
instance ii118 : InfC Tryz.prog 118 Tryz.t118 := ⟨ti118⟩
theorem ti119 : Tryz.prog.info? 119 = some Tryz.t119 := by kernel_rfl
instance ui119 : UndC Tryz.prog 119 Tryz.t119.desc := ⟨Tryz.underlying119⟩
instance ii119 : InfC Tryz.prog 119 Tryz.t119 := ⟨ti119⟩
theorem ti120 : Tryz.prog.info? 120 = some Tryz.t120 := by kernel_rfl
instance ui120 : UndC Tryz.prog 120 Tryz.t120.desc := ⟨Tryz.underlying120⟩
instance ii120 : InfC Tryz.prog 120 Tryz.t120 := ⟨ti120⟩
theorem ti121 : Tryz.prog.info? 121 = some Tryz.t121 := by kernel_rfl
instance ui121 : UndC Tryz.prog 121 Tryz.t121.desc := ⟨Tryz.underlying121⟩
instance ii121 : InfC Tryz.prog 121 Tryz.t121 := ⟨ti121⟩
theorem ti122 : Tryz.prog.info? 122 = some Tryz.t122 := by kernel_rfl
instance ui122 : UndC Tryz.prog 122 Tryz.t122.desc := ⟨Tryz.underlying122⟩
instance ii122 : InfC Tryz.prog 122 Tryz.t122 := ⟨ti122⟩
theorem ti123 : Tryz.prog.info? 123 = some Tryz.t123 := by kernel_rfl
instance ui123 : UndC Tryz.prog 123 Tryz.t123.desc := ⟨Tryz.underlying123⟩
instance ii123 : InfC Tryz.prog 123 Tryz.t123 := ⟨ti123⟩
theorem ti124 : Tryz.prog.info? 124 = some Tryz.t124 := by kernel_rfl
instance ui124 : UndC Tryz.prog 124 Tryz.t124.desc := ⟨Tryz.underlying124⟩
instance ii124 : InfC Tryz.prog 124 Tryz.t124 := ⟨ti124⟩
theorem ti125 : Tryz.prog.info? 125 = some Tryz.t125 := by kernel_rfl
instance ui125 : UndC Tryz.prog 125 Tryz.t125.desc := ⟨Tryz.underlying125⟩
instance ii125 : InfC Tryz.prog 125 Tryz.t125 := ⟨ti125⟩
theorem ti126 : Tryz.prog.info? 126 = some Tryz.t126 := by kernel_rfl
instance ui126 : UndC Tryz.prog 126 Tryz.t126.desc := ⟨Tryz.underlying126⟩
instance ii126 : InfC Tryz.prog 126 Tryz.t126 := ⟨ti126⟩
theorem ti127 : Tryz.prog.info? 127 = some Tryz.t127 := by kernel_rfl
instance ui127 : UndC Tryz.prog 127 Tryz.t127.desc := ⟨Tryz.underlying127⟩
instance ii127 : InfC Tryz.prog 127 Tryz.t127 := ⟨ti127⟩
theorem ti128 : Tryz.prog.info? 128 = some Tryz.t128 := by kernel_rfl
instance ui128 : UndC Tryz.prog 128 Tryz.t128.desc := ⟨Tryz.underlying128⟩
instance ii128 : InfC Tryz.prog 128 Tryz.t128 := ⟨ti128⟩
theorem ti129 : Tryz.prog.info? 129 = some Tryz.t129 := by kernel_rfl
instance ui129 : UndC Tryz.prog 129 Tryz.t128.desc := ⟨Tryz.underlying129⟩
instance ii129 : InfC Tryz.prog 129 Tryz.t129 := ⟨ti129⟩
theorem ti130 : Tryz.prog.info? 130 = some Tryz.t130 := by kernel_rfl
instance ui130 : UndC Tryz.prog 130 Tryz.t130.desc := ⟨Tryz.underlying130⟩
instance ii130 : InfC Tryz.prog 130 Tryz.t130 := ⟨ti130⟩
theorem ti131 : Tryz.prog.info? 131 = some Tryz.t131 := by kernel_rfl
instance ui131 : UndC Tryz.prog 131 Tryz.t131.desc := ⟨Tryz.underlying131⟩
instance ii131 : InfC Tryz.prog 131 Tryz.t131 := ⟨ti131⟩
theorem ti132 : Tryz.prog.info? 132 = some Tryz.t132 := by kernel_rfl
instance ui132 : UndC Tryz.prog 132 Tryz.t132.desc := ⟨Tryz.underlying132⟩
instance ii132 : InfC Tryz.prog 132 Tryz.t132 := ⟨ti132⟩
theorem ti133 : Tryz.prog.info? 133 = some Tryz.t133 := by kernel_rfl
instance ui133 : UndC Tryz.prog 133 Tryz.t108.desc := ⟨Tryz.underlying133⟩
instance ii133 : InfC Tryz.prog 133 Tryz.t133 := ⟨ti133⟩
theorem ti134 : Tryz.prog.info? 134 = some Tryz.t134 := by kernel_rfl
instance ui134 : UndC Tryz.prog 134 Tryz.t134.desc := ⟨Tryz.underlying134⟩
instance ii134 : InfC Tryz.prog 134 Tryz.t134 := ⟨ti134⟩
theorem ti135 : Tryz.prog.info? 135 = some Tryz.t135 := by kernel_rfl
instance ui135 : UndC Tryz.prog 135 Tryz.t135.desc := ⟨Tryz.underlying135⟩
instance ii135 : InfC Tryz.prog 135 Tryz.t135 := ⟨ti135⟩
theorem ti136 : Tryz.prog.info? 136 = some Tryz.t136 := by kernel_rfl
instance ui136 : UndC Tryz.prog 136 Tryz.t136.desc := ⟨Tryz.underlying136⟩
instance ii136 : InfC Tryz.prog 136 Tryz.t136 := ⟨ti136⟩
theorem ti137 : Tryz.prog.info? 137 = some Tryz.t137 := by kernel_rfl
instance ui137 : UndC Tryz.prog 137 Tryz.t137.desc := ⟨Tryz.underlying137⟩
instance ii137 : InfC Tryz.prog 137 Tryz.t137 := ⟨ti137⟩
theorem ti138 : Tryz.prog.info? 138 = some Tryz.t138 := by kernel_rfl
instance ui138 : UndC Tryz.prog 138 Tryz.t138.desc := ⟨Tryz.underlying138⟩
instance ii138 : InfC Tryz.prog 138 Tryz.t138 := ⟨ti138⟩
theorem ti139 : Tryz.prog.info? 139 = some Tryz.t139 := by kernel_rfl
instance ui139 : UndC Tryz.prog 139 Tryz.t139.desc := ⟨Tryz.underlying139⟩
instance ii139 : InfC Tryz.prog 139 Tryz.t139 := ⟨ti139⟩
theorem ti140 : Tryz.prog.info? 140 = some Tryz.t140 := by kernel_rfl
instance ui140 : UndC Tryz.prog 140 Tryz.t140.desc := ⟨Tryz.underlying140⟩
instance ii140 : InfC Tryz.prog 140 Tryz.t140 := ⟨ti140⟩
theorem ti141 : Tryz.prog.info? 141 = some Tryz.t141 := by kernel_rfl
instance ui141 : UndC Tryz.prog 141 Tryz.t141.desc := ⟨Tryz.underlying141⟩
instance ii141 : InfC Tryz.prog 141 Tryz.t141 := ⟨ti141⟩
theorem ti142 : Tryz.prog.info? 142 = some Tryz.t142 := by kernel_rfl
instance ui142 : UndC Tryz.prog 142 Tryz.t142.desc := ⟨Tryz.underlying142⟩
instance ii142 : InfC Tryz.prog 142 Tryz.t142 := ⟨ti142⟩
theorem ti143 : Tryz.prog.info? 143 = some Tryz.t143 := by kernel_rfl
instance ui143 : UndC Tryz.prog 143 Tryz.t143.desc := ⟨Tryz.underlying143⟩
instance ii143 : InfC Tryz.prog 143 Tryz.t143 := ⟨ti143⟩
theorem ti144 : Tryz.prog.info? 144 = some Tryz.t144 := by kernel_rfl
instance ui144 : UndC Tryz.prog 144 Tryz.t144.desc := ⟨Tryz.underlying144⟩
instance ii144 : InfC Tryz.prog 144 Tryz.t144 := ⟨ti144⟩
theorem ti145 : Tryz.prog.info? 145 = some Tryz.t145 := by kernel_rfl
instance ui145 : UndC Tryz.prog 145 Tryz.t144.desc := ⟨Tryz.underlying145⟩
instance ii145 : InfC Tryz.prog 145 Tryz.t145 := ⟨ti145⟩
theorem ti146 : Tryz.prog.info? 146 = some Tryz.t146 := by kernel_rfl
instance ui146 : UndC Tryz.prog 146 Tryz.t146.desc := ⟨Tryz.underlying146⟩
instance ii146 : InfC Tryz.prog 146 Tryz.t146 := ⟨ti146⟩
theorem ti147 : Tryz.prog.info? 147 = some Tryz.t147 := by kernel_rfl
instance ui147 : UndC Tryz.prog 147 Tryz.t147.desc := ⟨Tryz.underlying147⟩
instance ii147 : InfC Tryz.prog 147 Tryz.t147 := ⟨ti147⟩
theorem ti148 : Tryz.prog.info? 148 = some Tryz.t148 := by kernel_rfl
instance ui148 : UndC Tryz.prog 148 Tryz.t148.desc := ⟨Tryz.underlying148⟩
instance ii148 : InfC Tryz.prog 148 Tryz.t148 := ⟨ti148⟩
theorem ti149 : Tryz.prog.info? 149 = some Tryz.t149 := by kernel_rfl
instance ui149 : UndC Tryz.prog 149 Tryz.t148.desc := ⟨Tryz.underlying149⟩
instance ii149 : InfC Tryz.prog 149 Tryz.t149 := ⟨ti149⟩
theorem ti150 : Tryz.prog.info? 150 = some Tryz.t150 := by kernel_rfl
instance ui150 : UndC Tryz.prog 150 Tryz.t150.desc := ⟨Tryz.underlying150⟩
instance ii150 : InfC Tryz.prog 150 Tryz.t150 := ⟨ti150⟩
theorem ti151 : Tryz.prog.info? 151 = some Tryz.t151 := by kernel_rfl
instance ui151 : UndC Tryz.prog 151 Tryz.t151.desc := ⟨Tryz.underlying151⟩
instance ii151 : InfC Tryz.prog 151 Tryz.t151 := ⟨ti151⟩
theorem ti152 : Tryz.prog.info? 152 = some Tryz.t152 := by kernel_rfl
instance ui152 : UndC Tryz.prog 152 Tryz.t152.desc := ⟨Tryz.underlying152⟩
instance ii152 : InfC Tryz.prog 152 Tryz.t152 := ⟨ti152⟩
theorem ti153 : Tryz.prog.info? 153 = some Tryz.t153 := by kernel_rfl
instance ui153 : UndC Tryz.prog 153 Tryz.t153.desc := ⟨Tryz.underlying153⟩
instance ii153 : InfC Tryz.prog 153 Tryz.t153 := ⟨ti153⟩
theorem ti154 : Tryz.prog.info? 154 = some Tryz.t154 := by kernel_rfl
instance ui154 : UndC Tryz.prog 154 Tryz.t154.desc := ⟨Tryz.underlying154⟩
instance ii154 : InfC Tryz.prog 154 Tryz.t154 := ⟨ti154⟩
theorem ti155 : Tryz.prog.info? 155 = some Tryz.t155 := by kernel_rfl
instance ui155 : UndC Tryz.prog 155 Tryz.t155.desc := ⟨Tryz.underlying155⟩
instance ii155 : InfC Tryz.prog 155 Tryz.t155 := ⟨ti155⟩
theorem ti156 : Tryz.prog.info? 156 = some Tryz.t156 := by kernel_rfl
instance ui156 : UndC Tryz.prog 156 Tryz.t156.desc := ⟨Tryz.underlying156⟩
instance ii156 : InfC Tryz.prog 156 Tryz.t156 := ⟨ti156⟩
theorem ti157 : Tryz.prog.info? 157 = some Tryz.t157 := by kernel_rfl
instance ui157 : UndC Tryz.prog 157 Tryz.t157.desc := ⟨Tryz.underlying157⟩
instance ii157 : InfC Tryz.prog 157 Tryz.t157 := ⟨ti157⟩
theorem ti158 : Tryz.prog.info? 158 = some Tryz.t158 := by kernel_rfl
instance ui158 : UndC Tryz.prog 158 Tryz.t158.desc := ⟨Tryz.underlying158⟩
instance ii158 : InfC Tryz.prog 158 Tryz.t158 := ⟨ti158⟩
theorem ti159 : Tryz.prog.info? 159 = some Tryz.t159 := by kernel_rfl
instance ui159 : UndC Tryz.prog 159 Tryz.t159.desc := ⟨Tryz.underlying159⟩
instance ii159 : InfC Tryz.prog 159 Tryz.t159 := ⟨ti159⟩
theorem ti160 : Tryz.prog.info? 160 = some Tryz.t160 := by kernel_rfl
instance ui160 : UndC Tryz.prog 160 Tryz.t160.desc := ⟨Tryz.underlying160⟩
instance ii160 : InfC Tryz.prog 160 Tryz.t160 := ⟨ti160⟩
theorem ti161 : Tryz.prog.info? 161 = some Tryz.t161 := by kernel_rfl
instance ui161 : UndC Tryz.prog 161 Tryz.t161.desc := ⟨Tryz.underlying161⟩
instance ii161 : InfC Tryz.prog 161 Tryz.t161 := ⟨ti161⟩
theorem ti162 : Tryz.prog.info? 162 = some Tryz.t162 := by kernel_rfl
instance ui162 : UndC Tryz.prog 162 Tryz.t162.desc := ⟨Tryz.underlying162⟩
instance ii162 : InfC Tryz.prog 162 Tryz.t162 := ⟨ti162⟩
theorem ti163 : Tryz.prog.info? 163 = some Tryz.t163 := by kernel_rfl
instance ui163 : UndC Tryz.prog 163 Tryz.t163.desc := ⟨Tryz.underlying163⟩
instance ii163 : InfC Tryz.prog 163 Tryz.t163 := ⟨ti163⟩
theorem ti164 : Tryz.prog.info? 164 = some Tryz.t164 := by kernel_rfl
instance ui164 : UndC Tryz.prog 164 Tryz.t164.desc := ⟨Tryz.underlying164⟩
instance ii164 : InfC Tryz.prog 164 Tryz.t164 := ⟨ti164⟩
theorem ti165 : Tryz.prog.info? 165 = some Tryz.t165 := by kernel_rfl
instance ui165 : UndC Tryz.prog 165 Tryz.t165.desc := ⟨Tryz.underlying165⟩
instance ii165 : InfC Tryz.prog 165 Tryz.t165 := ⟨ti165⟩
theorem ti166 : Tryz.prog.info? 166 = some Tryz.t166 := by kernel_rfl
instance ui166 : UndC Tryz.prog 166 Tryz.t166.desc := ⟨Tryz.underlying166⟩
instance ii166 : InfC Tryz.prog 166 Tryz.t166 := ⟨ti166⟩
theorem ti167 : Tryz.prog.info? 167 = some Tryz.t167 := by kernel_rfl
instance ui167 : UndC Tryz.prog 167 Tryz.t167.desc := ⟨Tryz.underlying167⟩
instance ii167 : InfC Tryz.prog 167 Tryz.t167 := ⟨ti167⟩
theorem ti168 : Tryz.prog.info? 168 = some Tryz.t168 := by kernel_rfl
instance ui168 : UndC Tryz.prog 168 Tryz.t168.desc := ⟨Tryz.underlying168⟩
instance ii168 : InfC Tryz.prog 168 Tryz.t168 := ⟨ti168⟩
theorem ti169 : Tryz.prog.info? 169 = some Tryz.t169 := by kernel_rfl
instance ui169 : UndC Tryz.prog 169 Tryz.t169.desc := ⟨Tryz.underlying169⟩
instance ii169 : InfC Tryz.prog 169 Tryz.t169 := ⟨ti169⟩
theorem ti170 : Tryz.prog.info? 170 = some Tryz.t170 := by kernel_rfl
instance ui170 : UndC Tryz.prog 170 Tryz.t170.desc := ⟨Tryz.underlying170⟩
instance ii170 : InfC Tryz.prog 170 Tryz.t170 := ⟨ti170⟩
theorem ti171 : Tryz.prog.info? 171 = some Tryz.t171 := by kernel_rfl
instance ui171 : UndC Tryz.prog 171 Tryz.t171.desc := ⟨Tryz.underlying171⟩
instance ii171 : InfC Tryz.prog 171 Tryz.t171 := ⟨ti171⟩
theorem ti172 : Tryz.prog.info? 172 = some Tryz.t172 := by kernel_rfl
instance ui172 : UndC Tryz.prog 172 Tryz.t172.desc := ⟨Tryz.underlying172⟩
instance ii172 : InfC Tryz.prog 172 Tryz.t172 := ⟨ti172⟩
theorem ti173 : Tryz.prog.info? 173 = some Tryz.t173 := by kernel_rfl
instance ui173 : UndC Tryz.prog 173 Tryz.t173.desc := ⟨Tryz.underlying173⟩
instance ii173 : InfC Tryz.prog 173 Tryz.t173 := ⟨ti173⟩
theorem ti174 : Tryz.prog.info? 174 = some Tryz.t174 := by kernel_rfl
instance ui174 : UndC Tryz.prog 174 Tryz.t173.desc := ⟨Tryz.underlying174⟩
instance ii174 : InfC Tryz.prog 174 Tryz.t174 := ⟨ti174⟩
theorem ti175 : Tryz.prog.info? 175 = some Tryz.t175 := by kernel_rfl
instance ui175 : UndC Tryz.prog 175 Tryz.t175.desc := ⟨Tryz.underlying175⟩
instance ii175 : InfC Tryz.prog 175 Tryz.t175 := ⟨ti175⟩
theorem ti176 : Tryz.prog.info? 176 = some Tryz.t176 := by kernel_rfl
instance ui176 : UndC Tryz.prog 176 Tryz.t175.desc := ⟨Tryz.underlying176⟩
instance ii176 : InfC Tryz.prog 176 Tryz.t176 := ⟨ti176⟩
theorem ti177 : Tryz.prog.info? 177 = some Tryz.t177 := by kernel_rfl
instance ui177 : UndC Tryz.prog 177 Tryz.t177.desc := ⟨Tryz.underlying177⟩
instance ii177 : InfC Tryz.prog 177 Tryz.t177 := ⟨ti177⟩
theorem ti178 : Tryz.prog.info? 178 = some Tryz.t178 := by kernel_rfl
instance ui178 : UndC Tryz.prog 178 Tryz.t178.desc := ⟨Tryz.underlying178⟩
instance ii178 : InfC Tryz.prog 178 Tryz.t178 := ⟨ti178⟩
theorem ti179 : Tryz.prog.info? 179 = some Tryz.t179 := by kernel_rfl
instance ui179 : UndC Tryz.prog 179 Tryz.t179.desc := ⟨Tryz.underlying179⟩
instance ii179 : InfC Tryz.prog 179 Tryz.t179 := ⟨ti179⟩
theorem ti180 : Tryz.prog.info? 180 = some Tryz.t180 := by kernel_rfl
instance ui180 : UndC Tryz.prog 180 Tryz.t180.desc := ⟨Tryz.underlying180⟩
instance ii180 : InfC Tryz.prog 180 Tryz.t180 := ⟨ti180⟩
theorem ti181 : Tryz.prog.info? 181 = some Tryz.t181 := by kernel_rfl
instance ui181 : UndC Tryz.prog 181 Tryz.t181.desc := ⟨Tryz.underlying181⟩
instance ii181 : InfC Tryz.prog 181 Tryz.t181 := ⟨ti181⟩
theorem ti182 : Tryz.prog.info? 182 = some Tryz.t182 := by kernel_rfl
instance ui182 : UndC Tryz.prog 182 Tryz.t182.desc := ⟨Tryz.underlying182⟩
instance ii182 : InfC Tryz.prog 182 Tryz.t182 := ⟨ti182⟩
theorem ti183 : Tryz.prog.info? 183 = some Tryz.t183 := by kernel_rfl
instance ui183 : UndC Tryz.prog 183 Tryz.t183.desc := ⟨Tryz.underlying183⟩
instance ii183 : InfC Tryz.prog 183 Tryz.t183 := ⟨ti183⟩
theorem ti184 : Tryz.prog.info? 184 = some Tryz.t184 := by kernel_rfl
instance ui184 : UndC Tryz.prog 184 Tryz.t184.desc := ⟨Tryz.underlying184⟩
instance ii184 : InfC Tryz.prog 184 Tryz.t184 := ⟨ti184⟩
theorem ti185 : Tryz.prog.info? 185 = some Tryz.t185 := by kernel_rfl
instance ui185 : UndC Tryz.prog 185 Tryz.t185.desc := ⟨Tryz.underlying185⟩
instance ii185 : InfC Tryz.prog 185 Tryz.t185 := ⟨ti185⟩
theorem ti186 : Tryz.prog.info? 186 = some Tryz.t186 := by kernel_rfl
instance ui186 : UndC Tryz.prog 186 Tryz.t186.desc := ⟨Tryz.underlying186⟩
instance ii186 : InfC Tryz.prog 186 Tryz.t186 := ⟨ti186⟩
theorem ti187 : Tryz.prog.info? 187 = some Tryz.t187 := by kernel_rfl
instance ui187 : UndC Tryz.prog 187 Tryz.t187.desc := ⟨Tryz.underlying187⟩
instance ii187 : InfC Tryz.prog 187 Tryz.t187 := ⟨ti187⟩
theorem ti188 : Tryz.prog.info? 188 = some Tryz.t188 := by kernel_rfl
instance ui188 : UndC Tryz.prog 188 Tryz.t188.desc := ⟨Tryz.underlying188⟩
instance ii188 : InfC Tryz.prog 188 Tryz.t188 := ⟨ti188⟩
theorem ti189 : Tryz.prog.info? 189 = some Tryz.t189 := by kernel_rfl
instance ui189 : UndC Tryz.prog 189 Tryz.t189.desc := ⟨Tryz.underlying189⟩
instance ii189 : InfC Tryz.prog 189 Tryz.t189 := ⟨ti189⟩
theorem ti190 : Tryz.prog.info? 190 = some Tryz.t190 := by kernel_rfl
instance ui190 : UndC Tryz.prog 190 Tryz.t190.desc := ⟨Tryz.underlying190⟩
instance ii190 : InfC Tryz.prog 190 Tryz.t190 := ⟨ti190⟩
theorem ti191 : Tryz.prog.info? 191 = some Tryz.t191 := by kernel_rfl
instance ui191 : UndC Tryz.prog 191 Tryz.t190.desc := ⟨Tryz.underlying191⟩
instance ii191 : InfC Tryz.prog 191 Tryz.t191 := ⟨ti191⟩
theorem ti192 : Tryz.prog.info? 192 = some Tryz.t192 := by kernel_rfl
instance ui192 : UndC Tryz.prog 192 Tryz.t192.desc := ⟨Tryz.underlying192⟩
instance ii192 : InfC Tryz.prog 192 Tryz.t192 := ⟨ti192⟩
theorem ti193 : Tryz.prog.info? 193 = some Tryz.t193 := by kernel_rfl
instance ui193 : UndC Tryz.prog 193 Tryz.t192.desc := ⟨Tryz.underlying193⟩
instance ii193 : InfC Tryz.prog 193 Tryz.t193 := ⟨ti193⟩
theorem ti194 : Tryz.prog.info? 194 = some Tryz.t194 := by kernel_rfl
instance ui194 : UndC Tryz.prog 194 Tryz.t194.desc := ⟨Tryz.underlying194⟩
instance ii194 : InfC Tryz.prog 194 Tryz.t194 := ⟨ti194⟩
theorem ti195 : Tryz.prog.info? 195 = some Tryz.t195 := by kernel_rfl
instance ui195 : UndC Tryz.prog 195 Tryz.t195.desc := ⟨Tryz.underlying195⟩
instance ii195 : InfC Tryz.prog 195 Tryz.t195 := ⟨ti195⟩
theorem ti196 : Tryz.prog.info? 196 = some Tryz.t196 := by kernel_rfl
instance ui196 : UndC Tryz.prog 196 Tryz.t196.desc := ⟨Tryz.underlying196⟩
instance ii196 : InfC Tryz.prog 196 Tryz.t196 := ⟨ti196⟩
theorem ti197 : Tryz.prog.info? 197 = some Tryz.t197 := by kernel_rfl
instance ui197 : UndC Tryz.prog 197 Tryz.t197.desc := ⟨Tryz.underlying197⟩
instance ii197 : InfC Tryz.prog 197 Tryz.t197 := ⟨ti197⟩
theorem ti198 : Tryz.prog.info? 198 = some Tryz.t198 := by kernel_rfl
instance ui198 : UndC Tryz.prog 198 Tryz.t198.desc := ⟨Tryz.underlying198⟩
instance ii198 : InfC Tryz.prog 198 Tryz.t198 := ⟨ti198⟩
theorem ti199 : Tryz.prog.info? 199 = some Tryz.t199 := by kernel_rfl
instance ui199 : UndC Tryz.prog 199 Tryz.t199.desc := ⟨Tryz.underlying199⟩
instance ii199 : InfC Tryz.prog 199 Tryz.t199 := ⟨ti199⟩
theorem ti200 : Tryz.prog.info? 200 = some Tryz.t200 := by kernel_rfl
instance ui200 : UndC Tryz.prog 200 Tryz.t200.desc := ⟨Tryz.underlying200⟩
instance ii200 : InfC Tryz.prog 200 Tryz.t200 := ⟨ti200⟩
theorem ti201 : Tryz.prog.info? 201 = some Tryz.t201 := by kernel_rfl
instance ui201 : UndC Tryz.prog 201 Tryz.t201.desc := ⟨Tryz.underlying201⟩
instance ii201 : InfC Tryz.prog 201 Tryz.t201 := ⟨ti201⟩
theorem ti202 : Tryz.prog.info? 202 = some Tryz.t202 := by kernel_rfl
instance ui202 : UndC Tryz.prog 202 Tryz.t202.desc := ⟨Tryz.underlying202⟩
instance ii202 : InfC Tryz.prog 202 Tryz.t202 := ⟨ti202⟩
theorem ti203 : Tryz.prog.info? 203 = some Tryz.t203 := by kernel_rfl
instance ui203 : UndC Tryz.prog 203 Tryz.t203.desc := ⟨Tryz.underlying203⟩
instance ii203 : InfC Tryz.prog 203 Tryz.t203 := ⟨ti203⟩
theorem ti204 : Tryz.prog.info? 204 = some Tryz.t204 := by kernel_rfl
instance ui204 : UndC Tryz.prog 204 Tryz.t204.desc := ⟨Tryz.underlying204⟩
instance ii204 : InfC Tryz.prog 204 Tryz.t204 := ⟨ti204⟩
theorem ti205 : Tryz.prog.info? 205 = some Tryz.t205 := by kernel_rfl
instance ui205 : UndC Tryz.prog 205 Tryz.t205.desc := ⟨Tryz.underlying205⟩
instance ii205 : InfC Tryz.prog 205 Tryz.t205 := ⟨ti205⟩
theorem ti206 : Tryz.prog.info? 206 = some Tryz.t206 := by kernel_rfl
instance ui206 : UndC Tryz.prog 206 Tryz.t206.desc := ⟨Tryz.underlying206⟩
instance ii206 : InfC Tryz.prog 206 Tryz.t206 := ⟨ti206⟩
theorem ti207 : Tryz.prog.info? 207 = some Tryz.t207 := by kernel_rfl
instance ui207 : UndC Tryz.prog 207 Tryz.t207.desc := ⟨Tryz.underlying207⟩
instance ii207 : InfC Tryz.prog 207 Tryz.t207 := ⟨ti207⟩
theorem ti208 : Tryz.prog.info? 208 = some Tryz.t208 := by kernel_rfl
instance ui208 : UndC Tryz.prog 208 Tryz.t208.desc := ⟨Tryz.underlying208⟩
instance ii208 : InfC Tryz.prog 208 Tryz.t208 := ⟨ti208⟩
theorem ti209 : Tryz.prog.info? 209 = some Tryz.t209 := by kernel_rfl
instance ui209 : UndC Tryz.prog 209 Tryz.t209.desc := ⟨Tryz.underlying209⟩
instance ii209 : InfC Tryz.prog 209 Tryz.t209 := ⟨ti209⟩
theorem ti210 : Tryz.prog.info? 210 = some Tryz.t210 := by kernel_rfl
instance ui210 : UndC Tryz.prog 210 Tryz.t210.desc := ⟨Tryz.underlying210⟩
instance ii210 : InfC Tryz.prog 210 Tryz.t210 := ⟨ti210⟩
theorem ti211 : Tryz.prog.info? 211 = some Tryz.t211 := by kernel_rfl
instance ui211 : UndC Tryz.prog 211 Tryz.t211.desc := ⟨Tryz.underlying211⟩
instance ii211 : InfC Tryz.prog 211 Tryz.t211 := ⟨ti211⟩
theorem ti212 : Tryz.prog.info? 212 = some Tryz.t212 := by kernel_rfl
instance ui212 : UndC Tryz.prog 212 Tryz.t212.desc := ⟨Tryz.underlying212⟩
instance ii212 : InfC Tryz.prog 212 Tryz.t212 := ⟨ti212⟩
theorem ti213 : Tryz.prog.info? 213 = some Tryz.t213 := by kernel_rfl
instance ui213 : UndC Tryz.prog 213 Tryz.t213.desc := ⟨Tryz.underlying213⟩
instance ii213 : InfC Tryz.prog 213 Tryz.t213 := ⟨ti213⟩
theorem ti214 : Tryz.prog.info? 214 = some Tryz.t214 := by kernel_rfl
instance ui214 : UndC Tryz.prog 214 Tryz.t214.desc := ⟨Tryz.underlying214⟩
instance ii214 : InfC Tryz.prog 214 Tryz.t214 := ⟨ti214⟩
theorem ti215 : Tryz.prog.info? 215 = some Tryz.t215 := by kernel_rfl
instance ui215 : UndC Tryz.prog 215 Tryz.t3.desc := ⟨Tryz.underlying215⟩
instance ii215 : InfC Tryz.prog 215 Tryz.t215 := ⟨ti215⟩
theorem ti216 : Tryz.prog.info? 216 = some Tryz.t216 := by kernel_rfl
instance ui216 : UndC Tryz.prog 216 Tryz.t216.desc := ⟨Tryz.underlying216⟩
instance ii216 : InfC Tryz.prog 216 Tryz.t216 := ⟨ti216⟩
theorem ti217 : Tryz.prog.info? 217 = some Tryz.t217 := by kernel_rfl
instance ui217 : UndC Tryz.prog 217 Tryz.t217.desc := ⟨Tryz.underlying217⟩
instance ii217 : InfC Tryz.prog 217 Tryz.t217 := ⟨ti217⟩
theorem ti218 : Tryz.prog.info? 218 = some Tryz.t218 := by kernel_rfl
instance ui218 : UndC Tryz.prog 218 Tryz.t218.desc := ⟨Tryz.underlying218⟩
instance ii218 : InfC Tryz.prog 218 Tryz.t218 := ⟨ti218⟩
theorem ti219 : Tryz.prog.info? 219 = some Tryz.t219 := by kernel_rfl
instance ui219 : UndC Tryz.prog 219 Tryz.t219.desc := ⟨Tryz.underlying219⟩
instance ii219 : InfC Tryz.prog 219 Tryz.t219 := ⟨ti219⟩
theorem ti220 : Tryz.prog.info? 220 = some Tryz.t220 := by kernel_rfl
instance ui220 : UndC Tryz.prog 220 Tryz.t220.desc := ⟨Tryz.underlying220⟩
instance ii220 : InfC Tryz.prog 220 Tryz.t220 := ⟨ti220⟩
theorem ti221 : Tryz.prog.info? 221 = some Tryz.t221 := by kernel_rfl
instance ui221 : UndC Tryz.prog 221 Tryz.t221.desc := ⟨Tryz.underlying221⟩
instance ii221 : InfC Tryz.prog 221 Tryz.t221 := ⟨ti221⟩
theorem ti222 : Tryz.prog.info? 222 = some Tryz.t222 := by kernel_rfl
instance ui222 : UndC Tryz.prog 222 Tryz.t222.desc := ⟨Tryz.underlying222⟩
instance ii222 : InfC Tryz.prog 222 Tryz.t222 := ⟨ti222⟩
theorem ti223 : Tryz.prog.info? 223 = some Tryz.t223 := by kernel_rfl
instance ui223 : UndC Tryz.prog 223 Tryz.t223.desc := ⟨Tryz.underlying223⟩
instance ii223 : InfC Tryz.prog 223 Tryz.t223 := ⟨ti223⟩
theorem ti224 : Tryz.prog.info? 224 = some Tryz.t224 := by kernel_rfl
instance ui224 : UndC Tryz.prog 224 Tryz.t224.desc := ⟨Tryz.underlying224⟩
instance ii224 : InfC Tryz.prog 224 Tryz.t224 := ⟨ti224⟩
theorem ti225 : Tryz.prog.info? 225 = some Tryz.t225 := by kernel_rfl
instance ui225 : UndC Tryz.prog 225 Tryz.t225.desc := ⟨Tryz.underlying225⟩
instance ii225 : InfC Tryz.prog 225 Tryz.t225 := ⟨ti225⟩
theorem ti226 : Tryz.prog.info? 226 = some Tryz.t226 := by kernel_rfl
instance ui226 : UndC Tryz.prog 226 Tryz.t226.desc := ⟨Tryz.underlying226⟩
instance ii226 : InfC Tryz.prog 226 Tryz.t226 := ⟨ti226⟩
theorem ti227 : Tryz.prog.info? 227 = some Tryz.t227 := by kernel_rfl
instance ui227 : UndC Tryz.prog 227 Tryz.t227.desc := ⟨Tryz.underlying227⟩
instance ii227 : InfC Tryz.prog 227 Tryz.t227 := ⟨ti227⟩
theorem ti228 : Tryz.prog.info? 228 = some Tryz.t228 := by kernel_rfl
instance ui228 : UndC Tryz.prog 228 Tryz.t228.desc := ⟨Tryz.underlying228⟩
instance ii228 : InfC Tryz.prog 228 Tryz.t228 := ⟨ti228⟩
theorem ti229 : Tryz.prog.info? 229 = some Tryz.t229 := by kernel_rfl
instance ui229 : UndC Tryz.prog 229 Tryz.t229.desc := ⟨Tryz.underlying229⟩
instance ii229 : InfC Tryz.prog 229 Tryz.t229 := ⟨ti229⟩
theorem ti230 : Tryz.prog.info? 230 = some Tryz.t230 := by kernel_rfl
instance ui230 : UndC Tryz.prog 230 Tryz.t230.desc := ⟨Tryz.underlying230⟩
instance ii230 : InfC Tryz.prog 230 Tryz.t230 := ⟨ti230⟩
theorem ti231 : Tryz.prog.info? 231 = some Tryz.t231 := by kernel_rfl
instance ui231 : UndC Tryz.prog 231 Tryz.t231.desc := ⟨Tryz.underlying231⟩
instance ii231 : InfC Tryz.prog 231 Tryz.t231 := ⟨ti231⟩
theorem ti232 : Tryz.prog.info? 232 = some Tryz.t232 := by kernel_rfl
instance ui232 : UndC Tryz.prog 232 Tryz.t232.desc := ⟨Tryz.underlying232⟩
instance ii232 : InfC Tryz.prog 232 Tryz.t232 := ⟨ti232⟩
theorem ti233 : Tryz.prog.info? 233 = some Tryz.t233 := by kernel_rfl
instance ui233 : UndC Tryz.prog 233 Tryz.t233.desc := ⟨Tryz.underlying233⟩
instance ii233 : InfC Tryz.prog 233 Tryz.t233 := ⟨ti233⟩
theorem ti234 : Tryz.prog.info? 234 = some Tryz.t234 := by kernel_rfl
instance ui234 : UndC Tryz.prog 234 Tryz.t234.desc := ⟨Tryz.underlying234⟩
instance ii234 : InfC Tryz.prog 234 Tryz.t234 := ⟨ti234⟩
theorem ti235 : Tryz.prog.info? 235 = some Tryz.t235 := by kernel_rfl
instance ui235 : UndC Tryz.prog 235 Tryz.t235.desc := ⟨Tryz.underlying235⟩
instance ii235 : InfC Tryz.prog 235 Tryz.t235 := ⟨ti235⟩
theorem ti236 : Tryz.prog.info? 236 = some Tryz.t236 := by kernel_rfl
instance ui236 : UndC Tryz.prog 236 Tryz.t104.desc := ⟨Tryz.underlying236⟩
instance ii236 : InfC Tryz.prog 236 Tryz.t236 := ⟨ti236⟩
theorem ti237 : Tryz.prog.info? 237 = some Tryz.t237 := by kernel_rfl
instance ui237 : UndC Tryz.prog 237 Tryz.t237.desc := ⟨Tryz.underlying237⟩
instance ii237 : InfC Tryz.prog 237 Tryz.t237 := ⟨ti237⟩
theorem ti238 : Tryz.prog.info? 238 = some Tryz.t238 := by kernel_rfl
instance ui238 : UndC Tryz.prog 238 Tryz.t238.desc := ⟨Tryz.underlying238⟩
instance ii238 : InfC Tryz.prog 238 Tryz.t238 := ⟨ti238⟩
theorem ti239 : Tryz.prog.info? 239 = some Tryz.t239 := by kernel_rfl
instance ui239 : UndC Tryz.prog 239 Tryz.t239.desc := ⟨Tryz.underlying239⟩
instance ii239 : InfC Tryz.prog 239 Tryz.t239 := ⟨ti239⟩
theorem ti240 : Tryz.prog.info? 240 = some Tryz.t240 := by kernel_rfl
instance ui240 : UndC Tryz.prog 240 Tryz.t240.desc := ⟨Tryz.underlying240⟩
instance ii240 : InfC Tryz.prog 240 Tryz.t240 := ⟨ti240⟩
theorem ti241 : Tryz.prog.info? 241 = some Tryz.t241 := by kernel_rfl
instance ui241 : UndC Tryz.prog 241 Tryz.t241.desc := ⟨Tryz.underlying241⟩
instance ii241 : InfC Tryz.prog 241 Tryz.t241 := ⟨ti241⟩
theorem ti242 : Tryz.prog.info? 242 = some Tryz.t242 := by kernel_rfl
instance ui242 : UndC Tryz.prog 242 Tryz.t242.desc := ⟨Tryz.underlying242⟩
instance ii242 : InfC Tryz.prog 242 Tryz.t242 := ⟨ti242⟩
theorem ti243 : Tryz.prog.info? 243 = some Tryz.t243 := by kernel_rfl
instance ui243 : UndC Tryz.prog 243 Tryz.t243.desc := ⟨Tryz.underlying243⟩
instance ii243 : InfC Tryz.prog 243 Tryz.t243 := ⟨ti243⟩
theorem ti244 : Tryz.prog.info? 244 = some Tryz.t244 := by kernel_rfl
instance ui244 : UndC Tryz.prog 244 Tryz.t244.desc := ⟨Tryz.underlying244⟩
instance ii244 : InfC Tryz.prog 244 Tryz.t244 := ⟨ti244⟩
theorem ti245 : Tryz.prog.info? 245 = some Tryz.t245 := by kernel_rfl
instance ui245 : UndC Tryz.prog 245 Tryz.t245.desc := ⟨Tryz.underlying245⟩
instance ii245 : InfC Tryz.prog 245 Tryz.t245 := ⟨ti245⟩
theorem ti246 : Tryz.prog.info? 246 = some Tryz.t246 := by kernel_rfl
instance ui246 : UndC Tryz.prog 246 Tryz.t246.desc := ⟨Tryz.underlying246⟩
instance ii246 : InfC Tryz.prog 246 Tryz.t246 := ⟨ti246⟩
theorem ti247 : Tryz.prog.info? 247 = some Tryz.t247 := by kernel_rfl
instance ui247 : UndC Tryz.prog 247 Tryz.t247.desc := ⟨Tryz.underlying247⟩
instance ii247 : InfC Tryz.prog 247 Tryz.t247 := ⟨ti247⟩
theorem ti248 : Tryz.prog.info? 248 = some Tryz.t248 := by kernel_rfl
instance ui248 : UndC Tryz.prog 248 Tryz.t248.desc := ⟨Tryz.underlying248⟩
instance ii248 : InfC Tryz.prog 248 Tryz.t248 := ⟨ti248⟩
theorem ti249 : Tryz.prog.info? 249 = some Tryz.t249 := by kernel_rfl
instance ui249 : UndC Tryz.prog 249 Tryz.t249.desc := ⟨Tryz.underlying249⟩
instance ii249 : InfC Tryz.prog 249 Tryz.t249 := ⟨ti249⟩
theorem ti250 : Tryz.prog.info? 250 = some Tryz.t250 := by kernel_rfl
instance ui250 : UndC Tryz.prog 250 Tryz.t250.desc := ⟨Tryz.underlying250⟩
instance ii250 : InfC Tryz.prog 250 Tryz.t250 := ⟨ti250⟩
theorem ti251 : Tryz.prog.info? 251 = some Tryz.t251 := by kernel_rfl
instance ui251 : UndC Tryz.prog 251 Tryz.t251.desc := ⟨Tryz.underlying251⟩
instance ii251 : InfC Tryz.prog 251 Tryz.t251 := ⟨ti251⟩
theorem ti252 : Tryz.prog.info? 252 = some Tryz.t252 := by kernel_rfl
instance ui252 : UndC Tryz.prog 252 Tryz.t252.desc := ⟨Tryz.underlying252⟩
instance ii252 : InfC Tryz.prog 252 Tryz.t252 := ⟨ti252⟩
theorem ti253 : Tryz.prog.info? 253 = some Tryz.t253 := by kernel_rfl
instance ui253 : UndC Tryz.prog 253 Tryz.t253.desc := ⟨Tryz.underlying253⟩
instance ii253 : InfC Tryz.prog 253 Tryz.t253 := ⟨ti253⟩
theorem ti254 : Tryz.prog.info? 254 = some Tryz.t254 := by kernel_rfl
instance ui254 : UndC Tryz.prog 254 Tryz.t253.desc := ⟨Tryz.underlying254⟩
instance ii254 : InfC Tryz.prog 254 Tryz.t254 := ⟨ti254⟩
theorem ti255 : Tryz.prog.info? 255 = some Tryz.t255 := by kernel_rfl
instance ui255 : UndC Tryz.prog 255 Tryz.t255.desc := ⟨Tryz.underlying255⟩
instance ii255 : InfC Tryz.prog 255 Tryz.t255 := ⟨ti255⟩
theorem ti256 : Tryz.prog.info? 256 = some Tryz.t256 := by kernel_rfl
instance ui256 : UndC Tryz.prog 256 Tryz.t256.desc := ⟨Tryz.underlying256⟩
instance ii256 : InfC Tryz.prog 256 Tryz.t256 := ⟨ti256⟩
theorem ti257 : Tryz.prog.info? 257 = some Tryz.t257 := by kernel_rfl
instance ui257 : UndC Tryz.prog 257 Tryz.t256.desc := ⟨Tryz.underlying257⟩
instance ii257 : InfC Tryz.prog 257 Tryz.t257 := ⟨ti257⟩
theorem ti258 : Tryz.prog.info? 258 = some Tryz.t258 := by kernel_rfl
instance ui258 : UndC Tryz.prog 258 Tryz.t5.desc := ⟨Tryz.underlying258⟩
instance ii258 : InfC Tryz.prog 258 Tryz.t258 := ⟨ti258⟩
theorem ti259 : Tryz.prog.info? 259 = some Tryz.t259 := by kernel_rfl
instance ui259 : UndC Tryz.prog 259 Tryz.t5.desc := ⟨Tryz.underlying259⟩
instance ii259 : InfC Tryz.prog 259 Tryz.t259 := ⟨ti259⟩
theorem ti260 : Tryz.prog.info? 260 = some Tryz.t260 := by kernel_rfl
instance ui260 : UndC Tryz.prog 260 Tryz.t260.desc := ⟨Tryz.underlying260⟩
instance ii260 : InfC Tryz.prog 260 Tryz.t260 := ⟨ti260⟩
theorem ti261 : Tryz.prog.info? 261 = some Tryz.t261 := by kernel_rfl
instance ui261 : UndC Tryz.prog 261 Tryz.t21.desc := ⟨Tryz.underlying261⟩
instance ii261 : InfC Tryz.prog 261 Tryz.t261 := ⟨ti261⟩
theorem ti262 : Tryz.prog.info? 262 = some Tryz.t262 := by kernel_rfl
instance ui262 : UndC Tryz.prog 262 Tryz.t21.desc := ⟨Tryz.underlying262⟩
instance ii262 : InfC Tryz.prog 262 Tryz.t262 := ⟨ti262⟩
theorem ti263 : Tryz.prog.info? 263 = some Tryz.t263 := by kernel_rfl
instance ui263 : UndC Tryz.prog 263 Tryz.t263.desc := ⟨Tryz.underlying263⟩
instance ii263 : InfC Tryz.prog 263 Tryz.t263 := ⟨ti263⟩
theorem ti264 : Tryz.prog.info? 264 = some Tryz.t264 := by kernel_rfl
instance ui264 : UndC Tryz.prog 264 Tryz.t263.desc := ⟨Tryz.underlying264⟩
instance ii264 : InfC Tryz.prog 264 Tryz.t264 := ⟨ti264⟩
end Go.Proofs.YtibccdcemcgkeaaGreat
end
