/- Plain law of FoldTrees. -/
import Derived.Test.YtkcgiolledmbnabQA8
import Derived.Test.YtkcgiolledmbnabP9
import Derived.Test.YtkcgiolledmbnabLFoldTrees
namespace Go.Proofs.Ytkcgiolledmbnab
open Go Go.RowKit
theorem law8_FoldTrees.plain (l : List Tensor) (o : l.length ≤ 9223372036854775807) : law8_FoldTrees.f l = some true := by
  unfold law8_FoldTrees.f
  rw [law8_awake_ev, obind, if_pos rfl]
  obtain ⟨b, h1, h2⟩ := law8_Few_ex l o
  rw [h1, obind]
  by_cases hb : b = true
  · have hl := (h2 hb).1
    have hs := treeT_small l
    rw [if_pos hb, fold_Tree_eq l (by omega), obind, ref6_Tree_eq l (by omega), obind, if_pos rfl, ref1_SameTensor_eq _ _ (by omega) (by omega), obind, sameT_refl]
  · rw [if_neg hb]
end Go.Proofs.Ytkcgiolledmbnab
