/- Plain law of FoldParts: a tree of twice as many is the trees of both halves, added. -/
import Derived.Test.YtkcgiolledmbnabQA8
import Derived.Test.YtkcgiolledmbnabP9
import Derived.Test.YtkcgiolledmbnabLFoldParts
namespace Go.Proofs.Ytkcgiolledmbnab
open Go Go.RowKit

theorem tree_twice (xs : List Nat) (h : xs ≠ []) : tree (xs ++ xs) = fadd (tree xs) (tree xs) := by
  have hlt : 0 < xs.length := List.length_pos_iff.2 h
  rw [tree_halves (by simp; omega)]
  have e : ((xs ++ xs).length + 1) / 2 = xs.length := by simp; omega
  rw [e, List.take_left, List.drop_left]

theorem law8_FoldParts.plain (l : List Tensor) (o : l.length ≤ 9223372036854775807) : law8_FoldParts.f l = some true := by
  unfold law8_FoldParts.f
  rw [law8_awake_ev, obind, if_pos rfl]
  obtain ⟨b, h1, h2⟩ := law8_Few_ex l o
  rw [h1, obind]
  by_cases hb : b = true
  · have hl := (h2 hb).1
    rw [if_pos hb]
    by_cases c0 : (l.length : Int) = 0
    · rw [if_pos c0]
    rw [if_neg c0]
    by_cases c1 : 20 < (l.length : Int)
    · rw [if_pos c1]
    rw [if_neg c1, fold_Tree_eq l (by omega), obind]
    by_cases c2 : (treeT l).2 = 0
    · obtain ⟨h0, hf, hm⟩ := treeT_may c2
      have e := treeT_fits h0 hf
      have hlt : 0 < l.length := List.length_pos_iff.2 h0
      rw [if_pos c2, if_pos (by omega), if_pos (by simp; omega), fold_Tree_eq _ (by simp; omega), obind, List.nil_append, ref1_Two_eq, obind]
      have hr : rd (l ++ l) 0 = rd l 0 := by
        rw [show (0 : Int) = ((0 : Nat) : Int) from rfl, rd_nat _ 0 (by simp; omega), rd_nat _ 0 hlt, List.getElem_append_left hlt]
      have hf2 : fitL (l ++ l) := fun t ht => by
        rw [hr]
        rcases List.mem_append.1 ht with ht | ht <;> exact hf t ht
      have e2 := treeT_fits (l := l ++ l) (by simp [h0]) hf2
      have e3 := twoT_same (op := 4) (by decide) hm hm rfl
      have e4 : (treeT (l ++ l)) = twoT 4 (treeT l).1 (treeT l).1 := by
        rw [e2, e3, hr, e]
        simp only [treeD, List.length_map, List.length_range]
        congr 2
        apply List.map_congr_left
        intro i hi
        rw [List.map_append, tree_twice _ (by simp [h0])]
        have hi' := List.mem_range.1 hi
        rw [getD_get _ _ _ (by simpa using hi')]
        simp [opF]
      have hs := treeT_small (l ++ l)
      rw [if_pos (by rw [e2]), if_pos (by rw [e3]), ref1_SameTensor_eq _ _ (by omega) (by omega), obind, e4, sameT_refl]
    · rw [if_neg c2]
  · rw [if_neg hb]
end Go.Proofs.Ytkcgiolledmbnab
