/- Plain law of TensorMaps: a map by a method value, and by a function; two maps, one behind the other. -/
import Derived.Test.YtkcgiolledmbnacQA3
import Derived.Test.YtkcgiolledmbnacP16
import Derived.Test.YtkcgiolledmbnacP11
import Derived.Test.YtkcgiolledmbnacLTensorMaps
namespace Go.Proofs.Ytkcgiolledmbnac
open Go Go.RowKit
set_option linter.unusedSimpArgs false

theorem tensor_Map_add_eq (t : Tensor) (a : Adder) : tensor_Map_law3_adder_add.f t a = some (mapT (fun v => fadd v a.X) t) := by
  unfold tensor_Map_law3_adder_add.f mapT
  rw [tensor_May_eq, obind]
  by_cases h : tmay t = true
  · obtain ⟨_, k2, _, k4, _⟩ := tmay_fits h
    rw [if_pos h, if_pos h, tensor_Copy_eq _ (by omega) (by omega), obind, map_loop t.Data (fun v => fadd v a.X) (by omega) (fun j ys hj hy => ?_) (fun ys hy => ?_), obind]
    · unfold tensor_Map_law3_adder_add.l0
      simp only
      rw [if_pos (by omega), if_pos (by omega), rd_nat ys j hj]
      rfl
    · unfold tensor_Map_law3_adder_add.l0
      simp only
      rw [if_neg (by omega)]
  · rw [if_neg h, if_neg h]; rfl

theorem tensor_Map_Sqrt_eq (t : Tensor) : tensor_Map_math_Sqrt.f t = some (mapT fsqrt t) := by
  unfold tensor_Map_math_Sqrt.f mapT
  rw [tensor_May_eq, obind]
  by_cases h : tmay t = true
  · obtain ⟨_, k2, _, k4, _⟩ := tmay_fits h
    rw [if_pos h, if_pos h, tensor_Copy_eq _ (by omega) (by omega), obind, map_loop t.Data fsqrt (by omega) (fun j ys hj hy => ?_) (fun ys hy => ?_), obind]
    · unfold tensor_Map_math_Sqrt.l0
      simp only
      rw [if_pos (by omega), if_pos (by omega), rd_nat ys j hj]
      rfl
    · unfold tensor_Map_math_Sqrt.l0
      simp only
      rw [if_neg (by omega)]
  · rw [if_neg h, if_neg h]; rfl

theorem tmay_map (t : Tensor) (g : Nat → Nat) : tmay ⟨t.Shape, t.Data.map g⟩ = tmay t := by
  simp [tmay]

theorem law3_TensorMaps.plain (t : Tensor) (x : Nat) : law3_TensorMaps.f t x = some true := by
  unfold law3_TensorMaps.f
  rw [law3_awake_ev, obind, if_pos rfl, law3_Small_ex, obind]
  by_cases c0 : smallP t
  rotate_left
  · rw [if_neg (by simpa using c0)]
  rw [if_pos (by simpa using c0), ref1_TensorMay_eq, obind]
  by_cases hm : tmay t = true
  rotate_left
  · rw [if_neg hm]
  obtain ⟨_, k2, _, k4, _⟩ := tmay_fits hm
  have e1 : mapT (fun v => fadd v x) t = ⟨t.Shape, t.Data.map (fun v => fadd v x)⟩ := by unfold mapT; rw [if_pos hm]
  have e2 : mapT fsqrt ⟨t.Shape, t.Data.map (fun v => fadd v x)⟩ = ⟨t.Shape, (t.Data.map (fun v => fadd v x)).map fsqrt⟩ := by unfold mapT; rw [if_pos (by rw [tmay_map]; exact hm)]
  rw [if_pos hm, tensor_Map_add_eq, obind, obind]
  simp only
  rw [e1, tensor_Map_Sqrt_eq, obind, e2]
  simp only [List.length_map]
  rw [if_pos trivial, if_pos trivial, ref1_SameInts_eq _ _ (by omega), obind, if_pos (by simp)]
  rw [same_loop t.Data.length (by omega) (fun j hj => ?_) ?_, obind]
  · rfl
  · unfold law3_TensorMaps.l0
    simp only [List.length_map]
    rw [if_neg (by omega)]
  · unfold law3_TensorMaps.l0
    simp only [List.length_map]
    have g1 : rd (t.Data.map (fun v => fadd v x)) (j : Int) = fadd (rd t.Data (j : Int)) x := by
      rw [rd_nat _ j (by simpa using hj), rd_nat _ j hj]; simp
    have g2 : rd ((t.Data.map (fun v => fadd v x)).map fsqrt) (j : Int) = fsqrt (fadd (rd t.Data (j : Int)) x) := by
      rw [rd_nat _ j (by simpa using hj), rd_nat _ j hj]; simp
    rw [if_pos (by omega), if_pos (by omega), if_pos (by omega), g1, g2, ref1_Same_eq]
    simp only [math_Sqrt.f, bindS, ref1_Same_eq, decide_true, if_true]
    rw [if_pos (by omega)]

end Go.Proofs.Ytkcgiolledmbnac
