/- Printed by gen.py. -/
import Derived.Test.YteaoijahdinciaaF10
import Derived.Test.YteaoijahdinciaaF12
namespace Go.Proofs.Yteaoijahdinciaa
open Go Go.RowKit
set_option linter.unusedSimpArgs false
set_option linter.unusedVariables false
set_option linter.unnecessarySimpa false
/-! ### (*backstitch/backstitchref19.Shelf).Zero -/
noncomputable def ref19_Shelf_Zero.f (x0 : Shelf65) (x1 : Int) : Option ((List Tensor) × Int) :=
  (ref19_Shelf_in.f x0 x1).bind fun r23 =>
  if r23 = true then (if 0 ≤ x1 ∧ x1 < (x0.T.length : Int) then ((ref1_New.f (rd x0.T x1).Shape 0).bind fun r35 =>
  if 0 ≤ x1 ∧ x1 < (x0.G.length : Int) then (some ((put x0.G x1 r35.1), 0))
  else none)
  else none)
  else (some (x0.G, 7))
set_option maxRecDepth 100000 in
set_option maxHeartbeats 4000000 in
theorem ref19_Shelf_Zero.calls (B0 : List (Option Nat)) (M : List (Option Nat)) (w0 : World) (x0 : Shelf65) (b0 : Nat) (A0_0 : Option Addr) (n0_0 c0_0 : Nat) (e0_0 : n0_0 = x0.T.length) (A0_1 : Option Addr) (n0_1 c0_1 : Nat) (e0_1 : n0_1 = x0.G.length) (A0_2 : Option Addr) (n0_2 c0_2 : Nat) (e0_2 : n0_2 = x0.V.length) (x1 : Int) (hm0 : Mem B0 M w0 [.bx b0 [.slice A0_0 n0_0 c0_0, .slice A0_1 n0_1 c0_1, .slice A0_2 n0_2 c0_2] 65, .ow kTensor 29 A0_0 c0_0 x0.T, .ow kTensor 29 A0_1 c0_1 x0.G, .ow (Kd.int .i64) 3 A0_2 c0_2 x0.V] w0) (r : ((List Tensor) × Int)) (H0 : ref19_Shelf_Zero.f x0 x1 = some r) :
    Calls Try.prog 28 [.pointer (some ⟨b0, 0, none⟩), .int .i64 x1].toArray w0 (fun x w' => ∃ v, x = .returned v ∧ ∃ Ap0_1 cp0_1, v = .int .i64 r.2 ∧ Mem B0 M w0 [.bx b0 [.slice A0_0 x0.T.length c0_0, .slice Ap0_1 r.1.length cp0_1, .slice A0_2 x0.V.length c0_2] 65, .ow kTensor 29 A0_0 c0_0 x0.T, .ow kTensor 29 Ap0_1 cp0_1 r.1, .ow (Kd.int .i64) 3 A0_2 c0_2 x0.V] w') := by
  subst e0_0
  subst e0_1
  subst e0_2
  unfold ref19_Shelf_Zero.f at H0
  refine enter (n := 27) Try.func28 rfl rfl (by kernel_rfl) fun a0 (hf0 : Fr 27 a0 [(0, .pointer (some ⟨b0, 0, none⟩)), (1, .int .i64 x1)]) => ?_
  refine wp_seq ?_
  refine rg [] [(0, vp b0), (1, vi x1)] hf0 ot fun a21 hf22 => ?_
  refine thenN ?_
  refine wp_seq ?_
  refine wp_seq ?_
  obtain ⟨r23, hr23, H0⟩ := ob_split H0
  rcases ifb_split H0 with ⟨c24, H0⟩ | ⟨c24, H0⟩
  rotate_left
  · refine inReg ?_
    refine gg 2 [] [(0, vp b0), (1, vi x1), (5, vp b0), (6, vi x1)] hf22 ot fun a164 hf165 => ?_
    refine lo hf165 rfl (cl 7 hf165 callable42 (ref19_Shelf_in.calls _ _ _ x0 _ _ _ _ rfl _ _ _ rfl _ _ _ rfl x1 (hm0.giveO [0, 1, 2, 3] [] [] [.bx b0 [.slice A0_0 x0.T.length c0_0, .slice A0_1 x0.G.length c0_1, .slice A0_2 x0.V.length c0_2] 65, .ow kTensor 29 A0_0 c0_0 x0.T, .ow kTensor 29 A0_1 c0_1 x0.G, .ow (Kd.int .i64) 3 A0_2 c0_2 x0.V] _ [] rfl rfl rfl (by kernel_rfl) rfl) r23 hr23) ?_)
    rintro _ w166 a167 ⟨rfl, hk169⟩ hf168
    have hm170 := hm0.backO [0, 1, 2, 3] [] _ _ rfl rfl (by kernel_rfl) hk169
    rw [c24] at hf168
    refine gg 1 [] [(0, vp b0), (1, vi x1), (8, .bool true)] hf168 ot fun a171 hf172 => ?_
    refine endL rfl ?_
    refine thenN ?_
    refine cT hf172 ?_
    refine wp_seq ?_
    refine rg [] [(4, vi 7)] hf172 ot fun a173 hf174 => ?_
    refine thenN ?_
    refine wp_ret ?_
    refine thenR ?_
    have hm175 : Mem B0 M w0 [.bx b0 [.slice A0_0 x0.T.length c0_0, .slice A0_1 x0.G.length c0_1, .slice A0_2 x0.V.length c0_2] 65, .ow kTensor 29 A0_0 c0_0 x0.T, .ow kTensor 29 A0_1 c0_1 x0.G, .ow (Kd.int .i64) 3 A0_2 c0_2 x0.V] w166 := hm170.se [0, 1, 2, 3] _ rfl
    obtain rfl := Option.some.inj H0
    refine rt [] [.int .i64 7] hf174 ot ?_
    exact ⟨_, rfl, A0_1, c0_1, rfl, hm175⟩
  refine inReg ?_
  refine gg 2 [] [(0, vp b0), (1, vi x1), (5, vp b0), (6, vi x1)] hf22 ot fun a25 hf26 => ?_
  refine lo hf26 rfl (cl 7 hf26 callable42 (ref19_Shelf_in.calls _ _ _ x0 _ _ _ _ rfl _ _ _ rfl _ _ _ rfl x1 (hm0.giveO [0, 1, 2, 3] [] [] [.bx b0 [.slice A0_0 x0.T.length c0_0, .slice A0_1 x0.G.length c0_1, .slice A0_2 x0.V.length c0_2] 65, .ow kTensor 29 A0_0 c0_0 x0.T, .ow kTensor 29 A0_1 c0_1 x0.G, .ow (Kd.int .i64) 3 A0_2 c0_2 x0.V] _ [] rfl rfl rfl (by kernel_rfl) rfl) r23 hr23) ?_)
  rintro _ w27 a28 ⟨rfl, hk30⟩ hf29
  have hm31 := hm0.backO [0, 1, 2, 3] [] _ _ rfl rfl (by kernel_rfl) hk30
  rw [c24] at hf29
  refine gg 1 [] [(0, vp b0), (1, vi x1), (8, .bool false)] hf29 ot fun a32 hf33 => ?_
  refine endL rfl ?_
  refine thenN ?_
  refine cF hf33 ?_
  refine wp_skip ?_
  refine thenN ?_
  refine wp_seq ?_
  obtain ⟨g34, H0⟩ := if_guard H0
  obtain ⟨r35, hr35, H0⟩ := ob_split H0
  obtain ⟨g36, H0⟩ := if_guard H0
  refine midReg (fun (a : Act) (w : World) => Fr 27 a [] ∧ Mem B0 M w0 [.bx b0 [.slice A0_0 x0.T.length c0_0, .slice A0_1 x0.G.length c0_1, .slice A0_2 x0.V.length c0_2] 65, .ow kTensor 29 A0_0 c0_0 x0.T, .ow kTensor 29 A0_1 c0_1 (put x0.G x1 r35.1), .ow (Kd.int .i64) 3 A0_2 c0_2 x0.V] w) ?_ ?_
  · refine anyG (K := []) [18] (by kernel_rfl) fun w74 hg75 => ?_
    have hm76 := hm31.still hg75
    have q116 := (hm76.owAt 1 rfl).cells x1 g34.1 g34.2
    obtain ⟨us117, hr118, hc119⟩ := q116.2
    obtain ⟨A120, c121, A122, c123, rfl, ⟨pA120, sA120⟩, ⟨pA122, sA122⟩⟩ := kTensor.open hr118
    have hm124 := hm76.elem pA120 sA120
    have hm125 := hm124.elem pA122 sA122
    refine qt [0, 1, 2, 3, 4, 5, 6, 7, 8, 9, 10, 11, 12] [.slice A0_1 x0.G.length c0_1, .slice A0_0 x0.T.length c0_0, .slice A120 (rd x0.T x1).Shape.length c121] (fb 19 8191) [(13, .slice A0_1 x0.G.length c0_1), (14, vi x1), (22, .slice A120 (rd x0.T x1).Shape.length c121)] 6 hf33 (oc (hm76.cell (j := 1) 0 rfl rfl) (oc (hm76.cell (j := 0) 0 rfl rfl) (oi q116.1 (oi g34 (oc (hc119 0 _ rfl) ot))))) fun a126 hf127 => ?_
    refine a1 13 ?_
    refine oo hf127 rfl (cl 23 hf127 callable38 (ref1_New.calls _ _ _ _ _ _ rfl 0 0 ((FR.lit (by kernel_rfl) (by kernel_rfl))) (hm125.give [1] [.sl (Kd.int .i64) A120 c121 (rd x0.T x1).Shape] rfl rfl) r35 hr35) ?_)
    rintro _ w132 a133 ⟨A128, c129, A130, c131, rfl, hk135⟩ hf134
    refine ⟨.inr (Gr.still hk135.cum.none), ?_⟩
    have hm136 := hm125.back hk135
    have hm137 := hm136.seal 0 _ rfl rfl
    have hm138 := hm137.seal 1 _ rfl rfl
    have q139 := (hm138.owAt 6 rfl).cells x1 g36.1 g36.2
    obtain ⟨us140, hr141, hc142⟩ := q139.2
    obtain ⟨A143, c144, A145, c146, rfl, ⟨pA143, sA143⟩, ⟨pA145, sA145⟩⟩ := kTensor.open hr141
    have hm147 := hm138.elem pA143 sA143
    have hm148 := hm147.elem pA145 sA145
    refine qt [14, 15, 16, 17] [] (fb 19 262143) [(24, .agg #[.slice A128 r35.1.Shape.length c129, .slice A130 r35.1.Data.length c131]), (26, .pointer (some ((ad A0_1).add ((x1).toNat * 2))))] 1 hf134 (oi q139.1 (oi g36 ot)) fun a149 hf150 => ?_
    refine a1 18 ?_
    refine oo hf150 rfl (so (i := x1) (x := r35.1) (us := [.slice A128 r35.1.Shape.length c129, .slice A130 r35.1.Data.length c131]) (sz := 2) hf150 (hm148.at 8 rfl) (kTensor.mk r35.1 ⟨hm148.cpAt 2 rfl, (hm148.at2 8 2 rfl rfl).2⟩ ⟨hm148.cpAt 3 rfl, (hm148.at2 8 3 rfl rfl).2⟩) g36.1 g36.2 ?_)
    intro w151 hx152 hg153
    refine ⟨.inl (by decide), ?_⟩
    have hm154 := hm148.setOwn 8 _ rfl rfl hx152 hg153 (.inl rfl)
    refine aD ⟨rfl, hf150.se [], hm154.se [6, 7, 8, 9] _ rfl⟩
  rintro a155 w156 ⟨hf157, hm158⟩
  refine thenN ?_
  refine wp_seq ?_
  refine rg [] [(4, vi 0)] hf157 ot fun a159 hf160 => ?_
  refine thenN ?_
  refine wp_ret ?_
  have hm161 : Mem B0 M w0 [.bx b0 [.slice A0_0 x0.T.length c0_0, .slice A0_1 x0.G.length c0_1, .slice A0_2 x0.V.length c0_2] 65, .ow kTensor 29 A0_0 c0_0 x0.T, .ow kTensor 29 A0_1 c0_1 (put x0.G x1 r35.1), .ow (Kd.int .i64) 3 A0_2 c0_2 x0.V] w156 := hm158.se [0, 1, 2, 3] _ rfl
  have hm162 : Mem B0 M w0 [.bx b0 [.slice A0_0 x0.T.length c0_0, .slice A0_1 (put x0.G x1 r35.1).length c0_1, .slice A0_2 x0.V.length c0_2] 65, .ow kTensor 29 A0_0 c0_0 x0.T, .ow kTensor 29 A0_1 c0_1 (put x0.G x1 r35.1), .ow (Kd.int .i64) 3 A0_2 c0_2 x0.V] w156 := by simpa only [put_length] using hm161
  obtain rfl := Option.some.inj H0
  refine rt [] [.int .i64 0] hf160 ot ?_
  exact ⟨_, rfl, A0_1, c0_1, rfl, hm162⟩
end Go.Proofs.Yteaoijahdinciaa
