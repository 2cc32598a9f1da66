/- Printed by gen.py. -/
import Derived.Test.YteaoijahdinciaaF11
import Derived.Test.YteaoijahdinciaaF12
import Derived.Test.YteaoijahdinciaaF13
import Derived.Test.YteaoijahdinciaaF15
import Derived.Test.YteaoijahdinciaaF2
import Derived.Test.YteaoijahdinciaaF8
import Derived.Test.YteaoijahdinciaaF9
namespace Go.Proofs.Yteaoijahdinciaa
open Go Go.RowKit
set_option linter.unusedSimpArgs false
set_option linter.unusedVariables false
set_option linter.unnecessarySimpa false
/-! ### backstitch/backstitchlaw19.ShelfHands -/
noncomputable def law19_ShelfHands.l1 (s178 : Int) (r244 : ((List Tensor) × (List Int))) (x1 : Nat) (s262 : (Int × (List Nat) × (List Nat) × (List Nat))) : Step (Int × (List Nat) × (List Nat) × (List Nat)) (Int × (List Nat) × (List Nat) × (List Nat)) :=
  if s262.1 < (s262.2.2.2.length : Int) then (if 0 ≤ s178 ∧ s178 < (r244.1.length : Int) then (if 0 ≤ s262.1 ∧ s262.1 < (s262.2.2.2.length : Int) then (if 0 ≤ s262.1 ∧ s262.1 < (s262.2.2.1.length : Int) then (if 0 ≤ s262.1 ∧ s262.1 < (((rd r244.1 s178).Data.length : Nat) : Int) then (if 0 ≤ s262.1 ∧ s262.1 < (s262.2.1.length : Int) then (.next ((w64 (s262.1 + 1)), (put s262.2.1 s262.1 x1), (put s262.2.2.1 s262.1 x1), (put s262.2.2.2 s262.1 x1)))
  else .bad)
  else .bad)
  else .bad)
  else .bad)
  else .bad)
  else (.done (s262.1, s262.2.1, s262.2.2.1, s262.2.2.2))
noncomputable def law19_ShelfHands.l0 (x0 : (List Tensor)) (y45 : Shelf) (x1 : Nat) (s178 : Int) : Step Int Int :=
  if s178 < (x0.length : Int) then (bindS (shelf_Shelf_Get.f y45 s178) fun r188 =>
  bindS (shelf_Shelf_Grad.f y45 s178) fun r216 =>
  bindS (shelf_Shelf_All.f y45) fun r244 =>
  bindS (loop (law19_ShelfHands.l1 s178 r244 x1) (0, (gd r244.1 (s178).toNat), r216.1.Data, r188.1.Data)) fun r263 =>
  if 0 ≤ s178 ∧ s178 < (r244.2.length : Int) then (.next (w64 (s178 + 1)))
  else .bad)
  else (.done s178)
noncomputable def law19_ShelfHands.f (x0 : (List Tensor)) (x1 : Nat) : Option Bool :=
  (law19_awake.f).bind fun r23 =>
  if r23 = true then ((law12_Small.f x0).bind fun r32 =>
  if r32 = true then ((shelf_New.f x0).bind fun r43 =>
  onPtr r43.1 (fun y45 =>
  (ref19_New.f x0).bind fun r154 =>
  onPtr r154.1 (fun y156 =>
  if r43.2 = 0 then ((loop (law19_ShelfHands.l0 x0 y45 x1) 0).bind fun r179 =>
  (law19_Same.f y45 y156).bind fun r450 =>
  some r450)
  else (if r43.2 = r154.2 then (some true)
  else (some false))) none) ((ref19_New.f x0).bind fun r55 =>
  onPtr r55.1 (fun y57 =>
  if r43.2 = 0 then (if r43.2 = r55.2 then (some true)
  else (some false))
  else (if r43.2 = r55.2 then (some true)
  else (some false))) (if r43.2 = 0 then (if r43.2 = r55.2 then (some true)
  else (some false))
  else (if r43.2 = r55.2 then (some true)
  else (some false)))))
  else (some true))
  else (some false)
set_option maxRecDepth 100000 in
set_option maxHeartbeats 4000000 in
theorem law19_ShelfHands.calls (M : List (Option Nat)) (w0 : World) (x0 : (List Tensor)) (A0 : Option Addr) (n0 c0 : Nat) (e0 : n0 = x0.length) (x1 : Nat) (b1 : Nat) (h1 : FR b1 x1) (hm0 : Mem [] M w0 [.sl kTensor A0 c0 x0] w0) (r : Bool) (H0 : law19_ShelfHands.f x0 x1 = some r) :
    Calls Try.prog 4 [.slice A0 n0 c0, .float .f64 b1].toArray w0 (fun x w' => ∃ v, x = .returned v ∧ v = .bool r ∧ Mem [] M w0 [] w') := by
  subst e0
  unfold law19_ShelfHands.f at H0
  refine enter (n := 97) Try.func4 rfl rfl (by kernel_rfl) fun a0 (hf0 : Fr 97 a0 [(0, .slice A0 x0.length c0), (1, .float .f64 b1)]) => ?_
  refine wp_seq ?_
  refine rg [] [(0, .slice A0 x0.length c0), (1, vf b1)] hf0 ot fun a21 hf22 => ?_
  refine thenN ?_
  refine wp_seq ?_
  refine wp_seq ?_
  obtain ⟨r23, hr23, H0⟩ := ob_split H0
  rcases ifb_split H0 with ⟨c24, H0⟩ | ⟨c24, H0⟩
  rotate_left
  · refine inReg ?_
    refine lo hf22 rfl (cl 18 hf22 callable9 (law19_awake.calls _ _ (hm0.give [] [] rfl rfl) r23 hr23) ?_)
    rintro _ w490 a491 ⟨rfl, hk493⟩ hf492
    have hm494 := hm0.still hk493.cum.none
    rw [c24] at hf492
    refine gg 1 [] [(0, .slice A0 x0.length c0), (1, vf b1), (19, .bool true)] hf492 ot fun a495 hf496 => ?_
    refine endL rfl ?_
    refine thenN ?_
    refine cT hf496 ?_
    refine wp_seq ?_
    refine rg [] [(4, .bool false)] hf496 ot fun a497 hf498 => ?_
    have hm499 := hm494.se [] _ rfl
    refine thenN ?_
    refine wp_ret ?_
    refine thenR ?_
    have hm500 : Mem [] M w0 [] w490 := hm499.se [] _ rfl
    obtain rfl := Option.some.inj H0
    refine rt [] [.bool false] hf498 ot ?_
    exact ⟨_, rfl, rfl, hm500⟩
  refine inReg ?_
  refine lo hf22 rfl (cl 18 hf22 callable9 (law19_awake.calls _ _ (hm0.give [] [] rfl rfl) r23 hr23) ?_)
  rintro _ w25 a26 ⟨rfl, hk28⟩ hf27
  have hm29 := hm0.still hk28.cum.none
  rw [c24] at hf27
  refine gg 1 [] [(0, .slice A0 x0.length c0), (1, vf b1), (19, .bool false)] hf27 ot fun a30 hf31 => ?_
  refine endL rfl ?_
  refine thenN ?_
  refine cF hf31 ?_
  refine wp_skip ?_
  refine thenN ?_
  refine wp_seq ?_
  refine wp_seq ?_
  obtain ⟨r32, hr32, H0⟩ := ob_split H0
  rcases ifb_split H0 with ⟨c33, H0⟩ | ⟨c33, H0⟩
  rotate_left
  · refine inReg ?_
    refine gg 1 [] [(0, .slice A0 x0.length c0), (1, vf b1), (20, .slice A0 x0.length c0)] hf31 ot fun a476 hf477 => ?_
    refine lo hf477 rfl (cl 21 hf477 callable15 (law12_Small.calls _ _ _ _ _ _ rfl (hm29.give [0] [.sl kTensor A0 c0 x0] rfl rfl) r32 hr32) ?_)
    rintro _ w478 a479 ⟨rfl, hk481⟩ hf480
    have hm482 := hm29.still hk481.cum.none
    rw [c33] at hf480
    refine gg 1 [] [(0, .slice A0 x0.length c0), (1, vf b1), (22, .bool true)] hf480 ot fun a483 hf484 => ?_
    refine endL rfl ?_
    refine thenN ?_
    refine cT hf484 ?_
    refine wp_seq ?_
    refine rg [] [(4, .bool true)] hf484 ot fun a485 hf486 => ?_
    have hm487 := hm482.se [] _ rfl
    refine thenN ?_
    refine wp_ret ?_
    refine thenR ?_
    have hm488 : Mem [] M w0 [] w478 := hm487.se [] _ rfl
    obtain rfl := Option.some.inj H0
    refine rt [] [.bool true] hf486 ot ?_
    exact ⟨_, rfl, rfl, hm488⟩
  refine inReg ?_
  refine gg 1 [] [(0, .slice A0 x0.length c0), (1, vf b1), (20, .slice A0 x0.length c0)] hf31 ot fun a34 hf35 => ?_
  refine lo hf35 rfl (cl 21 hf35 callable15 (law12_Small.calls _ _ _ _ _ _ rfl (hm29.give [0] [.sl kTensor A0 c0 x0] rfl rfl) r32 hr32) ?_)
  rintro _ w36 a37 ⟨rfl, hk39⟩ hf38
  have hm40 := hm29.still hk39.cum.none
  rw [c33] at hf38
  refine gg 1 [] [(0, .slice A0 x0.length c0), (1, vf b1), (22, .bool false)] hf38 ot fun a41 hf42 => ?_
  refine endL rfl ?_
  refine thenN ?_
  refine cF hf42 ?_
  refine wp_skip ?_
  refine thenN ?_
  refine wp_seq ?_
  obtain ⟨r43, hr43, H0⟩ := ob_split H0
  rcases ptr_split H0 with ⟨c44, H0⟩ | ⟨y45, c44, H0⟩
  · refine inReg ?_
    refine gg 1 [] [(0, .slice A0 x0.length c0), (1, vf b1), (24, .slice A0 x0.length c0)] hf42 ot fun a46 hf47 => ?_
    refine lo hf47 rfl (cl 25 hf47 callable10 (shelf_New.calls_n _ _ _ _ _ _ rfl (hm40.give [0] [.sl kTensor A0 c0 x0] rfl rfl) r43 c44 hr43) ?_)
    rintro _ w48 a49 ⟨rfl, hk51⟩ hf50
    have hm52 := hm40.still hk51.cum.none
    refine gg 5 [] [(0, .slice A0 x0.length c0), (1, vf b1), (5, .pointer none), (6, vi r43.2)] hf50 ot fun a53 hf54 => ?_
    refine endL rfl ?_
    refine thenN ?_
    refine wp_seq ?_
    obtain ⟨r55, hr55, H0⟩ := ob_split H0
    rcases ptr_split H0 with ⟨c56, H0⟩ | ⟨y57, c56, H0⟩
    · refine inReg ?_
      refine gg 1 [] [(0, .slice A0 x0.length c0), (1, vf b1), (5, .pointer none), (6, vi r43.2), (29, .slice A0 x0.length c0)] hf54 ot fun a58 hf59 => ?_
      refine lo hf59 rfl (cl 30 hf59 callable16 (ref19_New.calls_n _ _ _ _ _ _ rfl (hm52.give [0] [.sl kTensor A0 c0 x0] rfl rfl) r55 c56 hr55) ?_)
      rintro _ w60 a61 ⟨rfl, hk63⟩ hf62
      have hm65 := hm52.still hk63.cum.none
      refine gg 5 [] [(0, .slice A0 x0.length c0), (1, vf b1), (5, .pointer none), (6, vi r43.2), (7, .pointer none), (8, vi r55.2)] hf62 ot fun a66 hf67 => ?_
      refine endL rfl ?_
      refine thenN ?_
      refine wp_seq ?_
      refine wp_seq ?_
      rcases if_split H0 with ⟨c68, H0⟩ | ⟨c68, H0⟩
      · refine rg [.bool false] [(0, .slice A0 x0.length c0), (1, vf b1), (5, .pointer none), (6, vi r43.2), (7, .pointer none), (8, vi r55.2), (38, .bool true)] hf67 (oi (neF c68) ot) fun a69 hf70 => ?_
        refine thenN ?_
        refine cT hf70 ?_
        refine wp_seq ?_
        rcases if_split H0 with ⟨c71, H0⟩ | ⟨c71, H0⟩
        · refine rg [.bool true] [(4, .bool true)] hf70 (oi (eqT c71) ot) fun a72 hf73 => ?_
          have hm74 := hm65.se [] _ rfl
          refine thenN ?_
          refine wp_ret ?_
          refine thenR ?_
          have hm75 : Mem [] M w0 [] w60 := hm74.se [] _ rfl
          obtain rfl := Option.some.inj H0
          refine rt [] [.bool true] hf73 ot ?_
          exact ⟨_, rfl, rfl, hm75⟩
        refine rg [.bool false] [(4, .bool false)] hf70 (oi (eqF c71) ot) fun a77 hf78 => ?_
        have hm79 := hm65.se [] _ rfl
        refine thenN ?_
        refine wp_ret ?_
        refine thenR ?_
        have hm80 : Mem [] M w0 [] w60 := hm79.se [] _ rfl
        obtain rfl := Option.some.inj H0
        refine rt [] [.bool false] hf78 ot ?_
        exact ⟨_, rfl, rfl, hm80⟩
      refine rg [.bool true] [(0, .slice A0 x0.length c0), (1, vf b1), (5, .pointer none), (6, vi r43.2), (7, .pointer none), (8, vi r55.2), (38, .bool true)] hf67 (oi (neT c68) ot) fun a82 hf83 => ?_
      refine thenN ?_
      refine cT hf83 ?_
      refine wp_seq ?_
      rcases if_split H0 with ⟨c84, H0⟩ | ⟨c84, H0⟩
      · refine rg [.bool true] [(4, .bool true)] hf83 (oi (eqT c84) ot) fun a85 hf86 => ?_
        have hm87 := hm65.se [] _ rfl
        refine thenN ?_
        refine wp_ret ?_
        refine thenR ?_
        have hm88 : Mem [] M w0 [] w60 := hm87.se [] _ rfl
        obtain rfl := Option.some.inj H0
        refine rt [] [.bool true] hf86 ot ?_
        exact ⟨_, rfl, rfl, hm88⟩
      refine rg [.bool false] [(4, .bool false)] hf83 (oi (eqF c84) ot) fun a90 hf91 => ?_
      have hm92 := hm65.se [] _ rfl
      refine thenN ?_
      refine wp_ret ?_
      refine thenR ?_
      have hm93 : Mem [] M w0 [] w60 := hm92.se [] _ rfl
      obtain rfl := Option.some.inj H0
      refine rt [] [.bool false] hf91 ot ?_
      exact ⟨_, rfl, rfl, hm93⟩
    · refine inReg ?_
      refine gg 1 [] [(0, .slice A0 x0.length c0), (1, vf b1), (5, .pointer none), (6, vi r43.2), (29, .slice A0 x0.length c0)] hf54 ot fun a95 hf96 => ?_
      refine lo hf96 rfl (cl 30 hf96 callable16 (ref19_New.calls_s _ _ _ _ _ _ rfl (hm52.give [0] [.sl kTensor A0 c0 x0] rfl rfl) r55 y57 c56 hr55) ?_)
      rintro _ w104 a105 ⟨b97, A98, c99, A100, c101, A102, c103, rfl, hk107⟩ hf106
      have hm108 := hm52.back hk107
      refine gg 5 [] [(0, .slice A0 x0.length c0), (1, vf b1), (5, .pointer none), (6, vi r43.2), (7, vp b97), (8, vi r55.2)] hf106 ot fun a109 hf110 => ?_
      refine endL rfl ?_
      refine thenN ?_
      refine wp_seq ?_
      refine wp_seq ?_
      rcases if_split H0 with ⟨c111, H0⟩ | ⟨c111, H0⟩
      · refine rg [.bool false] [(0, .slice A0 x0.length c0), (1, vf b1), (5, .pointer none), (6, vi r43.2), (7, vp b97), (8, vi r55.2), (38, .bool true)] hf110 (oi (neF c111) ot) fun a112 hf113 => ?_
        refine thenN ?_
        refine cT hf113 ?_
        refine wp_seq ?_
        rcases if_split H0 with ⟨c114, H0⟩ | ⟨c114, H0⟩
        · refine rg [.bool true] [(4, .bool true)] hf113 (oi (eqT c114) ot) fun a115 hf116 => ?_
          have hm117 := hm108.se [] _ rfl
          refine thenN ?_
          refine wp_ret ?_
          refine thenR ?_
          have hm118 : Mem [] M w0 [] w104 := hm117.se [] _ rfl
          obtain rfl := Option.some.inj H0
          refine rt [] [.bool true] hf116 ot ?_
          exact ⟨_, rfl, rfl, hm118⟩
        refine rg [.bool false] [(4, .bool false)] hf113 (oi (eqF c114) ot) fun a120 hf121 => ?_
        have hm122 := hm108.se [] _ rfl
        refine thenN ?_
        refine wp_ret ?_
        refine thenR ?_
        have hm123 : Mem [] M w0 [] w104 := hm122.se [] _ rfl
        obtain rfl := Option.some.inj H0
        refine rt [] [.bool false] hf121 ot ?_
        exact ⟨_, rfl, rfl, hm123⟩
      refine rg [.bool true] [(0, .slice A0 x0.length c0), (1, vf b1), (5, .pointer none), (6, vi r43.2), (7, vp b97), (8, vi r55.2), (38, .bool true)] hf110 (oi (neT c111) ot) fun a125 hf126 => ?_
      refine thenN ?_
      refine cT hf126 ?_
      refine wp_seq ?_
      rcases if_split H0 with ⟨c127, H0⟩ | ⟨c127, H0⟩
      · refine rg [.bool true] [(4, .bool true)] hf126 (oi (eqT c127) ot) fun a128 hf129 => ?_
        have hm130 := hm108.se [] _ rfl
        refine thenN ?_
        refine wp_ret ?_
        refine thenR ?_
        have hm131 : Mem [] M w0 [] w104 := hm130.se [] _ rfl
        obtain rfl := Option.some.inj H0
        refine rt [] [.bool true] hf129 ot ?_
        exact ⟨_, rfl, rfl, hm131⟩
      refine rg [.bool false] [(4, .bool false)] hf126 (oi (eqF c127) ot) fun a133 hf134 => ?_
      have hm135 := hm108.se [] _ rfl
      refine thenN ?_
      refine wp_ret ?_
      refine thenR ?_
      have hm136 : Mem [] M w0 [] w104 := hm135.se [] _ rfl
      obtain rfl := Option.some.inj H0
      refine rt [] [.bool false] hf134 ot ?_
      exact ⟨_, rfl, rfl, hm136⟩
  · refine inReg ?_
    refine gg 1 [] [(0, .slice A0 x0.length c0), (1, vf b1), (24, .slice A0 x0.length c0)] hf42 ot fun a138 hf139 => ?_
    refine lo hf139 rfl (cl 25 hf139 callable10 (shelf_New.calls_s _ _ _ _ _ _ rfl (hm40.give [0] [.sl kTensor A0 c0 x0] rfl rfl) r43 y45 c44 hr43) ?_)
    rintro _ w147 a148 ⟨b140, A141, c142, A143, c144, A145, c146, rfl, hk150⟩ hf149
    have hm151 := hm40.back hk150
    refine gg 5 [] [(0, .slice A0 x0.length c0), (1, vf b1), (5, vp b140), (6, vi r43.2)] hf149 ot fun a152 hf153 => ?_
    refine endL rfl ?_
    refine thenN ?_
    refine wp_seq ?_
    obtain ⟨r154, hr154, H0⟩ := ob_split H0
    rcases ptr_split H0 with ⟨c155, H0⟩ | ⟨y156, c155, H0⟩
    · exact absurd H0 (by simp [Step.go])
    · refine inReg ?_
      refine gg 1 [] [(0, .slice A0 x0.length c0), (1, vf b1), (5, vp b140), (6, vi r43.2), (29, .slice A0 x0.length c0)] hf153 ot fun a157 hf158 => ?_
      refine lo hf158 rfl (cl 30 hf158 callable16 (ref19_New.calls_s _ _ _ _ _ _ rfl (hm151.give [4] [.sl kTensor A0 c0 x0] rfl rfl) r154 y156 c155 hr154) ?_)
      rintro _ w166 a167 ⟨b159, A160, c161, A162, c163, A164, c165, rfl, hk169⟩ hf168
      have hm170 := hm151.back hk169
      refine gg 5 [] [(0, .slice A0 x0.length c0), (1, vf b1), (5, vp b140), (6, vi r43.2), (7, vp b159), (8, vi r154.2)] hf168 ot fun a171 hf172 => ?_
      refine endL rfl ?_
      refine thenN ?_
      refine wp_seq ?_
      refine wp_seq ?_
      rcases if_split H0 with ⟨c173, H0⟩ | ⟨c173, H0⟩
      rotate_left
      · refine rg [.bool true] [(0, .slice A0 x0.length c0), (1, vf b1), (5, vp b140), (6, vi r43.2), (7, vp b159), (8, vi r154.2), (38, .bool true)] hf172 (oi (neT c173) ot) fun a463 hf464 => ?_
        refine thenN ?_
        refine cT hf464 ?_
        refine wp_seq ?_
        rcases if_split H0 with ⟨c465, H0⟩ | ⟨c465, H0⟩
        · refine rg [.bool true] [(4, .bool true)] hf464 (oi (eqT c465) ot) fun a466 hf467 => ?_
          have hm468 := hm170.se [] _ rfl
          refine thenN ?_
          refine wp_ret ?_
          refine thenR ?_
          have hm469 : Mem [] M w0 [] w166 := hm468.se [] _ rfl
          obtain rfl := Option.some.inj H0
          refine rt [] [.bool true] hf467 ot ?_
          exact ⟨_, rfl, rfl, hm469⟩
        refine rg [.bool false] [(4, .bool false)] hf464 (oi (eqF c465) ot) fun a471 hf472 => ?_
        have hm473 := hm170.se [] _ rfl
        refine thenN ?_
        refine wp_ret ?_
        refine thenR ?_
        have hm474 : Mem [] M w0 [] w166 := hm473.se [] _ rfl
        obtain rfl := Option.some.inj H0
        refine rt [] [.bool false] hf472 ot ?_
        exact ⟨_, rfl, rfl, hm474⟩
      refine rg [.bool false] [(0, .slice A0 x0.length c0), (1, vf b1), (5, vp b140), (6, vi r43.2), (7, vp b159), (8, vi r154.2), (38, .bool false)] hf172 (oi (neF c173) ot) fun a174 hf175 => ?_
      refine thenN ?_
      refine cF hf175 ?_
      refine wp_skip ?_
      refine thenN ?_
      refine wp_seq ?_
      refine wp_seq ?_
      refine rg [] [(0, .slice A0 x0.length c0), (1, vf b1), (5, vp b140), (7, vp b159), (9, vi 0)] hf175 ot fun a176 hf177 => ?_
      refine thenN ?_
      obtain ⟨r179, hr179, H0⟩ := ob_split H0
      refine wpBlock (Mid := fun (a : Act) (w : World) => Fr 97 a [(0, .slice A0 x0.length c0), (1, .float .f64 b1), (5, .pointer (some ⟨b140, 0, none⟩)), (7, .pointer (some ⟨b159, 0, none⟩)), (9, .int .i64 r179)] ∧ Mem [] M w0 [.bx b159 [.slice A160 y156.T.length c161, .slice A162 y156.G.length c163, .slice A164 y156.V.length c165] 65, .ow kTensor 29 A160 c161 y156.T, .ow kTensor 29 A162 c163 y156.G, .ow (Kd.int .i64) 3 A164 c165 y156.V, .bx b140 [.slice A141 y45.l.length c142, .slice A143 y45.vers.length c144, .slice A145 y45.grads.length c146] 72, .ow kTensor 29 A141 c142 y45.l, .ow (Kd.int .i64) 3 A143 c144 y45.vers, .ow kTensor 29 A145 c146 y45.grads, .sl kTensor A0 c0 x0] w) ?_ ?_
      · refine wpLoop (law19_ShelfHands.l0 x0 y45 x1) r179 (fun (s178 : Int) (a : Act) (w : World) => Fr 97 a [(0, .slice A0 x0.length c0), (1, .float .f64 b1), (5, .pointer (some ⟨b140, 0, none⟩)), (7, .pointer (some ⟨b159, 0, none⟩)), (9, .int .i64 s178)] ∧ Mem [] M w0 [.bx b159 [.slice A160 y156.T.length c161, .slice A162 y156.G.length c163, .slice A164 y156.V.length c165] 65, .ow kTensor 29 A160 c161 y156.T, .ow kTensor 29 A162 c163 y156.G, .ow (Kd.int .i64) 3 A164 c165 y156.V, .bx b140 [.slice A141 y45.l.length c142, .slice A143 y45.vers.length c144, .slice A145 y45.grads.length c146] 72, .ow kTensor 29 A141 c142 y45.l, .ow (Kd.int .i64) 3 A143 c144 y45.vers, .ow kTensor 29 A145 c146 y45.grads, .sl kTensor A0 c0 x0] w) 0 hr179 ⟨hf177.se [0, 1, 5, 7, 9], hm170.se [0, 1, 2, 3, 4, 5, 6, 7, 8] _ rfl⟩ ?_
        rintro g180 s178 a181 w182 H1 ⟨hf183, hm184⟩
        unfold law19_ShelfHands.l0 at H1
        refine wp_seq ?_
        refine wp_seq ?_
        rcases ifS_split H1 with ⟨c185, H1⟩ | ⟨c185, H1⟩
        rotate_left
        · refine rg (ob := [.is (decide (s178 < (x0.length : Int)) = false)]) [.bool false] [(0, .slice A0 x0.length c0), (1, vf b1), (5, vp b140), (7, vp b159), (9, vi s178), (45, .bool false)] hf183 ⟨(decide_eq_false c185), trivial⟩ fun a444 hf445 => ?_
          refine thenN ?_
          refine cF hf445 ?_
          refine wp_exit ?_
          refine thenE ?_
          refine thenE ?_
          obtain rfl := Option.some.inj H1
          exact .inl ⟨rfl, hf445.se [0, 1, 5, 7, 9], hm184.se [0, 1, 2, 3, 4, 5, 6, 7, 8] _ rfl⟩
        refine rg (ob := [.is (decide (s178 < (x0.length : Int)) = true)]) [.bool true] [(0, .slice A0 x0.length c0), (1, vf b1), (5, vp b140), (7, vp b159), (9, vi s178), (45, .bool true)] hf183 ⟨(decide_eq_true c185), trivial⟩ fun a186 hf187 => ?_
        refine thenN ?_
        refine cT hf187 ?_
        refine wp_skip ?_
        refine thenN ?_
        refine wp_seq ?_
        refine wp_block ?_
        refine wp_seq ?_
        obtain ⟨r188, hr188, H1⟩ := obS_split H1
        refine inReg ?_
        refine gg 2 [] [(0, .slice A0 x0.length c0), (1, vf b1), (5, vp b140), (7, vp b159), (9, vi s178), (49, vp b140), (50, vi s178)] hf187 ot fun a189 hf190 => ?_
        refine lo hf190 rfl (cl 51 hf190 callable14 (shelf_Shelf_Get.calls _ _ _ y45 _ _ _ _ rfl _ _ _ rfl _ _ _ rfl s178 (hm184.giveO [4, 5, 6, 7] [0, 1, 2, 3, 8] [] [.bx b140 [.slice A141 y45.l.length c142, .slice A143 y45.vers.length c144, .slice A145 y45.grads.length c146] 72, .ow kTensor 29 A141 c142 y45.l, .ow (Kd.int .i64) 3 A143 c144 y45.vers, .ow kTensor 29 A145 c146 y45.grads] _ [] rfl rfl rfl (by kernel_rfl) rfl) r188 hr188) ?_)
        rintro _ w195 a196 ⟨A191, c192, A193, c194, rfl, hk198⟩ hf197
        have hm199 := hm184.backO [4, 5, 6, 7] [0, 1, 2, 3, 8] _ _ rfl rfl (by kernel_rfl) hk198
        have hm200 := hm199.seal 4 _ rfl rfl
        refine gg 4 [] [(0, .slice A0 x0.length c0), (1, vf b1), (5, vp b140), (7, vp b159), (9, vi s178), (52, .agg #[.slice A191 r188.1.Shape.length c192, .slice A193 r188.1.Data.length c194]), (53, vi r188.2.1), (54, vi r188.2.2)] hf197 ot fun a201 hf202 => ?_
        refine lo hf202 rfl (nw (cs := [.slice none 0 0, .slice none 0 0]) (T := 29) (d := 10) hf202 ?_)
        intro b203 w204 a205 hbb203 hx207 hg208 hf206
        have hm209 := hm200.box hbb203 hx207 hg208
        refine lo hf206 rfl (sb (j := 0) (us := [.slice A191 r188.1.Shape.length c192, .slice A193 r188.1.Data.length c194]) (cs' := [.slice A191 r188.1.Shape.length c192, .slice A193 r188.1.Data.length c194]) hf206 (hm209.bxAt 0 rfl) ?_)
        intro w210 hx211 hg212
        have hm213 := hm209.setBox 0 _ rfl rfl hx211 hg212
        refine gg 2 [] [(0, .slice A0 x0.length c0), (1, vf b1), (5, vp b140), (7, vp b159), (9, vi s178), (10, vp b203)] hf206 ot fun a214 hf215 => ?_
        refine endL rfl ?_
        refine thenN ?_
        refine wp_seq ?_
        obtain ⟨r216, hr216, H1⟩ := obS_split H1
        refine inReg ?_
        refine gg 2 [] [(0, .slice A0 x0.length c0), (1, vf b1), (5, vp b140), (7, vp b159), (9, vi s178), (10, vp b203), (56, vp b140), (57, vi s178)] hf215 ot fun a217 hf218 => ?_
        refine lo hf218 rfl (cl 58 hf218 callable13 (shelf_Shelf_Grad.calls _ _ _ y45 _ _ _ _ rfl _ _ _ rfl _ _ _ rfl s178 (hm213.giveO [1, 2, 3, 4] [0, 5, 6, 7, 8, 9, 10, 11] [] [.bx b140 [.slice A141 y45.l.length c142, .slice A143 y45.vers.length c144, .slice A145 y45.grads.length c146] 72, .ow kTensor 29 A141 c142 y45.l, .ow (Kd.int .i64) 3 A143 c144 y45.vers, .ow kTensor 29 A145 c146 y45.grads] _ [] rfl rfl rfl (by kernel_rfl) rfl) r216 hr216) ?_)
        rintro _ w223 a224 ⟨A219, c220, A221, c222, rfl, hk226⟩ hf225
        have hm227 := hm213.backO [1, 2, 3, 4] [0, 5, 6, 7, 8, 9, 10, 11] _ _ rfl rfl (by kernel_rfl) hk226
        have hm228 := hm227.seal 4 _ rfl rfl
        refine gg 3 [] [(0, .slice A0 x0.length c0), (1, vf b1), (5, vp b140), (7, vp b159), (9, vi s178), (10, vp b203), (59, .agg #[.slice A219 r216.1.Shape.length c220, .slice A221 r216.1.Data.length c222]), (60, vi r216.2)] hf225 ot fun a229 hf230 => ?_
        refine lo hf230 rfl (nw (cs := [.slice none 0 0, .slice none 0 0]) (T := 29) (d := 13) hf230 ?_)
        intro b231 w232 a233 hbb231 hx235 hg236 hf234
        have hm237 := hm228.box hbb231 hx235 hg236
        refine lo hf234 rfl (sb (j := 0) (us := [.slice A219 r216.1.Shape.length c220, .slice A221 r216.1.Data.length c222]) (cs' := [.slice A219 r216.1.Shape.length c220, .slice A221 r216.1.Data.length c222]) hf234 (hm237.bxAt 0 rfl) ?_)
        intro w238 hx239 hg240
        have hm241 := hm237.setBox 0 _ rfl rfl hx239 hg240
        refine gg 1 [] [(0, .slice A0 x0.length c0), (1, vf b1), (5, vp b140), (7, vp b159), (9, vi s178), (10, vp b203), (13, vp b231)] hf234 ot fun a242 hf243 => ?_
        refine endL rfl ?_
        refine thenN ?_
        refine wp_seq ?_
        obtain ⟨r244, hr244, H1⟩ := obS_split H1
        refine inReg ?_
        refine gg 1 [] [(0, .slice A0 x0.length c0), (1, vf b1), (5, vp b140), (7, vp b159), (9, vi s178), (10, vp b203), (13, vp b231), (62, vp b140)] hf243 ot fun a245 hf246 => ?_
        refine lo hf246 rfl (cl 63 hf246 callable17 (shelf_Shelf_All.callsG _ _ _ y45 _ _ _ _ rfl _ _ _ rfl _ _ _ rfl (hm241.giveO [1, 2, 3, 4] [0, 5, 6, 7, 8, 9, 10, 11, 12, 13, 14] [] [.bx b140 [.slice A141 y45.l.length c142, .slice A143 y45.vers.length c144, .slice A145 y45.grads.length c146] 72, .ow kTensor 29 A141 c142 y45.l, .ow (Kd.int .i64) 3 A143 c144 y45.vers, .ow kTensor 29 A145 c146 y45.grads] _ [] rfl rfl rfl (by kernel_rfl) rfl) r244 hr244 (s178).toNat) ?_)
        rintro _ w253 a254 ⟨A247, c248, A251, c252, A249, c250, rfl, hk256⟩ hf255
        have hm257 := hm241.backO [1, 2, 3, 4] [0, 5, 6, 7, 8, 9, 10, 11, 12, 13, 14] _ _ rfl rfl (by kernel_rfl) hk256
        refine gg 5 [] [(0, .slice A0 x0.length c0), (1, vf b1), (5, vp b140), (7, vp b159), (9, vi s178), (10, vp b203), (13, vp b231), (15, .slice A247 r244.1.length c248), (16, .slice A251 r244.2.length c252)] hf255 ot fun a258 hf259 => ?_
        refine endL rfl ?_
        refine thenN ?_
        refine wp_seq ?_
        refine wp_seq ?_
        refine rg [] [(0, .slice A0 x0.length c0), (1, vf b1), (5, vp b140), (7, vp b159), (9, vi s178), (10, vp b203), (13, vp b231), (15, .slice A247 r244.1.length c248), (16, .slice A251 r244.2.length c252), (17, vi 0)] hf259 ot fun a260 hf261 => ?_
        refine thenN ?_
        obtain ⟨r263, hr263, H1⟩ := obS_split H1
        refine wpBlock (Mid := fun (a : Act) (w : World) => Fr 97 a [(0, .slice A0 x0.length c0), (1, .float .f64 b1), (5, .pointer (some ⟨b140, 0, none⟩)), (7, .pointer (some ⟨b159, 0, none⟩)), (9, .int .i64 s178), (10, .pointer (some ⟨b203, 0, none⟩)), (13, .pointer (some ⟨b231, 0, none⟩)), (15, .slice A247 r244.1.length c248), (16, .slice A251 r244.2.length c252), (17, .int .i64 r263.1)] ∧ Mem [] M w0 [.bx b140 [.slice A141 y45.l.length c142, .slice A143 y45.vers.length c144, .slice A145 y45.grads.length c146] 72, .ow kTensor 29 A141 c142 y45.l, .ow (Kd.int .i64) 3 A143 c144 y45.vers, .ow kTensor 29 A145 c146 y45.grads, .ow kTG 29 A247 c248 (gh r244.1 (s178).toNat A249 c250), .ow (Kd.int .i64) 3 A251 c252 r244.2, .ow Kd.float 26 A249 c250 r263.2.1, .bx b231 [.slice A219 r216.1.Shape.length c220, .slice A221 r263.2.2.1.length c222] 29, .sl (Kd.int .i64) A219 c220 r216.1.Shape, .ow Kd.float 26 A221 c222 r263.2.2.1, .bx b203 [.slice A191 r188.1.Shape.length c192, .slice A193 r263.2.2.2.length c194] 29, .sl (Kd.int .i64) A191 c192 r188.1.Shape, .ow Kd.float 26 A193 c194 r263.2.2.2, .bx b159 [.slice A160 y156.T.length c161, .slice A162 y156.G.length c163, .slice A164 y156.V.length c165] 65, .ow kTensor 29 A160 c161 y156.T, .ow kTensor 29 A162 c163 y156.G, .ow (Kd.int .i64) 3 A164 c165 y156.V, .sl kTensor A0 c0 x0] w) ?_ ?_
        · refine wpLoop (law19_ShelfHands.l1 s178 r244 x1) r263 (fun (s262 : (Int × (List Nat) × (List Nat) × (List Nat))) (a : Act) (w : World) => Fr 97 a [(0, .slice A0 x0.length c0), (1, .float .f64 b1), (5, .pointer (some ⟨b140, 0, none⟩)), (7, .pointer (some ⟨b159, 0, none⟩)), (9, .int .i64 s178), (10, .pointer (some ⟨b203, 0, none⟩)), (13, .pointer (some ⟨b231, 0, none⟩)), (15, .slice A247 r244.1.length c248), (16, .slice A251 r244.2.length c252), (17, .int .i64 s262.1)] ∧ Mem [] M w0 [.bx b140 [.slice A141 y45.l.length c142, .slice A143 y45.vers.length c144, .slice A145 y45.grads.length c146] 72, .ow kTensor 29 A141 c142 y45.l, .ow (Kd.int .i64) 3 A143 c144 y45.vers, .ow kTensor 29 A145 c146 y45.grads, .ow kTG 29 A247 c248 (gh r244.1 (s178).toNat A249 c250), .ow (Kd.int .i64) 3 A251 c252 r244.2, .ow Kd.float 26 A249 c250 s262.2.1, .bx b231 [.slice A219 r216.1.Shape.length c220, .slice A221 s262.2.2.1.length c222] 29, .sl (Kd.int .i64) A219 c220 r216.1.Shape, .ow Kd.float 26 A221 c222 s262.2.2.1, .bx b203 [.slice A191 r188.1.Shape.length c192, .slice A193 s262.2.2.2.length c194] 29, .sl (Kd.int .i64) A191 c192 r188.1.Shape, .ow Kd.float 26 A193 c194 s262.2.2.2, .bx b159 [.slice A160 y156.T.length c161, .slice A162 y156.G.length c163, .slice A164 y156.V.length c165] 65, .ow kTensor 29 A160 c161 y156.T, .ow kTensor 29 A162 c163 y156.G, .ow (Kd.int .i64) 3 A164 c165 y156.V, .sl kTensor A0 c0 x0] w) (0, (gd r244.1 (s178).toNat), r216.1.Data, r188.1.Data) hr263 ⟨hf261.se [0, 1, 5, 7, 9, 10, 13, 15, 16, 17], hm257.se [0, 1, 2, 3, 4, 5, 6, 7, 8, 9, 10, 11, 12, 13, 14, 15, 16, 17] _ rfl⟩ ?_
          rintro g264 s262 a265 w266 H2 ⟨hf267, hm268⟩
          unfold law19_ShelfHands.l1 at H2
          refine wp_seq ?_
          refine wp_seq ?_
          rcases ifS_split H2 with ⟨c269, H2⟩ | ⟨c269, H2⟩
          rotate_left
          · refine rg (ob := [.cell ⟨b203, 1, none⟩ (.slice A193 s262.2.2.2.length c194), .is (decide (s262.1 < (s262.2.2.2.length : Int)) = false)]) [.slice A193 s262.2.2.2.length c194, .bool false] [(0, .slice A0 x0.length c0), (1, vf b1), (5, vp b140), (7, vp b159), (9, vi s178), (10, vp b203), (13, vp b231), (15, .slice A247 r244.1.length c248), (16, .slice A251 r244.2.length c252), (17, vi s262.1), (70, .bool false)] hf267 ⟨(hm268.cell 10 rfl rfl), (decide_eq_false c269), trivial⟩ fun a427 hf428 => ?_
            refine thenN ?_
            refine cF hf428 ?_
            refine wp_exit ?_
            refine thenE ?_
            refine thenE ?_
            obtain rfl := Option.some.inj H2
            exact .inl ⟨rfl, hf428.se [0, 1, 5, 7, 9, 10, 13, 15, 16, 17], hm268.se [0, 1, 2, 3, 4, 5, 6, 7, 8, 9, 10, 11, 12, 13, 14, 15, 16, 17] _ rfl⟩
          refine rg (ob := [.cell ⟨b203, 1, none⟩ (.slice A193 s262.2.2.2.length c194), .is (decide (s262.1 < (s262.2.2.2.length : Int)) = true)]) [.slice A193 s262.2.2.2.length c194, .bool true] [(0, .slice A0 x0.length c0), (1, vf b1), (5, vp b140), (7, vp b159), (9, vi s178), (10, vp b203), (13, vp b231), (15, .slice A247 r244.1.length c248), (16, .slice A251 r244.2.length c252), (17, vi s262.1), (70, .bool true)] hf267 ⟨(hm268.cell 10 rfl rfl), (decide_eq_true c269), trivial⟩ fun a270 hf271 => ?_
          refine thenN ?_
          refine cT hf271 ?_
          refine wp_skip ?_
          refine thenN ?_
          refine wp_seq ?_
          refine wp_block ?_
          obtain ⟨g272, H2⟩ := ifS_guard H2
          obtain ⟨g273, H2⟩ := ifS_guard H2
          obtain ⟨g274, H2⟩ := ifS_guard H2
          obtain ⟨g275, H2⟩ := ifS_guard H2
          obtain ⟨g276, H2⟩ := ifS_guard H2
          refine midReg (fun (a : Act) (w : World) => Fr 97 a [(0, .slice A0 x0.length c0), (1, .float .f64 b1), (5, .pointer (some ⟨b140, 0, none⟩)), (7, .pointer (some ⟨b159, 0, none⟩)), (9, .int .i64 s178), (10, .pointer (some ⟨b203, 0, none⟩)), (13, .pointer (some ⟨b231, 0, none⟩)), (15, .slice A247 r244.1.length c248), (16, .slice A251 r244.2.length c252), (17, .int .i64 s262.1)] ∧ Mem [] M w0 [.bx b140 [.slice A141 y45.l.length c142, .slice A143 y45.vers.length c144, .slice A145 y45.grads.length c146] 72, .ow kTensor 29 A141 c142 y45.l, .ow (Kd.int .i64) 3 A143 c144 y45.vers, .ow kTensor 29 A145 c146 y45.grads, .ow kTG 29 A247 c248 (gh r244.1 (s178).toNat A249 c250), .ow (Kd.int .i64) 3 A251 c252 r244.2, .ow Kd.float 26 A249 c250 (put s262.2.1 s262.1 x1), .bx b231 [.slice A219 r216.1.Shape.length c220, .slice A221 s262.2.2.1.length c222] 29, .sl (Kd.int .i64) A219 c220 r216.1.Shape, .ow Kd.float 26 A221 c222 (put s262.2.2.1 s262.1 x1), .bx b203 [.slice A191 r188.1.Shape.length c192, .slice A193 s262.2.2.2.length c194] 29, .sl (Kd.int .i64) A191 c192 r188.1.Shape, .ow Kd.float 26 A193 c194 (put s262.2.2.2 s262.1 x1), .bx b159 [.slice A160 y156.T.length c161, .slice A162 y156.G.length c163, .slice A164 y156.V.length c165] 65, .ow kTensor 29 A160 c161 y156.T, .ow kTensor 29 A162 c163 y156.G, .ow (Kd.int .i64) 3 A164 c165 y156.V, .sl kTensor A0 c0 x0] w) ?_ ?_
          · refine anyG (K := []) [16, 18, 20] (by kernel_rfl) fun w304 hg305 => ?_
            have hm306 := hm268.still hg305
            have q363 := (hm306.owAt 4 rfl).cells s178 g272.1 (by rw [gh_length]; exact g272.2)
            obtain ⟨us364, hr365, hc366⟩ := q363.2
            have hl367 : (s178).toNat < r244.1.length := by have h1 := g272.2; have h2 := g272.1; omega
            rw [gh_rd hl367] at hr365
            obtain ⟨A368, c369, rfl, pA368, sA368⟩ := kTG.open hr365
            have hm370 := hm306.elem pA368 sA368
            have q371 := (hm370.owAt 13 rfl).float s262.1 g273.1 g273.2
            obtain ⟨b372, hb372, kb372⟩ := q371.2
            refine qt [0, 1, 2, 3, 5, 6, 7, 8, 9, 10, 11, 12, 13, 14, 15] [.slice A193 s262.2.2.2.length c194, .slice A249 (rd r244.1 s178).Data.length c250] (fb 21 65519) [(0, .slice A0 x0.length c0), (1, vf b1), (5, vp b140), (7, vp b159), (9, vi s178), (10, vp b203), (13, vp b231), (15, .slice A247 r244.1.length c248), (16, .slice A251 r244.2.length c252), (17, vi s262.1), (76, .pointer (some ⟨b231, 1, none⟩)), (78, vi s262.1), (83, .slice A249 (rd r244.1 s178).Data.length c250), (84, vi s262.1), (85, vf b1), (86, vf b1), (87, vf b1), (88, .pointer (some ((ad A193).add ((s262.1).toNat * 1))))] 6 hf271 (oc (hm306.cell (j := 1) 10 rfl rfl) (oi q363.1 (oi g272 (oc (hc366 1 _ rfl) (oi q371.1 (oi g273 ot)))))) fun a373 hf374 => ?_
            refine all2 4 16 (by kernel_rfl) ?_ ?_
            · refine oo hf374 rfl (on [.slice A221 s262.2.2.1.length c222] (.slice A221 s262.2.2.1.length c222) 77 hf374 (oc (hm370.cell (j := 1) 8 rfl rfl) ot) fun a375 hf376 => ?_)
              refine ⟨.inr (Gr.refl _ _), ?_⟩
              refine a1 16 ?_
              refine oo hf376 rfl (so (i := s262.1) (x := x1) (us := [.float .f64 b1]) (sz := 1) hf376 (hm370.at 13 rfl) ⟨_, rfl, h1⟩ g273.1 g273.2 ?_)
              intro w377 hx378 hg379
              refine ⟨.inl (by decide), ?_⟩
              have hm380 := hm370.setOwn 13 _ rfl rfl hx378 hg379 (.inl rfl)
              have q381 := (hm380.owAt 10 rfl).float s262.1 g274.1 g274.2
              obtain ⟨b382, hb382, kb382⟩ := q381.2
              refine qt [17] [] (fb 21 262143) [(0, .slice A0 x0.length c0), (1, vf b1), (5, vp b140), (7, vp b159), (9, vi s178), (10, vp b203), (13, vp b231), (15, .slice A247 r244.1.length c248), (16, .slice A251 r244.2.length c252), (17, vi s262.1), (83, .slice A249 (rd r244.1 s178).Data.length c250), (84, vi s262.1), (86, vf b1), (87, vf b1), (89, .pointer (some ((ad A221).add ((s262.1).toNat * 1))))] 3 hf376 (oi q381.1 (oi g274 ot)) fun a383 hf384 => ?_
              refine a1 18 ?_
              refine oo hf384 rfl (so (i := s262.1) (x := x1) (us := [.float .f64 b1]) (sz := 1) hf384 (hm380.at 10 rfl) ⟨_, rfl, h1⟩ g274.1 g274.2 ?_)
              intro w385 hx386 hg387
              refine ⟨.inl (by decide), ?_⟩
              have hm388 := hm380.setOwn 10 _ rfl rfl hx386 hg387 (.inl rfl)
              have q389 := (hm388.owAt 7 rfl).float s262.1 g276.1 g276.2
              obtain ⟨b390, hb390, kb390⟩ := q389.2
              refine qt [19] [] (fb 21 1048575) [(0, .slice A0 x0.length c0), (1, vf b1), (5, vp b140), (7, vp b159), (9, vi s178), (10, vp b203), (13, vp b231), (15, .slice A247 r244.1.length c248), (16, .slice A251 r244.2.length c252), (17, vi s262.1), (87, vf b1), (90, .pointer (some ((ad A249).add ((s262.1).toNat * 1))))] 1 hf384 (oi q389.1 (oi g275 ot)) fun a391 hf392 => ?_
              refine a1 20 ?_
              refine oo hf392 rfl (so (i := s262.1) (x := x1) (us := [.float .f64 b1]) (sz := 1) hf392 (hm388.at 7 rfl) ⟨_, rfl, h1⟩ g276.1 g276.2 ?_)
              intro w393 hx394 hg395
              refine ⟨.inl (by decide), ?_⟩
              have hm396 := hm388.setOwn 7 _ rfl rfl hx394 hg395 (.inl rfl)
              refine aD ⟨rfl, hf392.se [0, 1, 5, 7, 9, 10, 13, 15, 16, 17], hm396.se [1, 2, 3, 4, 5, 6, 7, 8, 9, 10, 11, 12, 13, 14, 15, 16, 17, 18] _ rfl⟩
            · refine oo hf374 rfl (so (i := s262.1) (x := x1) (us := [.float .f64 b1]) (sz := 1) hf374 (hm370.at 13 rfl) ⟨_, rfl, h1⟩ g273.1 g273.2 ?_)
              intro w397 hx398 hg399
              refine ⟨.inl (by decide), ?_⟩
              have hm400 := hm370.setOwn 13 _ rfl rfl hx398 hg399 (.inl rfl)
              refine a1 4 ?_
              refine oo hf374 rfl (on [.slice A221 s262.2.2.1.length c222] (.slice A221 s262.2.2.1.length c222) 77 hf374 (oc (hm400.cell (j := 1) 8 rfl rfl) ot) fun a401 hf402 => ?_)
              refine ⟨.inr (Gr.refl _ _), ?_⟩
              have q403 := (hm400.owAt 10 rfl).float s262.1 g274.1 g274.2
              obtain ⟨b404, hb404, kb404⟩ := q403.2
              refine qt [17] [] (fb 21 262143) [(0, .slice A0 x0.length c0), (1, vf b1), (5, vp b140), (7, vp b159), (9, vi s178), (10, vp b203), (13, vp b231), (15, .slice A247 r244.1.length c248), (16, .slice A251 r244.2.length c252), (17, vi s262.1), (83, .slice A249 (rd r244.1 s178).Data.length c250), (84, vi s262.1), (86, vf b1), (87, vf b1), (89, .pointer (some ((ad A221).add ((s262.1).toNat * 1))))] 3 hf402 (oi q403.1 (oi g274 ot)) fun a405 hf406 => ?_
              refine a1 18 ?_
              refine oo hf406 rfl (so (i := s262.1) (x := x1) (us := [.float .f64 b1]) (sz := 1) hf406 (hm400.at 10 rfl) ⟨_, rfl, h1⟩ g274.1 g274.2 ?_)
              intro w407 hx408 hg409
              refine ⟨.inl (by decide), ?_⟩
              have hm410 := hm400.setOwn 10 _ rfl rfl hx408 hg409 (.inl rfl)
              have q411 := (hm410.owAt 7 rfl).float s262.1 g276.1 g276.2
              obtain ⟨b412, hb412, kb412⟩ := q411.2
              refine qt [19] [] (fb 21 1048575) [(0, .slice A0 x0.length c0), (1, vf b1), (5, vp b140), (7, vp b159), (9, vi s178), (10, vp b203), (13, vp b231), (15, .slice A247 r244.1.length c248), (16, .slice A251 r244.2.length c252), (17, vi s262.1), (87, vf b1), (90, .pointer (some ((ad A249).add ((s262.1).toNat * 1))))] 1 hf406 (oi q411.1 (oi g275 ot)) fun a413 hf414 => ?_
              refine a1 20 ?_
              refine oo hf414 rfl (so (i := s262.1) (x := x1) (us := [.float .f64 b1]) (sz := 1) hf414 (hm410.at 7 rfl) ⟨_, rfl, h1⟩ g276.1 g276.2 ?_)
              intro w415 hx416 hg417
              refine ⟨.inl (by decide), ?_⟩
              have hm418 := hm410.setOwn 7 _ rfl rfl hx416 hg417 (.inl rfl)
              refine aD ⟨rfl, hf414.se [0, 1, 5, 7, 9, 10, 13, 15, 16, 17], hm418.se [1, 2, 3, 4, 5, 6, 7, 8, 9, 10, 11, 12, 13, 14, 15, 16, 17, 18] _ rfl⟩
          rintro a419 w420 ⟨hf421, hm422⟩
          refine blkN ?_
          refine thenN ?_
          refine rg [] [(0, .slice A0 x0.length c0), (1, vf b1), (5, vp b140), (7, vp b159), (9, vi s178), (10, vp b203), (13, vp b231), (15, .slice A247 r244.1.length c248), (16, .slice A251 r244.2.length c252), (17, vi (w64 (s262.1 + 1)))] hf421 ot fun a423 hf424 => ?_
          have hf425 : Fr 97 a423 [(0, .slice A0 x0.length c0), (1, .float .f64 b1), (5, .pointer (some ⟨b140, 0, none⟩)), (7, .pointer (some ⟨b159, 0, none⟩)), (9, .int .i64 s178), (10, .pointer (some ⟨b203, 0, none⟩)), (13, .pointer (some ⟨b231, 0, none⟩)), (15, .slice A247 r244.1.length c248), (16, .slice A251 r244.2.length c252), (17, .int .i64 (w64 (s262.1 + 1)))] := hf424.se [0, 1, 5, 7, 9, 10, 13, 15, 16, 17]
          have hm426 : Mem [] M w0 [.bx b140 [.slice A141 y45.l.length c142, .slice A143 y45.vers.length c144, .slice A145 y45.grads.length c146] 72, .ow kTensor 29 A141 c142 y45.l, .ow (Kd.int .i64) 3 A143 c144 y45.vers, .ow kTensor 29 A145 c146 y45.grads, .ow kTG 29 A247 c248 (gh r244.1 (s178).toNat A249 c250), .ow (Kd.int .i64) 3 A251 c252 r244.2, .ow Kd.float 26 A249 c250 (put s262.2.1 s262.1 x1), .bx b231 [.slice A219 r216.1.Shape.length c220, .slice A221 s262.2.2.1.length c222] 29, .sl (Kd.int .i64) A219 c220 r216.1.Shape, .ow Kd.float 26 A221 c222 (put s262.2.2.1 s262.1 x1), .bx b203 [.slice A191 r188.1.Shape.length c192, .slice A193 s262.2.2.2.length c194] 29, .sl (Kd.int .i64) A191 c192 r188.1.Shape, .ow Kd.float 26 A193 c194 (put s262.2.2.2 s262.1 x1), .bx b159 [.slice A160 y156.T.length c161, .slice A162 y156.G.length c163, .slice A164 y156.V.length c165] 65, .ow kTensor 29 A160 c161 y156.T, .ow kTensor 29 A162 c163 y156.G, .ow (Kd.int .i64) 3 A164 c165 y156.V, .sl kTensor A0 c0 x0] w420 := hm422.se [0, 1, 2, 3, 4, 5, 6, 7, 8, 9, 10, 11, 12, 13, 14, 15, 16, 17] _ rfl
          exact ⟨((w64 (s262.1 + 1)), (put s262.2.1 s262.1 x1), (put s262.2.2.1 s262.1 x1), (put s262.2.2.2 s262.1 x1)), H2, (by simpa only [put_length, List.length_nil] using hf425), (by simpa only [put_length, List.length_nil] using hm426)⟩
        rintro a429 w430 ⟨hf431, hm432⟩
        refine thenN ?_
        obtain ⟨g433, H1⟩ := ifS_guard H1
        have q434 := (hm432.owAt 5 rfl).int s178 g433.1 g433.2
        refine inReg ?_
        refine gg 3 [] [(0, .slice A0 x0.length c0), (1, vf b1), (5, vp b140), (7, vp b159), (9, vi s178), (93, .pointer (some ((ad A251).add ((s178).toNat * 1))))] hf431 (oi q434.1 (oi g433 ot)) fun a435 hf436 => ?_
        refine lo hf436 rfl (so (i := s178) (x := 99) (us := [.int .i64 99]) (sz := 1) hf436 (hm432.at 5 rfl) rfl g433.1 g433.2 ?_)
        intro w437 hx438 hg439
        have hm440 := hm432.setOwn 5 _ rfl rfl hx438 hg439 (.inl rfl)
        refine endL rfl ?_
        have hm441 := hm440.se [0, 1, 2, 3, 13, 14, 15, 16, 17] _ rfl
        refine blkN ?_
        refine thenN ?_
        refine rg [] [(0, .slice A0 x0.length c0), (1, vf b1), (5, vp b140), (7, vp b159), (9, vi (w64 (s178 + 1)))] hf436 ot fun a442 hf443 => ?_
        exact ⟨(w64 (s178 + 1)), H1, hf443.se [0, 1, 5, 7, 9], hm441.se [4, 5, 6, 7, 0, 1, 2, 3, 8] _ rfl⟩
      rintro a446 w447 ⟨hf448, hm449⟩
      refine thenN ?_
      refine wp_seq ?_
      obtain ⟨r450, hr450, H0⟩ := ob_split H0
      refine inReg ?_
      refine gg 2 [] [(94, vp b140), (95, vp b159)] hf448 ot fun a451 hf452 => ?_
      refine lo hf452 rfl (cl 96 hf452 callable18 (law19_Same.calls _ _ _ y45 _ _ _ _ rfl _ _ _ rfl _ _ _ rfl y156 _ _ _ _ rfl _ _ _ rfl _ _ _ rfl (hm449.giveO [4, 5, 6, 7, 0, 1, 2, 3] [8] [] [.bx b140 [.slice A141 y45.l.length c142, .slice A143 y45.vers.length c144, .slice A145 y45.grads.length c146] 72, .ow kTensor 29 A141 c142 y45.l, .ow (Kd.int .i64) 3 A143 c144 y45.vers, .ow kTensor 29 A145 c146 y45.grads, .bx b159 [.slice A160 y156.T.length c161, .slice A162 y156.G.length c163, .slice A164 y156.V.length c165] 65, .ow kTensor 29 A160 c161 y156.T, .ow kTensor 29 A162 c163 y156.G, .ow (Kd.int .i64) 3 A164 c165 y156.V] _ [] rfl rfl rfl (by kernel_rfl) rfl) r450 hr450) ?_)
      rintro _ w453 a454 ⟨rfl, hk456⟩ hf455
      have hm457 := hm449.backO [4, 5, 6, 7, 0, 1, 2, 3] [8] _ _ rfl rfl (by kernel_rfl) hk456
      refine gg 1 [] [(4, .bool r450)] hf455 ot fun a458 hf459 => ?_
      refine endL rfl ?_
      have hm460 := hm457.se [] _ rfl
      refine thenN ?_
      refine wp_ret ?_
      have hm461 : Mem [] M w0 [] w453 := hm460.se [] _ rfl
      obtain rfl := Option.some.inj H0
      refine rt [] [.bool r450] hf459 ot ?_
      exact ⟨_, rfl, rfl, hm461⟩
end Go.Proofs.Yteaoijahdinciaa
