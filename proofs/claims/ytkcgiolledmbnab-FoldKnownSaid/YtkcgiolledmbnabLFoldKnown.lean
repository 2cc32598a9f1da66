/- Printed by gen.py. -/
import Derived.Test.YtkcgiolledmbnabF1
import Derived.Test.YtkcgiolledmbnabF2
import Derived.Test.YtkcgiolledmbnabF5
import Derived.Test.YtkcgiolledmbnabF8
namespace Go.Proofs.Ytkcgiolledmbnab
open Go Go.RowKit
set_option linter.unusedSimpArgs false
set_option linter.unusedVariables false
set_option linter.unnecessarySimpa false
/-! ### backstitch/backstitchlaw8.FoldKnown -/
noncomputable def law8_FoldKnown.f  : Option Bool :=
  (law8_awake.f).bind fun r23 =>
  if r23 = true then ((fold_New.f ([2] : List Int) 0).bind fun r34 =>
  onPtr r34.1 (fun y36 =>
  (fold_New.f ([2] : List Int) 1).bind fun r260 =>
  onPtr r260.1 (fun y262 =>
  (fold_New.f ([0] : List Int) 1).bind fun r374 =>
  (fold_New.f ([2] : List Int) (-1)).bind fun r391 =>
  (fold_New.f ([2] : List Int) 1025).bind fun r408 =>
  if r34.2 = 0 then (if r260.2 = 0 then ((fold_Slots_Value.f y36).bind fun r429 =>
  (law8_FoldKnown_1.f ([4607182418800017408, 4611686018427387904] : List Nat)).bind fun r458 =>
  (fold_Slots_Put.f y262 1 r458).bind fun r459 =>
  (law8_FoldKnown_1.f ([4607182418800017408] : List Nat)).bind fun r491 =>
  (fold_Slots_Put.f (⟨y262.s, r459.1, r459.2.1, r459.2.2.1⟩ : Slots) 0 r491).bind fun r492 =>
  (law8_FoldKnown_1.f ([4607182418800017408, 4611686018427387904] : List Nat)).bind fun r524 =>
  (fold_Slots_Put.f (⟨y262.s, r492.1, r492.2.1, r492.2.2.1⟩ : Slots) 0 r524).bind fun r525 =>
  (law8_FoldKnown_1.f ([4607182418800017408] : List Nat)).bind fun r557 =>
  (fold_Slots_Put.f (⟨y262.s, r525.1, r525.2.1, r525.2.2.1⟩ : Slots) 0 r557).bind fun r558 =>
  (fold_Slots_Value.f (⟨y262.s, r558.1, r558.2.1, r558.2.2.1⟩ : Slots)).bind fun r590 =>
  if r374.2 = 2 then (if r391.2 = 1 then (if r408.2 = 1 then (if r429.2 = 0 then ((law8_FoldKnown_1.f ([0, 0] : List Nat)).bind fun r624 =>
  (ref1_SameTensor.f r429.1 r624).bind fun r625 =>
  if r625 = true then (if r459.2.2.2 = 1 then (if r492.2.2.2 = 2 then (if r525.2.2.2 = 0 then (if r558.2.2.2 = 1 then (if r590.2 = 0 then ((law8_FoldKnown_1.f ([4607182418800017408, 4611686018427387904] : List Nat)).bind fun r632 =>
  (ref1_SameTensor.f r590.1 r632).bind fun r633 =>
  if r633 = true then ((fold_Slots_Left.f y36).bind fun r635 =>
  if r635 = 0 then (some true)
  else (some false))
  else (some false))
  else (some false))
  else (some false))
  else (some false))
  else (some false))
  else (some false))
  else (some false))
  else (some false))
  else (some false))
  else (some false))
  else (some false))
  else (some false))
  else (some false)) ((fold_New.f ([0] : List Int) 1).bind fun r278 =>
  (fold_New.f ([2] : List Int) (-1)).bind fun r295 =>
  (fold_New.f ([2] : List Int) 1025).bind fun r312 =>
  if r34.2 = 0 then (if r260.2 = 0 then (some false)
  else (some false))
  else (some false))) ((fold_New.f ([2] : List Int) 1).bind fun r52 =>
  onPtr r52.1 (fun y54 =>
  (fold_New.f ([0] : List Int) 1).bind fun r164 =>
  (fold_New.f ([2] : List Int) (-1)).bind fun r181 =>
  (fold_New.f ([2] : List Int) 1025).bind fun r198 =>
  if r34.2 = 0 then (if r52.2 = 0 then (some false)
  else (some false))
  else (some false)) ((fold_New.f ([0] : List Int) 1).bind fun r71 =>
  (fold_New.f ([2] : List Int) (-1)).bind fun r88 =>
  (fold_New.f ([2] : List Int) 1025).bind fun r105 =>
  if r34.2 = 0 then (if r52.2 = 0 then (some false)
  else (some false))
  else (some false))))
  else (some false)
set_option maxRecDepth 100000 in
set_option maxHeartbeats 4000000 in
theorem law8_FoldKnown.calls (M : List (Option Nat)) (w0 : World)  (hm0 : Mem [] M w0 [] w0) (r : Bool) (H0 : law8_FoldKnown.f = some r) :
    Calls Try.prog 5 [].toArray w0 (fun x w' => ∃ v, x = .returned v ∧ v = .bool r ∧ Mem [] M w0 [] w') := by
  unfold law8_FoldKnown.f at H0
  refine enter (n := 144) Try.func5 rfl rfl (by kernel_rfl) fun a0 (hf0 : Fr 144 a0 []) => ?_
  refine wp_seq ?_
  refine reg [] [] [] [] hf0 (by kernel_rfl) trivial fun a21 hf22 => ?_
  refine thenN ?_
  refine wp_seq ?_
  refine wp_seq ?_
  obtain ⟨r23, hr23, H0⟩ := ob_split H0
  rcases ifb_split H0 with ⟨c24, H0⟩ | ⟨c24, H0⟩
  · refine inReg ?_
    refine listOf hf22 rfl (by kernel_rfl) (aCall (fid := 15) (args := []) (d := 20) hf22 (by kernel_rfl) (by kernel_rfl) callable15 (law8_awake.calls _ _  (hm0.give [] [] rfl rfl) r23 hr23) ?_)
    rintro _ w25 a26 ⟨rfl, hk28⟩ hf27
    have hm29 := hm0.still hk28.cum.none
    rw [c24] at hf27
    refine go 1 [] [21] [(21, .bool false)] [] hf27 (by kernel_rfl) trivial fun a30 hf31 => ?_
    refine endL rfl ?_
    refine thenN ?_
    refine condF hf31 (by kernel_rfl) ?_
    refine wp_skip ?_
    refine thenN ?_
    refine wp_seq ?_
    refine reg [] [1] [(1, .func (.func 24) #[] #[])] [] hf31 (by kernel_rfl) trivial fun a32 hf33 => ?_
    refine thenN ?_
    refine wp_seq ?_
    obtain ⟨r34, hr34, H0⟩ := ob_split H0
    rcases ptr_split H0 with ⟨c35, H0⟩ | ⟨y36, c35, H0⟩
    · refine inReg ?_
      refine listOf hf33 rfl (by kernel_rfl) (aLit (cs := [.int .i64 2]) (E := 3) (len := 1) (d := 23) hf33 (by kernel_rfl) (by kernel_rfl) ?_)
      intro b37 w38 a39 hbb37 hx41 hg42 hf40
      have hm29s := hm29.still hg42
      have hm43 : Mem [] M w0 [.sl (Kd.int .i64) (some ⟨b37, 0, none⟩) 1 ([2] : List Int)] w38 := Mem.lit (kd := (Kd.int .i64)) (xs := ([2] : List Int)) hm29 hbb37 hx41 hg42 (Els.one (kd := (Kd.int .i64)) (us := [.int .i64 2]) (x := 2) rfl)
      refine listOf hf40 rfl (by kernel_rfl) (aCall (fid := 20) (args := [.slice (some ⟨b37, 0, none⟩) 1 1, .int .i64 0]) (d := 24) hf40 (by kernel_rfl) (by kernel_rfl) callable20 (fold_New.calls_n _ _ ([2] : List Int) (some ⟨b37, 0, none⟩) 1 1 rfl 0 (hm43.give [0] [.sl (Kd.int .i64) (some ⟨b37, 0, none⟩) 1 ([2] : List Int)] rfl rfl) r34 c35 hr34) ?_)
      rintro _ w44 a45 ⟨rfl, hk47⟩ hf46
      have hm48 := hm43.still hk47.cum.none
      refine go 5 [] [1, 2, 3] [(1, .func (.func 24) #[] #[]), (2, .pointer none), (3, .int .i64 r34.2)] [] hf46 (by kernel_rfl) trivial fun a49 hf50 => ?_
      refine endL rfl ?_
      have hm51 : Mem [] M w0 [] w44 := hm48.sel [] _ rfl (by kernel_rfl)
      refine thenN ?_
      refine wp_seq ?_
      obtain ⟨r52, hr52, H0⟩ := ob_split H0
      rcases ptr_split H0 with ⟨c53, H0⟩ | ⟨y54, c53, H0⟩
      · refine inReg ?_
        refine listOf hf50 rfl (by kernel_rfl) (aLit (cs := [.int .i64 2]) (E := 3) (len := 1) (d := 28) hf50 (by kernel_rfl) (by kernel_rfl) ?_)
        intro b55 w56 a57 hbb55 hx59 hg60 hf58
        have hm51s := hm51.still hg60
        have hm61 : Mem [] M w0 [.sl (Kd.int .i64) (some ⟨b55, 0, none⟩) 1 ([2] : List Int)] w56 := Mem.lit (kd := (Kd.int .i64)) (xs := ([2] : List Int)) hm51 hbb55 hx59 hg60 (Els.one (kd := (Kd.int .i64)) (us := [.int .i64 2]) (x := 2) rfl)
        refine listOf hf58 rfl (by kernel_rfl) (aCall (fid := 20) (args := [.slice (some ⟨b55, 0, none⟩) 1 1, .int .i64 1]) (d := 29) hf58 (by kernel_rfl) (by kernel_rfl) callable20 (fold_New.calls_n _ _ ([2] : List Int) (some ⟨b55, 0, none⟩) 1 1 rfl 1 (hm61.give [0] [.sl (Kd.int .i64) (some ⟨b55, 0, none⟩) 1 ([2] : List Int)] rfl rfl) r52 c53 hr52) ?_)
        rintro _ w62 a63 ⟨rfl, hk66⟩ hf65
        have hm67 := hm61.still hk66.cum.none
        refine go 5 [] [1, 2, 3, 4, 5] [(1, .func (.func 24) #[] #[]), (2, .pointer none), (3, .int .i64 r34.2), (4, .pointer none), (5, .int .i64 r52.2)] [] hf65 (by kernel_rfl) trivial fun a68 hf69 => ?_
        refine endL rfl ?_
        have hm70 : Mem [] M w0 [] w62 := hm67.sel [] _ rfl (by kernel_rfl)
        refine thenN ?_
        refine wp_seq ?_
        obtain ⟨r71, hr71, H0⟩ := ob_split H0
        refine inReg ?_
        refine listOf hf69 rfl (by kernel_rfl) (aLit (cs := [.int .i64 0]) (E := 3) (len := 1) (d := 33) hf69 (by kernel_rfl) (by kernel_rfl) ?_)
        intro b72 w73 a74 hbb72 hx76 hg77 hf75
        have hm70s := hm70.still hg77
        have hm78 : Mem [] M w0 [.sl (Kd.int .i64) (some ⟨b72, 0, none⟩) 1 ([0] : List Int)] w73 := Mem.lit (kd := (Kd.int .i64)) (xs := ([0] : List Int)) hm70 hbb72 hx76 hg77 (Els.one (kd := (Kd.int .i64)) (us := [.int .i64 0]) (x := 0) rfl)
        refine listOf hf75 rfl (by kernel_rfl) (aCall (fid := 20) (args := [.slice (some ⟨b72, 0, none⟩) 1 1, .int .i64 1]) (d := 34) hf75 (by kernel_rfl) (by kernel_rfl) callable20 (fold_New.calls_d _ _ ([0] : List Int) (some ⟨b72, 0, none⟩) 1 1 rfl 1 (hm78.give [0] [.sl (Kd.int .i64) (some ⟨b72, 0, none⟩) 1 ([0] : List Int)] rfl rfl) r71 hr71) ?_)
        rintro _ w80 a81 ⟨p79, rfl, hk83⟩ hf82
        have hm84 := hm78.still hk83.cum.none
        refine go 5 [] [1, 2, 3, 4, 5, 7] [(1, .func (.func 24) #[] #[]), (2, .pointer none), (3, .int .i64 r34.2), (4, .pointer none), (5, .int .i64 r52.2), (7, .int .i64 r71.2)] [] hf82 (by kernel_rfl) trivial fun a85 hf86 => ?_
        refine endL rfl ?_
        have hm87 : Mem [] M w0 [] w80 := hm84.sel [] _ rfl (by kernel_rfl)
        refine thenN ?_
        refine wp_seq ?_
        obtain ⟨r88, hr88, H0⟩ := ob_split H0
        refine inReg ?_
        refine listOf hf86 rfl (by kernel_rfl) (aLit (cs := [.int .i64 2]) (E := 3) (len := 1) (d := 38) hf86 (by kernel_rfl) (by kernel_rfl) ?_)
        intro b89 w90 a91 hbb89 hx93 hg94 hf92
        have hm87s := hm87.still hg94
        have hm95 : Mem [] M w0 [.sl (Kd.int .i64) (some ⟨b89, 0, none⟩) 1 ([2] : List Int)] w90 := Mem.lit (kd := (Kd.int .i64)) (xs := ([2] : List Int)) hm87 hbb89 hx93 hg94 (Els.one (kd := (Kd.int .i64)) (us := [.int .i64 2]) (x := 2) rfl)
        refine listOf hf92 rfl (by kernel_rfl) (aCall (fid := 20) (args := [.slice (some ⟨b89, 0, none⟩) 1 1, .int .i64 (-1)]) (d := 39) hf92 (by kernel_rfl) (by kernel_rfl) callable20 (fold_New.calls_d _ _ ([2] : List Int) (some ⟨b89, 0, none⟩) 1 1 rfl (-1) (hm95.give [0] [.sl (Kd.int .i64) (some ⟨b89, 0, none⟩) 1 ([2] : List Int)] rfl rfl) r88 hr88) ?_)
        rintro _ w97 a98 ⟨p96, rfl, hk100⟩ hf99
        have hm101 := hm95.still hk100.cum.none
        refine go 5 [] [1, 2, 3, 4, 5, 7, 9] [(1, .func (.func 24) #[] #[]), (2, .pointer none), (3, .int .i64 r34.2), (4, .pointer none), (5, .int .i64 r52.2), (7, .int .i64 r71.2), (9, .int .i64 r88.2)] [] hf99 (by kernel_rfl) trivial fun a102 hf103 => ?_
        refine endL rfl ?_
        have hm104 : Mem [] M w0 [] w97 := hm101.sel [] _ rfl (by kernel_rfl)
        refine thenN ?_
        refine wp_seq ?_
        obtain ⟨r105, hr105, H0⟩ := ob_split H0
        refine inReg ?_
        refine listOf hf103 rfl (by kernel_rfl) (aLit (cs := [.int .i64 2]) (E := 3) (len := 1) (d := 43) hf103 (by kernel_rfl) (by kernel_rfl) ?_)
        intro b106 w107 a108 hbb106 hx110 hg111 hf109
        have hm104s := hm104.still hg111
        have hm112 : Mem [] M w0 [.sl (Kd.int .i64) (some ⟨b106, 0, none⟩) 1 ([2] : List Int)] w107 := Mem.lit (kd := (Kd.int .i64)) (xs := ([2] : List Int)) hm104 hbb106 hx110 hg111 (Els.one (kd := (Kd.int .i64)) (us := [.int .i64 2]) (x := 2) rfl)
        refine listOf hf109 rfl (by kernel_rfl) (aCall (fid := 20) (args := [.slice (some ⟨b106, 0, none⟩) 1 1, .int .i64 1025]) (d := 44) hf109 (by kernel_rfl) (by kernel_rfl) callable20 (fold_New.calls_d _ _ ([2] : List Int) (some ⟨b106, 0, none⟩) 1 1 rfl 1025 (hm112.give [0] [.sl (Kd.int .i64) (some ⟨b106, 0, none⟩) 1 ([2] : List Int)] rfl rfl) r105 hr105) ?_)
        rintro _ w114 a115 ⟨p113, rfl, hk117⟩ hf116
        have hm118 := hm112.still hk117.cum.none
        refine go 5 [] [1, 2, 3, 4, 5, 7, 9, 11] [(1, .func (.func 24) #[] #[]), (2, .pointer none), (3, .int .i64 r34.2), (4, .pointer none), (5, .int .i64 r52.2), (7, .int .i64 r71.2), (9, .int .i64 r88.2), (11, .int .i64 r105.2)] [] hf116 (by kernel_rfl) trivial fun a119 hf120 => ?_
        refine endL rfl ?_
        have hm121 : Mem [] M w0 [] w114 := hm118.sel [] _ rfl (by kernel_rfl)
        refine thenN ?_
        refine wp_seq ?_
        refine wp_seq ?_
        rcases if_split H0 with ⟨c122, H0⟩ | ⟨c122, H0⟩
        · rcases if_split H0 with ⟨c123, H0⟩ | ⟨c123, H0⟩
          · refine reg [.bool false, .bool false] [1, 2, 4, 7, 9, 11, 60] [(1, .func (.func 24) #[] #[]), (2, .pointer none), (4, .pointer none), (7, .int .i64 r71.2), (9, .int .i64 r88.2), (11, .int .i64 r105.2), (60, .bool true)] [.is (((r34.2 : Int) != 0) = false), .is (((r52.2 : Int) != 0) = false)] hf120 (by kernel_rfl) ⟨(neF c122), (neF c123), trivial⟩ fun a124 hf125 => ?_
            refine thenN ?_
            refine condT hf125 (by kernel_rfl) ?_
            refine wp_seq ?_
            refine reg [] [0] [(0, .bool false)] [] hf125 (by kernel_rfl) trivial fun a126 hf127 => ?_
            refine thenN ?_
            refine wp_ret ?_
            refine thenR ?_
            have hm128 : Mem [] M w0 [] w114 := hm121.sel [] _ rfl (by kernel_rfl)
            obtain rfl := Option.some.inj H0
            refine ret [] [.bool false] [] hf127 (by kernel_rfl) trivial ?_
            exact ⟨_, rfl, rfl, hm128⟩
          · refine reg [.bool false, .bool true] [1, 2, 4, 7, 9, 11, 60] [(1, .func (.func 24) #[] #[]), (2, .pointer none), (4, .pointer none), (7, .int .i64 r71.2), (9, .int .i64 r88.2), (11, .int .i64 r105.2), (60, .bool true)] [.is (((r34.2 : Int) != 0) = false), .is (((r52.2 : Int) != 0) = true)] hf120 (by kernel_rfl) ⟨(neF c122), (neT c123), trivial⟩ fun a130 hf131 => ?_
            refine thenN ?_
            refine condT hf131 (by kernel_rfl) ?_
            refine wp_seq ?_
            refine reg [] [0] [(0, .bool false)] [] hf131 (by kernel_rfl) trivial fun a132 hf133 => ?_
            refine thenN ?_
            refine wp_ret ?_
            refine thenR ?_
            have hm134 : Mem [] M w0 [] w114 := hm121.sel [] _ rfl (by kernel_rfl)
            obtain rfl := Option.some.inj H0
            refine ret [] [.bool false] [] hf133 (by kernel_rfl) trivial ?_
            exact ⟨_, rfl, rfl, hm134⟩
        · refine reg [.bool true] [1, 2, 4, 7, 9, 11, 60] [(1, .func (.func 24) #[] #[]), (2, .pointer none), (4, .pointer none), (7, .int .i64 r71.2), (9, .int .i64 r88.2), (11, .int .i64 r105.2), (60, .bool true)] [.is (((r34.2 : Int) != 0) = true)] hf120 (by kernel_rfl) ⟨(neT c122), trivial⟩ fun a136 hf137 => ?_
          refine thenN ?_
          refine condT hf137 (by kernel_rfl) ?_
          refine wp_seq ?_
          refine reg [] [0] [(0, .bool false)] [] hf137 (by kernel_rfl) trivial fun a138 hf139 => ?_
          refine thenN ?_
          refine wp_ret ?_
          refine thenR ?_
          have hm140 : Mem [] M w0 [] w114 := hm121.sel [] _ rfl (by kernel_rfl)
          obtain rfl := Option.some.inj H0
          refine ret [] [.bool false] [] hf139 (by kernel_rfl) trivial ?_
          exact ⟨_, rfl, rfl, hm140⟩
      · refine inReg ?_
        refine listOf hf50 rfl (by kernel_rfl) (aLit (cs := [.int .i64 2]) (E := 3) (len := 1) (d := 28) hf50 (by kernel_rfl) (by kernel_rfl) ?_)
        intro b142 w143 a144 hbb142 hx146 hg147 hf145
        have hm51s := hm51.still hg147
        have hm148 : Mem [] M w0 [.sl (Kd.int .i64) (some ⟨b142, 0, none⟩) 1 ([2] : List Int)] w143 := Mem.lit (kd := (Kd.int .i64)) (xs := ([2] : List Int)) hm51 hbb142 hx146 hg147 (Els.one (kd := (Kd.int .i64)) (us := [.int .i64 2]) (x := 2) rfl)
        refine listOf hf145 rfl (by kernel_rfl) (aCall (fid := 20) (args := [.slice (some ⟨b142, 0, none⟩) 1 1, .int .i64 1]) (d := 29) hf145 (by kernel_rfl) (by kernel_rfl) callable20 (fold_New.calls_s _ _ ([2] : List Int) (some ⟨b142, 0, none⟩) 1 1 rfl 1 (hm148.give [0] [.sl (Kd.int .i64) (some ⟨b142, 0, none⟩) 1 ([2] : List Int)] rfl rfl) r52 y54 c53 hr52) ?_)
        rintro _ w156 a157 ⟨b149, A150, c151, A152, c153, A154, c155, rfl, hk159⟩ hf158
        have hm160 : Mem [] M w0 [.bx b149 [.slice A150 y54.s.length c151, .slice A152 y54.l.length c153, .slice A154 y54.filled.length c155, .int .i64 y54.left] 80, .sl (Kd.int .i64) A150 c151 y54.s, .ow kTensor 28 A152 c153 y54.l, .ow Kd.bool 4 A154 c155 y54.filled, .sl (Kd.int .i64) (some ⟨b142, 0, none⟩) 1 ([2] : List Int)] w156 := hm148.back hk159
        refine go 5 [] [1, 2, 3, 4, 5] [(1, .func (.func 24) #[] #[]), (2, .pointer none), (3, .int .i64 r34.2), (4, .pointer (some ⟨b149, 0, none⟩)), (5, .int .i64 r52.2)] [] hf158 (by kernel_rfl) trivial fun a161 hf162 => ?_
        refine endL rfl ?_
        have hm163 : Mem [] M w0 [.bx b149 [.slice A150 y54.s.length c151, .slice A152 y54.l.length c153, .slice A154 y54.filled.length c155, .int .i64 y54.left] 80, .sl (Kd.int .i64) A150 c151 y54.s, .ow kTensor 28 A152 c153 y54.l, .ow Kd.bool 4 A154 c155 y54.filled] w156 := hm160.sel [0, 1, 2, 3] _ rfl (by kernel_rfl)
        refine thenN ?_
        refine wp_seq ?_
        obtain ⟨r164, hr164, H0⟩ := ob_split H0
        refine inReg ?_
        refine listOf hf162 rfl (by kernel_rfl) (aLit (cs := [.int .i64 0]) (E := 3) (len := 1) (d := 33) hf162 (by kernel_rfl) (by kernel_rfl) ?_)
        intro b165 w166 a167 hbb165 hx169 hg170 hf168
        have hm163s := hm163.still hg170
        have hm171 : Mem [] M w0 [.sl (Kd.int .i64) (some ⟨b165, 0, none⟩) 1 ([0] : List Int), .bx b149 [.slice A150 y54.s.length c151, .slice A152 y54.l.length c153, .slice A154 y54.filled.length c155, .int .i64 y54.left] 80, .sl (Kd.int .i64) A150 c151 y54.s, .ow kTensor 28 A152 c153 y54.l, .ow Kd.bool 4 A154 c155 y54.filled] w166 := Mem.lit (kd := (Kd.int .i64)) (xs := ([0] : List Int)) hm163 hbb165 hx169 hg170 (Els.one (kd := (Kd.int .i64)) (us := [.int .i64 0]) (x := 0) rfl)
        refine listOf hf168 rfl (by kernel_rfl) (aCall (fid := 20) (args := [.slice (some ⟨b165, 0, none⟩) 1 1, .int .i64 1]) (d := 34) hf168 (by kernel_rfl) (by kernel_rfl) callable20 (fold_New.calls_d _ _ ([0] : List Int) (some ⟨b165, 0, none⟩) 1 1 rfl 1 (hm171.give [0] [.sl (Kd.int .i64) (some ⟨b165, 0, none⟩) 1 ([0] : List Int)] rfl rfl) r164 hr164) ?_)
        rintro _ w173 a174 ⟨p172, rfl, hk176⟩ hf175
        have hm177 := hm171.still hk176.cum.none
        refine go 5 [] [1, 2, 3, 4, 5, 7] [(1, .func (.func 24) #[] #[]), (2, .pointer none), (3, .int .i64 r34.2), (4, .pointer (some ⟨b149, 0, none⟩)), (5, .int .i64 r52.2), (7, .int .i64 r164.2)] [] hf175 (by kernel_rfl) trivial fun a178 hf179 => ?_
        refine endL rfl ?_
        have hm180 : Mem [] M w0 [.bx b149 [.slice A150 y54.s.length c151, .slice A152 y54.l.length c153, .slice A154 y54.filled.length c155, .int .i64 y54.left] 80, .sl (Kd.int .i64) A150 c151 y54.s, .ow kTensor 28 A152 c153 y54.l, .ow Kd.bool 4 A154 c155 y54.filled] w173 := hm177.sel [1, 2, 3, 4] _ rfl (by kernel_rfl)
        refine thenN ?_
        refine wp_seq ?_
        obtain ⟨r181, hr181, H0⟩ := ob_split H0
        refine inReg ?_
        refine listOf hf179 rfl (by kernel_rfl) (aLit (cs := [.int .i64 2]) (E := 3) (len := 1) (d := 38) hf179 (by kernel_rfl) (by kernel_rfl) ?_)
        intro b182 w183 a184 hbb182 hx186 hg187 hf185
        have hm180s := hm180.still hg187
        have hm188 : Mem [] M w0 [.sl (Kd.int .i64) (some ⟨b182, 0, none⟩) 1 ([2] : List Int), .bx b149 [.slice A150 y54.s.length c151, .slice A152 y54.l.length c153, .slice A154 y54.filled.length c155, .int .i64 y54.left] 80, .sl (Kd.int .i64) A150 c151 y54.s, .ow kTensor 28 A152 c153 y54.l, .ow Kd.bool 4 A154 c155 y54.filled] w183 := Mem.lit (kd := (Kd.int .i64)) (xs := ([2] : List Int)) hm180 hbb182 hx186 hg187 (Els.one (kd := (Kd.int .i64)) (us := [.int .i64 2]) (x := 2) rfl)
        refine listOf hf185 rfl (by kernel_rfl) (aCall (fid := 20) (args := [.slice (some ⟨b182, 0, none⟩) 1 1, .int .i64 (-1)]) (d := 39) hf185 (by kernel_rfl) (by kernel_rfl) callable20 (fold_New.calls_d _ _ ([2] : List Int) (some ⟨b182, 0, none⟩) 1 1 rfl (-1) (hm188.give [0] [.sl (Kd.int .i64) (some ⟨b182, 0, none⟩) 1 ([2] : List Int)] rfl rfl) r181 hr181) ?_)
        rintro _ w190 a191 ⟨p189, rfl, hk193⟩ hf192
        have hm194 := hm188.still hk193.cum.none
        refine go 5 [] [1, 2, 3, 4, 5, 7, 9] [(1, .func (.func 24) #[] #[]), (2, .pointer none), (3, .int .i64 r34.2), (4, .pointer (some ⟨b149, 0, none⟩)), (5, .int .i64 r52.2), (7, .int .i64 r164.2), (9, .int .i64 r181.2)] [] hf192 (by kernel_rfl) trivial fun a195 hf196 => ?_
        refine endL rfl ?_
        have hm197 : Mem [] M w0 [.bx b149 [.slice A150 y54.s.length c151, .slice A152 y54.l.length c153, .slice A154 y54.filled.length c155, .int .i64 y54.left] 80, .sl (Kd.int .i64) A150 c151 y54.s, .ow kTensor 28 A152 c153 y54.l, .ow Kd.bool 4 A154 c155 y54.filled] w190 := hm194.sel [1, 2, 3, 4] _ rfl (by kernel_rfl)
        refine thenN ?_
        refine wp_seq ?_
        obtain ⟨r198, hr198, H0⟩ := ob_split H0
        refine inReg ?_
        refine listOf hf196 rfl (by kernel_rfl) (aLit (cs := [.int .i64 2]) (E := 3) (len := 1) (d := 43) hf196 (by kernel_rfl) (by kernel_rfl) ?_)
        intro b199 w200 a201 hbb199 hx203 hg204 hf202
        have hm197s := hm197.still hg204
        have hm205 : Mem [] M w0 [.sl (Kd.int .i64) (some ⟨b199, 0, none⟩) 1 ([2] : List Int), .bx b149 [.slice A150 y54.s.length c151, .slice A152 y54.l.length c153, .slice A154 y54.filled.length c155, .int .i64 y54.left] 80, .sl (Kd.int .i64) A150 c151 y54.s, .ow kTensor 28 A152 c153 y54.l, .ow Kd.bool 4 A154 c155 y54.filled] w200 := Mem.lit (kd := (Kd.int .i64)) (xs := ([2] : List Int)) hm197 hbb199 hx203 hg204 (Els.one (kd := (Kd.int .i64)) (us := [.int .i64 2]) (x := 2) rfl)
        refine listOf hf202 rfl (by kernel_rfl) (aCall (fid := 20) (args := [.slice (some ⟨b199, 0, none⟩) 1 1, .int .i64 1025]) (d := 44) hf202 (by kernel_rfl) (by kernel_rfl) callable20 (fold_New.calls_d _ _ ([2] : List Int) (some ⟨b199, 0, none⟩) 1 1 rfl 1025 (hm205.give [0] [.sl (Kd.int .i64) (some ⟨b199, 0, none⟩) 1 ([2] : List Int)] rfl rfl) r198 hr198) ?_)
        rintro _ w207 a208 ⟨p206, rfl, hk210⟩ hf209
        have hm211 := hm205.still hk210.cum.none
        refine go 5 [] [1, 2, 3, 4, 5, 7, 9, 11] [(1, .func (.func 24) #[] #[]), (2, .pointer none), (3, .int .i64 r34.2), (4, .pointer (some ⟨b149, 0, none⟩)), (5, .int .i64 r52.2), (7, .int .i64 r164.2), (9, .int .i64 r181.2), (11, .int .i64 r198.2)] [] hf209 (by kernel_rfl) trivial fun a212 hf213 => ?_
        refine endL rfl ?_
        have hm214 : Mem [] M w0 [.bx b149 [.slice A150 y54.s.length c151, .slice A152 y54.l.length c153, .slice A154 y54.filled.length c155, .int .i64 y54.left] 80, .sl (Kd.int .i64) A150 c151 y54.s, .ow kTensor 28 A152 c153 y54.l, .ow Kd.bool 4 A154 c155 y54.filled] w207 := hm211.sel [1, 2, 3, 4] _ rfl (by kernel_rfl)
        refine thenN ?_
        refine wp_seq ?_
        refine wp_seq ?_
        rcases if_split H0 with ⟨c215, H0⟩ | ⟨c215, H0⟩
        · rcases if_split H0 with ⟨c216, H0⟩ | ⟨c216, H0⟩
          · refine reg [.bool false, .bool false] [1, 2, 4, 7, 9, 11, 60] [(1, .func (.func 24) #[] #[]), (2, .pointer none), (4, .pointer (some ⟨b149, 0, none⟩)), (7, .int .i64 r164.2), (9, .int .i64 r181.2), (11, .int .i64 r198.2), (60, .bool true)] [.is (((r34.2 : Int) != 0) = false), .is (((r52.2 : Int) != 0) = false)] hf213 (by kernel_rfl) ⟨(neF c215), (neF c216), trivial⟩ fun a217 hf218 => ?_
            refine thenN ?_
            refine condT hf218 (by kernel_rfl) ?_
            refine wp_seq ?_
            refine reg [] [0] [(0, .bool false)] [] hf218 (by kernel_rfl) trivial fun a219 hf220 => ?_
            have hm221 : Mem [] M w0 [] w207 := hm214.sel [] _ rfl (by kernel_rfl)
            refine thenN ?_
            refine wp_ret ?_
            refine thenR ?_
            have hm222 : Mem [] M w0 [] w207 := hm221.sel [] _ rfl (by kernel_rfl)
            obtain rfl := Option.some.inj H0
            refine ret [] [.bool false] [] hf220 (by kernel_rfl) trivial ?_
            exact ⟨_, rfl, rfl, hm222⟩
          · refine reg [.bool false, .bool true] [1, 2, 4, 7, 9, 11, 60] [(1, .func (.func 24) #[] #[]), (2, .pointer none), (4, .pointer (some ⟨b149, 0, none⟩)), (7, .int .i64 r164.2), (9, .int .i64 r181.2), (11, .int .i64 r198.2), (60, .bool true)] [.is (((r34.2 : Int) != 0) = false), .is (((r52.2 : Int) != 0) = true)] hf213 (by kernel_rfl) ⟨(neF c215), (neT c216), trivial⟩ fun a224 hf225 => ?_
            refine thenN ?_
            refine condT hf225 (by kernel_rfl) ?_
            refine wp_seq ?_
            refine reg [] [0] [(0, .bool false)] [] hf225 (by kernel_rfl) trivial fun a226 hf227 => ?_
            have hm228 : Mem [] M w0 [] w207 := hm214.sel [] _ rfl (by kernel_rfl)
            refine thenN ?_
            refine wp_ret ?_
            refine thenR ?_
            have hm229 : Mem [] M w0 [] w207 := hm228.sel [] _ rfl (by kernel_rfl)
            obtain rfl := Option.some.inj H0
            refine ret [] [.bool false] [] hf227 (by kernel_rfl) trivial ?_
            exact ⟨_, rfl, rfl, hm229⟩
        · refine reg [.bool true] [1, 2, 4, 7, 9, 11, 60] [(1, .func (.func 24) #[] #[]), (2, .pointer none), (4, .pointer (some ⟨b149, 0, none⟩)), (7, .int .i64 r164.2), (9, .int .i64 r181.2), (11, .int .i64 r198.2), (60, .bool true)] [.is (((r34.2 : Int) != 0) = true)] hf213 (by kernel_rfl) ⟨(neT c215), trivial⟩ fun a231 hf232 => ?_
          refine thenN ?_
          refine condT hf232 (by kernel_rfl) ?_
          refine wp_seq ?_
          refine reg [] [0] [(0, .bool false)] [] hf232 (by kernel_rfl) trivial fun a233 hf234 => ?_
          have hm235 : Mem [] M w0 [] w207 := hm214.sel [] _ rfl (by kernel_rfl)
          refine thenN ?_
          refine wp_ret ?_
          refine thenR ?_
          have hm236 : Mem [] M w0 [] w207 := hm235.sel [] _ rfl (by kernel_rfl)
          obtain rfl := Option.some.inj H0
          refine ret [] [.bool false] [] hf234 (by kernel_rfl) trivial ?_
          exact ⟨_, rfl, rfl, hm236⟩
    · refine inReg ?_
      refine listOf hf33 rfl (by kernel_rfl) (aLit (cs := [.int .i64 2]) (E := 3) (len := 1) (d := 23) hf33 (by kernel_rfl) (by kernel_rfl) ?_)
      intro b238 w239 a240 hbb238 hx242 hg243 hf241
      have hm29s := hm29.still hg243
      have hm244 : Mem [] M w0 [.sl (Kd.int .i64) (some ⟨b238, 0, none⟩) 1 ([2] : List Int)] w239 := Mem.lit (kd := (Kd.int .i64)) (xs := ([2] : List Int)) hm29 hbb238 hx242 hg243 (Els.one (kd := (Kd.int .i64)) (us := [.int .i64 2]) (x := 2) rfl)
      refine listOf hf241 rfl (by kernel_rfl) (aCall (fid := 20) (args := [.slice (some ⟨b238, 0, none⟩) 1 1, .int .i64 0]) (d := 24) hf241 (by kernel_rfl) (by kernel_rfl) callable20 (fold_New.calls_s _ _ ([2] : List Int) (some ⟨b238, 0, none⟩) 1 1 rfl 0 (hm244.give [0] [.sl (Kd.int .i64) (some ⟨b238, 0, none⟩) 1 ([2] : List Int)] rfl rfl) r34 y36 c35 hr34) ?_)
      rintro _ w252 a253 ⟨b245, A246, c247, A248, c249, A250, c251, rfl, hk255⟩ hf254
      have hm256 : Mem [] M w0 [.bx b245 [.slice A246 y36.s.length c247, .slice A248 y36.l.length c249, .slice A250 y36.filled.length c251, .int .i64 y36.left] 80, .sl (Kd.int .i64) A246 c247 y36.s, .ow kTensor 28 A248 c249 y36.l, .ow Kd.bool 4 A250 c251 y36.filled, .sl (Kd.int .i64) (some ⟨b238, 0, none⟩) 1 ([2] : List Int)] w252 := hm244.back hk255
      refine go 5 [] [1, 2, 3] [(1, .func (.func 24) #[] #[]), (2, .pointer (some ⟨b245, 0, none⟩)), (3, .int .i64 r34.2)] [] hf254 (by kernel_rfl) trivial fun a257 hf258 => ?_
      refine endL rfl ?_
      have hm259 : Mem [] M w0 [.bx b245 [.slice A246 y36.s.length c247, .slice A248 y36.l.length c249, .slice A250 y36.filled.length c251, .int .i64 y36.left] 80, .sl (Kd.int .i64) A246 c247 y36.s, .ow kTensor 28 A248 c249 y36.l, .ow Kd.bool 4 A250 c251 y36.filled] w252 := hm256.sel [0, 1, 2, 3] _ rfl (by kernel_rfl)
      refine thenN ?_
      refine wp_seq ?_
      obtain ⟨r260, hr260, H0⟩ := ob_split H0
      rcases ptr_split H0 with ⟨c261, H0⟩ | ⟨y262, c261, H0⟩
      · refine inReg ?_
        refine listOf hf258 rfl (by kernel_rfl) (aLit (cs := [.int .i64 2]) (E := 3) (len := 1) (d := 28) hf258 (by kernel_rfl) (by kernel_rfl) ?_)
        intro b263 w264 a265 hbb263 hx267 hg268 hf266
        have hm259s := hm259.still hg268
        have hm269 : Mem [] M w0 [.sl (Kd.int .i64) (some ⟨b263, 0, none⟩) 1 ([2] : List Int), .bx b245 [.slice A246 y36.s.length c247, .slice A248 y36.l.length c249, .slice A250 y36.filled.length c251, .int .i64 y36.left] 80, .sl (Kd.int .i64) A246 c247 y36.s, .ow kTensor 28 A248 c249 y36.l, .ow Kd.bool 4 A250 c251 y36.filled] w264 := Mem.lit (kd := (Kd.int .i64)) (xs := ([2] : List Int)) hm259 hbb263 hx267 hg268 (Els.one (kd := (Kd.int .i64)) (us := [.int .i64 2]) (x := 2) rfl)
        refine listOf hf266 rfl (by kernel_rfl) (aCall (fid := 20) (args := [.slice (some ⟨b263, 0, none⟩) 1 1, .int .i64 1]) (d := 29) hf266 (by kernel_rfl) (by kernel_rfl) callable20 (fold_New.calls_n _ _ ([2] : List Int) (some ⟨b263, 0, none⟩) 1 1 rfl 1 (hm269.give [0] [.sl (Kd.int .i64) (some ⟨b263, 0, none⟩) 1 ([2] : List Int)] rfl rfl) r260 c261 hr260) ?_)
        rintro _ w270 a271 ⟨rfl, hk273⟩ hf272
        have hm274 := hm269.still hk273.cum.none
        refine go 5 [] [1, 2, 3, 4, 5] [(1, .func (.func 24) #[] #[]), (2, .pointer (some ⟨b245, 0, none⟩)), (3, .int .i64 r34.2), (4, .pointer none), (5, .int .i64 r260.2)] [] hf272 (by kernel_rfl) trivial fun a275 hf276 => ?_
        refine endL rfl ?_
        have hm277 : Mem [] M w0 [.bx b245 [.slice A246 y36.s.length c247, .slice A248 y36.l.length c249, .slice A250 y36.filled.length c251, .int .i64 y36.left] 80, .sl (Kd.int .i64) A246 c247 y36.s, .ow kTensor 28 A248 c249 y36.l, .ow Kd.bool 4 A250 c251 y36.filled] w270 := hm274.sel [1, 2, 3, 4] _ rfl (by kernel_rfl)
        refine thenN ?_
        refine wp_seq ?_
        obtain ⟨r278, hr278, H0⟩ := ob_split H0
        refine inReg ?_
        refine listOf hf276 rfl (by kernel_rfl) (aLit (cs := [.int .i64 0]) (E := 3) (len := 1) (d := 33) hf276 (by kernel_rfl) (by kernel_rfl) ?_)
        intro b279 w280 a281 hbb279 hx283 hg284 hf282
        have hm277s := hm277.still hg284
        have hm285 : Mem [] M w0 [.sl (Kd.int .i64) (some ⟨b279, 0, none⟩) 1 ([0] : List Int), .bx b245 [.slice A246 y36.s.length c247, .slice A248 y36.l.length c249, .slice A250 y36.filled.length c251, .int .i64 y36.left] 80, .sl (Kd.int .i64) A246 c247 y36.s, .ow kTensor 28 A248 c249 y36.l, .ow Kd.bool 4 A250 c251 y36.filled] w280 := Mem.lit (kd := (Kd.int .i64)) (xs := ([0] : List Int)) hm277 hbb279 hx283 hg284 (Els.one (kd := (Kd.int .i64)) (us := [.int .i64 0]) (x := 0) rfl)
        refine listOf hf282 rfl (by kernel_rfl) (aCall (fid := 20) (args := [.slice (some ⟨b279, 0, none⟩) 1 1, .int .i64 1]) (d := 34) hf282 (by kernel_rfl) (by kernel_rfl) callable20 (fold_New.calls_d _ _ ([0] : List Int) (some ⟨b279, 0, none⟩) 1 1 rfl 1 (hm285.give [0] [.sl (Kd.int .i64) (some ⟨b279, 0, none⟩) 1 ([0] : List Int)] rfl rfl) r278 hr278) ?_)
        rintro _ w287 a288 ⟨p286, rfl, hk290⟩ hf289
        have hm291 := hm285.still hk290.cum.none
        refine go 5 [] [1, 2, 3, 4, 5, 7] [(1, .func (.func 24) #[] #[]), (2, .pointer (some ⟨b245, 0, none⟩)), (3, .int .i64 r34.2), (4, .pointer none), (5, .int .i64 r260.2), (7, .int .i64 r278.2)] [] hf289 (by kernel_rfl) trivial fun a292 hf293 => ?_
        refine endL rfl ?_
        have hm294 : Mem [] M w0 [.bx b245 [.slice A246 y36.s.length c247, .slice A248 y36.l.length c249, .slice A250 y36.filled.length c251, .int .i64 y36.left] 80, .sl (Kd.int .i64) A246 c247 y36.s, .ow kTensor 28 A248 c249 y36.l, .ow Kd.bool 4 A250 c251 y36.filled] w287 := hm291.sel [1, 2, 3, 4] _ rfl (by kernel_rfl)
        refine thenN ?_
        refine wp_seq ?_
        obtain ⟨r295, hr295, H0⟩ := ob_split H0
        refine inReg ?_
        refine listOf hf293 rfl (by kernel_rfl) (aLit (cs := [.int .i64 2]) (E := 3) (len := 1) (d := 38) hf293 (by kernel_rfl) (by kernel_rfl) ?_)
        intro b296 w297 a298 hbb296 hx300 hg301 hf299
        have hm294s := hm294.still hg301
        have hm302 : Mem [] M w0 [.sl (Kd.int .i64) (some ⟨b296, 0, none⟩) 1 ([2] : List Int), .bx b245 [.slice A246 y36.s.length c247, .slice A248 y36.l.length c249, .slice A250 y36.filled.length c251, .int .i64 y36.left] 80, .sl (Kd.int .i64) A246 c247 y36.s, .ow kTensor 28 A248 c249 y36.l, .ow Kd.bool 4 A250 c251 y36.filled] w297 := Mem.lit (kd := (Kd.int .i64)) (xs := ([2] : List Int)) hm294 hbb296 hx300 hg301 (Els.one (kd := (Kd.int .i64)) (us := [.int .i64 2]) (x := 2) rfl)
        refine listOf hf299 rfl (by kernel_rfl) (aCall (fid := 20) (args := [.slice (some ⟨b296, 0, none⟩) 1 1, .int .i64 (-1)]) (d := 39) hf299 (by kernel_rfl) (by kernel_rfl) callable20 (fold_New.calls_d _ _ ([2] : List Int) (some ⟨b296, 0, none⟩) 1 1 rfl (-1) (hm302.give [0] [.sl (Kd.int .i64) (some ⟨b296, 0, none⟩) 1 ([2] : List Int)] rfl rfl) r295 hr295) ?_)
        rintro _ w304 a305 ⟨p303, rfl, hk307⟩ hf306
        have hm308 := hm302.still hk307.cum.none
        refine go 5 [] [1, 2, 3, 4, 5, 7, 9] [(1, .func (.func 24) #[] #[]), (2, .pointer (some ⟨b245, 0, none⟩)), (3, .int .i64 r34.2), (4, .pointer none), (5, .int .i64 r260.2), (7, .int .i64 r278.2), (9, .int .i64 r295.2)] [] hf306 (by kernel_rfl) trivial fun a309 hf310 => ?_
        refine endL rfl ?_
        have hm311 : Mem [] M w0 [.bx b245 [.slice A246 y36.s.length c247, .slice A248 y36.l.length c249, .slice A250 y36.filled.length c251, .int .i64 y36.left] 80, .sl (Kd.int .i64) A246 c247 y36.s, .ow kTensor 28 A248 c249 y36.l, .ow Kd.bool 4 A250 c251 y36.filled] w304 := hm308.sel [1, 2, 3, 4] _ rfl (by kernel_rfl)
        refine thenN ?_
        refine wp_seq ?_
        obtain ⟨r312, hr312, H0⟩ := ob_split H0
        refine inReg ?_
        refine listOf hf310 rfl (by kernel_rfl) (aLit (cs := [.int .i64 2]) (E := 3) (len := 1) (d := 43) hf310 (by kernel_rfl) (by kernel_rfl) ?_)
        intro b313 w314 a315 hbb313 hx317 hg318 hf316
        have hm311s := hm311.still hg318
        have hm319 : Mem [] M w0 [.sl (Kd.int .i64) (some ⟨b313, 0, none⟩) 1 ([2] : List Int), .bx b245 [.slice A246 y36.s.length c247, .slice A248 y36.l.length c249, .slice A250 y36.filled.length c251, .int .i64 y36.left] 80, .sl (Kd.int .i64) A246 c247 y36.s, .ow kTensor 28 A248 c249 y36.l, .ow Kd.bool 4 A250 c251 y36.filled] w314 := Mem.lit (kd := (Kd.int .i64)) (xs := ([2] : List Int)) hm311 hbb313 hx317 hg318 (Els.one (kd := (Kd.int .i64)) (us := [.int .i64 2]) (x := 2) rfl)
        refine listOf hf316 rfl (by kernel_rfl) (aCall (fid := 20) (args := [.slice (some ⟨b313, 0, none⟩) 1 1, .int .i64 1025]) (d := 44) hf316 (by kernel_rfl) (by kernel_rfl) callable20 (fold_New.calls_d _ _ ([2] : List Int) (some ⟨b313, 0, none⟩) 1 1 rfl 1025 (hm319.give [0] [.sl (Kd.int .i64) (some ⟨b313, 0, none⟩) 1 ([2] : List Int)] rfl rfl) r312 hr312) ?_)
        rintro _ w321 a322 ⟨p320, rfl, hk324⟩ hf323
        have hm325 := hm319.still hk324.cum.none
        refine go 5 [] [1, 2, 3, 4, 5, 7, 9, 11] [(1, .func (.func 24) #[] #[]), (2, .pointer (some ⟨b245, 0, none⟩)), (3, .int .i64 r34.2), (4, .pointer none), (5, .int .i64 r260.2), (7, .int .i64 r278.2), (9, .int .i64 r295.2), (11, .int .i64 r312.2)] [] hf323 (by kernel_rfl) trivial fun a326 hf327 => ?_
        refine endL rfl ?_
        have hm328 : Mem [] M w0 [.bx b245 [.slice A246 y36.s.length c247, .slice A248 y36.l.length c249, .slice A250 y36.filled.length c251, .int .i64 y36.left] 80, .sl (Kd.int .i64) A246 c247 y36.s, .ow kTensor 28 A248 c249 y36.l, .ow Kd.bool 4 A250 c251 y36.filled] w321 := hm325.sel [1, 2, 3, 4] _ rfl (by kernel_rfl)
        refine thenN ?_
        refine wp_seq ?_
        refine wp_seq ?_
        rcases if_split H0 with ⟨c329, H0⟩ | ⟨c329, H0⟩
        · rcases if_split H0 with ⟨c330, H0⟩ | ⟨c330, H0⟩
          · refine reg [.bool false, .bool false] [1, 2, 4, 7, 9, 11, 60] [(1, .func (.func 24) #[] #[]), (2, .pointer (some ⟨b245, 0, none⟩)), (4, .pointer none), (7, .int .i64 r278.2), (9, .int .i64 r295.2), (11, .int .i64 r312.2), (60, .bool true)] [.is (((r34.2 : Int) != 0) = false), .is (((r260.2 : Int) != 0) = false)] hf327 (by kernel_rfl) ⟨(neF c329), (neF c330), trivial⟩ fun a331 hf332 => ?_
            refine thenN ?_
            refine condT hf332 (by kernel_rfl) ?_
            refine wp_seq ?_
            refine reg [] [0] [(0, .bool false)] [] hf332 (by kernel_rfl) trivial fun a333 hf334 => ?_
            have hm335 : Mem [] M w0 [] w321 := hm328.sel [] _ rfl (by kernel_rfl)
            refine thenN ?_
            refine wp_ret ?_
            refine thenR ?_
            have hm336 : Mem [] M w0 [] w321 := hm335.sel [] _ rfl (by kernel_rfl)
            obtain rfl := Option.some.inj H0
            refine ret [] [.bool false] [] hf334 (by kernel_rfl) trivial ?_
            exact ⟨_, rfl, rfl, hm336⟩
          · refine reg [.bool false, .bool true] [1, 2, 4, 7, 9, 11, 60] [(1, .func (.func 24) #[] #[]), (2, .pointer (some ⟨b245, 0, none⟩)), (4, .pointer none), (7, .int .i64 r278.2), (9, .int .i64 r295.2), (11, .int .i64 r312.2), (60, .bool true)] [.is (((r34.2 : Int) != 0) = false), .is (((r260.2 : Int) != 0) = true)] hf327 (by kernel_rfl) ⟨(neF c329), (neT c330), trivial⟩ fun a338 hf339 => ?_
            refine thenN ?_
            refine condT hf339 (by kernel_rfl) ?_
            refine wp_seq ?_
            refine reg [] [0] [(0, .bool false)] [] hf339 (by kernel_rfl) trivial fun a340 hf341 => ?_
            have hm342 : Mem [] M w0 [] w321 := hm328.sel [] _ rfl (by kernel_rfl)
            refine thenN ?_
            refine wp_ret ?_
            refine thenR ?_
            have hm343 : Mem [] M w0 [] w321 := hm342.sel [] _ rfl (by kernel_rfl)
            obtain rfl := Option.some.inj H0
            refine ret [] [.bool false] [] hf341 (by kernel_rfl) trivial ?_
            exact ⟨_, rfl, rfl, hm343⟩
        · refine reg [.bool true] [1, 2, 4, 7, 9, 11, 60] [(1, .func (.func 24) #[] #[]), (2, .pointer (some ⟨b245, 0, none⟩)), (4, .pointer none), (7, .int .i64 r278.2), (9, .int .i64 r295.2), (11, .int .i64 r312.2), (60, .bool true)] [.is (((r34.2 : Int) != 0) = true)] hf327 (by kernel_rfl) ⟨(neT c329), trivial⟩ fun a345 hf346 => ?_
          refine thenN ?_
          refine condT hf346 (by kernel_rfl) ?_
          refine wp_seq ?_
          refine reg [] [0] [(0, .bool false)] [] hf346 (by kernel_rfl) trivial fun a347 hf348 => ?_
          have hm349 : Mem [] M w0 [] w321 := hm328.sel [] _ rfl (by kernel_rfl)
          refine thenN ?_
          refine wp_ret ?_
          refine thenR ?_
          have hm350 : Mem [] M w0 [] w321 := hm349.sel [] _ rfl (by kernel_rfl)
          obtain rfl := Option.some.inj H0
          refine ret [] [.bool false] [] hf348 (by kernel_rfl) trivial ?_
          exact ⟨_, rfl, rfl, hm350⟩
      · refine inReg ?_
        refine listOf hf258 rfl (by kernel_rfl) (aLit (cs := [.int .i64 2]) (E := 3) (len := 1) (d := 28) hf258 (by kernel_rfl) (by kernel_rfl) ?_)
        intro b352 w353 a354 hbb352 hx356 hg357 hf355
        have hm259s := hm259.still hg357
        have hm358 : Mem [] M w0 [.sl (Kd.int .i64) (some ⟨b352, 0, none⟩) 1 ([2] : List Int), .bx b245 [.slice A246 y36.s.length c247, .slice A248 y36.l.length c249, .slice A250 y36.filled.length c251, .int .i64 y36.left] 80, .sl (Kd.int .i64) A246 c247 y36.s, .ow kTensor 28 A248 c249 y36.l, .ow Kd.bool 4 A250 c251 y36.filled] w353 := Mem.lit (kd := (Kd.int .i64)) (xs := ([2] : List Int)) hm259 hbb352 hx356 hg357 (Els.one (kd := (Kd.int .i64)) (us := [.int .i64 2]) (x := 2) rfl)
        refine listOf hf355 rfl (by kernel_rfl) (aCall (fid := 20) (args := [.slice (some ⟨b352, 0, none⟩) 1 1, .int .i64 1]) (d := 29) hf355 (by kernel_rfl) (by kernel_rfl) callable20 (fold_New.calls_s _ _ ([2] : List Int) (some ⟨b352, 0, none⟩) 1 1 rfl 1 (hm358.give [0] [.sl (Kd.int .i64) (some ⟨b352, 0, none⟩) 1 ([2] : List Int)] rfl rfl) r260 y262 c261 hr260) ?_)
        rintro _ w366 a367 ⟨b359, A360, c361, A362, c363, A364, c365, rfl, hk369⟩ hf368
        have hm370 : Mem [] M w0 [.bx b359 [.slice A360 y262.s.length c361, .slice A362 y262.l.length c363, .slice A364 y262.filled.length c365, .int .i64 y262.left] 80, .sl (Kd.int .i64) A360 c361 y262.s, .ow kTensor 28 A362 c363 y262.l, .ow Kd.bool 4 A364 c365 y262.filled, .sl (Kd.int .i64) (some ⟨b352, 0, none⟩) 1 ([2] : List Int), .bx b245 [.slice A246 y36.s.length c247, .slice A248 y36.l.length c249, .slice A250 y36.filled.length c251, .int .i64 y36.left] 80, .sl (Kd.int .i64) A246 c247 y36.s, .ow kTensor 28 A248 c249 y36.l, .ow Kd.bool 4 A250 c251 y36.filled] w366 := hm358.back hk369
        refine go 5 [] [1, 2, 3, 4, 5] [(1, .func (.func 24) #[] #[]), (2, .pointer (some ⟨b245, 0, none⟩)), (3, .int .i64 r34.2), (4, .pointer (some ⟨b359, 0, none⟩)), (5, .int .i64 r260.2)] [] hf368 (by kernel_rfl) trivial fun a371 hf372 => ?_
        refine endL rfl ?_
        have hm373 : Mem [] M w0 [.bx b359 [.slice A360 y262.s.length c361, .slice A362 y262.l.length c363, .slice A364 y262.filled.length c365, .int .i64 y262.left] 80, .sl (Kd.int .i64) A360 c361 y262.s, .ow kTensor 28 A362 c363 y262.l, .ow Kd.bool 4 A364 c365 y262.filled, .bx b245 [.slice A246 y36.s.length c247, .slice A248 y36.l.length c249, .slice A250 y36.filled.length c251, .int .i64 y36.left] 80, .sl (Kd.int .i64) A246 c247 y36.s, .ow kTensor 28 A248 c249 y36.l, .ow Kd.bool 4 A250 c251 y36.filled] w366 := hm370.sel [0, 1, 2, 3, 5, 6, 7, 8] _ rfl (by kernel_rfl)
        refine thenN ?_
        refine wp_seq ?_
        obtain ⟨r374, hr374, H0⟩ := ob_split H0
        refine inReg ?_
        refine listOf hf372 rfl (by kernel_rfl) (aLit (cs := [.int .i64 0]) (E := 3) (len := 1) (d := 33) hf372 (by kernel_rfl) (by kernel_rfl) ?_)
        intro b375 w376 a377 hbb375 hx379 hg380 hf378
        have hm373s := hm373.still hg380
        have hm381 : Mem [] M w0 [.sl (Kd.int .i64) (some ⟨b375, 0, none⟩) 1 ([0] : List Int), .bx b359 [.slice A360 y262.s.length c361, .slice A362 y262.l.length c363, .slice A364 y262.filled.length c365, .int .i64 y262.left] 80, .sl (Kd.int .i64) A360 c361 y262.s, .ow kTensor 28 A362 c363 y262.l, .ow Kd.bool 4 A364 c365 y262.filled, .bx b245 [.slice A246 y36.s.length c247, .slice A248 y36.l.length c249, .slice A250 y36.filled.length c251, .int .i64 y36.left] 80, .sl (Kd.int .i64) A246 c247 y36.s, .ow kTensor 28 A248 c249 y36.l, .ow Kd.bool 4 A250 c251 y36.filled] w376 := Mem.lit (kd := (Kd.int .i64)) (xs := ([0] : List Int)) hm373 hbb375 hx379 hg380 (Els.one (kd := (Kd.int .i64)) (us := [.int .i64 0]) (x := 0) rfl)
        refine listOf hf378 rfl (by kernel_rfl) (aCall (fid := 20) (args := [.slice (some ⟨b375, 0, none⟩) 1 1, .int .i64 1]) (d := 34) hf378 (by kernel_rfl) (by kernel_rfl) callable20 (fold_New.calls_d _ _ ([0] : List Int) (some ⟨b375, 0, none⟩) 1 1 rfl 1 (hm381.give [0] [.sl (Kd.int .i64) (some ⟨b375, 0, none⟩) 1 ([0] : List Int)] rfl rfl) r374 hr374) ?_)
        rintro _ w383 a384 ⟨p382, rfl, hk386⟩ hf385
        have hm387 := hm381.still hk386.cum.none
        refine go 5 [] [1, 2, 3, 4, 5, 7] [(1, .func (.func 24) #[] #[]), (2, .pointer (some ⟨b245, 0, none⟩)), (3, .int .i64 r34.2), (4, .pointer (some ⟨b359, 0, none⟩)), (5, .int .i64 r260.2), (7, .int .i64 r374.2)] [] hf385 (by kernel_rfl) trivial fun a388 hf389 => ?_
        refine endL rfl ?_
        have hm390 : Mem [] M w0 [.bx b359 [.slice A360 y262.s.length c361, .slice A362 y262.l.length c363, .slice A364 y262.filled.length c365, .int .i64 y262.left] 80, .sl (Kd.int .i64) A360 c361 y262.s, .ow kTensor 28 A362 c363 y262.l, .ow Kd.bool 4 A364 c365 y262.filled, .bx b245 [.slice A246 y36.s.length c247, .slice A248 y36.l.length c249, .slice A250 y36.filled.length c251, .int .i64 y36.left] 80, .sl (Kd.int .i64) A246 c247 y36.s, .ow kTensor 28 A248 c249 y36.l, .ow Kd.bool 4 A250 c251 y36.filled] w383 := hm387.sel [1, 2, 3, 4, 5, 6, 7, 8] _ rfl (by kernel_rfl)
        refine thenN ?_
        refine wp_seq ?_
        obtain ⟨r391, hr391, H0⟩ := ob_split H0
        refine inReg ?_
        refine listOf hf389 rfl (by kernel_rfl) (aLit (cs := [.int .i64 2]) (E := 3) (len := 1) (d := 38) hf389 (by kernel_rfl) (by kernel_rfl) ?_)
        intro b392 w393 a394 hbb392 hx396 hg397 hf395
        have hm390s := hm390.still hg397
        have hm398 : Mem [] M w0 [.sl (Kd.int .i64) (some ⟨b392, 0, none⟩) 1 ([2] : List Int), .bx b359 [.slice A360 y262.s.length c361, .slice A362 y262.l.length c363, .slice A364 y262.filled.length c365, .int .i64 y262.left] 80, .sl (Kd.int .i64) A360 c361 y262.s, .ow kTensor 28 A362 c363 y262.l, .ow Kd.bool 4 A364 c365 y262.filled, .bx b245 [.slice A246 y36.s.length c247, .slice A248 y36.l.length c249, .slice A250 y36.filled.length c251, .int .i64 y36.left] 80, .sl (Kd.int .i64) A246 c247 y36.s, .ow kTensor 28 A248 c249 y36.l, .ow Kd.bool 4 A250 c251 y36.filled] w393 := Mem.lit (kd := (Kd.int .i64)) (xs := ([2] : List Int)) hm390 hbb392 hx396 hg397 (Els.one (kd := (Kd.int .i64)) (us := [.int .i64 2]) (x := 2) rfl)
        refine listOf hf395 rfl (by kernel_rfl) (aCall (fid := 20) (args := [.slice (some ⟨b392, 0, none⟩) 1 1, .int .i64 (-1)]) (d := 39) hf395 (by kernel_rfl) (by kernel_rfl) callable20 (fold_New.calls_d _ _ ([2] : List Int) (some ⟨b392, 0, none⟩) 1 1 rfl (-1) (hm398.give [0] [.sl (Kd.int .i64) (some ⟨b392, 0, none⟩) 1 ([2] : List Int)] rfl rfl) r391 hr391) ?_)
        rintro _ w400 a401 ⟨p399, rfl, hk403⟩ hf402
        have hm404 := hm398.still hk403.cum.none
        refine go 5 [] [1, 2, 3, 4, 5, 7, 9] [(1, .func (.func 24) #[] #[]), (2, .pointer (some ⟨b245, 0, none⟩)), (3, .int .i64 r34.2), (4, .pointer (some ⟨b359, 0, none⟩)), (5, .int .i64 r260.2), (7, .int .i64 r374.2), (9, .int .i64 r391.2)] [] hf402 (by kernel_rfl) trivial fun a405 hf406 => ?_
        refine endL rfl ?_
        have hm407 : Mem [] M w0 [.bx b359 [.slice A360 y262.s.length c361, .slice A362 y262.l.length c363, .slice A364 y262.filled.length c365, .int .i64 y262.left] 80, .sl (Kd.int .i64) A360 c361 y262.s, .ow kTensor 28 A362 c363 y262.l, .ow Kd.bool 4 A364 c365 y262.filled, .bx b245 [.slice A246 y36.s.length c247, .slice A248 y36.l.length c249, .slice A250 y36.filled.length c251, .int .i64 y36.left] 80, .sl (Kd.int .i64) A246 c247 y36.s, .ow kTensor 28 A248 c249 y36.l, .ow Kd.bool 4 A250 c251 y36.filled] w400 := hm404.sel [1, 2, 3, 4, 5, 6, 7, 8] _ rfl (by kernel_rfl)
        refine thenN ?_
        refine wp_seq ?_
        obtain ⟨r408, hr408, H0⟩ := ob_split H0
        refine inReg ?_
        refine listOf hf406 rfl (by kernel_rfl) (aLit (cs := [.int .i64 2]) (E := 3) (len := 1) (d := 43) hf406 (by kernel_rfl) (by kernel_rfl) ?_)
        intro b409 w410 a411 hbb409 hx413 hg414 hf412
        have hm407s := hm407.still hg414
        have hm415 : Mem [] M w0 [.sl (Kd.int .i64) (some ⟨b409, 0, none⟩) 1 ([2] : List Int), .bx b359 [.slice A360 y262.s.length c361, .slice A362 y262.l.length c363, .slice A364 y262.filled.length c365, .int .i64 y262.left] 80, .sl (Kd.int .i64) A360 c361 y262.s, .ow kTensor 28 A362 c363 y262.l, .ow Kd.bool 4 A364 c365 y262.filled, .bx b245 [.slice A246 y36.s.length c247, .slice A248 y36.l.length c249, .slice A250 y36.filled.length c251, .int .i64 y36.left] 80, .sl (Kd.int .i64) A246 c247 y36.s, .ow kTensor 28 A248 c249 y36.l, .ow Kd.bool 4 A250 c251 y36.filled] w410 := Mem.lit (kd := (Kd.int .i64)) (xs := ([2] : List Int)) hm407 hbb409 hx413 hg414 (Els.one (kd := (Kd.int .i64)) (us := [.int .i64 2]) (x := 2) rfl)
        refine listOf hf412 rfl (by kernel_rfl) (aCall (fid := 20) (args := [.slice (some ⟨b409, 0, none⟩) 1 1, .int .i64 1025]) (d := 44) hf412 (by kernel_rfl) (by kernel_rfl) callable20 (fold_New.calls_d _ _ ([2] : List Int) (some ⟨b409, 0, none⟩) 1 1 rfl 1025 (hm415.give [0] [.sl (Kd.int .i64) (some ⟨b409, 0, none⟩) 1 ([2] : List Int)] rfl rfl) r408 hr408) ?_)
        rintro _ w417 a418 ⟨p416, rfl, hk420⟩ hf419
        have hm421 := hm415.still hk420.cum.none
        refine go 5 [] [1, 2, 3, 4, 5, 7, 9, 11] [(1, .func (.func 24) #[] #[]), (2, .pointer (some ⟨b245, 0, none⟩)), (3, .int .i64 r34.2), (4, .pointer (some ⟨b359, 0, none⟩)), (5, .int .i64 r260.2), (7, .int .i64 r374.2), (9, .int .i64 r391.2), (11, .int .i64 r408.2)] [] hf419 (by kernel_rfl) trivial fun a422 hf423 => ?_
        refine endL rfl ?_
        have hm424 : Mem [] M w0 [.bx b359 [.slice A360 y262.s.length c361, .slice A362 y262.l.length c363, .slice A364 y262.filled.length c365, .int .i64 y262.left] 80, .sl (Kd.int .i64) A360 c361 y262.s, .ow kTensor 28 A362 c363 y262.l, .ow Kd.bool 4 A364 c365 y262.filled, .bx b245 [.slice A246 y36.s.length c247, .slice A248 y36.l.length c249, .slice A250 y36.filled.length c251, .int .i64 y36.left] 80, .sl (Kd.int .i64) A246 c247 y36.s, .ow kTensor 28 A248 c249 y36.l, .ow Kd.bool 4 A250 c251 y36.filled] w417 := hm421.sel [1, 2, 3, 4, 5, 6, 7, 8] _ rfl (by kernel_rfl)
        refine thenN ?_
        refine wp_seq ?_
        refine wp_seq ?_
        rcases if_split H0 with ⟨c425, H0⟩ | ⟨c425, H0⟩
        · rcases if_split H0 with ⟨c426, H0⟩ | ⟨c426, H0⟩
          · refine reg [.bool false, .bool false] [1, 2, 4, 7, 9, 11, 60] [(1, .func (.func 24) #[] #[]), (2, .pointer (some ⟨b245, 0, none⟩)), (4, .pointer (some ⟨b359, 0, none⟩)), (7, .int .i64 r374.2), (9, .int .i64 r391.2), (11, .int .i64 r408.2), (60, .bool false)] [.is (((r34.2 : Int) != 0) = false), .is (((r260.2 : Int) != 0) = false)] hf423 (by kernel_rfl) ⟨(neF c425), (neF c426), trivial⟩ fun a427 hf428 => ?_
            refine thenN ?_
            refine condF hf428 (by kernel_rfl) ?_
            refine wp_skip ?_
            refine thenN ?_
            refine wp_seq ?_
            obtain ⟨r429, hr429, H0⟩ := ob_split H0
            refine inReg ?_
            refine go 1 [] [1, 2, 4, 7, 9, 11, 62] [(1, .func (.func 24) #[] #[]), (2, .pointer (some ⟨b245, 0, none⟩)), (4, .pointer (some ⟨b359, 0, none⟩)), (7, .int .i64 r374.2), (9, .int .i64 r391.2), (11, .int .i64 r408.2), (62, .pointer (some ⟨b245, 0, none⟩))] [] hf428 (by kernel_rfl) trivial fun a430 hf431 => ?_
            refine listOf hf431 rfl (by kernel_rfl) (aCall (fid := 21) (args := [.pointer (some ⟨b245, 0, none⟩)]) (d := 63) hf431 (by kernel_rfl) (by kernel_rfl) callable21 (fold_Slots_Value.calls _ _ _ y36 b245 A246 y36.s.length c247 rfl A248 y36.l.length c249 rfl A250 y36.filled.length c251 rfl (hm424.giveO [4, 6, 7] [0, 1, 2, 3, 5] [5] [.bx b245 [.slice A246 y36.s.length c247, .slice A248 y36.l.length c249, .slice A250 y36.filled.length c251, .int .i64 y36.left] 80, .ow kTensor 28 A248 c249 y36.l, .ow Kd.bool 4 A250 c251 y36.filled] _ [.sl (Kd.int .i64) A246 c247 y36.s] rfl rfl rfl (by kernel_rfl) rfl) r429 hr429) ?_)
            rintro _ w436 a437 ⟨A432, c433, A434, c435, rfl, hk439⟩ hf438
            have hm440 : Mem [] M w0 [.bx b245 [.slice A246 y36.s.length c247, .slice A248 y36.l.length c249, .slice A250 y36.filled.length c251, .int .i64 y36.left] 80, .ow kTensor 28 A248 c249 y36.l, .ow Kd.bool 4 A250 c251 y36.filled, .ow (Kd.int .i64) 3 A432 c433 r429.1.Shape, .ow Kd.float 44 A434 c435 r429.1.Data, .bx b359 [.slice A360 y262.s.length c361, .slice A362 y262.l.length c363, .slice A364 y262.filled.length c365, .int .i64 y262.left] 80, .sl (Kd.int .i64) A360 c361 y262.s, .ow kTensor 28 A362 c363 y262.l, .ow Kd.bool 4 A364 c365 y262.filled, .sl (Kd.int .i64) A246 c247 y36.s] w436 := hm424.backO [4, 6, 7] [0, 1, 2, 3, 5] _ _ rfl rfl (by kernel_rfl) hk439
            have hm441 : Mem [] M w0 [.bx b245 [.slice A246 y36.s.length c247, .slice A248 y36.l.length c249, .slice A250 y36.filled.length c251, .int .i64 y36.left] 80, .ow kTensor 28 A248 c249 y36.l, .ow Kd.bool 4 A250 c251 y36.filled, .sl (Kd.int .i64) A432 c433 r429.1.Shape, .ow Kd.float 44 A434 c435 r429.1.Data, .bx b359 [.slice A360 y262.s.length c361, .slice A362 y262.l.length c363, .slice A364 y262.filled.length c365, .int .i64 y262.left] 80, .sl (Kd.int .i64) A360 c361 y262.s, .ow kTensor 28 A362 c363 y262.l, .ow Kd.bool 4 A364 c365 y262.filled, .sl (Kd.int .i64) A246 c247 y36.s] w436 := hm440.seal 3 _ rfl rfl
            have hm442 : Mem [] M w0 [.bx b245 [.slice A246 y36.s.length c247, .slice A248 y36.l.length c249, .slice A250 y36.filled.length c251, .int .i64 y36.left] 80, .ow kTensor 28 A248 c249 y36.l, .ow Kd.bool 4 A250 c251 y36.filled, .sl (Kd.int .i64) A432 c433 r429.1.Shape, .sl Kd.float A434 c435 r429.1.Data, .bx b359 [.slice A360 y262.s.length c361, .slice A362 y262.l.length c363, .slice A364 y262.filled.length c365, .int .i64 y262.left] 80, .sl (Kd.int .i64) A360 c361 y262.s, .ow kTensor 28 A362 c363 y262.l, .ow Kd.bool 4 A364 c365 y262.filled, .sl (Kd.int .i64) A246 c247 y36.s] w436 := hm441.seal 4 _ rfl rfl
            refine go 3 [] [1, 2, 4, 7, 9, 11, 64, 65] [(1, .func (.func 24) #[] #[]), (2, .pointer (some ⟨b245, 0, none⟩)), (4, .pointer (some ⟨b359, 0, none⟩)), (7, .int .i64 r374.2), (9, .int .i64 r391.2), (11, .int .i64 r408.2), (64, .agg #[.slice A432 r429.1.Shape.length c433, .slice A434 r429.1.Data.length c435]), (65, .int .i64 r429.2)] [] hf438 (by kernel_rfl) trivial fun a443 hf444 => ?_
            refine listOf hf444 rfl (by kernel_rfl) (aNew (cs := [.slice none 0 0, .slice none 0 0]) (T := 28) (d := 12) hf444 (by kernel_rfl) (by kernel_rfl) ?_)
            intro b445 w446 a447 hbb445 hx449 hg450 hf448
            have hm451 : Mem [] M w0 [.bx b445 [.slice none 0 0, .slice none 0 0] 28, .bx b245 [.slice A246 y36.s.length c247, .slice A248 y36.l.length c249, .slice A250 y36.filled.length c251, .int .i64 y36.left] 80, .ow kTensor 28 A248 c249 y36.l, .ow Kd.bool 4 A250 c251 y36.filled, .sl (Kd.int .i64) A432 c433 r429.1.Shape, .sl Kd.float A434 c435 r429.1.Data, .bx b359 [.slice A360 y262.s.length c361, .slice A362 y262.l.length c363, .slice A364 y262.filled.length c365, .int .i64 y262.left] 80, .sl (Kd.int .i64) A360 c361 y262.s, .ow kTensor 28 A362 c363 y262.l, .ow Kd.bool 4 A364 c365 y262.filled, .sl (Kd.int .i64) A246 c247 y36.s] w446 := hm442.box hbb445 hx449 hg450
            refine listOf hf448 rfl (by kernel_rfl) (aStoreB (b := b445) (j := 0) (T := 28) (cs := [.slice none 0 0, .slice none 0 0]) (us := [.slice A432 r429.1.Shape.length c433, .slice A434 r429.1.Data.length c435]) (cs' := [.slice A432 r429.1.Shape.length c433, .slice A434 r429.1.Data.length c435]) hf448 (by kernel_rfl) (hm451.bxAt 0 rfl) (by kernel_rfl) (by kernel_rfl) (by kernel_rfl) ?_)
            intro w452 hx453 hg454
            have hm455 : Mem [] M w0 [.bx b445 [.slice A432 r429.1.Shape.length c433, .slice A434 r429.1.Data.length c435] 28, .bx b245 [.slice A246 y36.s.length c247, .slice A248 y36.l.length c249, .slice A250 y36.filled.length c251, .int .i64 y36.left] 80, .ow kTensor 28 A248 c249 y36.l, .ow Kd.bool 4 A250 c251 y36.filled, .sl (Kd.int .i64) A432 c433 r429.1.Shape, .sl Kd.float A434 c435 r429.1.Data, .bx b359 [.slice A360 y262.s.length c361, .slice A362 y262.l.length c363, .slice A364 y262.filled.length c365, .int .i64 y262.left] 80, .sl (Kd.int .i64) A360 c361 y262.s, .ow kTensor 28 A362 c363 y262.l, .ow Kd.bool 4 A364 c365 y262.filled, .sl (Kd.int .i64) A246 c247 y36.s] w452 := hm451.setBox 0 _ rfl rfl hx453 hg454
            refine go 1 [] [1, 2, 4, 7, 9, 11, 12, 13] [(1, .func (.func 24) #[] #[]), (2, .pointer (some ⟨b245, 0, none⟩)), (4, .pointer (some ⟨b359, 0, none⟩)), (7, .int .i64 r374.2), (9, .int .i64 r391.2), (11, .int .i64 r408.2), (12, .pointer (some ⟨b445, 0, none⟩)), (13, .int .i64 r429.2)] [] hf448 (by kernel_rfl) trivial fun a456 hf457 => ?_
            refine endL rfl ?_
            refine thenN ?_
            refine wp_seq ?_
            obtain ⟨r458, hr458, H0⟩ := ob_split H0
            obtain ⟨r459, hr459, H0⟩ := ob_split H0
            refine inReg ?_
            refine go 2 [] [1, 2, 4, 7, 9, 11, 12, 13, 66, 67] [(1, .func (.func 24) #[] #[]), (2, .pointer (some ⟨b245, 0, none⟩)), (4, .pointer (some ⟨b359, 0, none⟩)), (7, .int .i64 r374.2), (9, .int .i64 r391.2), (11, .int .i64 r408.2), (12, .pointer (some ⟨b445, 0, none⟩)), (13, .int .i64 r429.2), (66, .pointer (some ⟨b359, 0, none⟩)), (67, .func (.func 24) #[] #[])] [] hf457 (by kernel_rfl) trivial fun a460 hf461 => ?_
            refine listOf hf461 rfl (by kernel_rfl) (aLit (cs := [.float .f64 4607182418800017408, .float .f64 4611686018427387904]) (E := 44) (len := 2) (d := 68) hf461 (by kernel_rfl) (by kernel_rfl) ?_)
            intro b462 w463 a464 hbb462 hx466 hg467 hf465
            have hm455s := hm455.still hg467
            have hm468 : Mem [] M w0 [.sl Kd.float (some ⟨b462, 0, none⟩) 2 ([4607182418800017408, 4611686018427387904] : List Nat), .bx b445 [.slice A432 r429.1.Shape.length c433, .slice A434 r429.1.Data.length c435] 28, .bx b245 [.slice A246 y36.s.length c247, .slice A248 y36.l.length c249, .slice A250 y36.filled.length c251, .int .i64 y36.left] 80, .ow kTensor 28 A248 c249 y36.l, .ow Kd.bool 4 A250 c251 y36.filled, .sl (Kd.int .i64) A432 c433 r429.1.Shape, .sl Kd.float A434 c435 r429.1.Data, .bx b359 [.slice A360 y262.s.length c361, .slice A362 y262.l.length c363, .slice A364 y262.filled.length c365, .int .i64 y262.left] 80, .sl (Kd.int .i64) A360 c361 y262.s, .ow kTensor 28 A362 c363 y262.l, .ow Kd.bool 4 A364 c365 y262.filled, .sl (Kd.int .i64) A246 c247 y36.s] w463 := Mem.lit (kd := Kd.float) (xs := ([4607182418800017408, 4611686018427387904] : List Nat)) hm455 hbb462 hx466 hg467 (Els.append (Els.one (kd := Kd.float) (us := [.float .f64 4607182418800017408]) (x := 4607182418800017408) ⟨_, rfl, (FR.lit (by kernel_rfl) (by kernel_rfl))⟩) (Els.one (kd := Kd.float) (us := [.float .f64 4611686018427387904]) (x := 4611686018427387904) ⟨_, rfl, (FR.lit (by kernel_rfl) (by kernel_rfl))⟩))
            refine listOf hf465 rfl (by kernel_rfl) (aCall (fid := 24) (args := [.slice (some ⟨b462, 0, none⟩) 2 2]) (d := 69) hf465 (by kernel_rfl) (by kernel_rfl) callable24 (law8_FoldKnown_1.calls _ _ ([4607182418800017408, 4611686018427387904] : List Nat) (some ⟨b462, 0, none⟩) 2 2 rfl (hm468.give [0] [.sl Kd.float (some ⟨b462, 0, none⟩) 2 ([4607182418800017408, 4611686018427387904] : List Nat)] rfl rfl) r458 hr458) ?_)
            rintro _ w473 a474 ⟨A469, c470, A471, c472, rfl, hk476⟩ hf475
            have hm477 : Mem [] M w0 [.ow (Kd.int .i64) 3 A469 c470 r458.Shape, .sl Kd.float A471 c472 r458.Data, .sl Kd.float (some ⟨b462, 0, none⟩) 2 ([4607182418800017408, 4611686018427387904] : List Nat), .bx b445 [.slice A432 r429.1.Shape.length c433, .slice A434 r429.1.Data.length c435] 28, .bx b245 [.slice A246 y36.s.length c247, .slice A248 y36.l.length c249, .slice A250 y36.filled.length c251, .int .i64 y36.left] 80, .ow kTensor 28 A248 c249 y36.l, .ow Kd.bool 4 A250 c251 y36.filled, .sl (Kd.int .i64) A432 c433 r429.1.Shape, .sl Kd.float A434 c435 r429.1.Data, .bx b359 [.slice A360 y262.s.length c361, .slice A362 y262.l.length c363, .slice A364 y262.filled.length c365, .int .i64 y262.left] 80, .sl (Kd.int .i64) A360 c361 y262.s, .ow kTensor 28 A362 c363 y262.l, .ow Kd.bool 4 A364 c365 y262.filled, .sl (Kd.int .i64) A246 c247 y36.s] w473 := hm468.back hk476
            have hm478 : Mem [] M w0 [.sl (Kd.int .i64) A469 c470 r458.Shape, .sl Kd.float A471 c472 r458.Data, .sl Kd.float (some ⟨b462, 0, none⟩) 2 ([4607182418800017408, 4611686018427387904] : List Nat), .bx b445 [.slice A432 r429.1.Shape.length c433, .slice A434 r429.1.Data.length c435] 28, .bx b245 [.slice A246 y36.s.length c247, .slice A248 y36.l.length c249, .slice A250 y36.filled.length c251, .int .i64 y36.left] 80, .ow kTensor 28 A248 c249 y36.l, .ow Kd.bool 4 A250 c251 y36.filled, .sl (Kd.int .i64) A432 c433 r429.1.Shape, .sl Kd.float A434 c435 r429.1.Data, .bx b359 [.slice A360 y262.s.length c361, .slice A362 y262.l.length c363, .slice A364 y262.filled.length c365, .int .i64 y262.left] 80, .sl (Kd.int .i64) A360 c361 y262.s, .ow kTensor 28 A362 c363 y262.l, .ow Kd.bool 4 A364 c365 y262.filled, .sl (Kd.int .i64) A246 c247 y36.s] w473 := hm477.seal 0 _ rfl rfl
            refine listOf hf475 rfl (by kernel_rfl) (aCall (fid := 23) (args := [.pointer (some ⟨b359, 0, none⟩), .int .i64 1, .agg #[.slice A469 r458.Shape.length c470, .slice A471 r458.Data.length c472]]) (d := 70) hf475 (by kernel_rfl) (by kernel_rfl) callable23 (fold_Slots_Put.calls _ _ _ y262 b359 A360 y262.s.length c361 rfl A362 y262.l.length c363 rfl A364 y262.filled.length c365 rfl 1 r458 A469 r458.Shape.length c470 rfl A471 r458.Data.length c472 rfl (hm478.giveO [9, 11, 12] [0, 1, 2, 3, 4, 5, 6, 7, 8, 10, 13] [10, 0, 1] [.bx b359 [.slice A360 y262.s.length c361, .slice A362 y262.l.length c363, .slice A364 y262.filled.length c365, .int .i64 y262.left] 80, .ow kTensor 28 A362 c363 y262.l, .ow Kd.bool 4 A364 c365 y262.filled] _ [.sl (Kd.int .i64) A360 c361 y262.s, .sl (Kd.int .i64) A469 c470 r458.Shape, .sl Kd.float A471 c472 r458.Data] rfl rfl rfl (by kernel_rfl) rfl) r459 hr459) ?_)
            rintro _ w483 a484 ⟨A479, c480, A481, c482, rfl, hk486⟩ hf485
            have hm487 : Mem [] M w0 [.bx b359 [.slice A360 y262.s.length c361, .slice A479 r459.1.length c480, .slice A481 r459.2.1.length c482, .int .i64 r459.2.2.1] 80, .ow kTensor 28 A479 c480 r459.1, .ow Kd.bool 4 A481 c482 r459.2.1, .sl (Kd.int .i64) A469 c470 r458.Shape, .sl Kd.float A471 c472 r458.Data, .sl Kd.float (some ⟨b462, 0, none⟩) 2 ([4607182418800017408, 4611686018427387904] : List Nat), .bx b445 [.slice A432 r429.1.Shape.length c433, .slice A434 r429.1.Data.length c435] 28, .bx b245 [.slice A246 y36.s.length c247, .slice A248 y36.l.length c249, .slice A250 y36.filled.length c251, .int .i64 y36.left] 80, .ow kTensor 28 A248 c249 y36.l, .ow Kd.bool 4 A250 c251 y36.filled, .sl (Kd.int .i64) A432 c433 r429.1.Shape, .sl Kd.float A434 c435 r429.1.Data, .sl (Kd.int .i64) A360 c361 y262.s, .sl (Kd.int .i64) A246 c247 y36.s] w483 := hm478.backO [9, 11, 12] [0, 1, 2, 3, 4, 5, 6, 7, 8, 10, 13] _ _ rfl rfl (by kernel_rfl) hk486
            refine go 1 [] [1, 2, 4, 7, 9, 11, 12, 13, 14] [(1, .func (.func 24) #[] #[]), (2, .pointer (some ⟨b245, 0, none⟩)), (4, .pointer (some ⟨b359, 0, none⟩)), (7, .int .i64 r374.2), (9, .int .i64 r391.2), (11, .int .i64 r408.2), (12, .pointer (some ⟨b445, 0, none⟩)), (13, .int .i64 r429.2), (14, .int .i64 r459.2.2.2)] [] hf485 (by kernel_rfl) trivial fun a488 hf489 => ?_
            refine endL rfl ?_
            have hm490 : Mem [] M w0 [.bx b359 [.slice A360 y262.s.length c361, .slice A479 r459.1.length c480, .slice A481 r459.2.1.length c482, .int .i64 r459.2.2.1] 80, .ow kTensor 28 A479 c480 r459.1, .ow Kd.bool 4 A481 c482 r459.2.1, .bx b445 [.slice A432 r429.1.Shape.length c433, .slice A434 r429.1.Data.length c435] 28, .bx b245 [.slice A246 y36.s.length c247, .slice A248 y36.l.length c249, .slice A250 y36.filled.length c251, .int .i64 y36.left] 80, .ow kTensor 28 A248 c249 y36.l, .ow Kd.bool 4 A250 c251 y36.filled, .sl (Kd.int .i64) A432 c433 r429.1.Shape, .sl Kd.float A434 c435 r429.1.Data, .sl (Kd.int .i64) A360 c361 y262.s, .sl (Kd.int .i64) A246 c247 y36.s] w483 := hm487.sel [0, 1, 2, 6, 7, 8, 9, 10, 11, 12, 13] _ rfl (by kernel_rfl)
            refine thenN ?_
            refine wp_seq ?_
            obtain ⟨r491, hr491, H0⟩ := ob_split H0
            obtain ⟨r492, hr492, H0⟩ := ob_split H0
            refine inReg ?_
            refine go 2 [] [1, 2, 4, 7, 9, 11, 12, 13, 14, 71, 72] [(1, .func (.func 24) #[] #[]), (2, .pointer (some ⟨b245, 0, none⟩)), (4, .pointer (some ⟨b359, 0, none⟩)), (7, .int .i64 r374.2), (9, .int .i64 r391.2), (11, .int .i64 r408.2), (12, .pointer (some ⟨b445, 0, none⟩)), (13, .int .i64 r429.2), (14, .int .i64 r459.2.2.2), (71, .pointer (some ⟨b359, 0, none⟩)), (72, .func (.func 24) #[] #[])] [] hf489 (by kernel_rfl) trivial fun a493 hf494 => ?_
            refine listOf hf494 rfl (by kernel_rfl) (aLit (cs := [.float .f64 4607182418800017408]) (E := 44) (len := 1) (d := 73) hf494 (by kernel_rfl) (by kernel_rfl) ?_)
            intro b495 w496 a497 hbb495 hx499 hg500 hf498
            have hm490s := hm490.still hg500
            have hm501 : Mem [] M w0 [.sl Kd.float (some ⟨b495, 0, none⟩) 1 ([4607182418800017408] : List Nat), .bx b359 [.slice A360 y262.s.length c361, .slice A479 r459.1.length c480, .slice A481 r459.2.1.length c482, .int .i64 r459.2.2.1] 80, .ow kTensor 28 A479 c480 r459.1, .ow Kd.bool 4 A481 c482 r459.2.1, .bx b445 [.slice A432 r429.1.Shape.length c433, .slice A434 r429.1.Data.length c435] 28, .bx b245 [.slice A246 y36.s.length c247, .slice A248 y36.l.length c249, .slice A250 y36.filled.length c251, .int .i64 y36.left] 80, .ow kTensor 28 A248 c249 y36.l, .ow Kd.bool 4 A250 c251 y36.filled, .sl (Kd.int .i64) A432 c433 r429.1.Shape, .sl Kd.float A434 c435 r429.1.Data, .sl (Kd.int .i64) A360 c361 y262.s, .sl (Kd.int .i64) A246 c247 y36.s] w496 := Mem.lit (kd := Kd.float) (xs := ([4607182418800017408] : List Nat)) hm490 hbb495 hx499 hg500 (Els.one (kd := Kd.float) (us := [.float .f64 4607182418800017408]) (x := 4607182418800017408) ⟨_, rfl, (FR.lit (by kernel_rfl) (by kernel_rfl))⟩)
            refine listOf hf498 rfl (by kernel_rfl) (aCall (fid := 24) (args := [.slice (some ⟨b495, 0, none⟩) 1 1]) (d := 74) hf498 (by kernel_rfl) (by kernel_rfl) callable24 (law8_FoldKnown_1.calls _ _ ([4607182418800017408] : List Nat) (some ⟨b495, 0, none⟩) 1 1 rfl (hm501.give [0] [.sl Kd.float (some ⟨b495, 0, none⟩) 1 ([4607182418800017408] : List Nat)] rfl rfl) r491 hr491) ?_)
            rintro _ w506 a507 ⟨A502, c503, A504, c505, rfl, hk509⟩ hf508
            have hm510 : Mem [] M w0 [.ow (Kd.int .i64) 3 A502 c503 r491.Shape, .sl Kd.float A504 c505 r491.Data, .sl Kd.float (some ⟨b495, 0, none⟩) 1 ([4607182418800017408] : List Nat), .bx b359 [.slice A360 y262.s.length c361, .slice A479 r459.1.length c480, .slice A481 r459.2.1.length c482, .int .i64 r459.2.2.1] 80, .ow kTensor 28 A479 c480 r459.1, .ow Kd.bool 4 A481 c482 r459.2.1, .bx b445 [.slice A432 r429.1.Shape.length c433, .slice A434 r429.1.Data.length c435] 28, .bx b245 [.slice A246 y36.s.length c247, .slice A248 y36.l.length c249, .slice A250 y36.filled.length c251, .int .i64 y36.left] 80, .ow kTensor 28 A248 c249 y36.l, .ow Kd.bool 4 A250 c251 y36.filled, .sl (Kd.int .i64) A432 c433 r429.1.Shape, .sl Kd.float A434 c435 r429.1.Data, .sl (Kd.int .i64) A360 c361 y262.s, .sl (Kd.int .i64) A246 c247 y36.s] w506 := hm501.back hk509
            have hm511 : Mem [] M w0 [.sl (Kd.int .i64) A502 c503 r491.Shape, .sl Kd.float A504 c505 r491.Data, .sl Kd.float (some ⟨b495, 0, none⟩) 1 ([4607182418800017408] : List Nat), .bx b359 [.slice A360 y262.s.length c361, .slice A479 r459.1.length c480, .slice A481 r459.2.1.length c482, .int .i64 r459.2.2.1] 80, .ow kTensor 28 A479 c480 r459.1, .ow Kd.bool 4 A481 c482 r459.2.1, .bx b445 [.slice A432 r429.1.Shape.length c433, .slice A434 r429.1.Data.length c435] 28, .bx b245 [.slice A246 y36.s.length c247, .slice A248 y36.l.length c249, .slice A250 y36.filled.length c251, .int .i64 y36.left] 80, .ow kTensor 28 A248 c249 y36.l, .ow Kd.bool 4 A250 c251 y36.filled, .sl (Kd.int .i64) A432 c433 r429.1.Shape, .sl Kd.float A434 c435 r429.1.Data, .sl (Kd.int .i64) A360 c361 y262.s, .sl (Kd.int .i64) A246 c247 y36.s] w506 := hm510.seal 0 _ rfl rfl
            refine listOf hf508 rfl (by kernel_rfl) (aCall (fid := 23) (args := [.pointer (some ⟨b359, 0, none⟩), .int .i64 0, .agg #[.slice A502 r491.Shape.length c503, .slice A504 r491.Data.length c505]]) (d := 75) hf508 (by kernel_rfl) (by kernel_rfl) callable23 (fold_Slots_Put.calls _ _ _ (⟨y262.s, r459.1, r459.2.1, r459.2.2.1⟩ : Slots) b359 A360 y262.s.length c361 rfl A479 r459.1.length c480 rfl A481 r459.2.1.length c482 rfl 0 r491 A502 r491.Shape.length c503 rfl A504 r491.Data.length c505 rfl (hm511.giveO [3, 4, 5] [0, 1, 2, 6, 7, 8, 9, 10, 11, 12, 13] [12, 0, 1] [.bx b359 [.slice A360 y262.s.length c361, .slice A479 r459.1.length c480, .slice A481 r459.2.1.length c482, .int .i64 r459.2.2.1] 80, .ow kTensor 28 A479 c480 r459.1, .ow Kd.bool 4 A481 c482 r459.2.1] _ [.sl (Kd.int .i64) A360 c361 y262.s, .sl (Kd.int .i64) A502 c503 r491.Shape, .sl Kd.float A504 c505 r491.Data] rfl rfl rfl (by kernel_rfl) rfl) r492 hr492) ?_)
            rintro _ w516 a517 ⟨A512, c513, A514, c515, rfl, hk519⟩ hf518
            have hm520 : Mem [] M w0 [.bx b359 [.slice A360 y262.s.length c361, .slice A512 r492.1.length c513, .slice A514 r492.2.1.length c515, .int .i64 r492.2.2.1] 80, .ow kTensor 28 A512 c513 r492.1, .ow Kd.bool 4 A514 c515 r492.2.1, .sl (Kd.int .i64) A502 c503 r491.Shape, .sl Kd.float A504 c505 r491.Data, .sl Kd.float (some ⟨b495, 0, none⟩) 1 ([4607182418800017408] : List Nat), .bx b445 [.slice A432 r429.1.Shape.length c433, .slice A434 r429.1.Data.length c435] 28, .bx b245 [.slice A246 y36.s.length c247, .slice A248 y36.l.length c249, .slice A250 y36.filled.length c251, .int .i64 y36.left] 80, .ow kTensor 28 A248 c249 y36.l, .ow Kd.bool 4 A250 c251 y36.filled, .sl (Kd.int .i64) A432 c433 r429.1.Shape, .sl Kd.float A434 c435 r429.1.Data, .sl (Kd.int .i64) A360 c361 y262.s, .sl (Kd.int .i64) A246 c247 y36.s] w516 := hm511.backO [3, 4, 5] [0, 1, 2, 6, 7, 8, 9, 10, 11, 12, 13] _ _ rfl rfl (by kernel_rfl) hk519
            refine go 1 [] [1, 2, 4, 7, 9, 11, 12, 13, 14, 15] [(1, .func (.func 24) #[] #[]), (2, .pointer (some ⟨b245, 0, none⟩)), (4, .pointer (some ⟨b359, 0, none⟩)), (7, .int .i64 r374.2), (9, .int .i64 r391.2), (11, .int .i64 r408.2), (12, .pointer (some ⟨b445, 0, none⟩)), (13, .int .i64 r429.2), (14, .int .i64 r459.2.2.2), (15, .int .i64 r492.2.2.2)] [] hf518 (by kernel_rfl) trivial fun a521 hf522 => ?_
            refine endL rfl ?_
            have hm523 : Mem [] M w0 [.bx b359 [.slice A360 y262.s.length c361, .slice A512 r492.1.length c513, .slice A514 r492.2.1.length c515, .int .i64 r492.2.2.1] 80, .ow kTensor 28 A512 c513 r492.1, .ow Kd.bool 4 A514 c515 r492.2.1, .bx b445 [.slice A432 r429.1.Shape.length c433, .slice A434 r429.1.Data.length c435] 28, .bx b245 [.slice A246 y36.s.length c247, .slice A248 y36.l.length c249, .slice A250 y36.filled.length c251, .int .i64 y36.left] 80, .ow kTensor 28 A248 c249 y36.l, .ow Kd.bool 4 A250 c251 y36.filled, .sl (Kd.int .i64) A432 c433 r429.1.Shape, .sl Kd.float A434 c435 r429.1.Data, .sl (Kd.int .i64) A360 c361 y262.s, .sl (Kd.int .i64) A246 c247 y36.s] w516 := hm520.sel [0, 1, 2, 6, 7, 8, 9, 10, 11, 12, 13] _ rfl (by kernel_rfl)
            refine thenN ?_
            refine wp_seq ?_
            obtain ⟨r524, hr524, H0⟩ := ob_split H0
            obtain ⟨r525, hr525, H0⟩ := ob_split H0
            refine inReg ?_
            refine go 2 [] [1, 2, 4, 7, 9, 11, 12, 13, 14, 15, 76, 77] [(1, .func (.func 24) #[] #[]), (2, .pointer (some ⟨b245, 0, none⟩)), (4, .pointer (some ⟨b359, 0, none⟩)), (7, .int .i64 r374.2), (9, .int .i64 r391.2), (11, .int .i64 r408.2), (12, .pointer (some ⟨b445, 0, none⟩)), (13, .int .i64 r429.2), (14, .int .i64 r459.2.2.2), (15, .int .i64 r492.2.2.2), (76, .pointer (some ⟨b359, 0, none⟩)), (77, .func (.func 24) #[] #[])] [] hf522 (by kernel_rfl) trivial fun a526 hf527 => ?_
            refine listOf hf527 rfl (by kernel_rfl) (aLit (cs := [.float .f64 4607182418800017408, .float .f64 4611686018427387904]) (E := 44) (len := 2) (d := 78) hf527 (by kernel_rfl) (by kernel_rfl) ?_)
            intro b528 w529 a530 hbb528 hx532 hg533 hf531
            have hm523s := hm523.still hg533
            have hm534 : Mem [] M w0 [.sl Kd.float (some ⟨b528, 0, none⟩) 2 ([4607182418800017408, 4611686018427387904] : List Nat), .bx b359 [.slice A360 y262.s.length c361, .slice A512 r492.1.length c513, .slice A514 r492.2.1.length c515, .int .i64 r492.2.2.1] 80, .ow kTensor 28 A512 c513 r492.1, .ow Kd.bool 4 A514 c515 r492.2.1, .bx b445 [.slice A432 r429.1.Shape.length c433, .slice A434 r429.1.Data.length c435] 28, .bx b245 [.slice A246 y36.s.length c247, .slice A248 y36.l.length c249, .slice A250 y36.filled.length c251, .int .i64 y36.left] 80, .ow kTensor 28 A248 c249 y36.l, .ow Kd.bool 4 A250 c251 y36.filled, .sl (Kd.int .i64) A432 c433 r429.1.Shape, .sl Kd.float A434 c435 r429.1.Data, .sl (Kd.int .i64) A360 c361 y262.s, .sl (Kd.int .i64) A246 c247 y36.s] w529 := Mem.lit (kd := Kd.float) (xs := ([4607182418800017408, 4611686018427387904] : List Nat)) hm523 hbb528 hx532 hg533 (Els.append (Els.one (kd := Kd.float) (us := [.float .f64 4607182418800017408]) (x := 4607182418800017408) ⟨_, rfl, (FR.lit (by kernel_rfl) (by kernel_rfl))⟩) (Els.one (kd := Kd.float) (us := [.float .f64 4611686018427387904]) (x := 4611686018427387904) ⟨_, rfl, (FR.lit (by kernel_rfl) (by kernel_rfl))⟩))
            refine listOf hf531 rfl (by kernel_rfl) (aCall (fid := 24) (args := [.slice (some ⟨b528, 0, none⟩) 2 2]) (d := 79) hf531 (by kernel_rfl) (by kernel_rfl) callable24 (law8_FoldKnown_1.calls _ _ ([4607182418800017408, 4611686018427387904] : List Nat) (some ⟨b528, 0, none⟩) 2 2 rfl (hm534.give [0] [.sl Kd.float (some ⟨b528, 0, none⟩) 2 ([4607182418800017408, 4611686018427387904] : List Nat)] rfl rfl) r524 hr524) ?_)
            rintro _ w539 a540 ⟨A535, c536, A537, c538, rfl, hk542⟩ hf541
            have hm543 : Mem [] M w0 [.ow (Kd.int .i64) 3 A535 c536 r524.Shape, .sl Kd.float A537 c538 r524.Data, .sl Kd.float (some ⟨b528, 0, none⟩) 2 ([4607182418800017408, 4611686018427387904] : List Nat), .bx b359 [.slice A360 y262.s.length c361, .slice A512 r492.1.length c513, .slice A514 r492.2.1.length c515, .int .i64 r492.2.2.1] 80, .ow kTensor 28 A512 c513 r492.1, .ow Kd.bool 4 A514 c515 r492.2.1, .bx b445 [.slice A432 r429.1.Shape.length c433, .slice A434 r429.1.Data.length c435] 28, .bx b245 [.slice A246 y36.s.length c247, .slice A248 y36.l.length c249, .slice A250 y36.filled.length c251, .int .i64 y36.left] 80, .ow kTensor 28 A248 c249 y36.l, .ow Kd.bool 4 A250 c251 y36.filled, .sl (Kd.int .i64) A432 c433 r429.1.Shape, .sl Kd.float A434 c435 r429.1.Data, .sl (Kd.int .i64) A360 c361 y262.s, .sl (Kd.int .i64) A246 c247 y36.s] w539 := hm534.back hk542
            have hm544 : Mem [] M w0 [.sl (Kd.int .i64) A535 c536 r524.Shape, .sl Kd.float A537 c538 r524.Data, .sl Kd.float (some ⟨b528, 0, none⟩) 2 ([4607182418800017408, 4611686018427387904] : List Nat), .bx b359 [.slice A360 y262.s.length c361, .slice A512 r492.1.length c513, .slice A514 r492.2.1.length c515, .int .i64 r492.2.2.1] 80, .ow kTensor 28 A512 c513 r492.1, .ow Kd.bool 4 A514 c515 r492.2.1, .bx b445 [.slice A432 r429.1.Shape.length c433, .slice A434 r429.1.Data.length c435] 28, .bx b245 [.slice A246 y36.s.length c247, .slice A248 y36.l.length c249, .slice A250 y36.filled.length c251, .int .i64 y36.left] 80, .ow kTensor 28 A248 c249 y36.l, .ow Kd.bool 4 A250 c251 y36.filled, .sl (Kd.int .i64) A432 c433 r429.1.Shape, .sl Kd.float A434 c435 r429.1.Data, .sl (Kd.int .i64) A360 c361 y262.s, .sl (Kd.int .i64) A246 c247 y36.s] w539 := hm543.seal 0 _ rfl rfl
            refine listOf hf541 rfl (by kernel_rfl) (aCall (fid := 23) (args := [.pointer (some ⟨b359, 0, none⟩), .int .i64 0, .agg #[.slice A535 r524.Shape.length c536, .slice A537 r524.Data.length c538]]) (d := 80) hf541 (by kernel_rfl) (by kernel_rfl) callable23 (fold_Slots_Put.calls _ _ _ (⟨y262.s, r492.1, r492.2.1, r492.2.2.1⟩ : Slots) b359 A360 y262.s.length c361 rfl A512 r492.1.length c513 rfl A514 r492.2.1.length c515 rfl 0 r524 A535 r524.Shape.length c536 rfl A537 r524.Data.length c538 rfl (hm544.giveO [3, 4, 5] [0, 1, 2, 6, 7, 8, 9, 10, 11, 12, 13] [12, 0, 1] [.bx b359 [.slice A360 y262.s.length c361, .slice A512 r492.1.length c513, .slice A514 r492.2.1.length c515, .int .i64 r492.2.2.1] 80, .ow kTensor 28 A512 c513 r492.1, .ow Kd.bool 4 A514 c515 r492.2.1] _ [.sl (Kd.int .i64) A360 c361 y262.s, .sl (Kd.int .i64) A535 c536 r524.Shape, .sl Kd.float A537 c538 r524.Data] rfl rfl rfl (by kernel_rfl) rfl) r525 hr525) ?_)
            rintro _ w549 a550 ⟨A545, c546, A547, c548, rfl, hk552⟩ hf551
            have hm553 : Mem [] M w0 [.bx b359 [.slice A360 y262.s.length c361, .slice A545 r525.1.length c546, .slice A547 r525.2.1.length c548, .int .i64 r525.2.2.1] 80, .ow kTensor 28 A545 c546 r525.1, .ow Kd.bool 4 A547 c548 r525.2.1, .sl (Kd.int .i64) A535 c536 r524.Shape, .sl Kd.float A537 c538 r524.Data, .sl Kd.float (some ⟨b528, 0, none⟩) 2 ([4607182418800017408, 4611686018427387904] : List Nat), .bx b445 [.slice A432 r429.1.Shape.length c433, .slice A434 r429.1.Data.length c435] 28, .bx b245 [.slice A246 y36.s.length c247, .slice A248 y36.l.length c249, .slice A250 y36.filled.length c251, .int .i64 y36.left] 80, .ow kTensor 28 A248 c249 y36.l, .ow Kd.bool 4 A250 c251 y36.filled, .sl (Kd.int .i64) A432 c433 r429.1.Shape, .sl Kd.float A434 c435 r429.1.Data, .sl (Kd.int .i64) A360 c361 y262.s, .sl (Kd.int .i64) A246 c247 y36.s] w549 := hm544.backO [3, 4, 5] [0, 1, 2, 6, 7, 8, 9, 10, 11, 12, 13] _ _ rfl rfl (by kernel_rfl) hk552
            refine go 1 [] [1, 2, 4, 7, 9, 11, 12, 13, 14, 15, 16] [(1, .func (.func 24) #[] #[]), (2, .pointer (some ⟨b245, 0, none⟩)), (4, .pointer (some ⟨b359, 0, none⟩)), (7, .int .i64 r374.2), (9, .int .i64 r391.2), (11, .int .i64 r408.2), (12, .pointer (some ⟨b445, 0, none⟩)), (13, .int .i64 r429.2), (14, .int .i64 r459.2.2.2), (15, .int .i64 r492.2.2.2), (16, .int .i64 r525.2.2.2)] [] hf551 (by kernel_rfl) trivial fun a554 hf555 => ?_
            refine endL rfl ?_
            have hm556 : Mem [] M w0 [.bx b359 [.slice A360 y262.s.length c361, .slice A545 r525.1.length c546, .slice A547 r525.2.1.length c548, .int .i64 r525.2.2.1] 80, .ow kTensor 28 A545 c546 r525.1, .ow Kd.bool 4 A547 c548 r525.2.1, .bx b445 [.slice A432 r429.1.Shape.length c433, .slice A434 r429.1.Data.length c435] 28, .bx b245 [.slice A246 y36.s.length c247, .slice A248 y36.l.length c249, .slice A250 y36.filled.length c251, .int .i64 y36.left] 80, .ow kTensor 28 A248 c249 y36.l, .ow Kd.bool 4 A250 c251 y36.filled, .sl (Kd.int .i64) A432 c433 r429.1.Shape, .sl Kd.float A434 c435 r429.1.Data, .sl (Kd.int .i64) A360 c361 y262.s, .sl (Kd.int .i64) A246 c247 y36.s] w549 := hm553.sel [0, 1, 2, 6, 7, 8, 9, 10, 11, 12, 13] _ rfl (by kernel_rfl)
            refine thenN ?_
            refine wp_seq ?_
            obtain ⟨r557, hr557, H0⟩ := ob_split H0
            obtain ⟨r558, hr558, H0⟩ := ob_split H0
            refine inReg ?_
            refine go 2 [] [1, 2, 4, 7, 9, 11, 12, 13, 14, 15, 16, 81, 82] [(1, .func (.func 24) #[] #[]), (2, .pointer (some ⟨b245, 0, none⟩)), (4, .pointer (some ⟨b359, 0, none⟩)), (7, .int .i64 r374.2), (9, .int .i64 r391.2), (11, .int .i64 r408.2), (12, .pointer (some ⟨b445, 0, none⟩)), (13, .int .i64 r429.2), (14, .int .i64 r459.2.2.2), (15, .int .i64 r492.2.2.2), (16, .int .i64 r525.2.2.2), (81, .pointer (some ⟨b359, 0, none⟩)), (82, .func (.func 24) #[] #[])] [] hf555 (by kernel_rfl) trivial fun a559 hf560 => ?_
            refine listOf hf560 rfl (by kernel_rfl) (aLit (cs := [.float .f64 4607182418800017408]) (E := 44) (len := 1) (d := 83) hf560 (by kernel_rfl) (by kernel_rfl) ?_)
            intro b561 w562 a563 hbb561 hx565 hg566 hf564
            have hm556s := hm556.still hg566
            have hm567 : Mem [] M w0 [.sl Kd.float (some ⟨b561, 0, none⟩) 1 ([4607182418800017408] : List Nat), .bx b359 [.slice A360 y262.s.length c361, .slice A545 r525.1.length c546, .slice A547 r525.2.1.length c548, .int .i64 r525.2.2.1] 80, .ow kTensor 28 A545 c546 r525.1, .ow Kd.bool 4 A547 c548 r525.2.1, .bx b445 [.slice A432 r429.1.Shape.length c433, .slice A434 r429.1.Data.length c435] 28, .bx b245 [.slice A246 y36.s.length c247, .slice A248 y36.l.length c249, .slice A250 y36.filled.length c251, .int .i64 y36.left] 80, .ow kTensor 28 A248 c249 y36.l, .ow Kd.bool 4 A250 c251 y36.filled, .sl (Kd.int .i64) A432 c433 r429.1.Shape, .sl Kd.float A434 c435 r429.1.Data, .sl (Kd.int .i64) A360 c361 y262.s, .sl (Kd.int .i64) A246 c247 y36.s] w562 := Mem.lit (kd := Kd.float) (xs := ([4607182418800017408] : List Nat)) hm556 hbb561 hx565 hg566 (Els.one (kd := Kd.float) (us := [.float .f64 4607182418800017408]) (x := 4607182418800017408) ⟨_, rfl, (FR.lit (by kernel_rfl) (by kernel_rfl))⟩)
            refine listOf hf564 rfl (by kernel_rfl) (aCall (fid := 24) (args := [.slice (some ⟨b561, 0, none⟩) 1 1]) (d := 84) hf564 (by kernel_rfl) (by kernel_rfl) callable24 (law8_FoldKnown_1.calls _ _ ([4607182418800017408] : List Nat) (some ⟨b561, 0, none⟩) 1 1 rfl (hm567.give [0] [.sl Kd.float (some ⟨b561, 0, none⟩) 1 ([4607182418800017408] : List Nat)] rfl rfl) r557 hr557) ?_)
            rintro _ w572 a573 ⟨A568, c569, A570, c571, rfl, hk575⟩ hf574
            have hm576 : Mem [] M w0 [.ow (Kd.int .i64) 3 A568 c569 r557.Shape, .sl Kd.float A570 c571 r557.Data, .sl Kd.float (some ⟨b561, 0, none⟩) 1 ([4607182418800017408] : List Nat), .bx b359 [.slice A360 y262.s.length c361, .slice A545 r525.1.length c546, .slice A547 r525.2.1.length c548, .int .i64 r525.2.2.1] 80, .ow kTensor 28 A545 c546 r525.1, .ow Kd.bool 4 A547 c548 r525.2.1, .bx b445 [.slice A432 r429.1.Shape.length c433, .slice A434 r429.1.Data.length c435] 28, .bx b245 [.slice A246 y36.s.length c247, .slice A248 y36.l.length c249, .slice A250 y36.filled.length c251, .int .i64 y36.left] 80, .ow kTensor 28 A248 c249 y36.l, .ow Kd.bool 4 A250 c251 y36.filled, .sl (Kd.int .i64) A432 c433 r429.1.Shape, .sl Kd.float A434 c435 r429.1.Data, .sl (Kd.int .i64) A360 c361 y262.s, .sl (Kd.int .i64) A246 c247 y36.s] w572 := hm567.back hk575
            have hm577 : Mem [] M w0 [.sl (Kd.int .i64) A568 c569 r557.Shape, .sl Kd.float A570 c571 r557.Data, .sl Kd.float (some ⟨b561, 0, none⟩) 1 ([4607182418800017408] : List Nat), .bx b359 [.slice A360 y262.s.length c361, .slice A545 r525.1.length c546, .slice A547 r525.2.1.length c548, .int .i64 r525.2.2.1] 80, .ow kTensor 28 A545 c546 r525.1, .ow Kd.bool 4 A547 c548 r525.2.1, .bx b445 [.slice A432 r429.1.Shape.length c433, .slice A434 r429.1.Data.length c435] 28, .bx b245 [.slice A246 y36.s.length c247, .slice A248 y36.l.length c249, .slice A250 y36.filled.length c251, .int .i64 y36.left] 80, .ow kTensor 28 A248 c249 y36.l, .ow Kd.bool 4 A250 c251 y36.filled, .sl (Kd.int .i64) A432 c433 r429.1.Shape, .sl Kd.float A434 c435 r429.1.Data, .sl (Kd.int .i64) A360 c361 y262.s, .sl (Kd.int .i64) A246 c247 y36.s] w572 := hm576.seal 0 _ rfl rfl
            refine listOf hf574 rfl (by kernel_rfl) (aCall (fid := 23) (args := [.pointer (some ⟨b359, 0, none⟩), .int .i64 0, .agg #[.slice A568 r557.Shape.length c569, .slice A570 r557.Data.length c571]]) (d := 85) hf574 (by kernel_rfl) (by kernel_rfl) callable23 (fold_Slots_Put.calls _ _ _ (⟨y262.s, r525.1, r525.2.1, r525.2.2.1⟩ : Slots) b359 A360 y262.s.length c361 rfl A545 r525.1.length c546 rfl A547 r525.2.1.length c548 rfl 0 r557 A568 r557.Shape.length c569 rfl A570 r557.Data.length c571 rfl (hm577.giveO [3, 4, 5] [0, 1, 2, 6, 7, 8, 9, 10, 11, 12, 13] [12, 0, 1] [.bx b359 [.slice A360 y262.s.length c361, .slice A545 r525.1.length c546, .slice A547 r525.2.1.length c548, .int .i64 r525.2.2.1] 80, .ow kTensor 28 A545 c546 r525.1, .ow Kd.bool 4 A547 c548 r525.2.1] _ [.sl (Kd.int .i64) A360 c361 y262.s, .sl (Kd.int .i64) A568 c569 r557.Shape, .sl Kd.float A570 c571 r557.Data] rfl rfl rfl (by kernel_rfl) rfl) r558 hr558) ?_)
            rintro _ w582 a583 ⟨A578, c579, A580, c581, rfl, hk585⟩ hf584
            have hm586 : Mem [] M w0 [.bx b359 [.slice A360 y262.s.length c361, .slice A578 r558.1.length c579, .slice A580 r558.2.1.length c581, .int .i64 r558.2.2.1] 80, .ow kTensor 28 A578 c579 r558.1, .ow Kd.bool 4 A580 c581 r558.2.1, .sl (Kd.int .i64) A568 c569 r557.Shape, .sl Kd.float A570 c571 r557.Data, .sl Kd.float (some ⟨b561, 0, none⟩) 1 ([4607182418800017408] : List Nat), .bx b445 [.slice A432 r429.1.Shape.length c433, .slice A434 r429.1.Data.length c435] 28, .bx b245 [.slice A246 y36.s.length c247, .slice A248 y36.l.length c249, .slice A250 y36.filled.length c251, .int .i64 y36.left] 80, .ow kTensor 28 A248 c249 y36.l, .ow Kd.bool 4 A250 c251 y36.filled, .sl (Kd.int .i64) A432 c433 r429.1.Shape, .sl Kd.float A434 c435 r429.1.Data, .sl (Kd.int .i64) A360 c361 y262.s, .sl (Kd.int .i64) A246 c247 y36.s] w582 := hm577.backO [3, 4, 5] [0, 1, 2, 6, 7, 8, 9, 10, 11, 12, 13] _ _ rfl rfl (by kernel_rfl) hk585
            refine go 1 [] [1, 2, 4, 7, 9, 11, 12, 13, 14, 15, 16, 17] [(1, .func (.func 24) #[] #[]), (2, .pointer (some ⟨b245, 0, none⟩)), (4, .pointer (some ⟨b359, 0, none⟩)), (7, .int .i64 r374.2), (9, .int .i64 r391.2), (11, .int .i64 r408.2), (12, .pointer (some ⟨b445, 0, none⟩)), (13, .int .i64 r429.2), (14, .int .i64 r459.2.2.2), (15, .int .i64 r492.2.2.2), (16, .int .i64 r525.2.2.2), (17, .int .i64 r558.2.2.2)] [] hf584 (by kernel_rfl) trivial fun a587 hf588 => ?_
            refine endL rfl ?_
            have hm589 : Mem [] M w0 [.bx b359 [.slice A360 y262.s.length c361, .slice A578 r558.1.length c579, .slice A580 r558.2.1.length c581, .int .i64 r558.2.2.1] 80, .ow kTensor 28 A578 c579 r558.1, .ow Kd.bool 4 A580 c581 r558.2.1, .bx b445 [.slice A432 r429.1.Shape.length c433, .slice A434 r429.1.Data.length c435] 28, .bx b245 [.slice A246 y36.s.length c247, .slice A248 y36.l.length c249, .slice A250 y36.filled.length c251, .int .i64 y36.left] 80, .ow kTensor 28 A248 c249 y36.l, .ow Kd.bool 4 A250 c251 y36.filled, .sl (Kd.int .i64) A432 c433 r429.1.Shape, .sl Kd.float A434 c435 r429.1.Data, .sl (Kd.int .i64) A360 c361 y262.s, .sl (Kd.int .i64) A246 c247 y36.s] w582 := hm586.sel [0, 1, 2, 6, 7, 8, 9, 10, 11, 12, 13] _ rfl (by kernel_rfl)
            refine thenN ?_
            refine wp_seq ?_
            obtain ⟨r590, hr590, H0⟩ := ob_split H0
            refine inReg ?_
            refine go 1 [] [1, 2, 7, 9, 11, 12, 13, 14, 15, 16, 17, 87] [(1, .func (.func 24) #[] #[]), (2, .pointer (some ⟨b245, 0, none⟩)), (7, .int .i64 r374.2), (9, .int .i64 r391.2), (11, .int .i64 r408.2), (12, .pointer (some ⟨b445, 0, none⟩)), (13, .int .i64 r429.2), (14, .int .i64 r459.2.2.2), (15, .int .i64 r492.2.2.2), (16, .int .i64 r525.2.2.2), (17, .int .i64 r558.2.2.2), (87, .pointer (some ⟨b359, 0, none⟩))] [] hf588 (by kernel_rfl) trivial fun a591 hf592 => ?_
            refine listOf hf592 rfl (by kernel_rfl) (aCall (fid := 21) (args := [.pointer (some ⟨b359, 0, none⟩)]) (d := 88) hf592 (by kernel_rfl) (by kernel_rfl) callable21 (fold_Slots_Value.calls _ _ _ (⟨y262.s, r558.1, r558.2.1, r558.2.2.1⟩ : Slots) b359 A360 y262.s.length c361 rfl A578 r558.1.length c579 rfl A580 r558.2.1.length c581 rfl (hm589.giveO [0, 1, 2] [3, 4, 5, 6, 7, 8, 9, 10] [9] [.bx b359 [.slice A360 y262.s.length c361, .slice A578 r558.1.length c579, .slice A580 r558.2.1.length c581, .int .i64 r558.2.2.1] 80, .ow kTensor 28 A578 c579 r558.1, .ow Kd.bool 4 A580 c581 r558.2.1] _ [.sl (Kd.int .i64) A360 c361 y262.s] rfl rfl rfl (by kernel_rfl) rfl) r590 hr590) ?_)
            rintro _ w597 a598 ⟨A593, c594, A595, c596, rfl, hk600⟩ hf599
            have hm601 : Mem [] M w0 [.bx b359 [.slice A360 y262.s.length c361, .slice A578 r558.1.length c579, .slice A580 r558.2.1.length c581, .int .i64 r558.2.2.1] 80, .ow kTensor 28 A578 c579 r558.1, .ow Kd.bool 4 A580 c581 r558.2.1, .ow (Kd.int .i64) 3 A593 c594 r590.1.Shape, .ow Kd.float 44 A595 c596 r590.1.Data, .bx b445 [.slice A432 r429.1.Shape.length c433, .slice A434 r429.1.Data.length c435] 28, .bx b245 [.slice A246 y36.s.length c247, .slice A248 y36.l.length c249, .slice A250 y36.filled.length c251, .int .i64 y36.left] 80, .ow kTensor 28 A248 c249 y36.l, .ow Kd.bool 4 A250 c251 y36.filled, .sl (Kd.int .i64) A432 c433 r429.1.Shape, .sl Kd.float A434 c435 r429.1.Data, .sl (Kd.int .i64) A360 c361 y262.s, .sl (Kd.int .i64) A246 c247 y36.s] w597 := hm589.backO [0, 1, 2] [3, 4, 5, 6, 7, 8, 9, 10] _ _ rfl rfl (by kernel_rfl) hk600
            have hm602 : Mem [] M w0 [.bx b359 [.slice A360 y262.s.length c361, .slice A578 r558.1.length c579, .slice A580 r558.2.1.length c581, .int .i64 r558.2.2.1] 80, .ow kTensor 28 A578 c579 r558.1, .ow Kd.bool 4 A580 c581 r558.2.1, .sl (Kd.int .i64) A593 c594 r590.1.Shape, .ow Kd.float 44 A595 c596 r590.1.Data, .bx b445 [.slice A432 r429.1.Shape.length c433, .slice A434 r429.1.Data.length c435] 28, .bx b245 [.slice A246 y36.s.length c247, .slice A248 y36.l.length c249, .slice A250 y36.filled.length c251, .int .i64 y36.left] 80, .ow kTensor 28 A248 c249 y36.l, .ow Kd.bool 4 A250 c251 y36.filled, .sl (Kd.int .i64) A432 c433 r429.1.Shape, .sl Kd.float A434 c435 r429.1.Data, .sl (Kd.int .i64) A360 c361 y262.s, .sl (Kd.int .i64) A246 c247 y36.s] w597 := hm601.seal 3 _ rfl rfl
            have hm603 : Mem [] M w0 [.bx b359 [.slice A360 y262.s.length c361, .slice A578 r558.1.length c579, .slice A580 r558.2.1.length c581, .int .i64 r558.2.2.1] 80, .ow kTensor 28 A578 c579 r558.1, .ow Kd.bool 4 A580 c581 r558.2.1, .sl (Kd.int .i64) A593 c594 r590.1.Shape, .sl Kd.float A595 c596 r590.1.Data, .bx b445 [.slice A432 r429.1.Shape.length c433, .slice A434 r429.1.Data.length c435] 28, .bx b245 [.slice A246 y36.s.length c247, .slice A248 y36.l.length c249, .slice A250 y36.filled.length c251, .int .i64 y36.left] 80, .ow kTensor 28 A248 c249 y36.l, .ow Kd.bool 4 A250 c251 y36.filled, .sl (Kd.int .i64) A432 c433 r429.1.Shape, .sl Kd.float A434 c435 r429.1.Data, .sl (Kd.int .i64) A360 c361 y262.s, .sl (Kd.int .i64) A246 c247 y36.s] w597 := hm602.seal 4 _ rfl rfl
            refine go 3 [] [1, 2, 7, 9, 11, 12, 13, 14, 15, 16, 17, 89, 90] [(1, .func (.func 24) #[] #[]), (2, .pointer (some ⟨b245, 0, none⟩)), (7, .int .i64 r374.2), (9, .int .i64 r391.2), (11, .int .i64 r408.2), (12, .pointer (some ⟨b445, 0, none⟩)), (13, .int .i64 r429.2), (14, .int .i64 r459.2.2.2), (15, .int .i64 r492.2.2.2), (16, .int .i64 r525.2.2.2), (17, .int .i64 r558.2.2.2), (89, .agg #[.slice A593 r590.1.Shape.length c594, .slice A595 r590.1.Data.length c596]), (90, .int .i64 r590.2)] [] hf599 (by kernel_rfl) trivial fun a604 hf605 => ?_
            refine listOf hf605 rfl (by kernel_rfl) (aNew (cs := [.slice none 0 0, .slice none 0 0]) (T := 28) (d := 18) hf605 (by kernel_rfl) (by kernel_rfl) ?_)
            intro b606 w607 a608 hbb606 hx610 hg611 hf609
            have hm612 : Mem [] M w0 [.bx b606 [.slice none 0 0, .slice none 0 0] 28, .bx b359 [.slice A360 y262.s.length c361, .slice A578 r558.1.length c579, .slice A580 r558.2.1.length c581, .int .i64 r558.2.2.1] 80, .ow kTensor 28 A578 c579 r558.1, .ow Kd.bool 4 A580 c581 r558.2.1, .sl (Kd.int .i64) A593 c594 r590.1.Shape, .sl Kd.float A595 c596 r590.1.Data, .bx b445 [.slice A432 r429.1.Shape.length c433, .slice A434 r429.1.Data.length c435] 28, .bx b245 [.slice A246 y36.s.length c247, .slice A248 y36.l.length c249, .slice A250 y36.filled.length c251, .int .i64 y36.left] 80, .ow kTensor 28 A248 c249 y36.l, .ow Kd.bool 4 A250 c251 y36.filled, .sl (Kd.int .i64) A432 c433 r429.1.Shape, .sl Kd.float A434 c435 r429.1.Data, .sl (Kd.int .i64) A360 c361 y262.s, .sl (Kd.int .i64) A246 c247 y36.s] w607 := hm603.box hbb606 hx610 hg611
            refine listOf hf609 rfl (by kernel_rfl) (aStoreB (b := b606) (j := 0) (T := 28) (cs := [.slice none 0 0, .slice none 0 0]) (us := [.slice A593 r590.1.Shape.length c594, .slice A595 r590.1.Data.length c596]) (cs' := [.slice A593 r590.1.Shape.length c594, .slice A595 r590.1.Data.length c596]) hf609 (by kernel_rfl) (hm612.bxAt 0 rfl) (by kernel_rfl) (by kernel_rfl) (by kernel_rfl) ?_)
            intro w613 hx614 hg615
            have hm616 : Mem [] M w0 [.bx b606 [.slice A593 r590.1.Shape.length c594, .slice A595 r590.1.Data.length c596] 28, .bx b359 [.slice A360 y262.s.length c361, .slice A578 r558.1.length c579, .slice A580 r558.2.1.length c581, .int .i64 r558.2.2.1] 80, .ow kTensor 28 A578 c579 r558.1, .ow Kd.bool 4 A580 c581 r558.2.1, .sl (Kd.int .i64) A593 c594 r590.1.Shape, .sl Kd.float A595 c596 r590.1.Data, .bx b445 [.slice A432 r429.1.Shape.length c433, .slice A434 r429.1.Data.length c435] 28, .bx b245 [.slice A246 y36.s.length c247, .slice A248 y36.l.length c249, .slice A250 y36.filled.length c251, .int .i64 y36.left] 80, .ow kTensor 28 A248 c249 y36.l, .ow Kd.bool 4 A250 c251 y36.filled, .sl (Kd.int .i64) A432 c433 r429.1.Shape, .sl Kd.float A434 c435 r429.1.Data, .sl (Kd.int .i64) A360 c361 y262.s, .sl (Kd.int .i64) A246 c247 y36.s] w613 := hm612.setBox 0 _ rfl rfl hx614 hg615
            refine go 1 [] [1, 2, 7, 9, 11, 12, 13, 14, 15, 16, 17, 18, 19] [(1, .func (.func 24) #[] #[]), (2, .pointer (some ⟨b245, 0, none⟩)), (7, .int .i64 r374.2), (9, .int .i64 r391.2), (11, .int .i64 r408.2), (12, .pointer (some ⟨b445, 0, none⟩)), (13, .int .i64 r429.2), (14, .int .i64 r459.2.2.2), (15, .int .i64 r492.2.2.2), (16, .int .i64 r525.2.2.2), (17, .int .i64 r558.2.2.2), (18, .pointer (some ⟨b606, 0, none⟩)), (19, .int .i64 r590.2)] [] hf609 (by kernel_rfl) trivial fun a617 hf618 => ?_
            refine endL rfl ?_
            have hm619 : Mem [] M w0 [.bx b606 [.slice A593 r590.1.Shape.length c594, .slice A595 r590.1.Data.length c596] 28, .sl (Kd.int .i64) A593 c594 r590.1.Shape, .sl Kd.float A595 c596 r590.1.Data, .bx b445 [.slice A432 r429.1.Shape.length c433, .slice A434 r429.1.Data.length c435] 28, .bx b245 [.slice A246 y36.s.length c247, .slice A248 y36.l.length c249, .slice A250 y36.filled.length c251, .int .i64 y36.left] 80, .ow kTensor 28 A248 c249 y36.l, .ow Kd.bool 4 A250 c251 y36.filled, .sl (Kd.int .i64) A432 c433 r429.1.Shape, .sl Kd.float A434 c435 r429.1.Data, .sl (Kd.int .i64) A246 c247 y36.s] w613 := hm616.sel [0, 4, 5, 6, 7, 8, 9, 10, 11, 13] _ rfl (by kernel_rfl)
            refine thenN ?_
            refine wp_seq ?_
            rcases if_split H0 with ⟨c620, H0⟩ | ⟨c620, H0⟩
            · rcases if_split H0 with ⟨c621, H0⟩ | ⟨c621, H0⟩
              · rcases if_split H0 with ⟨c622, H0⟩ | ⟨c622, H0⟩
                · rcases if_split H0 with ⟨c623, H0⟩ | ⟨c623, H0⟩
                  · obtain ⟨r624, hr624, H0⟩ := ob_split H0
                    obtain ⟨r625, hr625, H0⟩ := ob_split H0
                    rcases ifb_split H0 with ⟨c626, H0⟩ | ⟨c626, H0⟩
                    · rcases if_split H0 with ⟨c627, H0⟩ | ⟨c627, H0⟩
                      · rcases if_split H0 with ⟨c628, H0⟩ | ⟨c628, H0⟩
                        · rcases if_split H0 with ⟨c629, H0⟩ | ⟨c629, H0⟩
                          · rcases if_split H0 with ⟨c630, H0⟩ | ⟨c630, H0⟩
                            · rcases if_split H0 with ⟨c631, H0⟩ | ⟨c631, H0⟩
                              · obtain ⟨r632, hr632, H0⟩ := ob_split H0
                                obtain ⟨r633, hr633, H0⟩ := ob_split H0
                                rcases ifb_split H0 with ⟨c634, H0⟩ | ⟨c634, H0⟩
                                · obtain ⟨r635, hr635, H0⟩ := ob_split H0
                                  rcases if_split H0 with ⟨c636, H0⟩ | ⟨c636, H0⟩
                                  · refine midReg (fun (a : Act) (w : World) => Fr 144 a [(0, .bool true)] ∧ Mem [] M w0 [] w) ?_ ?_
                                    · refine anyG [50] (by kernel_rfl) fun w686 hg687 => ?_
                                      have hm688 := hm619.still hg687
                                      refine quiet0 [0, 1, 2, 3, 4, 5, 6, 7, 8, 9, 10, 11, 12, 13, 14, 15, 16] [.bool true, .bool true, .bool true, .bool true, .agg #[.slice A432 r429.1.Shape.length c433, .slice A434 r429.1.Data.length c435]] [1, 2, 14, 15, 16, 17, 18, 19, 105, 106, 107] #[true, true, true, true, true, true, true, true, true, true, true, true, true, true, true, true, true, false, false, false, false, false, false, false, false, false, false, false, false, false, false, false, false, false, false, false, false, false, false, false, false, false, false, false, false, false, false, false, false, false, false, false, false, false] [(1, .func (.func 24) #[] #[]), (2, .pointer (some ⟨b245, 0, none⟩)), (14, .int .i64 r459.2.2.2), (15, .int .i64 r492.2.2.2), (16, .int .i64 r525.2.2.2), (17, .int .i64 r558.2.2.2), (18, .pointer (some ⟨b606, 0, none⟩)), (19, .int .i64 r590.2), (105, .bool true), (106, .agg #[.slice A432 r429.1.Shape.length c433, .slice A434 r429.1.Data.length c435]), (107, .func (.func 24) #[] #[])] [.is (((r374.2 : Int) == 2) = true), .is (((r391.2 : Int) == 1) = true), .is (((r408.2 : Int) == 1) = true), .is (((r429.2 : Int) == 0) = true), .cell ⟨b445, 0, none⟩ (.slice A432 r429.1.Shape.length c433), .cell ⟨b445, 1, none⟩ (.slice A434 r429.1.Data.length c435)] 37 rfl (by kernel_rfl) (fun _ _ _ _ _ h => nomatch h.1) hf618 (by kernel_rfl) ⟨(eqT c620), (eqT c621), (eqT c622), (eqT c623), (hm688.cell 3 rfl rfl), (hm688.cell 3 rfl rfl), trivial⟩ fun a745 hf746 => ?_
                                      refine all1 17 (by kernel_rfl) ?_
                                      refine opOf hf746 rfl (by kernel_rfl) (aLit (cs := [.float .f64 0, .float .f64 0]) (E := 44) (len := 2) (d := 108) hf746 (by kernel_rfl) (by kernel_rfl) ?_)
                                      intro b747 w748 a749 hbb747 hx751 hg752 hf750
                                      refine ⟨.inr (Gr.still hg752), ?_⟩
                                      have hm688s := hm688.still hg752
                                      have hm753 : Mem [] M w0 [.sl Kd.float (some ⟨b747, 0, none⟩) 2 ([0, 0] : List Nat), .bx b606 [.slice A593 r590.1.Shape.length c594, .slice A595 r590.1.Data.length c596] 28, .sl (Kd.int .i64) A593 c594 r590.1.Shape, .sl Kd.float A595 c596 r590.1.Data, .bx b445 [.slice A432 r429.1.Shape.length c433, .slice A434 r429.1.Data.length c435] 28, .bx b245 [.slice A246 y36.s.length c247, .slice A248 y36.l.length c249, .slice A250 y36.filled.length c251, .int .i64 y36.left] 80, .ow kTensor 28 A248 c249 y36.l, .ow Kd.bool 4 A250 c251 y36.filled, .sl (Kd.int .i64) A432 c433 r429.1.Shape, .sl Kd.float A434 c435 r429.1.Data, .sl (Kd.int .i64) A246 c247 y36.s] w748 := Mem.lit (kd := Kd.float) (xs := ([0, 0] : List Nat)) hm688 hbb747 hx751 hg752 (Els.append (Els.one (kd := Kd.float) (us := [.float .f64 0]) (x := 0) ⟨_, rfl, (FR.lit (by kernel_rfl) (by kernel_rfl))⟩) (Els.one (kd := Kd.float) (us := [.float .f64 0]) (x := 0) ⟨_, rfl, (FR.lit (by kernel_rfl) (by kernel_rfl))⟩))
                                      refine all1 18 (by kernel_rfl) ?_
                                      refine opOf hf750 rfl (by kernel_rfl) (aCall (fid := 24) (args := [.slice (some ⟨b747, 0, none⟩) 2 2]) (d := 109) hf750 (by kernel_rfl) (by kernel_rfl) callable24 (law8_FoldKnown_1.calls _ _ ([0, 0] : List Nat) (some ⟨b747, 0, none⟩) 2 2 rfl (hm753.give [0] [.sl Kd.float (some ⟨b747, 0, none⟩) 2 ([0, 0] : List Nat)] rfl rfl) r624 hr624) ?_)
                                      rintro _ w758 a759 ⟨A754, c755, A756, c757, rfl, hk761⟩ hf760
                                      refine ⟨.inr (Gr.still hk761.cum.none), ?_⟩
                                      have hm762 : Mem [] M w0 [.ow (Kd.int .i64) 3 A754 c755 r624.Shape, .sl Kd.float A756 c757 r624.Data, .sl Kd.float (some ⟨b747, 0, none⟩) 2 ([0, 0] : List Nat), .bx b606 [.slice A593 r590.1.Shape.length c594, .slice A595 r590.1.Data.length c596] 28, .sl (Kd.int .i64) A593 c594 r590.1.Shape, .sl Kd.float A595 c596 r590.1.Data, .bx b445 [.slice A432 r429.1.Shape.length c433, .slice A434 r429.1.Data.length c435] 28, .bx b245 [.slice A246 y36.s.length c247, .slice A248 y36.l.length c249, .slice A250 y36.filled.length c251, .int .i64 y36.left] 80, .ow kTensor 28 A248 c249 y36.l, .ow Kd.bool 4 A250 c251 y36.filled, .sl (Kd.int .i64) A432 c433 r429.1.Shape, .sl Kd.float A434 c435 r429.1.Data, .sl (Kd.int .i64) A246 c247 y36.s] w758 := hm753.back hk761
                                      have hm763 : Mem [] M w0 [.sl (Kd.int .i64) A754 c755 r624.Shape, .sl Kd.float A756 c757 r624.Data, .sl Kd.float (some ⟨b747, 0, none⟩) 2 ([0, 0] : List Nat), .bx b606 [.slice A593 r590.1.Shape.length c594, .slice A595 r590.1.Data.length c596] 28, .sl (Kd.int .i64) A593 c594 r590.1.Shape, .sl Kd.float A595 c596 r590.1.Data, .bx b445 [.slice A432 r429.1.Shape.length c433, .slice A434 r429.1.Data.length c435] 28, .bx b245 [.slice A246 y36.s.length c247, .slice A248 y36.l.length c249, .slice A250 y36.filled.length c251, .int .i64 y36.left] 80, .ow kTensor 28 A248 c249 y36.l, .ow Kd.bool 4 A250 c251 y36.filled, .sl (Kd.int .i64) A432 c433 r429.1.Shape, .sl Kd.float A434 c435 r429.1.Data, .sl (Kd.int .i64) A246 c247 y36.s] w758 := hm762.seal 0 _ rfl rfl
                                      refine all1 19 (by kernel_rfl) ?_
                                      refine opOf hf760 rfl (by kernel_rfl) (aCall (fid := 19) (args := [.agg #[.slice A432 r429.1.Shape.length c433, .slice A434 r429.1.Data.length c435], .agg #[.slice A754 r624.Shape.length c755, .slice A756 r624.Data.length c757]]) (d := 110) hf760 (by kernel_rfl) (by kernel_rfl) callable19 (ref1_SameTensor.calls _ _ r429.1 A432 r429.1.Shape.length c433 rfl A434 r429.1.Data.length c435 rfl r624 A754 r624.Shape.length c755 rfl A756 r624.Data.length c757 rfl (hm763.give [10, 11, 0, 1] [.sl (Kd.int .i64) A432 c433 r429.1.Shape, .sl Kd.float A434 c435 r429.1.Data, .sl (Kd.int .i64) A754 c755 r624.Shape, .sl Kd.float A756 c757 r624.Data] rfl rfl) r625 hr625) ?_)
                                      rintro _ w764 a765 ⟨rfl, hk767⟩ hf766
                                      refine ⟨.inr (Gr.still hk767.cum.none), ?_⟩
                                      have hm768 := hm763.still hk767.cum.none
                                      rw [c626] at hf766
                                      refine quiet0 [20, 21, 22, 23, 24, 25, 26, 27, 28, 29, 30, 31, 32, 33, 34, 35, 36, 37, 38, 39, 40, 41, 42, 43] [.bool true, .bool true, .bool true, .bool true, .bool true, .agg #[.slice A593 r590.1.Shape.length c594, .slice A595 r590.1.Data.length c596]] [2, 132, 133, 134] #[true, true, true, true, true, true, true, true, true, true, true, true, true, true, true, true, true, true, true, true, true, true, true, true, true, true, true, true, true, true, true, true, true, true, true, true, true, true, true, true, true, true, true, true, false, false, false, false, false, false, false, false, false, false] [(2, .pointer (some ⟨b245, 0, none⟩)), (132, .bool true), (133, .agg #[.slice A593 r590.1.Shape.length c594, .slice A595 r590.1.Data.length c596]), (134, .func (.func 24) #[] #[])] [.is (((r459.2.2.2 : Int) == 1) = true), .is (((r492.2.2.2 : Int) == 2) = true), .is (((r525.2.2.2 : Int) == 0) = true), .is (((r558.2.2.2 : Int) == 1) = true), .is (((r590.2 : Int) == 0) = true), .cell ⟨b606, 0, none⟩ (.slice A593 r590.1.Shape.length c594), .cell ⟨b606, 1, none⟩ (.slice A595 r590.1.Data.length c596)] 10 rfl (by kernel_rfl) (fun _ _ _ _ _ h => nomatch h.1) hf766 (by kernel_rfl) ⟨(eqT c627), (eqT c628), (eqT c629), (eqT c630), (eqT c631), (hm768.cell 3 rfl rfl), (hm768.cell 3 rfl rfl), trivial⟩ fun a769 hf770 => ?_
                                      refine all1 44 (by kernel_rfl) ?_
                                      refine opOf hf770 rfl (by kernel_rfl) (aLit (cs := [.float .f64 4607182418800017408, .float .f64 4611686018427387904]) (E := 44) (len := 2) (d := 135) hf770 (by kernel_rfl) (by kernel_rfl) ?_)
                                      intro b771 w772 a773 hbb771 hx775 hg776 hf774
                                      refine ⟨.inr (Gr.still hg776), ?_⟩
                                      have hm768s := hm768.still hg776
                                      have hm777 : Mem [] M w0 [.sl Kd.float (some ⟨b771, 0, none⟩) 2 ([4607182418800017408, 4611686018427387904] : List Nat), .sl (Kd.int .i64) A754 c755 r624.Shape, .sl Kd.float A756 c757 r624.Data, .sl Kd.float (some ⟨b747, 0, none⟩) 2 ([0, 0] : List Nat), .bx b606 [.slice A593 r590.1.Shape.length c594, .slice A595 r590.1.Data.length c596] 28, .sl (Kd.int .i64) A593 c594 r590.1.Shape, .sl Kd.float A595 c596 r590.1.Data, .bx b445 [.slice A432 r429.1.Shape.length c433, .slice A434 r429.1.Data.length c435] 28, .bx b245 [.slice A246 y36.s.length c247, .slice A248 y36.l.length c249, .slice A250 y36.filled.length c251, .int .i64 y36.left] 80, .ow kTensor 28 A248 c249 y36.l, .ow Kd.bool 4 A250 c251 y36.filled, .sl (Kd.int .i64) A432 c433 r429.1.Shape, .sl Kd.float A434 c435 r429.1.Data, .sl (Kd.int .i64) A246 c247 y36.s] w772 := Mem.lit (kd := Kd.float) (xs := ([4607182418800017408, 4611686018427387904] : List Nat)) hm768 hbb771 hx775 hg776 (Els.append (Els.one (kd := Kd.float) (us := [.float .f64 4607182418800017408]) (x := 4607182418800017408) ⟨_, rfl, (FR.lit (by kernel_rfl) (by kernel_rfl))⟩) (Els.one (kd := Kd.float) (us := [.float .f64 4611686018427387904]) (x := 4611686018427387904) ⟨_, rfl, (FR.lit (by kernel_rfl) (by kernel_rfl))⟩))
                                      refine all1 45 (by kernel_rfl) ?_
                                      refine opOf hf774 rfl (by kernel_rfl) (aCall (fid := 24) (args := [.slice (some ⟨b771, 0, none⟩) 2 2]) (d := 136) hf774 (by kernel_rfl) (by kernel_rfl) callable24 (law8_FoldKnown_1.calls _ _ ([4607182418800017408, 4611686018427387904] : List Nat) (some ⟨b771, 0, none⟩) 2 2 rfl (hm777.give [0] [.sl Kd.float (some ⟨b771, 0, none⟩) 2 ([4607182418800017408, 4611686018427387904] : List Nat)] rfl rfl) r632 hr632) ?_)
                                      rintro _ w782 a783 ⟨A778, c779, A780, c781, rfl, hk785⟩ hf784
                                      refine ⟨.inr (Gr.still hk785.cum.none), ?_⟩
                                      have hm786 : Mem [] M w0 [.ow (Kd.int .i64) 3 A778 c779 r632.Shape, .sl Kd.float A780 c781 r632.Data, .sl Kd.float (some ⟨b771, 0, none⟩) 2 ([4607182418800017408, 4611686018427387904] : List Nat), .sl (Kd.int .i64) A754 c755 r624.Shape, .sl Kd.float A756 c757 r624.Data, .sl Kd.float (some ⟨b747, 0, none⟩) 2 ([0, 0] : List Nat), .bx b606 [.slice A593 r590.1.Shape.length c594, .slice A595 r590.1.Data.length c596] 28, .sl (Kd.int .i64) A593 c594 r590.1.Shape, .sl Kd.float A595 c596 r590.1.Data, .bx b445 [.slice A432 r429.1.Shape.length c433, .slice A434 r429.1.Data.length c435] 28, .bx b245 [.slice A246 y36.s.length c247, .slice A248 y36.l.length c249, .slice A250 y36.filled.length c251, .int .i64 y36.left] 80, .ow kTensor 28 A248 c249 y36.l, .ow Kd.bool 4 A250 c251 y36.filled, .sl (Kd.int .i64) A432 c433 r429.1.Shape, .sl Kd.float A434 c435 r429.1.Data, .sl (Kd.int .i64) A246 c247 y36.s] w782 := hm777.back hk785
                                      have hm787 : Mem [] M w0 [.sl (Kd.int .i64) A778 c779 r632.Shape, .sl Kd.float A780 c781 r632.Data, .sl Kd.float (some ⟨b771, 0, none⟩) 2 ([4607182418800017408, 4611686018427387904] : List Nat), .sl (Kd.int .i64) A754 c755 r624.Shape, .sl Kd.float A756 c757 r624.Data, .sl Kd.float (some ⟨b747, 0, none⟩) 2 ([0, 0] : List Nat), .bx b606 [.slice A593 r590.1.Shape.length c594, .slice A595 r590.1.Data.length c596] 28, .sl (Kd.int .i64) A593 c594 r590.1.Shape, .sl Kd.float A595 c596 r590.1.Data, .bx b445 [.slice A432 r429.1.Shape.length c433, .slice A434 r429.1.Data.length c435] 28, .bx b245 [.slice A246 y36.s.length c247, .slice A248 y36.l.length c249, .slice A250 y36.filled.length c251, .int .i64 y36.left] 80, .ow kTensor 28 A248 c249 y36.l, .ow Kd.bool 4 A250 c251 y36.filled, .sl (Kd.int .i64) A432 c433 r429.1.Shape, .sl Kd.float A434 c435 r429.1.Data, .sl (Kd.int .i64) A246 c247 y36.s] w782 := hm786.seal 0 _ rfl rfl
                                      refine all1 46 (by kernel_rfl) ?_
                                      refine opOf hf784 rfl (by kernel_rfl) (aCall (fid := 19) (args := [.agg #[.slice A593 r590.1.Shape.length c594, .slice A595 r590.1.Data.length c596], .agg #[.slice A778 r632.Shape.length c779, .slice A780 r632.Data.length c781]]) (d := 137) hf784 (by kernel_rfl) (by kernel_rfl) callable19 (ref1_SameTensor.calls _ _ r590.1 A593 r590.1.Shape.length c594 rfl A595 r590.1.Data.length c596 rfl r632 A778 r632.Shape.length c779 rfl A780 r632.Data.length c781 rfl (hm787.give [7, 8, 0, 1] [.sl (Kd.int .i64) A593 c594 r590.1.Shape, .sl Kd.float A595 c596 r590.1.Data, .sl (Kd.int .i64) A778 c779 r632.Shape, .sl Kd.float A780 c781 r632.Data] rfl rfl) r633 hr633) ?_)
                                      rintro _ w788 a789 ⟨rfl, hk791⟩ hf790
                                      refine ⟨.inr (Gr.still hk791.cum.none), ?_⟩
                                      have hm792 := hm787.still hk791.cum.none
                                      rw [c634] at hf790
                                      refine quiet0 [47, 48, 49] [] [139, 140] #[true, true, true, true, true, true, true, true, true, true, true, true, true, true, true, true, true, true, true, true, true, true, true, true, true, true, true, true, true, true, true, true, true, true, true, true, true, true, true, true, true, true, true, true, true, true, true, true, true, true, false, false, false, false] [(139, .bool true), (140, .pointer (some ⟨b245, 0, none⟩))] [] 4 rfl (by kernel_rfl) (fun _ _ _ _ _ h => nomatch h.1) hf790 (by kernel_rfl) trivial fun a793 hf794 => ?_
                                      refine all1 50 (by kernel_rfl) ?_
                                      refine opOf hf794 rfl (by kernel_rfl) (aCall (fid := 22) (args := [.pointer (some ⟨b245, 0, none⟩)]) (d := 141) hf794 (by kernel_rfl) (by kernel_rfl) callable22 (fold_Slots_Left.calls _ _ _ y36 b245 A246 y36.s.length c247 rfl A248 y36.l.length c249 rfl A250 y36.filled.length c251 rfl (hm792.giveO [10, 11, 12] [0, 1, 2, 3, 4, 5, 6, 7, 8, 9, 13, 14, 15] [15] [.bx b245 [.slice A246 y36.s.length c247, .slice A248 y36.l.length c249, .slice A250 y36.filled.length c251, .int .i64 y36.left] 80, .ow kTensor 28 A248 c249 y36.l, .ow Kd.bool 4 A250 c251 y36.filled] _ [.sl (Kd.int .i64) A246 c247 y36.s] rfl rfl rfl (by kernel_rfl) rfl) r635 hr635) ?_)
                                      rintro _ w795 a796 ⟨rfl, hk798⟩ hf797
                                      refine ⟨.inl (by decide), ?_⟩
                                      have hm799 : Mem [] M w0 [.bx b245 [.slice A246 y36.s.length c247, .slice A248 y36.l.length c249, .slice A250 y36.filled.length c251, .int .i64 y36.left] 80, .ow kTensor 28 A248 c249 y36.l, .ow Kd.bool 4 A250 c251 y36.filled, .sl (Kd.int .i64) A778 c779 r632.Shape, .sl Kd.float A780 c781 r632.Data, .sl Kd.float (some ⟨b771, 0, none⟩) 2 ([4607182418800017408, 4611686018427387904] : List Nat), .sl (Kd.int .i64) A754 c755 r624.Shape, .sl Kd.float A756 c757 r624.Data, .sl Kd.float (some ⟨b747, 0, none⟩) 2 ([0, 0] : List Nat), .bx b606 [.slice A593 r590.1.Shape.length c594, .slice A595 r590.1.Data.length c596] 28, .sl (Kd.int .i64) A593 c594 r590.1.Shape, .sl Kd.float A595 c596 r590.1.Data, .bx b445 [.slice A432 r429.1.Shape.length c433, .slice A434 r429.1.Data.length c435] 28, .sl (Kd.int .i64) A432 c433 r429.1.Shape, .sl Kd.float A434 c435 r429.1.Data, .sl (Kd.int .i64) A246 c247 y36.s] w795 := hm792.backO [10, 11, 12] [0, 1, 2, 3, 4, 5, 6, 7, 8, 9, 13, 14, 15] _ _ rfl rfl (by kernel_rfl) hk798
                                      refine quiet0 [51, 52, 53] [.bool true] [0] #[true, true, true, true, true, true, true, true, true, true, true, true, true, true, true, true, true, true, true, true, true, true, true, true, true, true, true, true, true, true, true, true, true, true, true, true, true, true, true, true, true, true, true, true, true, true, true, true, true, true, true, true, true, true] [(0, .bool true)] [.is (((r635 : Int) == 0) = true)] 0 rfl (by kernel_rfl) (fun _ _ _ _ _ h => nomatch h.1) hf797 (by kernel_rfl) ⟨(eqT c636), trivial⟩ fun a800 hf801 => ?_
                                      refine allDone (by kernel_rfl) ⟨rfl, hf801.sel (l := [0]) (by kernel_rfl), hm799.sel [] _ rfl (by kernel_rfl)⟩
                                    rintro a802 w803 ⟨hf804, hm805⟩
                                    refine thenN ?_
                                    refine wp_ret ?_
                                    have hm806 : Mem [] M w0 [] w803 := hm805.sel [] _ rfl (by kernel_rfl)
                                    obtain rfl := Option.some.inj H0
                                    refine ret [] [.bool true] [] hf804 (by kernel_rfl) trivial ?_
                                    exact ⟨_, rfl, rfl, hm806⟩
                                  · refine midReg (fun (a : Act) (w : World) => Fr 144 a [(0, .bool false)] ∧ Mem [] M w0 [] w) ?_ ?_
                                    · refine anyG [50] (by kernel_rfl) fun w857 hg858 => ?_
                                      have hm859 := hm619.still hg858
                                      refine quiet0 [0, 1, 2, 3, 4, 5, 6, 7, 8, 9, 10, 11, 12, 13, 14, 15, 16] [.bool true, .bool true, .bool true, .bool true, .agg #[.slice A432 r429.1.Shape.length c433, .slice A434 r429.1.Data.length c435]] [1, 2, 14, 15, 16, 17, 18, 19, 105, 106, 107] #[true, true, true, true, true, true, true, true, true, true, true, true, true, true, true, true, true, false, false, false, false, false, false, false, false, false, false, false, false, false, false, false, false, false, false, false, false, false, false, false, false, false, false, false, false, false, false, false, false, false, false, false, false, false] [(1, .func (.func 24) #[] #[]), (2, .pointer (some ⟨b245, 0, none⟩)), (14, .int .i64 r459.2.2.2), (15, .int .i64 r492.2.2.2), (16, .int .i64 r525.2.2.2), (17, .int .i64 r558.2.2.2), (18, .pointer (some ⟨b606, 0, none⟩)), (19, .int .i64 r590.2), (105, .bool true), (106, .agg #[.slice A432 r429.1.Shape.length c433, .slice A434 r429.1.Data.length c435]), (107, .func (.func 24) #[] #[])] [.is (((r374.2 : Int) == 2) = true), .is (((r391.2 : Int) == 1) = true), .is (((r408.2 : Int) == 1) = true), .is (((r429.2 : Int) == 0) = true), .cell ⟨b445, 0, none⟩ (.slice A432 r429.1.Shape.length c433), .cell ⟨b445, 1, none⟩ (.slice A434 r429.1.Data.length c435)] 37 rfl (by kernel_rfl) (fun _ _ _ _ _ h => nomatch h.1) hf618 (by kernel_rfl) ⟨(eqT c620), (eqT c621), (eqT c622), (eqT c623), (hm859.cell 3 rfl rfl), (hm859.cell 3 rfl rfl), trivial⟩ fun a916 hf917 => ?_
                                      refine all1 17 (by kernel_rfl) ?_
                                      refine opOf hf917 rfl (by kernel_rfl) (aLit (cs := [.float .f64 0, .float .f64 0]) (E := 44) (len := 2) (d := 108) hf917 (by kernel_rfl) (by kernel_rfl) ?_)
                                      intro b918 w919 a920 hbb918 hx922 hg923 hf921
                                      refine ⟨.inr (Gr.still hg923), ?_⟩
                                      have hm859s := hm859.still hg923
                                      have hm924 : Mem [] M w0 [.sl Kd.float (some ⟨b918, 0, none⟩) 2 ([0, 0] : List Nat), .bx b606 [.slice A593 r590.1.Shape.length c594, .slice A595 r590.1.Data.length c596] 28, .sl (Kd.int .i64) A593 c594 r590.1.Shape, .sl Kd.float A595 c596 r590.1.Data, .bx b445 [.slice A432 r429.1.Shape.length c433, .slice A434 r429.1.Data.length c435] 28, .bx b245 [.slice A246 y36.s.length c247, .slice A248 y36.l.length c249, .slice A250 y36.filled.length c251, .int .i64 y36.left] 80, .ow kTensor 28 A248 c249 y36.l, .ow Kd.bool 4 A250 c251 y36.filled, .sl (Kd.int .i64) A432 c433 r429.1.Shape, .sl Kd.float A434 c435 r429.1.Data, .sl (Kd.int .i64) A246 c247 y36.s] w919 := Mem.lit (kd := Kd.float) (xs := ([0, 0] : List Nat)) hm859 hbb918 hx922 hg923 (Els.append (Els.one (kd := Kd.float) (us := [.float .f64 0]) (x := 0) ⟨_, rfl, (FR.lit (by kernel_rfl) (by kernel_rfl))⟩) (Els.one (kd := Kd.float) (us := [.float .f64 0]) (x := 0) ⟨_, rfl, (FR.lit (by kernel_rfl) (by kernel_rfl))⟩))
                                      refine all1 18 (by kernel_rfl) ?_
                                      refine opOf hf921 rfl (by kernel_rfl) (aCall (fid := 24) (args := [.slice (some ⟨b918, 0, none⟩) 2 2]) (d := 109) hf921 (by kernel_rfl) (by kernel_rfl) callable24 (law8_FoldKnown_1.calls _ _ ([0, 0] : List Nat) (some ⟨b918, 0, none⟩) 2 2 rfl (hm924.give [0] [.sl Kd.float (some ⟨b918, 0, none⟩) 2 ([0, 0] : List Nat)] rfl rfl) r624 hr624) ?_)
                                      rintro _ w929 a930 ⟨A925, c926, A927, c928, rfl, hk932⟩ hf931
                                      refine ⟨.inr (Gr.still hk932.cum.none), ?_⟩
                                      have hm933 : Mem [] M w0 [.ow (Kd.int .i64) 3 A925 c926 r624.Shape, .sl Kd.float A927 c928 r624.Data, .sl Kd.float (some ⟨b918, 0, none⟩) 2 ([0, 0] : List Nat), .bx b606 [.slice A593 r590.1.Shape.length c594, .slice A595 r590.1.Data.length c596] 28, .sl (Kd.int .i64) A593 c594 r590.1.Shape, .sl Kd.float A595 c596 r590.1.Data, .bx b445 [.slice A432 r429.1.Shape.length c433, .slice A434 r429.1.Data.length c435] 28, .bx b245 [.slice A246 y36.s.length c247, .slice A248 y36.l.length c249, .slice A250 y36.filled.length c251, .int .i64 y36.left] 80, .ow kTensor 28 A248 c249 y36.l, .ow Kd.bool 4 A250 c251 y36.filled, .sl (Kd.int .i64) A432 c433 r429.1.Shape, .sl Kd.float A434 c435 r429.1.Data, .sl (Kd.int .i64) A246 c247 y36.s] w929 := hm924.back hk932
                                      have hm934 : Mem [] M w0 [.sl (Kd.int .i64) A925 c926 r624.Shape, .sl Kd.float A927 c928 r624.Data, .sl Kd.float (some ⟨b918, 0, none⟩) 2 ([0, 0] : List Nat), .bx b606 [.slice A593 r590.1.Shape.length c594, .slice A595 r590.1.Data.length c596] 28, .sl (Kd.int .i64) A593 c594 r590.1.Shape, .sl Kd.float A595 c596 r590.1.Data, .bx b445 [.slice A432 r429.1.Shape.length c433, .slice A434 r429.1.Data.length c435] 28, .bx b245 [.slice A246 y36.s.length c247, .slice A248 y36.l.length c249, .slice A250 y36.filled.length c251, .int .i64 y36.left] 80, .ow kTensor 28 A248 c249 y36.l, .ow Kd.bool 4 A250 c251 y36.filled, .sl (Kd.int .i64) A432 c433 r429.1.Shape, .sl Kd.float A434 c435 r429.1.Data, .sl (Kd.int .i64) A246 c247 y36.s] w929 := hm933.seal 0 _ rfl rfl
                                      refine all1 19 (by kernel_rfl) ?_
                                      refine opOf hf931 rfl (by kernel_rfl) (aCall (fid := 19) (args := [.agg #[.slice A432 r429.1.Shape.length c433, .slice A434 r429.1.Data.length c435], .agg #[.slice A925 r624.Shape.length c926, .slice A927 r624.Data.length c928]]) (d := 110) hf931 (by kernel_rfl) (by kernel_rfl) callable19 (ref1_SameTensor.calls _ _ r429.1 A432 r429.1.Shape.length c433 rfl A434 r429.1.Data.length c435 rfl r624 A925 r624.Shape.length c926 rfl A927 r624.Data.length c928 rfl (hm934.give [10, 11, 0, 1] [.sl (Kd.int .i64) A432 c433 r429.1.Shape, .sl Kd.float A434 c435 r429.1.Data, .sl (Kd.int .i64) A925 c926 r624.Shape, .sl Kd.float A927 c928 r624.Data] rfl rfl) r625 hr625) ?_)
                                      rintro _ w935 a936 ⟨rfl, hk938⟩ hf937
                                      refine ⟨.inr (Gr.still hk938.cum.none), ?_⟩
                                      have hm939 := hm934.still hk938.cum.none
                                      rw [c626] at hf937
                                      refine quiet0 [20, 21, 22, 23, 24, 25, 26, 27, 28, 29, 30, 31, 32, 33, 34, 35, 36, 37, 38, 39, 40, 41, 42, 43] [.bool true, .bool true, .bool true, .bool true, .bool true, .agg #[.slice A593 r590.1.Shape.length c594, .slice A595 r590.1.Data.length c596]] [2, 132, 133, 134] #[true, true, true, true, true, true, true, true, true, true, true, true, true, true, true, true, true, true, true, true, true, true, true, true, true, true, true, true, true, true, true, true, true, true, true, true, true, true, true, true, true, true, true, true, false, false, false, false, false, false, false, false, false, false] [(2, .pointer (some ⟨b245, 0, none⟩)), (132, .bool true), (133, .agg #[.slice A593 r590.1.Shape.length c594, .slice A595 r590.1.Data.length c596]), (134, .func (.func 24) #[] #[])] [.is (((r459.2.2.2 : Int) == 1) = true), .is (((r492.2.2.2 : Int) == 2) = true), .is (((r525.2.2.2 : Int) == 0) = true), .is (((r558.2.2.2 : Int) == 1) = true), .is (((r590.2 : Int) == 0) = true), .cell ⟨b606, 0, none⟩ (.slice A593 r590.1.Shape.length c594), .cell ⟨b606, 1, none⟩ (.slice A595 r590.1.Data.length c596)] 10 rfl (by kernel_rfl) (fun _ _ _ _ _ h => nomatch h.1) hf937 (by kernel_rfl) ⟨(eqT c627), (eqT c628), (eqT c629), (eqT c630), (eqT c631), (hm939.cell 3 rfl rfl), (hm939.cell 3 rfl rfl), trivial⟩ fun a940 hf941 => ?_
                                      refine all1 44 (by kernel_rfl) ?_
                                      refine opOf hf941 rfl (by kernel_rfl) (aLit (cs := [.float .f64 4607182418800017408, .float .f64 4611686018427387904]) (E := 44) (len := 2) (d := 135) hf941 (by kernel_rfl) (by kernel_rfl) ?_)
                                      intro b942 w943 a944 hbb942 hx946 hg947 hf945
                                      refine ⟨.inr (Gr.still hg947), ?_⟩
                                      have hm939s := hm939.still hg947
                                      have hm948 : Mem [] M w0 [.sl Kd.float (some ⟨b942, 0, none⟩) 2 ([4607182418800017408, 4611686018427387904] : List Nat), .sl (Kd.int .i64) A925 c926 r624.Shape, .sl Kd.float A927 c928 r624.Data, .sl Kd.float (some ⟨b918, 0, none⟩) 2 ([0, 0] : List Nat), .bx b606 [.slice A593 r590.1.Shape.length c594, .slice A595 r590.1.Data.length c596] 28, .sl (Kd.int .i64) A593 c594 r590.1.Shape, .sl Kd.float A595 c596 r590.1.Data, .bx b445 [.slice A432 r429.1.Shape.length c433, .slice A434 r429.1.Data.length c435] 28, .bx b245 [.slice A246 y36.s.length c247, .slice A248 y36.l.length c249, .slice A250 y36.filled.length c251, .int .i64 y36.left] 80, .ow kTensor 28 A248 c249 y36.l, .ow Kd.bool 4 A250 c251 y36.filled, .sl (Kd.int .i64) A432 c433 r429.1.Shape, .sl Kd.float A434 c435 r429.1.Data, .sl (Kd.int .i64) A246 c247 y36.s] w943 := Mem.lit (kd := Kd.float) (xs := ([4607182418800017408, 4611686018427387904] : List Nat)) hm939 hbb942 hx946 hg947 (Els.append (Els.one (kd := Kd.float) (us := [.float .f64 4607182418800017408]) (x := 4607182418800017408) ⟨_, rfl, (FR.lit (by kernel_rfl) (by kernel_rfl))⟩) (Els.one (kd := Kd.float) (us := [.float .f64 4611686018427387904]) (x := 4611686018427387904) ⟨_, rfl, (FR.lit (by kernel_rfl) (by kernel_rfl))⟩))
                                      refine all1 45 (by kernel_rfl) ?_
                                      refine opOf hf945 rfl (by kernel_rfl) (aCall (fid := 24) (args := [.slice (some ⟨b942, 0, none⟩) 2 2]) (d := 136) hf945 (by kernel_rfl) (by kernel_rfl) callable24 (law8_FoldKnown_1.calls _ _ ([4607182418800017408, 4611686018427387904] : List Nat) (some ⟨b942, 0, none⟩) 2 2 rfl (hm948.give [0] [.sl Kd.float (some ⟨b942, 0, none⟩) 2 ([4607182418800017408, 4611686018427387904] : List Nat)] rfl rfl) r632 hr632) ?_)
                                      rintro _ w953 a954 ⟨A949, c950, A951, c952, rfl, hk956⟩ hf955
                                      refine ⟨.inr (Gr.still hk956.cum.none), ?_⟩
                                      have hm957 : Mem [] M w0 [.ow (Kd.int .i64) 3 A949 c950 r632.Shape, .sl Kd.float A951 c952 r632.Data, .sl Kd.float (some ⟨b942, 0, none⟩) 2 ([4607182418800017408, 4611686018427387904] : List Nat), .sl (Kd.int .i64) A925 c926 r624.Shape, .sl Kd.float A927 c928 r624.Data, .sl Kd.float (some ⟨b918, 0, none⟩) 2 ([0, 0] : List Nat), .bx b606 [.slice A593 r590.1.Shape.length c594, .slice A595 r590.1.Data.length c596] 28, .sl (Kd.int .i64) A593 c594 r590.1.Shape, .sl Kd.float A595 c596 r590.1.Data, .bx b445 [.slice A432 r429.1.Shape.length c433, .slice A434 r429.1.Data.length c435] 28, .bx b245 [.slice A246 y36.s.length c247, .slice A248 y36.l.length c249, .slice A250 y36.filled.length c251, .int .i64 y36.left] 80, .ow kTensor 28 A248 c249 y36.l, .ow Kd.bool 4 A250 c251 y36.filled, .sl (Kd.int .i64) A432 c433 r429.1.Shape, .sl Kd.float A434 c435 r429.1.Data, .sl (Kd.int .i64) A246 c247 y36.s] w953 := hm948.back hk956
                                      have hm958 : Mem [] M w0 [.sl (Kd.int .i64) A949 c950 r632.Shape, .sl Kd.float A951 c952 r632.Data, .sl Kd.float (some ⟨b942, 0, none⟩) 2 ([4607182418800017408, 4611686018427387904] : List Nat), .sl (Kd.int .i64) A925 c926 r624.Shape, .sl Kd.float A927 c928 r624.Data, .sl Kd.float (some ⟨b918, 0, none⟩) 2 ([0, 0] : List Nat), .bx b606 [.slice A593 r590.1.Shape.length c594, .slice A595 r590.1.Data.length c596] 28, .sl (Kd.int .i64) A593 c594 r590.1.Shape, .sl Kd.float A595 c596 r590.1.Data, .bx b445 [.slice A432 r429.1.Shape.length c433, .slice A434 r429.1.Data.length c435] 28, .bx b245 [.slice A246 y36.s.length c247, .slice A248 y36.l.length c249, .slice A250 y36.filled.length c251, .int .i64 y36.left] 80, .ow kTensor 28 A248 c249 y36.l, .ow Kd.bool 4 A250 c251 y36.filled, .sl (Kd.int .i64) A432 c433 r429.1.Shape, .sl Kd.float A434 c435 r429.1.Data, .sl (Kd.int .i64) A246 c247 y36.s] w953 := hm957.seal 0 _ rfl rfl
                                      refine all1 46 (by kernel_rfl) ?_
                                      refine opOf hf955 rfl (by kernel_rfl) (aCall (fid := 19) (args := [.agg #[.slice A593 r590.1.Shape.length c594, .slice A595 r590.1.Data.length c596], .agg #[.slice A949 r632.Shape.length c950, .slice A951 r632.Data.length c952]]) (d := 137) hf955 (by kernel_rfl) (by kernel_rfl) callable19 (ref1_SameTensor.calls _ _ r590.1 A593 r590.1.Shape.length c594 rfl A595 r590.1.Data.length c596 rfl r632 A949 r632.Shape.length c950 rfl A951 r632.Data.length c952 rfl (hm958.give [7, 8, 0, 1] [.sl (Kd.int .i64) A593 c594 r590.1.Shape, .sl Kd.float A595 c596 r590.1.Data, .sl (Kd.int .i64) A949 c950 r632.Shape, .sl Kd.float A951 c952 r632.Data] rfl rfl) r633 hr633) ?_)
                                      rintro _ w959 a960 ⟨rfl, hk962⟩ hf961
                                      refine ⟨.inr (Gr.still hk962.cum.none), ?_⟩
                                      have hm963 := hm958.still hk962.cum.none
                                      rw [c634] at hf961
                                      refine quiet0 [47, 48, 49] [] [139, 140] #[true, true, true, true, true, true, true, true, true, true, true, true, true, true, true, true, true, true, true, true, true, true, true, true, true, true, true, true, true, true, true, true, true, true, true, true, true, true, true, true, true, true, true, true, true, true, true, true, true, true, false, false, false, false] [(139, .bool true), (140, .pointer (some ⟨b245, 0, none⟩))] [] 4 rfl (by kernel_rfl) (fun _ _ _ _ _ h => nomatch h.1) hf961 (by kernel_rfl) trivial fun a964 hf965 => ?_
                                      refine all1 50 (by kernel_rfl) ?_
                                      refine opOf hf965 rfl (by kernel_rfl) (aCall (fid := 22) (args := [.pointer (some ⟨b245, 0, none⟩)]) (d := 141) hf965 (by kernel_rfl) (by kernel_rfl) callable22 (fold_Slots_Left.calls _ _ _ y36 b245 A246 y36.s.length c247 rfl A248 y36.l.length c249 rfl A250 y36.filled.length c251 rfl (hm963.giveO [10, 11, 12] [0, 1, 2, 3, 4, 5, 6, 7, 8, 9, 13, 14, 15] [15] [.bx b245 [.slice A246 y36.s.length c247, .slice A248 y36.l.length c249, .slice A250 y36.filled.length c251, .int .i64 y36.left] 80, .ow kTensor 28 A248 c249 y36.l, .ow Kd.bool 4 A250 c251 y36.filled] _ [.sl (Kd.int .i64) A246 c247 y36.s] rfl rfl rfl (by kernel_rfl) rfl) r635 hr635) ?_)
                                      rintro _ w966 a967 ⟨rfl, hk969⟩ hf968
                                      refine ⟨.inl (by decide), ?_⟩
                                      have hm970 : Mem [] M w0 [.bx b245 [.slice A246 y36.s.length c247, .slice A248 y36.l.length c249, .slice A250 y36.filled.length c251, .int .i64 y36.left] 80, .ow kTensor 28 A248 c249 y36.l, .ow Kd.bool 4 A250 c251 y36.filled, .sl (Kd.int .i64) A949 c950 r632.Shape, .sl Kd.float A951 c952 r632.Data, .sl Kd.float (some ⟨b942, 0, none⟩) 2 ([4607182418800017408, 4611686018427387904] : List Nat), .sl (Kd.int .i64) A925 c926 r624.Shape, .sl Kd.float A927 c928 r624.Data, .sl Kd.float (some ⟨b918, 0, none⟩) 2 ([0, 0] : List Nat), .bx b606 [.slice A593 r590.1.Shape.length c594, .slice A595 r590.1.Data.length c596] 28, .sl (Kd.int .i64) A593 c594 r590.1.Shape, .sl Kd.float A595 c596 r590.1.Data, .bx b445 [.slice A432 r429.1.Shape.length c433, .slice A434 r429.1.Data.length c435] 28, .sl (Kd.int .i64) A432 c433 r429.1.Shape, .sl Kd.float A434 c435 r429.1.Data, .sl (Kd.int .i64) A246 c247 y36.s] w966 := hm963.backO [10, 11, 12] [0, 1, 2, 3, 4, 5, 6, 7, 8, 9, 13, 14, 15] _ _ rfl rfl (by kernel_rfl) hk969
                                      refine quiet0 [51, 52, 53] [.bool false] [0] #[true, true, true, true, true, true, true, true, true, true, true, true, true, true, true, true, true, true, true, true, true, true, true, true, true, true, true, true, true, true, true, true, true, true, true, true, true, true, true, true, true, true, true, true, true, true, true, true, true, true, true, true, true, true] [(0, .bool false)] [.is (((r635 : Int) == 0) = false)] 0 rfl (by kernel_rfl) (fun _ _ _ _ _ h => nomatch h.1) hf968 (by kernel_rfl) ⟨(eqF c636), trivial⟩ fun a971 hf972 => ?_
                                      refine allDone (by kernel_rfl) ⟨rfl, hf972.sel (l := [0]) (by kernel_rfl), hm970.sel [] _ rfl (by kernel_rfl)⟩
                                    rintro a973 w974 ⟨hf975, hm976⟩
                                    refine thenN ?_
                                    refine wp_ret ?_
                                    have hm977 : Mem [] M w0 [] w974 := hm976.sel [] _ rfl (by kernel_rfl)
                                    obtain rfl := Option.some.inj H0
                                    refine ret [] [.bool false] [] hf975 (by kernel_rfl) trivial ?_
                                    exact ⟨_, rfl, rfl, hm977⟩
                                · refine midReg (fun (a : Act) (w : World) => Fr 144 a [(0, .bool false)] ∧ Mem [] M w0 [] w) ?_ ?_
                                  · refine anyG [] (by kernel_rfl) fun w1024 hg1025 => ?_
                                    have hm1026 := hm619.still hg1025
                                    refine quiet0 [0, 1, 2, 3, 4, 5, 6, 7, 8, 9, 10, 11, 12, 13, 14, 15, 16] [.bool true, .bool true, .bool true, .bool true, .agg #[.slice A432 r429.1.Shape.length c433, .slice A434 r429.1.Data.length c435]] [1, 2, 14, 15, 16, 17, 18, 19, 105, 106, 107] #[true, true, true, true, true, true, true, true, true, true, true, true, true, true, true, true, true, false, false, false, false, false, false, false, false, false, false, false, false, false, false, false, false, false, false, false, false, false, false, false, false, false, false, false, false, false, false, false, false, false, false, false, false, false] [(1, .func (.func 24) #[] #[]), (2, .pointer (some ⟨b245, 0, none⟩)), (14, .int .i64 r459.2.2.2), (15, .int .i64 r492.2.2.2), (16, .int .i64 r525.2.2.2), (17, .int .i64 r558.2.2.2), (18, .pointer (some ⟨b606, 0, none⟩)), (19, .int .i64 r590.2), (105, .bool true), (106, .agg #[.slice A432 r429.1.Shape.length c433, .slice A434 r429.1.Data.length c435]), (107, .func (.func 24) #[] #[])] [.is (((r374.2 : Int) == 2) = true), .is (((r391.2 : Int) == 1) = true), .is (((r408.2 : Int) == 1) = true), .is (((r429.2 : Int) == 0) = true), .cell ⟨b445, 0, none⟩ (.slice A432 r429.1.Shape.length c433), .cell ⟨b445, 1, none⟩ (.slice A434 r429.1.Data.length c435)] 37 rfl (by kernel_rfl) (fun _ _ _ _ _ h => nomatch h.1) hf618 (by kernel_rfl) ⟨(eqT c620), (eqT c621), (eqT c622), (eqT c623), (hm1026.cell 3 rfl rfl), (hm1026.cell 3 rfl rfl), trivial⟩ fun a1077 hf1078 => ?_
                                    refine all1 17 (by kernel_rfl) ?_
                                    refine opOf hf1078 rfl (by kernel_rfl) (aLit (cs := [.float .f64 0, .float .f64 0]) (E := 44) (len := 2) (d := 108) hf1078 (by kernel_rfl) (by kernel_rfl) ?_)
                                    intro b1079 w1080 a1081 hbb1079 hx1083 hg1084 hf1082
                                    refine ⟨.inr (Gr.still hg1084), ?_⟩
                                    have hm1026s := hm1026.still hg1084
                                    have hm1085 : Mem [] M w0 [.sl Kd.float (some ⟨b1079, 0, none⟩) 2 ([0, 0] : List Nat), .bx b606 [.slice A593 r590.1.Shape.length c594, .slice A595 r590.1.Data.length c596] 28, .sl (Kd.int .i64) A593 c594 r590.1.Shape, .sl Kd.float A595 c596 r590.1.Data, .bx b445 [.slice A432 r429.1.Shape.length c433, .slice A434 r429.1.Data.length c435] 28, .bx b245 [.slice A246 y36.s.length c247, .slice A248 y36.l.length c249, .slice A250 y36.filled.length c251, .int .i64 y36.left] 80, .ow kTensor 28 A248 c249 y36.l, .ow Kd.bool 4 A250 c251 y36.filled, .sl (Kd.int .i64) A432 c433 r429.1.Shape, .sl Kd.float A434 c435 r429.1.Data, .sl (Kd.int .i64) A246 c247 y36.s] w1080 := Mem.lit (kd := Kd.float) (xs := ([0, 0] : List Nat)) hm1026 hbb1079 hx1083 hg1084 (Els.append (Els.one (kd := Kd.float) (us := [.float .f64 0]) (x := 0) ⟨_, rfl, (FR.lit (by kernel_rfl) (by kernel_rfl))⟩) (Els.one (kd := Kd.float) (us := [.float .f64 0]) (x := 0) ⟨_, rfl, (FR.lit (by kernel_rfl) (by kernel_rfl))⟩))
                                    refine all1 18 (by kernel_rfl) ?_
                                    refine opOf hf1082 rfl (by kernel_rfl) (aCall (fid := 24) (args := [.slice (some ⟨b1079, 0, none⟩) 2 2]) (d := 109) hf1082 (by kernel_rfl) (by kernel_rfl) callable24 (law8_FoldKnown_1.calls _ _ ([0, 0] : List Nat) (some ⟨b1079, 0, none⟩) 2 2 rfl (hm1085.give [0] [.sl Kd.float (some ⟨b1079, 0, none⟩) 2 ([0, 0] : List Nat)] rfl rfl) r624 hr624) ?_)
                                    rintro _ w1090 a1091 ⟨A1086, c1087, A1088, c1089, rfl, hk1093⟩ hf1092
                                    refine ⟨.inr (Gr.still hk1093.cum.none), ?_⟩
                                    have hm1094 : Mem [] M w0 [.ow (Kd.int .i64) 3 A1086 c1087 r624.Shape, .sl Kd.float A1088 c1089 r624.Data, .sl Kd.float (some ⟨b1079, 0, none⟩) 2 ([0, 0] : List Nat), .bx b606 [.slice A593 r590.1.Shape.length c594, .slice A595 r590.1.Data.length c596] 28, .sl (Kd.int .i64) A593 c594 r590.1.Shape, .sl Kd.float A595 c596 r590.1.Data, .bx b445 [.slice A432 r429.1.Shape.length c433, .slice A434 r429.1.Data.length c435] 28, .bx b245 [.slice A246 y36.s.length c247, .slice A248 y36.l.length c249, .slice A250 y36.filled.length c251, .int .i64 y36.left] 80, .ow kTensor 28 A248 c249 y36.l, .ow Kd.bool 4 A250 c251 y36.filled, .sl (Kd.int .i64) A432 c433 r429.1.Shape, .sl Kd.float A434 c435 r429.1.Data, .sl (Kd.int .i64) A246 c247 y36.s] w1090 := hm1085.back hk1093
                                    have hm1095 : Mem [] M w0 [.sl (Kd.int .i64) A1086 c1087 r624.Shape, .sl Kd.float A1088 c1089 r624.Data, .sl Kd.float (some ⟨b1079, 0, none⟩) 2 ([0, 0] : List Nat), .bx b606 [.slice A593 r590.1.Shape.length c594, .slice A595 r590.1.Data.length c596] 28, .sl (Kd.int .i64) A593 c594 r590.1.Shape, .sl Kd.float A595 c596 r590.1.Data, .bx b445 [.slice A432 r429.1.Shape.length c433, .slice A434 r429.1.Data.length c435] 28, .bx b245 [.slice A246 y36.s.length c247, .slice A248 y36.l.length c249, .slice A250 y36.filled.length c251, .int .i64 y36.left] 80, .ow kTensor 28 A248 c249 y36.l, .ow Kd.bool 4 A250 c251 y36.filled, .sl (Kd.int .i64) A432 c433 r429.1.Shape, .sl Kd.float A434 c435 r429.1.Data, .sl (Kd.int .i64) A246 c247 y36.s] w1090 := hm1094.seal 0 _ rfl rfl
                                    refine all1 19 (by kernel_rfl) ?_
                                    refine opOf hf1092 rfl (by kernel_rfl) (aCall (fid := 19) (args := [.agg #[.slice A432 r429.1.Shape.length c433, .slice A434 r429.1.Data.length c435], .agg #[.slice A1086 r624.Shape.length c1087, .slice A1088 r624.Data.length c1089]]) (d := 110) hf1092 (by kernel_rfl) (by kernel_rfl) callable19 (ref1_SameTensor.calls _ _ r429.1 A432 r429.1.Shape.length c433 rfl A434 r429.1.Data.length c435 rfl r624 A1086 r624.Shape.length c1087 rfl A1088 r624.Data.length c1089 rfl (hm1095.give [10, 11, 0, 1] [.sl (Kd.int .i64) A432 c433 r429.1.Shape, .sl Kd.float A434 c435 r429.1.Data, .sl (Kd.int .i64) A1086 c1087 r624.Shape, .sl Kd.float A1088 c1089 r624.Data] rfl rfl) r625 hr625) ?_)
                                    rintro _ w1096 a1097 ⟨rfl, hk1099⟩ hf1098
                                    refine ⟨.inr (Gr.still hk1099.cum.none), ?_⟩
                                    have hm1100 := hm1095.still hk1099.cum.none
                                    rw [c626] at hf1098
                                    refine quiet0 [20, 21, 22, 23, 24, 25, 26, 27, 28, 29, 30, 31, 32, 33, 34, 35, 36, 37, 38, 39, 40, 41, 42, 43] [.bool true, .bool true, .bool true, .bool true, .bool true, .agg #[.slice A593 r590.1.Shape.length c594, .slice A595 r590.1.Data.length c596]] [2, 132, 133, 134] #[true, true, true, true, true, true, true, true, true, true, true, true, true, true, true, true, true, true, true, true, true, true, true, true, true, true, true, true, true, true, true, true, true, true, true, true, true, true, true, true, true, true, true, true, false, false, false, false, false, false, false, false, false, false] [(2, .pointer (some ⟨b245, 0, none⟩)), (132, .bool true), (133, .agg #[.slice A593 r590.1.Shape.length c594, .slice A595 r590.1.Data.length c596]), (134, .func (.func 24) #[] #[])] [.is (((r459.2.2.2 : Int) == 1) = true), .is (((r492.2.2.2 : Int) == 2) = true), .is (((r525.2.2.2 : Int) == 0) = true), .is (((r558.2.2.2 : Int) == 1) = true), .is (((r590.2 : Int) == 0) = true), .cell ⟨b606, 0, none⟩ (.slice A593 r590.1.Shape.length c594), .cell ⟨b606, 1, none⟩ (.slice A595 r590.1.Data.length c596)] 10 rfl (by kernel_rfl) (fun _ _ _ _ _ h => nomatch h.1) hf1098 (by kernel_rfl) ⟨(eqT c627), (eqT c628), (eqT c629), (eqT c630), (eqT c631), (hm1100.cell 3 rfl rfl), (hm1100.cell 3 rfl rfl), trivial⟩ fun a1101 hf1102 => ?_
                                    refine all1 44 (by kernel_rfl) ?_
                                    refine opOf hf1102 rfl (by kernel_rfl) (aLit (cs := [.float .f64 4607182418800017408, .float .f64 4611686018427387904]) (E := 44) (len := 2) (d := 135) hf1102 (by kernel_rfl) (by kernel_rfl) ?_)
                                    intro b1103 w1104 a1105 hbb1103 hx1107 hg1108 hf1106
                                    refine ⟨.inr (Gr.still hg1108), ?_⟩
                                    have hm1100s := hm1100.still hg1108
                                    have hm1109 : Mem [] M w0 [.sl Kd.float (some ⟨b1103, 0, none⟩) 2 ([4607182418800017408, 4611686018427387904] : List Nat), .sl (Kd.int .i64) A1086 c1087 r624.Shape, .sl Kd.float A1088 c1089 r624.Data, .sl Kd.float (some ⟨b1079, 0, none⟩) 2 ([0, 0] : List Nat), .bx b606 [.slice A593 r590.1.Shape.length c594, .slice A595 r590.1.Data.length c596] 28, .sl (Kd.int .i64) A593 c594 r590.1.Shape, .sl Kd.float A595 c596 r590.1.Data, .bx b445 [.slice A432 r429.1.Shape.length c433, .slice A434 r429.1.Data.length c435] 28, .bx b245 [.slice A246 y36.s.length c247, .slice A248 y36.l.length c249, .slice A250 y36.filled.length c251, .int .i64 y36.left] 80, .ow kTensor 28 A248 c249 y36.l, .ow Kd.bool 4 A250 c251 y36.filled, .sl (Kd.int .i64) A432 c433 r429.1.Shape, .sl Kd.float A434 c435 r429.1.Data, .sl (Kd.int .i64) A246 c247 y36.s] w1104 := Mem.lit (kd := Kd.float) (xs := ([4607182418800017408, 4611686018427387904] : List Nat)) hm1100 hbb1103 hx1107 hg1108 (Els.append (Els.one (kd := Kd.float) (us := [.float .f64 4607182418800017408]) (x := 4607182418800017408) ⟨_, rfl, (FR.lit (by kernel_rfl) (by kernel_rfl))⟩) (Els.one (kd := Kd.float) (us := [.float .f64 4611686018427387904]) (x := 4611686018427387904) ⟨_, rfl, (FR.lit (by kernel_rfl) (by kernel_rfl))⟩))
                                    refine all1 45 (by kernel_rfl) ?_
                                    refine opOf hf1106 rfl (by kernel_rfl) (aCall (fid := 24) (args := [.slice (some ⟨b1103, 0, none⟩) 2 2]) (d := 136) hf1106 (by kernel_rfl) (by kernel_rfl) callable24 (law8_FoldKnown_1.calls _ _ ([4607182418800017408, 4611686018427387904] : List Nat) (some ⟨b1103, 0, none⟩) 2 2 rfl (hm1109.give [0] [.sl Kd.float (some ⟨b1103, 0, none⟩) 2 ([4607182418800017408, 4611686018427387904] : List Nat)] rfl rfl) r632 hr632) ?_)
                                    rintro _ w1114 a1115 ⟨A1110, c1111, A1112, c1113, rfl, hk1117⟩ hf1116
                                    refine ⟨.inr (Gr.still hk1117.cum.none), ?_⟩
                                    have hm1118 : Mem [] M w0 [.ow (Kd.int .i64) 3 A1110 c1111 r632.Shape, .sl Kd.float A1112 c1113 r632.Data, .sl Kd.float (some ⟨b1103, 0, none⟩) 2 ([4607182418800017408, 4611686018427387904] : List Nat), .sl (Kd.int .i64) A1086 c1087 r624.Shape, .sl Kd.float A1088 c1089 r624.Data, .sl Kd.float (some ⟨b1079, 0, none⟩) 2 ([0, 0] : List Nat), .bx b606 [.slice A593 r590.1.Shape.length c594, .slice A595 r590.1.Data.length c596] 28, .sl (Kd.int .i64) A593 c594 r590.1.Shape, .sl Kd.float A595 c596 r590.1.Data, .bx b445 [.slice A432 r429.1.Shape.length c433, .slice A434 r429.1.Data.length c435] 28, .bx b245 [.slice A246 y36.s.length c247, .slice A248 y36.l.length c249, .slice A250 y36.filled.length c251, .int .i64 y36.left] 80, .ow kTensor 28 A248 c249 y36.l, .ow Kd.bool 4 A250 c251 y36.filled, .sl (Kd.int .i64) A432 c433 r429.1.Shape, .sl Kd.float A434 c435 r429.1.Data, .sl (Kd.int .i64) A246 c247 y36.s] w1114 := hm1109.back hk1117
                                    have hm1119 : Mem [] M w0 [.sl (Kd.int .i64) A1110 c1111 r632.Shape, .sl Kd.float A1112 c1113 r632.Data, .sl Kd.float (some ⟨b1103, 0, none⟩) 2 ([4607182418800017408, 4611686018427387904] : List Nat), .sl (Kd.int .i64) A1086 c1087 r624.Shape, .sl Kd.float A1088 c1089 r624.Data, .sl Kd.float (some ⟨b1079, 0, none⟩) 2 ([0, 0] : List Nat), .bx b606 [.slice A593 r590.1.Shape.length c594, .slice A595 r590.1.Data.length c596] 28, .sl (Kd.int .i64) A593 c594 r590.1.Shape, .sl Kd.float A595 c596 r590.1.Data, .bx b445 [.slice A432 r429.1.Shape.length c433, .slice A434 r429.1.Data.length c435] 28, .bx b245 [.slice A246 y36.s.length c247, .slice A248 y36.l.length c249, .slice A250 y36.filled.length c251, .int .i64 y36.left] 80, .ow kTensor 28 A248 c249 y36.l, .ow Kd.bool 4 A250 c251 y36.filled, .sl (Kd.int .i64) A432 c433 r429.1.Shape, .sl Kd.float A434 c435 r429.1.Data, .sl (Kd.int .i64) A246 c247 y36.s] w1114 := hm1118.seal 0 _ rfl rfl
                                    refine all1 46 (by kernel_rfl) ?_
                                    refine opOf hf1116 rfl (by kernel_rfl) (aCall (fid := 19) (args := [.agg #[.slice A593 r590.1.Shape.length c594, .slice A595 r590.1.Data.length c596], .agg #[.slice A1110 r632.Shape.length c1111, .slice A1112 r632.Data.length c1113]]) (d := 137) hf1116 (by kernel_rfl) (by kernel_rfl) callable19 (ref1_SameTensor.calls _ _ r590.1 A593 r590.1.Shape.length c594 rfl A595 r590.1.Data.length c596 rfl r632 A1110 r632.Shape.length c1111 rfl A1112 r632.Data.length c1113 rfl (hm1119.give [7, 8, 0, 1] [.sl (Kd.int .i64) A593 c594 r590.1.Shape, .sl Kd.float A595 c596 r590.1.Data, .sl (Kd.int .i64) A1110 c1111 r632.Shape, .sl Kd.float A1112 c1113 r632.Data] rfl rfl) r633 hr633) ?_)
                                    rintro _ w1120 a1121 ⟨rfl, hk1123⟩ hf1122
                                    refine ⟨.inr (Gr.still hk1123.cum.none), ?_⟩
                                    have hm1124 := hm1119.still hk1123.cum.none
                                    rw [c634] at hf1122
                                    refine quiet0 [47, 48, 49, 50, 51, 52, 53] [] [0] #[true, true, true, true, true, true, true, true, true, true, true, true, true, true, true, true, true, true, true, true, true, true, true, true, true, true, true, true, true, true, true, true, true, true, true, true, true, true, true, true, true, true, true, true, true, true, true, true, true, true, true, true, true, true] [(0, .bool false)] [] 0 rfl (by kernel_rfl) (fun _ _ _ _ _ h => nomatch h.1) hf1122 (by kernel_rfl) trivial fun a1125 hf1126 => ?_
                                    refine allDone (by kernel_rfl) ⟨rfl, hf1126.sel (l := [0]) (by kernel_rfl), hm1124.sel [] _ rfl (by kernel_rfl)⟩
                                  rintro a1127 w1128 ⟨hf1129, hm1130⟩
                                  refine thenN ?_
                                  refine wp_ret ?_
                                  have hm1131 : Mem [] M w0 [] w1128 := hm1130.sel [] _ rfl (by kernel_rfl)
                                  obtain rfl := Option.some.inj H0
                                  refine ret [] [.bool false] [] hf1129 (by kernel_rfl) trivial ?_
                                  exact ⟨_, rfl, rfl, hm1131⟩
                              · refine midReg (fun (a : Act) (w : World) => Fr 144 a [(0, .bool false)] ∧ Mem [] M w0 [] w) ?_ ?_
                                · refine anyG [] (by kernel_rfl) fun w1156 hg1157 => ?_
                                  have hm1158 := hm619.still hg1157
                                  refine quiet0 [0, 1, 2, 3, 4, 5, 6, 7, 8, 9, 10, 11, 12, 13, 14, 15, 16] [.bool true, .bool true, .bool true, .bool true, .agg #[.slice A432 r429.1.Shape.length c433, .slice A434 r429.1.Data.length c435]] [1, 2, 14, 15, 16, 17, 18, 19, 105, 106, 107] #[true, true, true, true, true, true, true, true, true, true, true, true, true, true, true, true, true, false, false, false, false, false, false, false, false, false, false, false, false, false, false, false, false, false, false, false, false, false, false, false, false, false, false, false, false, false, false, false, false, false, false, false, false, false] [(1, .func (.func 24) #[] #[]), (2, .pointer (some ⟨b245, 0, none⟩)), (14, .int .i64 r459.2.2.2), (15, .int .i64 r492.2.2.2), (16, .int .i64 r525.2.2.2), (17, .int .i64 r558.2.2.2), (18, .pointer (some ⟨b606, 0, none⟩)), (19, .int .i64 r590.2), (105, .bool true), (106, .agg #[.slice A432 r429.1.Shape.length c433, .slice A434 r429.1.Data.length c435]), (107, .func (.func 24) #[] #[])] [.is (((r374.2 : Int) == 2) = true), .is (((r391.2 : Int) == 1) = true), .is (((r408.2 : Int) == 1) = true), .is (((r429.2 : Int) == 0) = true), .cell ⟨b445, 0, none⟩ (.slice A432 r429.1.Shape.length c433), .cell ⟨b445, 1, none⟩ (.slice A434 r429.1.Data.length c435)] 37 rfl (by kernel_rfl) (fun _ _ _ _ _ h => nomatch h.1) hf618 (by kernel_rfl) ⟨(eqT c620), (eqT c621), (eqT c622), (eqT c623), (hm1158.cell 3 rfl rfl), (hm1158.cell 3 rfl rfl), trivial⟩ fun a1185 hf1186 => ?_
                                  refine all1 17 (by kernel_rfl) ?_
                                  refine opOf hf1186 rfl (by kernel_rfl) (aLit (cs := [.float .f64 0, .float .f64 0]) (E := 44) (len := 2) (d := 108) hf1186 (by kernel_rfl) (by kernel_rfl) ?_)
                                  intro b1187 w1188 a1189 hbb1187 hx1191 hg1192 hf1190
                                  refine ⟨.inr (Gr.still hg1192), ?_⟩
                                  have hm1158s := hm1158.still hg1192
                                  have hm1193 : Mem [] M w0 [.sl Kd.float (some ⟨b1187, 0, none⟩) 2 ([0, 0] : List Nat), .bx b606 [.slice A593 r590.1.Shape.length c594, .slice A595 r590.1.Data.length c596] 28, .sl (Kd.int .i64) A593 c594 r590.1.Shape, .sl Kd.float A595 c596 r590.1.Data, .bx b445 [.slice A432 r429.1.Shape.length c433, .slice A434 r429.1.Data.length c435] 28, .bx b245 [.slice A246 y36.s.length c247, .slice A248 y36.l.length c249, .slice A250 y36.filled.length c251, .int .i64 y36.left] 80, .ow kTensor 28 A248 c249 y36.l, .ow Kd.bool 4 A250 c251 y36.filled, .sl (Kd.int .i64) A432 c433 r429.1.Shape, .sl Kd.float A434 c435 r429.1.Data, .sl (Kd.int .i64) A246 c247 y36.s] w1188 := Mem.lit (kd := Kd.float) (xs := ([0, 0] : List Nat)) hm1158 hbb1187 hx1191 hg1192 (Els.append (Els.one (kd := Kd.float) (us := [.float .f64 0]) (x := 0) ⟨_, rfl, (FR.lit (by kernel_rfl) (by kernel_rfl))⟩) (Els.one (kd := Kd.float) (us := [.float .f64 0]) (x := 0) ⟨_, rfl, (FR.lit (by kernel_rfl) (by kernel_rfl))⟩))
                                  refine all1 18 (by kernel_rfl) ?_
                                  refine opOf hf1190 rfl (by kernel_rfl) (aCall (fid := 24) (args := [.slice (some ⟨b1187, 0, none⟩) 2 2]) (d := 109) hf1190 (by kernel_rfl) (by kernel_rfl) callable24 (law8_FoldKnown_1.calls _ _ ([0, 0] : List Nat) (some ⟨b1187, 0, none⟩) 2 2 rfl (hm1193.give [0] [.sl Kd.float (some ⟨b1187, 0, none⟩) 2 ([0, 0] : List Nat)] rfl rfl) r624 hr624) ?_)
                                  rintro _ w1198 a1199 ⟨A1194, c1195, A1196, c1197, rfl, hk1201⟩ hf1200
                                  refine ⟨.inr (Gr.still hk1201.cum.none), ?_⟩
                                  have hm1202 : Mem [] M w0 [.ow (Kd.int .i64) 3 A1194 c1195 r624.Shape, .sl Kd.float A1196 c1197 r624.Data, .sl Kd.float (some ⟨b1187, 0, none⟩) 2 ([0, 0] : List Nat), .bx b606 [.slice A593 r590.1.Shape.length c594, .slice A595 r590.1.Data.length c596] 28, .sl (Kd.int .i64) A593 c594 r590.1.Shape, .sl Kd.float A595 c596 r590.1.Data, .bx b445 [.slice A432 r429.1.Shape.length c433, .slice A434 r429.1.Data.length c435] 28, .bx b245 [.slice A246 y36.s.length c247, .slice A248 y36.l.length c249, .slice A250 y36.filled.length c251, .int .i64 y36.left] 80, .ow kTensor 28 A248 c249 y36.l, .ow Kd.bool 4 A250 c251 y36.filled, .sl (Kd.int .i64) A432 c433 r429.1.Shape, .sl Kd.float A434 c435 r429.1.Data, .sl (Kd.int .i64) A246 c247 y36.s] w1198 := hm1193.back hk1201
                                  have hm1203 : Mem [] M w0 [.sl (Kd.int .i64) A1194 c1195 r624.Shape, .sl Kd.float A1196 c1197 r624.Data, .sl Kd.float (some ⟨b1187, 0, none⟩) 2 ([0, 0] : List Nat), .bx b606 [.slice A593 r590.1.Shape.length c594, .slice A595 r590.1.Data.length c596] 28, .sl (Kd.int .i64) A593 c594 r590.1.Shape, .sl Kd.float A595 c596 r590.1.Data, .bx b445 [.slice A432 r429.1.Shape.length c433, .slice A434 r429.1.Data.length c435] 28, .bx b245 [.slice A246 y36.s.length c247, .slice A248 y36.l.length c249, .slice A250 y36.filled.length c251, .int .i64 y36.left] 80, .ow kTensor 28 A248 c249 y36.l, .ow Kd.bool 4 A250 c251 y36.filled, .sl (Kd.int .i64) A432 c433 r429.1.Shape, .sl Kd.float A434 c435 r429.1.Data, .sl (Kd.int .i64) A246 c247 y36.s] w1198 := hm1202.seal 0 _ rfl rfl
                                  refine all1 19 (by kernel_rfl) ?_
                                  refine opOf hf1200 rfl (by kernel_rfl) (aCall (fid := 19) (args := [.agg #[.slice A432 r429.1.Shape.length c433, .slice A434 r429.1.Data.length c435], .agg #[.slice A1194 r624.Shape.length c1195, .slice A1196 r624.Data.length c1197]]) (d := 110) hf1200 (by kernel_rfl) (by kernel_rfl) callable19 (ref1_SameTensor.calls _ _ r429.1 A432 r429.1.Shape.length c433 rfl A434 r429.1.Data.length c435 rfl r624 A1194 r624.Shape.length c1195 rfl A1196 r624.Data.length c1197 rfl (hm1203.give [10, 11, 0, 1] [.sl (Kd.int .i64) A432 c433 r429.1.Shape, .sl Kd.float A434 c435 r429.1.Data, .sl (Kd.int .i64) A1194 c1195 r624.Shape, .sl Kd.float A1196 c1197 r624.Data] rfl rfl) r625 hr625) ?_)
                                  rintro _ w1204 a1205 ⟨rfl, hk1207⟩ hf1206
                                  refine ⟨.inr (Gr.still hk1207.cum.none), ?_⟩
                                  have hm1208 := hm1203.still hk1207.cum.none
                                  rw [c626] at hf1206
                                  refine quiet0 [20, 21, 22, 23, 24, 25, 26, 27, 28, 29, 30, 31, 32, 33, 34, 35, 36, 37, 38, 39, 40, 41, 42, 43, 44, 45, 46, 47, 48, 49, 50, 51, 52, 53] [.bool true, .bool true, .bool true, .bool true, .bool false] [0] #[true, true, true, true, true, true, true, true, true, true, true, true, true, true, true, true, true, true, true, true, true, true, true, true, true, true, true, true, true, true, true, true, true, true, true, true, true, true, true, true, true, true, true, true, true, true, true, true, true, true, true, true, true, true] [(0, .bool false)] [.is (((r459.2.2.2 : Int) == 1) = true), .is (((r492.2.2.2 : Int) == 2) = true), .is (((r525.2.2.2 : Int) == 0) = true), .is (((r558.2.2.2 : Int) == 1) = true), .is (((r590.2 : Int) == 0) = false)] 0 rfl (by kernel_rfl) (fun _ _ _ _ _ h => nomatch h.1) hf1206 (by kernel_rfl) ⟨(eqT c627), (eqT c628), (eqT c629), (eqT c630), (eqF c631), trivial⟩ fun a1209 hf1210 => ?_
                                  refine allDone (by kernel_rfl) ⟨rfl, hf1210.sel (l := [0]) (by kernel_rfl), hm1208.sel [] _ rfl (by kernel_rfl)⟩
                                rintro a1211 w1212 ⟨hf1213, hm1214⟩
                                refine thenN ?_
                                refine wp_ret ?_
                                have hm1215 : Mem [] M w0 [] w1212 := hm1214.sel [] _ rfl (by kernel_rfl)
                                obtain rfl := Option.some.inj H0
                                refine ret [] [.bool false] [] hf1213 (by kernel_rfl) trivial ?_
                                exact ⟨_, rfl, rfl, hm1215⟩
                            · refine midReg (fun (a : Act) (w : World) => Fr 144 a [(0, .bool false)] ∧ Mem [] M w0 [] w) ?_ ?_
                              · refine anyG [] (by kernel_rfl) fun w1240 hg1241 => ?_
                                have hm1242 := hm619.still hg1241
                                refine quiet0 [0, 1, 2, 3, 4, 5, 6, 7, 8, 9, 10, 11, 12, 13, 14, 15, 16] [.bool true, .bool true, .bool true, .bool true, .agg #[.slice A432 r429.1.Shape.length c433, .slice A434 r429.1.Data.length c435]] [1, 2, 14, 15, 16, 17, 18, 19, 105, 106, 107] #[true, true, true, true, true, true, true, true, true, true, true, true, true, true, true, true, true, false, false, false, false, false, false, false, false, false, false, false, false, false, false, false, false, false, false, false, false, false, false, false, false, false, false, false, false, false, false, false, false, false, false, false, false, false] [(1, .func (.func 24) #[] #[]), (2, .pointer (some ⟨b245, 0, none⟩)), (14, .int .i64 r459.2.2.2), (15, .int .i64 r492.2.2.2), (16, .int .i64 r525.2.2.2), (17, .int .i64 r558.2.2.2), (18, .pointer (some ⟨b606, 0, none⟩)), (19, .int .i64 r590.2), (105, .bool true), (106, .agg #[.slice A432 r429.1.Shape.length c433, .slice A434 r429.1.Data.length c435]), (107, .func (.func 24) #[] #[])] [.is (((r374.2 : Int) == 2) = true), .is (((r391.2 : Int) == 1) = true), .is (((r408.2 : Int) == 1) = true), .is (((r429.2 : Int) == 0) = true), .cell ⟨b445, 0, none⟩ (.slice A432 r429.1.Shape.length c433), .cell ⟨b445, 1, none⟩ (.slice A434 r429.1.Data.length c435)] 37 rfl (by kernel_rfl) (fun _ _ _ _ _ h => nomatch h.1) hf618 (by kernel_rfl) ⟨(eqT c620), (eqT c621), (eqT c622), (eqT c623), (hm1242.cell 3 rfl rfl), (hm1242.cell 3 rfl rfl), trivial⟩ fun a1269 hf1270 => ?_
                                refine all1 17 (by kernel_rfl) ?_
                                refine opOf hf1270 rfl (by kernel_rfl) (aLit (cs := [.float .f64 0, .float .f64 0]) (E := 44) (len := 2) (d := 108) hf1270 (by kernel_rfl) (by kernel_rfl) ?_)
                                intro b1271 w1272 a1273 hbb1271 hx1275 hg1276 hf1274
                                refine ⟨.inr (Gr.still hg1276), ?_⟩
                                have hm1242s := hm1242.still hg1276
                                have hm1277 : Mem [] M w0 [.sl Kd.float (some ⟨b1271, 0, none⟩) 2 ([0, 0] : List Nat), .bx b606 [.slice A593 r590.1.Shape.length c594, .slice A595 r590.1.Data.length c596] 28, .sl (Kd.int .i64) A593 c594 r590.1.Shape, .sl Kd.float A595 c596 r590.1.Data, .bx b445 [.slice A432 r429.1.Shape.length c433, .slice A434 r429.1.Data.length c435] 28, .bx b245 [.slice A246 y36.s.length c247, .slice A248 y36.l.length c249, .slice A250 y36.filled.length c251, .int .i64 y36.left] 80, .ow kTensor 28 A248 c249 y36.l, .ow Kd.bool 4 A250 c251 y36.filled, .sl (Kd.int .i64) A432 c433 r429.1.Shape, .sl Kd.float A434 c435 r429.1.Data, .sl (Kd.int .i64) A246 c247 y36.s] w1272 := Mem.lit (kd := Kd.float) (xs := ([0, 0] : List Nat)) hm1242 hbb1271 hx1275 hg1276 (Els.append (Els.one (kd := Kd.float) (us := [.float .f64 0]) (x := 0) ⟨_, rfl, (FR.lit (by kernel_rfl) (by kernel_rfl))⟩) (Els.one (kd := Kd.float) (us := [.float .f64 0]) (x := 0) ⟨_, rfl, (FR.lit (by kernel_rfl) (by kernel_rfl))⟩))
                                refine all1 18 (by kernel_rfl) ?_
                                refine opOf hf1274 rfl (by kernel_rfl) (aCall (fid := 24) (args := [.slice (some ⟨b1271, 0, none⟩) 2 2]) (d := 109) hf1274 (by kernel_rfl) (by kernel_rfl) callable24 (law8_FoldKnown_1.calls _ _ ([0, 0] : List Nat) (some ⟨b1271, 0, none⟩) 2 2 rfl (hm1277.give [0] [.sl Kd.float (some ⟨b1271, 0, none⟩) 2 ([0, 0] : List Nat)] rfl rfl) r624 hr624) ?_)
                                rintro _ w1282 a1283 ⟨A1278, c1279, A1280, c1281, rfl, hk1285⟩ hf1284
                                refine ⟨.inr (Gr.still hk1285.cum.none), ?_⟩
                                have hm1286 : Mem [] M w0 [.ow (Kd.int .i64) 3 A1278 c1279 r624.Shape, .sl Kd.float A1280 c1281 r624.Data, .sl Kd.float (some ⟨b1271, 0, none⟩) 2 ([0, 0] : List Nat), .bx b606 [.slice A593 r590.1.Shape.length c594, .slice A595 r590.1.Data.length c596] 28, .sl (Kd.int .i64) A593 c594 r590.1.Shape, .sl Kd.float A595 c596 r590.1.Data, .bx b445 [.slice A432 r429.1.Shape.length c433, .slice A434 r429.1.Data.length c435] 28, .bx b245 [.slice A246 y36.s.length c247, .slice A248 y36.l.length c249, .slice A250 y36.filled.length c251, .int .i64 y36.left] 80, .ow kTensor 28 A248 c249 y36.l, .ow Kd.bool 4 A250 c251 y36.filled, .sl (Kd.int .i64) A432 c433 r429.1.Shape, .sl Kd.float A434 c435 r429.1.Data, .sl (Kd.int .i64) A246 c247 y36.s] w1282 := hm1277.back hk1285
                                have hm1287 : Mem [] M w0 [.sl (Kd.int .i64) A1278 c1279 r624.Shape, .sl Kd.float A1280 c1281 r624.Data, .sl Kd.float (some ⟨b1271, 0, none⟩) 2 ([0, 0] : List Nat), .bx b606 [.slice A593 r590.1.Shape.length c594, .slice A595 r590.1.Data.length c596] 28, .sl (Kd.int .i64) A593 c594 r590.1.Shape, .sl Kd.float A595 c596 r590.1.Data, .bx b445 [.slice A432 r429.1.Shape.length c433, .slice A434 r429.1.Data.length c435] 28, .bx b245 [.slice A246 y36.s.length c247, .slice A248 y36.l.length c249, .slice A250 y36.filled.length c251, .int .i64 y36.left] 80, .ow kTensor 28 A248 c249 y36.l, .ow Kd.bool 4 A250 c251 y36.filled, .sl (Kd.int .i64) A432 c433 r429.1.Shape, .sl Kd.float A434 c435 r429.1.Data, .sl (Kd.int .i64) A246 c247 y36.s] w1282 := hm1286.seal 0 _ rfl rfl
                                refine all1 19 (by kernel_rfl) ?_
                                refine opOf hf1284 rfl (by kernel_rfl) (aCall (fid := 19) (args := [.agg #[.slice A432 r429.1.Shape.length c433, .slice A434 r429.1.Data.length c435], .agg #[.slice A1278 r624.Shape.length c1279, .slice A1280 r624.Data.length c1281]]) (d := 110) hf1284 (by kernel_rfl) (by kernel_rfl) callable19 (ref1_SameTensor.calls _ _ r429.1 A432 r429.1.Shape.length c433 rfl A434 r429.1.Data.length c435 rfl r624 A1278 r624.Shape.length c1279 rfl A1280 r624.Data.length c1281 rfl (hm1287.give [10, 11, 0, 1] [.sl (Kd.int .i64) A432 c433 r429.1.Shape, .sl Kd.float A434 c435 r429.1.Data, .sl (Kd.int .i64) A1278 c1279 r624.Shape, .sl Kd.float A1280 c1281 r624.Data] rfl rfl) r625 hr625) ?_)
                                rintro _ w1288 a1289 ⟨rfl, hk1291⟩ hf1290
                                refine ⟨.inr (Gr.still hk1291.cum.none), ?_⟩
                                have hm1292 := hm1287.still hk1291.cum.none
                                rw [c626] at hf1290
                                refine quiet0 [20, 21, 22, 23, 24, 25, 26, 27, 28, 29, 30, 31, 32, 33, 34, 35, 36, 37, 38, 39, 40, 41, 42, 43, 44, 45, 46, 47, 48, 49, 50, 51, 52, 53] [.bool true, .bool true, .bool true, .bool false] [0] #[true, true, true, true, true, true, true, true, true, true, true, true, true, true, true, true, true, true, true, true, true, true, true, true, true, true, true, true, true, true, true, true, true, true, true, true, true, true, true, true, true, true, true, true, true, true, true, true, true, true, true, true, true, true] [(0, .bool false)] [.is (((r459.2.2.2 : Int) == 1) = true), .is (((r492.2.2.2 : Int) == 2) = true), .is (((r525.2.2.2 : Int) == 0) = true), .is (((r558.2.2.2 : Int) == 1) = false)] 0 rfl (by kernel_rfl) (fun _ _ _ _ _ h => nomatch h.1) hf1290 (by kernel_rfl) ⟨(eqT c627), (eqT c628), (eqT c629), (eqF c630), trivial⟩ fun a1293 hf1294 => ?_
                                refine allDone (by kernel_rfl) ⟨rfl, hf1294.sel (l := [0]) (by kernel_rfl), hm1292.sel [] _ rfl (by kernel_rfl)⟩
                              rintro a1295 w1296 ⟨hf1297, hm1298⟩
                              refine thenN ?_
                              refine wp_ret ?_
                              have hm1299 : Mem [] M w0 [] w1296 := hm1298.sel [] _ rfl (by kernel_rfl)
                              obtain rfl := Option.some.inj H0
                              refine ret [] [.bool false] [] hf1297 (by kernel_rfl) trivial ?_
                              exact ⟨_, rfl, rfl, hm1299⟩
                          · refine midReg (fun (a : Act) (w : World) => Fr 144 a [(0, .bool false)] ∧ Mem [] M w0 [] w) ?_ ?_
                            · refine anyG [] (by kernel_rfl) fun w1324 hg1325 => ?_
                              have hm1326 := hm619.still hg1325
                              refine quiet0 [0, 1, 2, 3, 4, 5, 6, 7, 8, 9, 10, 11, 12, 13, 14, 15, 16] [.bool true, .bool true, .bool true, .bool true, .agg #[.slice A432 r429.1.Shape.length c433, .slice A434 r429.1.Data.length c435]] [1, 2, 14, 15, 16, 17, 18, 19, 105, 106, 107] #[true, true, true, true, true, true, true, true, true, true, true, true, true, true, true, true, true, false, false, false, false, false, false, false, false, false, false, false, false, false, false, false, false, false, false, false, false, false, false, false, false, false, false, false, false, false, false, false, false, false, false, false, false, false] [(1, .func (.func 24) #[] #[]), (2, .pointer (some ⟨b245, 0, none⟩)), (14, .int .i64 r459.2.2.2), (15, .int .i64 r492.2.2.2), (16, .int .i64 r525.2.2.2), (17, .int .i64 r558.2.2.2), (18, .pointer (some ⟨b606, 0, none⟩)), (19, .int .i64 r590.2), (105, .bool true), (106, .agg #[.slice A432 r429.1.Shape.length c433, .slice A434 r429.1.Data.length c435]), (107, .func (.func 24) #[] #[])] [.is (((r374.2 : Int) == 2) = true), .is (((r391.2 : Int) == 1) = true), .is (((r408.2 : Int) == 1) = true), .is (((r429.2 : Int) == 0) = true), .cell ⟨b445, 0, none⟩ (.slice A432 r429.1.Shape.length c433), .cell ⟨b445, 1, none⟩ (.slice A434 r429.1.Data.length c435)] 37 rfl (by kernel_rfl) (fun _ _ _ _ _ h => nomatch h.1) hf618 (by kernel_rfl) ⟨(eqT c620), (eqT c621), (eqT c622), (eqT c623), (hm1326.cell 3 rfl rfl), (hm1326.cell 3 rfl rfl), trivial⟩ fun a1353 hf1354 => ?_
                              refine all1 17 (by kernel_rfl) ?_
                              refine opOf hf1354 rfl (by kernel_rfl) (aLit (cs := [.float .f64 0, .float .f64 0]) (E := 44) (len := 2) (d := 108) hf1354 (by kernel_rfl) (by kernel_rfl) ?_)
                              intro b1355 w1356 a1357 hbb1355 hx1359 hg1360 hf1358
                              refine ⟨.inr (Gr.still hg1360), ?_⟩
                              have hm1326s := hm1326.still hg1360
                              have hm1361 : Mem [] M w0 [.sl Kd.float (some ⟨b1355, 0, none⟩) 2 ([0, 0] : List Nat), .bx b606 [.slice A593 r590.1.Shape.length c594, .slice A595 r590.1.Data.length c596] 28, .sl (Kd.int .i64) A593 c594 r590.1.Shape, .sl Kd.float A595 c596 r590.1.Data, .bx b445 [.slice A432 r429.1.Shape.length c433, .slice A434 r429.1.Data.length c435] 28, .bx b245 [.slice A246 y36.s.length c247, .slice A248 y36.l.length c249, .slice A250 y36.filled.length c251, .int .i64 y36.left] 80, .ow kTensor 28 A248 c249 y36.l, .ow Kd.bool 4 A250 c251 y36.filled, .sl (Kd.int .i64) A432 c433 r429.1.Shape, .sl Kd.float A434 c435 r429.1.Data, .sl (Kd.int .i64) A246 c247 y36.s] w1356 := Mem.lit (kd := Kd.float) (xs := ([0, 0] : List Nat)) hm1326 hbb1355 hx1359 hg1360 (Els.append (Els.one (kd := Kd.float) (us := [.float .f64 0]) (x := 0) ⟨_, rfl, (FR.lit (by kernel_rfl) (by kernel_rfl))⟩) (Els.one (kd := Kd.float) (us := [.float .f64 0]) (x := 0) ⟨_, rfl, (FR.lit (by kernel_rfl) (by kernel_rfl))⟩))
                              refine all1 18 (by kernel_rfl) ?_
                              refine opOf hf1358 rfl (by kernel_rfl) (aCall (fid := 24) (args := [.slice (some ⟨b1355, 0, none⟩) 2 2]) (d := 109) hf1358 (by kernel_rfl) (by kernel_rfl) callable24 (law8_FoldKnown_1.calls _ _ ([0, 0] : List Nat) (some ⟨b1355, 0, none⟩) 2 2 rfl (hm1361.give [0] [.sl Kd.float (some ⟨b1355, 0, none⟩) 2 ([0, 0] : List Nat)] rfl rfl) r624 hr624) ?_)
                              rintro _ w1366 a1367 ⟨A1362, c1363, A1364, c1365, rfl, hk1369⟩ hf1368
                              refine ⟨.inr (Gr.still hk1369.cum.none), ?_⟩
                              have hm1370 : Mem [] M w0 [.ow (Kd.int .i64) 3 A1362 c1363 r624.Shape, .sl Kd.float A1364 c1365 r624.Data, .sl Kd.float (some ⟨b1355, 0, none⟩) 2 ([0, 0] : List Nat), .bx b606 [.slice A593 r590.1.Shape.length c594, .slice A595 r590.1.Data.length c596] 28, .sl (Kd.int .i64) A593 c594 r590.1.Shape, .sl Kd.float A595 c596 r590.1.Data, .bx b445 [.slice A432 r429.1.Shape.length c433, .slice A434 r429.1.Data.length c435] 28, .bx b245 [.slice A246 y36.s.length c247, .slice A248 y36.l.length c249, .slice A250 y36.filled.length c251, .int .i64 y36.left] 80, .ow kTensor 28 A248 c249 y36.l, .ow Kd.bool 4 A250 c251 y36.filled, .sl (Kd.int .i64) A432 c433 r429.1.Shape, .sl Kd.float A434 c435 r429.1.Data, .sl (Kd.int .i64) A246 c247 y36.s] w1366 := hm1361.back hk1369
                              have hm1371 : Mem [] M w0 [.sl (Kd.int .i64) A1362 c1363 r624.Shape, .sl Kd.float A1364 c1365 r624.Data, .sl Kd.float (some ⟨b1355, 0, none⟩) 2 ([0, 0] : List Nat), .bx b606 [.slice A593 r590.1.Shape.length c594, .slice A595 r590.1.Data.length c596] 28, .sl (Kd.int .i64) A593 c594 r590.1.Shape, .sl Kd.float A595 c596 r590.1.Data, .bx b445 [.slice A432 r429.1.Shape.length c433, .slice A434 r429.1.Data.length c435] 28, .bx b245 [.slice A246 y36.s.length c247, .slice A248 y36.l.length c249, .slice A250 y36.filled.length c251, .int .i64 y36.left] 80, .ow kTensor 28 A248 c249 y36.l, .ow Kd.bool 4 A250 c251 y36.filled, .sl (Kd.int .i64) A432 c433 r429.1.Shape, .sl Kd.float A434 c435 r429.1.Data, .sl (Kd.int .i64) A246 c247 y36.s] w1366 := hm1370.seal 0 _ rfl rfl
                              refine all1 19 (by kernel_rfl) ?_
                              refine opOf hf1368 rfl (by kernel_rfl) (aCall (fid := 19) (args := [.agg #[.slice A432 r429.1.Shape.length c433, .slice A434 r429.1.Data.length c435], .agg #[.slice A1362 r624.Shape.length c1363, .slice A1364 r624.Data.length c1365]]) (d := 110) hf1368 (by kernel_rfl) (by kernel_rfl) callable19 (ref1_SameTensor.calls _ _ r429.1 A432 r429.1.Shape.length c433 rfl A434 r429.1.Data.length c435 rfl r624 A1362 r624.Shape.length c1363 rfl A1364 r624.Data.length c1365 rfl (hm1371.give [10, 11, 0, 1] [.sl (Kd.int .i64) A432 c433 r429.1.Shape, .sl Kd.float A434 c435 r429.1.Data, .sl (Kd.int .i64) A1362 c1363 r624.Shape, .sl Kd.float A1364 c1365 r624.Data] rfl rfl) r625 hr625) ?_)
                              rintro _ w1372 a1373 ⟨rfl, hk1375⟩ hf1374
                              refine ⟨.inr (Gr.still hk1375.cum.none), ?_⟩
                              have hm1376 := hm1371.still hk1375.cum.none
                              rw [c626] at hf1374
                              refine quiet0 [20, 21, 22, 23, 24, 25, 26, 27, 28, 29, 30, 31, 32, 33, 34, 35, 36, 37, 38, 39, 40, 41, 42, 43, 44, 45, 46, 47, 48, 49, 50, 51, 52, 53] [.bool true, .bool true, .bool false] [0] #[true, true, true, true, true, true, true, true, true, true, true, true, true, true, true, true, true, true, true, true, true, true, true, true, true, true, true, true, true, true, true, true, true, true, true, true, true, true, true, true, true, true, true, true, true, true, true, true, true, true, true, true, true, true] [(0, .bool false)] [.is (((r459.2.2.2 : Int) == 1) = true), .is (((r492.2.2.2 : Int) == 2) = true), .is (((r525.2.2.2 : Int) == 0) = false)] 0 rfl (by kernel_rfl) (fun _ _ _ _ _ h => nomatch h.1) hf1374 (by kernel_rfl) ⟨(eqT c627), (eqT c628), (eqF c629), trivial⟩ fun a1377 hf1378 => ?_
                              refine allDone (by kernel_rfl) ⟨rfl, hf1378.sel (l := [0]) (by kernel_rfl), hm1376.sel [] _ rfl (by kernel_rfl)⟩
                            rintro a1379 w1380 ⟨hf1381, hm1382⟩
                            refine thenN ?_
                            refine wp_ret ?_
                            have hm1383 : Mem [] M w0 [] w1380 := hm1382.sel [] _ rfl (by kernel_rfl)
                            obtain rfl := Option.some.inj H0
                            refine ret [] [.bool false] [] hf1381 (by kernel_rfl) trivial ?_
                            exact ⟨_, rfl, rfl, hm1383⟩
                        · refine midReg (fun (a : Act) (w : World) => Fr 144 a [(0, .bool false)] ∧ Mem [] M w0 [] w) ?_ ?_
                          · refine anyG [] (by kernel_rfl) fun w1408 hg1409 => ?_
                            have hm1410 := hm619.still hg1409
                            refine quiet0 [0, 1, 2, 3, 4, 5, 6, 7, 8, 9, 10, 11, 12, 13, 14, 15, 16] [.bool true, .bool true, .bool true, .bool true, .agg #[.slice A432 r429.1.Shape.length c433, .slice A434 r429.1.Data.length c435]] [1, 2, 14, 15, 16, 17, 18, 19, 105, 106, 107] #[true, true, true, true, true, true, true, true, true, true, true, true, true, true, true, true, true, false, false, false, false, false, false, false, false, false, false, false, false, false, false, false, false, false, false, false, false, false, false, false, false, false, false, false, false, false, false, false, false, false, false, false, false, false] [(1, .func (.func 24) #[] #[]), (2, .pointer (some ⟨b245, 0, none⟩)), (14, .int .i64 r459.2.2.2), (15, .int .i64 r492.2.2.2), (16, .int .i64 r525.2.2.2), (17, .int .i64 r558.2.2.2), (18, .pointer (some ⟨b606, 0, none⟩)), (19, .int .i64 r590.2), (105, .bool true), (106, .agg #[.slice A432 r429.1.Shape.length c433, .slice A434 r429.1.Data.length c435]), (107, .func (.func 24) #[] #[])] [.is (((r374.2 : Int) == 2) = true), .is (((r391.2 : Int) == 1) = true), .is (((r408.2 : Int) == 1) = true), .is (((r429.2 : Int) == 0) = true), .cell ⟨b445, 0, none⟩ (.slice A432 r429.1.Shape.length c433), .cell ⟨b445, 1, none⟩ (.slice A434 r429.1.Data.length c435)] 37 rfl (by kernel_rfl) (fun _ _ _ _ _ h => nomatch h.1) hf618 (by kernel_rfl) ⟨(eqT c620), (eqT c621), (eqT c622), (eqT c623), (hm1410.cell 3 rfl rfl), (hm1410.cell 3 rfl rfl), trivial⟩ fun a1437 hf1438 => ?_
                            refine all1 17 (by kernel_rfl) ?_
                            refine opOf hf1438 rfl (by kernel_rfl) (aLit (cs := [.float .f64 0, .float .f64 0]) (E := 44) (len := 2) (d := 108) hf1438 (by kernel_rfl) (by kernel_rfl) ?_)
                            intro b1439 w1440 a1441 hbb1439 hx1443 hg1444 hf1442
                            refine ⟨.inr (Gr.still hg1444), ?_⟩
                            have hm1410s := hm1410.still hg1444
                            have hm1445 : Mem [] M w0 [.sl Kd.float (some ⟨b1439, 0, none⟩) 2 ([0, 0] : List Nat), .bx b606 [.slice A593 r590.1.Shape.length c594, .slice A595 r590.1.Data.length c596] 28, .sl (Kd.int .i64) A593 c594 r590.1.Shape, .sl Kd.float A595 c596 r590.1.Data, .bx b445 [.slice A432 r429.1.Shape.length c433, .slice A434 r429.1.Data.length c435] 28, .bx b245 [.slice A246 y36.s.length c247, .slice A248 y36.l.length c249, .slice A250 y36.filled.length c251, .int .i64 y36.left] 80, .ow kTensor 28 A248 c249 y36.l, .ow Kd.bool 4 A250 c251 y36.filled, .sl (Kd.int .i64) A432 c433 r429.1.Shape, .sl Kd.float A434 c435 r429.1.Data, .sl (Kd.int .i64) A246 c247 y36.s] w1440 := Mem.lit (kd := Kd.float) (xs := ([0, 0] : List Nat)) hm1410 hbb1439 hx1443 hg1444 (Els.append (Els.one (kd := Kd.float) (us := [.float .f64 0]) (x := 0) ⟨_, rfl, (FR.lit (by kernel_rfl) (by kernel_rfl))⟩) (Els.one (kd := Kd.float) (us := [.float .f64 0]) (x := 0) ⟨_, rfl, (FR.lit (by kernel_rfl) (by kernel_rfl))⟩))
                            refine all1 18 (by kernel_rfl) ?_
                            refine opOf hf1442 rfl (by kernel_rfl) (aCall (fid := 24) (args := [.slice (some ⟨b1439, 0, none⟩) 2 2]) (d := 109) hf1442 (by kernel_rfl) (by kernel_rfl) callable24 (law8_FoldKnown_1.calls _ _ ([0, 0] : List Nat) (some ⟨b1439, 0, none⟩) 2 2 rfl (hm1445.give [0] [.sl Kd.float (some ⟨b1439, 0, none⟩) 2 ([0, 0] : List Nat)] rfl rfl) r624 hr624) ?_)
                            rintro _ w1450 a1451 ⟨A1446, c1447, A1448, c1449, rfl, hk1453⟩ hf1452
                            refine ⟨.inr (Gr.still hk1453.cum.none), ?_⟩
                            have hm1454 : Mem [] M w0 [.ow (Kd.int .i64) 3 A1446 c1447 r624.Shape, .sl Kd.float A1448 c1449 r624.Data, .sl Kd.float (some ⟨b1439, 0, none⟩) 2 ([0, 0] : List Nat), .bx b606 [.slice A593 r590.1.Shape.length c594, .slice A595 r590.1.Data.length c596] 28, .sl (Kd.int .i64) A593 c594 r590.1.Shape, .sl Kd.float A595 c596 r590.1.Data, .bx b445 [.slice A432 r429.1.Shape.length c433, .slice A434 r429.1.Data.length c435] 28, .bx b245 [.slice A246 y36.s.length c247, .slice A248 y36.l.length c249, .slice A250 y36.filled.length c251, .int .i64 y36.left] 80, .ow kTensor 28 A248 c249 y36.l, .ow Kd.bool 4 A250 c251 y36.filled, .sl (Kd.int .i64) A432 c433 r429.1.Shape, .sl Kd.float A434 c435 r429.1.Data, .sl (Kd.int .i64) A246 c247 y36.s] w1450 := hm1445.back hk1453
                            have hm1455 : Mem [] M w0 [.sl (Kd.int .i64) A1446 c1447 r624.Shape, .sl Kd.float A1448 c1449 r624.Data, .sl Kd.float (some ⟨b1439, 0, none⟩) 2 ([0, 0] : List Nat), .bx b606 [.slice A593 r590.1.Shape.length c594, .slice A595 r590.1.Data.length c596] 28, .sl (Kd.int .i64) A593 c594 r590.1.Shape, .sl Kd.float A595 c596 r590.1.Data, .bx b445 [.slice A432 r429.1.Shape.length c433, .slice A434 r429.1.Data.length c435] 28, .bx b245 [.slice A246 y36.s.length c247, .slice A248 y36.l.length c249, .slice A250 y36.filled.length c251, .int .i64 y36.left] 80, .ow kTensor 28 A248 c249 y36.l, .ow Kd.bool 4 A250 c251 y36.filled, .sl (Kd.int .i64) A432 c433 r429.1.Shape, .sl Kd.float A434 c435 r429.1.Data, .sl (Kd.int .i64) A246 c247 y36.s] w1450 := hm1454.seal 0 _ rfl rfl
                            refine all1 19 (by kernel_rfl) ?_
                            refine opOf hf1452 rfl (by kernel_rfl) (aCall (fid := 19) (args := [.agg #[.slice A432 r429.1.Shape.length c433, .slice A434 r429.1.Data.length c435], .agg #[.slice A1446 r624.Shape.length c1447, .slice A1448 r624.Data.length c1449]]) (d := 110) hf1452 (by kernel_rfl) (by kernel_rfl) callable19 (ref1_SameTensor.calls _ _ r429.1 A432 r429.1.Shape.length c433 rfl A434 r429.1.Data.length c435 rfl r624 A1446 r624.Shape.length c1447 rfl A1448 r624.Data.length c1449 rfl (hm1455.give [10, 11, 0, 1] [.sl (Kd.int .i64) A432 c433 r429.1.Shape, .sl Kd.float A434 c435 r429.1.Data, .sl (Kd.int .i64) A1446 c1447 r624.Shape, .sl Kd.float A1448 c1449 r624.Data] rfl rfl) r625 hr625) ?_)
                            rintro _ w1456 a1457 ⟨rfl, hk1459⟩ hf1458
                            refine ⟨.inr (Gr.still hk1459.cum.none), ?_⟩
                            have hm1460 := hm1455.still hk1459.cum.none
                            rw [c626] at hf1458
                            refine quiet0 [20, 21, 22, 23, 24, 25, 26, 27, 28, 29, 30, 31, 32, 33, 34, 35, 36, 37, 38, 39, 40, 41, 42, 43, 44, 45, 46, 47, 48, 49, 50, 51, 52, 53] [.bool true, .bool false] [0] #[true, true, true, true, true, true, true, true, true, true, true, true, true, true, true, true, true, true, true, true, true, true, true, true, true, true, true, true, true, true, true, true, true, true, true, true, true, true, true, true, true, true, true, true, true, true, true, true, true, true, true, true, true, true] [(0, .bool false)] [.is (((r459.2.2.2 : Int) == 1) = true), .is (((r492.2.2.2 : Int) == 2) = false)] 0 rfl (by kernel_rfl) (fun _ _ _ _ _ h => nomatch h.1) hf1458 (by kernel_rfl) ⟨(eqT c627), (eqF c628), trivial⟩ fun a1461 hf1462 => ?_
                            refine allDone (by kernel_rfl) ⟨rfl, hf1462.sel (l := [0]) (by kernel_rfl), hm1460.sel [] _ rfl (by kernel_rfl)⟩
                          rintro a1463 w1464 ⟨hf1465, hm1466⟩
                          refine thenN ?_
                          refine wp_ret ?_
                          have hm1467 : Mem [] M w0 [] w1464 := hm1466.sel [] _ rfl (by kernel_rfl)
                          obtain rfl := Option.some.inj H0
                          refine ret [] [.bool false] [] hf1465 (by kernel_rfl) trivial ?_
                          exact ⟨_, rfl, rfl, hm1467⟩
                      · refine midReg (fun (a : Act) (w : World) => Fr 144 a [(0, .bool false)] ∧ Mem [] M w0 [] w) ?_ ?_
                        · refine anyG [] (by kernel_rfl) fun w1492 hg1493 => ?_
                          have hm1494 := hm619.still hg1493
                          refine quiet0 [0, 1, 2, 3, 4, 5, 6, 7, 8, 9, 10, 11, 12, 13, 14, 15, 16] [.bool true, .bool true, .bool true, .bool true, .agg #[.slice A432 r429.1.Shape.length c433, .slice A434 r429.1.Data.length c435]] [1, 2, 14, 15, 16, 17, 18, 19, 105, 106, 107] #[true, true, true, true, true, true, true, true, true, true, true, true, true, true, true, true, true, false, false, false, false, false, false, false, false, false, false, false, false, false, false, false, false, false, false, false, false, false, false, false, false, false, false, false, false, false, false, false, false, false, false, false, false, false] [(1, .func (.func 24) #[] #[]), (2, .pointer (some ⟨b245, 0, none⟩)), (14, .int .i64 r459.2.2.2), (15, .int .i64 r492.2.2.2), (16, .int .i64 r525.2.2.2), (17, .int .i64 r558.2.2.2), (18, .pointer (some ⟨b606, 0, none⟩)), (19, .int .i64 r590.2), (105, .bool true), (106, .agg #[.slice A432 r429.1.Shape.length c433, .slice A434 r429.1.Data.length c435]), (107, .func (.func 24) #[] #[])] [.is (((r374.2 : Int) == 2) = true), .is (((r391.2 : Int) == 1) = true), .is (((r408.2 : Int) == 1) = true), .is (((r429.2 : Int) == 0) = true), .cell ⟨b445, 0, none⟩ (.slice A432 r429.1.Shape.length c433), .cell ⟨b445, 1, none⟩ (.slice A434 r429.1.Data.length c435)] 37 rfl (by kernel_rfl) (fun _ _ _ _ _ h => nomatch h.1) hf618 (by kernel_rfl) ⟨(eqT c620), (eqT c621), (eqT c622), (eqT c623), (hm1494.cell 3 rfl rfl), (hm1494.cell 3 rfl rfl), trivial⟩ fun a1521 hf1522 => ?_
                          refine all1 17 (by kernel_rfl) ?_
                          refine opOf hf1522 rfl (by kernel_rfl) (aLit (cs := [.float .f64 0, .float .f64 0]) (E := 44) (len := 2) (d := 108) hf1522 (by kernel_rfl) (by kernel_rfl) ?_)
                          intro b1523 w1524 a1525 hbb1523 hx1527 hg1528 hf1526
                          refine ⟨.inr (Gr.still hg1528), ?_⟩
                          have hm1494s := hm1494.still hg1528
                          have hm1529 : Mem [] M w0 [.sl Kd.float (some ⟨b1523, 0, none⟩) 2 ([0, 0] : List Nat), .bx b606 [.slice A593 r590.1.Shape.length c594, .slice A595 r590.1.Data.length c596] 28, .sl (Kd.int .i64) A593 c594 r590.1.Shape, .sl Kd.float A595 c596 r590.1.Data, .bx b445 [.slice A432 r429.1.Shape.length c433, .slice A434 r429.1.Data.length c435] 28, .bx b245 [.slice A246 y36.s.length c247, .slice A248 y36.l.length c249, .slice A250 y36.filled.length c251, .int .i64 y36.left] 80, .ow kTensor 28 A248 c249 y36.l, .ow Kd.bool 4 A250 c251 y36.filled, .sl (Kd.int .i64) A432 c433 r429.1.Shape, .sl Kd.float A434 c435 r429.1.Data, .sl (Kd.int .i64) A246 c247 y36.s] w1524 := Mem.lit (kd := Kd.float) (xs := ([0, 0] : List Nat)) hm1494 hbb1523 hx1527 hg1528 (Els.append (Els.one (kd := Kd.float) (us := [.float .f64 0]) (x := 0) ⟨_, rfl, (FR.lit (by kernel_rfl) (by kernel_rfl))⟩) (Els.one (kd := Kd.float) (us := [.float .f64 0]) (x := 0) ⟨_, rfl, (FR.lit (by kernel_rfl) (by kernel_rfl))⟩))
                          refine all1 18 (by kernel_rfl) ?_
                          refine opOf hf1526 rfl (by kernel_rfl) (aCall (fid := 24) (args := [.slice (some ⟨b1523, 0, none⟩) 2 2]) (d := 109) hf1526 (by kernel_rfl) (by kernel_rfl) callable24 (law8_FoldKnown_1.calls _ _ ([0, 0] : List Nat) (some ⟨b1523, 0, none⟩) 2 2 rfl (hm1529.give [0] [.sl Kd.float (some ⟨b1523, 0, none⟩) 2 ([0, 0] : List Nat)] rfl rfl) r624 hr624) ?_)
                          rintro _ w1534 a1535 ⟨A1530, c1531, A1532, c1533, rfl, hk1537⟩ hf1536
                          refine ⟨.inr (Gr.still hk1537.cum.none), ?_⟩
                          have hm1538 : Mem [] M w0 [.ow (Kd.int .i64) 3 A1530 c1531 r624.Shape, .sl Kd.float A1532 c1533 r624.Data, .sl Kd.float (some ⟨b1523, 0, none⟩) 2 ([0, 0] : List Nat), .bx b606 [.slice A593 r590.1.Shape.length c594, .slice A595 r590.1.Data.length c596] 28, .sl (Kd.int .i64) A593 c594 r590.1.Shape, .sl Kd.float A595 c596 r590.1.Data, .bx b445 [.slice A432 r429.1.Shape.length c433, .slice A434 r429.1.Data.length c435] 28, .bx b245 [.slice A246 y36.s.length c247, .slice A248 y36.l.length c249, .slice A250 y36.filled.length c251, .int .i64 y36.left] 80, .ow kTensor 28 A248 c249 y36.l, .ow Kd.bool 4 A250 c251 y36.filled, .sl (Kd.int .i64) A432 c433 r429.1.Shape, .sl Kd.float A434 c435 r429.1.Data, .sl (Kd.int .i64) A246 c247 y36.s] w1534 := hm1529.back hk1537
                          have hm1539 : Mem [] M w0 [.sl (Kd.int .i64) A1530 c1531 r624.Shape, .sl Kd.float A1532 c1533 r624.Data, .sl Kd.float (some ⟨b1523, 0, none⟩) 2 ([0, 0] : List Nat), .bx b606 [.slice A593 r590.1.Shape.length c594, .slice A595 r590.1.Data.length c596] 28, .sl (Kd.int .i64) A593 c594 r590.1.Shape, .sl Kd.float A595 c596 r590.1.Data, .bx b445 [.slice A432 r429.1.Shape.length c433, .slice A434 r429.1.Data.length c435] 28, .bx b245 [.slice A246 y36.s.length c247, .slice A248 y36.l.length c249, .slice A250 y36.filled.length c251, .int .i64 y36.left] 80, .ow kTensor 28 A248 c249 y36.l, .ow Kd.bool 4 A250 c251 y36.filled, .sl (Kd.int .i64) A432 c433 r429.1.Shape, .sl Kd.float A434 c435 r429.1.Data, .sl (Kd.int .i64) A246 c247 y36.s] w1534 := hm1538.seal 0 _ rfl rfl
                          refine all1 19 (by kernel_rfl) ?_
                          refine opOf hf1536 rfl (by kernel_rfl) (aCall (fid := 19) (args := [.agg #[.slice A432 r429.1.Shape.length c433, .slice A434 r429.1.Data.length c435], .agg #[.slice A1530 r624.Shape.length c1531, .slice A1532 r624.Data.length c1533]]) (d := 110) hf1536 (by kernel_rfl) (by kernel_rfl) callable19 (ref1_SameTensor.calls _ _ r429.1 A432 r429.1.Shape.length c433 rfl A434 r429.1.Data.length c435 rfl r624 A1530 r624.Shape.length c1531 rfl A1532 r624.Data.length c1533 rfl (hm1539.give [10, 11, 0, 1] [.sl (Kd.int .i64) A432 c433 r429.1.Shape, .sl Kd.float A434 c435 r429.1.Data, .sl (Kd.int .i64) A1530 c1531 r624.Shape, .sl Kd.float A1532 c1533 r624.Data] rfl rfl) r625 hr625) ?_)
                          rintro _ w1540 a1541 ⟨rfl, hk1543⟩ hf1542
                          refine ⟨.inr (Gr.still hk1543.cum.none), ?_⟩
                          have hm1544 := hm1539.still hk1543.cum.none
                          rw [c626] at hf1542
                          refine quiet0 [20, 21, 22, 23, 24, 25, 26, 27, 28, 29, 30, 31, 32, 33, 34, 35, 36, 37, 38, 39, 40, 41, 42, 43, 44, 45, 46, 47, 48, 49, 50, 51, 52, 53] [.bool false] [0] #[true, true, true, true, true, true, true, true, true, true, true, true, true, true, true, true, true, true, true, true, true, true, true, true, true, true, true, true, true, true, true, true, true, true, true, true, true, true, true, true, true, true, true, true, true, true, true, true, true, true, true, true, true, true] [(0, .bool false)] [.is (((r459.2.2.2 : Int) == 1) = false)] 0 rfl (by kernel_rfl) (fun _ _ _ _ _ h => nomatch h.1) hf1542 (by kernel_rfl) ⟨(eqF c627), trivial⟩ fun a1545 hf1546 => ?_
                          refine allDone (by kernel_rfl) ⟨rfl, hf1546.sel (l := [0]) (by kernel_rfl), hm1544.sel [] _ rfl (by kernel_rfl)⟩
                        rintro a1547 w1548 ⟨hf1549, hm1550⟩
                        refine thenN ?_
                        refine wp_ret ?_
                        have hm1551 : Mem [] M w0 [] w1548 := hm1550.sel [] _ rfl (by kernel_rfl)
                        obtain rfl := Option.some.inj H0
                        refine ret [] [.bool false] [] hf1549 (by kernel_rfl) trivial ?_
                        exact ⟨_, rfl, rfl, hm1551⟩
                    · refine midReg (fun (a : Act) (w : World) => Fr 144 a [(0, .bool false)] ∧ Mem [] M w0 [] w) ?_ ?_
                      · refine anyG [] (by kernel_rfl) fun w1576 hg1577 => ?_
                        have hm1578 := hm619.still hg1577
                        refine quiet0 [0, 1, 2, 3, 4, 5, 6, 7, 8, 9, 10, 11, 12, 13, 14, 15, 16] [.bool true, .bool true, .bool true, .bool true, .agg #[.slice A432 r429.1.Shape.length c433, .slice A434 r429.1.Data.length c435]] [1, 2, 14, 15, 16, 17, 18, 19, 105, 106, 107] #[true, true, true, true, true, true, true, true, true, true, true, true, true, true, true, true, true, false, false, false, false, false, false, false, false, false, false, false, false, false, false, false, false, false, false, false, false, false, false, false, false, false, false, false, false, false, false, false, false, false, false, false, false, false] [(1, .func (.func 24) #[] #[]), (2, .pointer (some ⟨b245, 0, none⟩)), (14, .int .i64 r459.2.2.2), (15, .int .i64 r492.2.2.2), (16, .int .i64 r525.2.2.2), (17, .int .i64 r558.2.2.2), (18, .pointer (some ⟨b606, 0, none⟩)), (19, .int .i64 r590.2), (105, .bool true), (106, .agg #[.slice A432 r429.1.Shape.length c433, .slice A434 r429.1.Data.length c435]), (107, .func (.func 24) #[] #[])] [.is (((r374.2 : Int) == 2) = true), .is (((r391.2 : Int) == 1) = true), .is (((r408.2 : Int) == 1) = true), .is (((r429.2 : Int) == 0) = true), .cell ⟨b445, 0, none⟩ (.slice A432 r429.1.Shape.length c433), .cell ⟨b445, 1, none⟩ (.slice A434 r429.1.Data.length c435)] 37 rfl (by kernel_rfl) (fun _ _ _ _ _ h => nomatch h.1) hf618 (by kernel_rfl) ⟨(eqT c620), (eqT c621), (eqT c622), (eqT c623), (hm1578.cell 3 rfl rfl), (hm1578.cell 3 rfl rfl), trivial⟩ fun a1605 hf1606 => ?_
                        refine all1 17 (by kernel_rfl) ?_
                        refine opOf hf1606 rfl (by kernel_rfl) (aLit (cs := [.float .f64 0, .float .f64 0]) (E := 44) (len := 2) (d := 108) hf1606 (by kernel_rfl) (by kernel_rfl) ?_)
                        intro b1607 w1608 a1609 hbb1607 hx1611 hg1612 hf1610
                        refine ⟨.inr (Gr.still hg1612), ?_⟩
                        have hm1578s := hm1578.still hg1612
                        have hm1613 : Mem [] M w0 [.sl Kd.float (some ⟨b1607, 0, none⟩) 2 ([0, 0] : List Nat), .bx b606 [.slice A593 r590.1.Shape.length c594, .slice A595 r590.1.Data.length c596] 28, .sl (Kd.int .i64) A593 c594 r590.1.Shape, .sl Kd.float A595 c596 r590.1.Data, .bx b445 [.slice A432 r429.1.Shape.length c433, .slice A434 r429.1.Data.length c435] 28, .bx b245 [.slice A246 y36.s.length c247, .slice A248 y36.l.length c249, .slice A250 y36.filled.length c251, .int .i64 y36.left] 80, .ow kTensor 28 A248 c249 y36.l, .ow Kd.bool 4 A250 c251 y36.filled, .sl (Kd.int .i64) A432 c433 r429.1.Shape, .sl Kd.float A434 c435 r429.1.Data, .sl (Kd.int .i64) A246 c247 y36.s] w1608 := Mem.lit (kd := Kd.float) (xs := ([0, 0] : List Nat)) hm1578 hbb1607 hx1611 hg1612 (Els.append (Els.one (kd := Kd.float) (us := [.float .f64 0]) (x := 0) ⟨_, rfl, (FR.lit (by kernel_rfl) (by kernel_rfl))⟩) (Els.one (kd := Kd.float) (us := [.float .f64 0]) (x := 0) ⟨_, rfl, (FR.lit (by kernel_rfl) (by kernel_rfl))⟩))
                        refine all1 18 (by kernel_rfl) ?_
                        refine opOf hf1610 rfl (by kernel_rfl) (aCall (fid := 24) (args := [.slice (some ⟨b1607, 0, none⟩) 2 2]) (d := 109) hf1610 (by kernel_rfl) (by kernel_rfl) callable24 (law8_FoldKnown_1.calls _ _ ([0, 0] : List Nat) (some ⟨b1607, 0, none⟩) 2 2 rfl (hm1613.give [0] [.sl Kd.float (some ⟨b1607, 0, none⟩) 2 ([0, 0] : List Nat)] rfl rfl) r624 hr624) ?_)
                        rintro _ w1618 a1619 ⟨A1614, c1615, A1616, c1617, rfl, hk1621⟩ hf1620
                        refine ⟨.inr (Gr.still hk1621.cum.none), ?_⟩
                        have hm1622 : Mem [] M w0 [.ow (Kd.int .i64) 3 A1614 c1615 r624.Shape, .sl Kd.float A1616 c1617 r624.Data, .sl Kd.float (some ⟨b1607, 0, none⟩) 2 ([0, 0] : List Nat), .bx b606 [.slice A593 r590.1.Shape.length c594, .slice A595 r590.1.Data.length c596] 28, .sl (Kd.int .i64) A593 c594 r590.1.Shape, .sl Kd.float A595 c596 r590.1.Data, .bx b445 [.slice A432 r429.1.Shape.length c433, .slice A434 r429.1.Data.length c435] 28, .bx b245 [.slice A246 y36.s.length c247, .slice A248 y36.l.length c249, .slice A250 y36.filled.length c251, .int .i64 y36.left] 80, .ow kTensor 28 A248 c249 y36.l, .ow Kd.bool 4 A250 c251 y36.filled, .sl (Kd.int .i64) A432 c433 r429.1.Shape, .sl Kd.float A434 c435 r429.1.Data, .sl (Kd.int .i64) A246 c247 y36.s] w1618 := hm1613.back hk1621
                        have hm1623 : Mem [] M w0 [.sl (Kd.int .i64) A1614 c1615 r624.Shape, .sl Kd.float A1616 c1617 r624.Data, .sl Kd.float (some ⟨b1607, 0, none⟩) 2 ([0, 0] : List Nat), .bx b606 [.slice A593 r590.1.Shape.length c594, .slice A595 r590.1.Data.length c596] 28, .sl (Kd.int .i64) A593 c594 r590.1.Shape, .sl Kd.float A595 c596 r590.1.Data, .bx b445 [.slice A432 r429.1.Shape.length c433, .slice A434 r429.1.Data.length c435] 28, .bx b245 [.slice A246 y36.s.length c247, .slice A248 y36.l.length c249, .slice A250 y36.filled.length c251, .int .i64 y36.left] 80, .ow kTensor 28 A248 c249 y36.l, .ow Kd.bool 4 A250 c251 y36.filled, .sl (Kd.int .i64) A432 c433 r429.1.Shape, .sl Kd.float A434 c435 r429.1.Data, .sl (Kd.int .i64) A246 c247 y36.s] w1618 := hm1622.seal 0 _ rfl rfl
                        refine all1 19 (by kernel_rfl) ?_
                        refine opOf hf1620 rfl (by kernel_rfl) (aCall (fid := 19) (args := [.agg #[.slice A432 r429.1.Shape.length c433, .slice A434 r429.1.Data.length c435], .agg #[.slice A1614 r624.Shape.length c1615, .slice A1616 r624.Data.length c1617]]) (d := 110) hf1620 (by kernel_rfl) (by kernel_rfl) callable19 (ref1_SameTensor.calls _ _ r429.1 A432 r429.1.Shape.length c433 rfl A434 r429.1.Data.length c435 rfl r624 A1614 r624.Shape.length c1615 rfl A1616 r624.Data.length c1617 rfl (hm1623.give [10, 11, 0, 1] [.sl (Kd.int .i64) A432 c433 r429.1.Shape, .sl Kd.float A434 c435 r429.1.Data, .sl (Kd.int .i64) A1614 c1615 r624.Shape, .sl Kd.float A1616 c1617 r624.Data] rfl rfl) r625 hr625) ?_)
                        rintro _ w1624 a1625 ⟨rfl, hk1627⟩ hf1626
                        refine ⟨.inr (Gr.still hk1627.cum.none), ?_⟩
                        have hm1628 := hm1623.still hk1627.cum.none
                        rw [c626] at hf1626
                        refine quiet0 [20, 21, 22, 23, 24, 25, 26, 27, 28, 29, 30, 31, 32, 33, 34, 35, 36, 37, 38, 39, 40, 41, 42, 43, 44, 45, 46, 47, 48, 49, 50, 51, 52, 53] [] [0] #[true, true, true, true, true, true, true, true, true, true, true, true, true, true, true, true, true, true, true, true, true, true, true, true, true, true, true, true, true, true, true, true, true, true, true, true, true, true, true, true, true, true, true, true, true, true, true, true, true, true, true, true, true, true] [(0, .bool false)] [] 0 rfl (by kernel_rfl) (fun _ _ _ _ _ h => nomatch h.1) hf1626 (by kernel_rfl) trivial fun a1629 hf1630 => ?_
                        refine allDone (by kernel_rfl) ⟨rfl, hf1630.sel (l := [0]) (by kernel_rfl), hm1628.sel [] _ rfl (by kernel_rfl)⟩
                      rintro a1631 w1632 ⟨hf1633, hm1634⟩
                      refine thenN ?_
                      refine wp_ret ?_
                      have hm1635 : Mem [] M w0 [] w1632 := hm1634.sel [] _ rfl (by kernel_rfl)
                      obtain rfl := Option.some.inj H0
                      refine ret [] [.bool false] [] hf1633 (by kernel_rfl) trivial ?_
                      exact ⟨_, rfl, rfl, hm1635⟩
                  · refine regQ [.bool true, .bool true, .bool true, .bool false] [0] [(0, .bool false)] [.is (((r374.2 : Int) == 2) = true), .is (((r391.2 : Int) == 1) = true), .is (((r408.2 : Int) == 1) = true), .is (((r429.2 : Int) == 0) = false)] (by kernel_rfl) (by kernel_rfl) hf618 (by kernel_rfl) ⟨(eqT c620), (eqT c621), (eqT c622), (eqF c623), trivial⟩ fun a1637 w1639 hf1638 hg1640 => ?_
                    have hm1641 := hm619.still hg1640
                    have hm1642 : Mem [] M w0 [] w1639 := hm1641.sel [] _ rfl (by kernel_rfl)
                    refine thenN ?_
                    refine wp_ret ?_
                    have hm1643 : Mem [] M w0 [] w1639 := hm1642.sel [] _ rfl (by kernel_rfl)
                    obtain rfl := Option.some.inj H0
                    refine ret [] [.bool false] [] hf1638 (by kernel_rfl) trivial ?_
                    exact ⟨_, rfl, rfl, hm1643⟩
                · refine regQ [.bool true, .bool true, .bool false] [0] [(0, .bool false)] [.is (((r374.2 : Int) == 2) = true), .is (((r391.2 : Int) == 1) = true), .is (((r408.2 : Int) == 1) = false)] (by kernel_rfl) (by kernel_rfl) hf618 (by kernel_rfl) ⟨(eqT c620), (eqT c621), (eqF c622), trivial⟩ fun a1645 w1647 hf1646 hg1648 => ?_
                  have hm1649 := hm619.still hg1648
                  have hm1650 : Mem [] M w0 [] w1647 := hm1649.sel [] _ rfl (by kernel_rfl)
                  refine thenN ?_
                  refine wp_ret ?_
                  have hm1651 : Mem [] M w0 [] w1647 := hm1650.sel [] _ rfl (by kernel_rfl)
                  obtain rfl := Option.some.inj H0
                  refine ret [] [.bool false] [] hf1646 (by kernel_rfl) trivial ?_
                  exact ⟨_, rfl, rfl, hm1651⟩
              · refine regQ [.bool true, .bool false] [0] [(0, .bool false)] [.is (((r374.2 : Int) == 2) = true), .is (((r391.2 : Int) == 1) = false)] (by kernel_rfl) (by kernel_rfl) hf618 (by kernel_rfl) ⟨(eqT c620), (eqF c621), trivial⟩ fun a1653 w1655 hf1654 hg1656 => ?_
                have hm1657 := hm619.still hg1656
                have hm1658 : Mem [] M w0 [] w1655 := hm1657.sel [] _ rfl (by kernel_rfl)
                refine thenN ?_
                refine wp_ret ?_
                have hm1659 : Mem [] M w0 [] w1655 := hm1658.sel [] _ rfl (by kernel_rfl)
                obtain rfl := Option.some.inj H0
                refine ret [] [.bool false] [] hf1654 (by kernel_rfl) trivial ?_
                exact ⟨_, rfl, rfl, hm1659⟩
            · refine regQ [.bool false] [0] [(0, .bool false)] [.is (((r374.2 : Int) == 2) = false)] (by kernel_rfl) (by kernel_rfl) hf618 (by kernel_rfl) ⟨(eqF c620), trivial⟩ fun a1661 w1663 hf1662 hg1664 => ?_
              have hm1665 := hm619.still hg1664
              have hm1666 : Mem [] M w0 [] w1663 := hm1665.sel [] _ rfl (by kernel_rfl)
              refine thenN ?_
              refine wp_ret ?_
              have hm1667 : Mem [] M w0 [] w1663 := hm1666.sel [] _ rfl (by kernel_rfl)
              obtain rfl := Option.some.inj H0
              refine ret [] [.bool false] [] hf1662 (by kernel_rfl) trivial ?_
              exact ⟨_, rfl, rfl, hm1667⟩
          · refine reg [.bool false, .bool true] [1, 2, 4, 7, 9, 11, 60] [(1, .func (.func 24) #[] #[]), (2, .pointer (some ⟨b245, 0, none⟩)), (4, .pointer (some ⟨b359, 0, none⟩)), (7, .int .i64 r374.2), (9, .int .i64 r391.2), (11, .int .i64 r408.2), (60, .bool true)] [.is (((r34.2 : Int) != 0) = false), .is (((r260.2 : Int) != 0) = true)] hf423 (by kernel_rfl) ⟨(neF c425), (neT c426), trivial⟩ fun a1669 hf1670 => ?_
            refine thenN ?_
            refine condT hf1670 (by kernel_rfl) ?_
            refine wp_seq ?_
            refine reg [] [0] [(0, .bool false)] [] hf1670 (by kernel_rfl) trivial fun a1671 hf1672 => ?_
            have hm1673 : Mem [] M w0 [] w417 := hm424.sel [] _ rfl (by kernel_rfl)
            refine thenN ?_
            refine wp_ret ?_
            refine thenR ?_
            have hm1674 : Mem [] M w0 [] w417 := hm1673.sel [] _ rfl (by kernel_rfl)
            obtain rfl := Option.some.inj H0
            refine ret [] [.bool false] [] hf1672 (by kernel_rfl) trivial ?_
            exact ⟨_, rfl, rfl, hm1674⟩
        · refine reg [.bool true] [1, 2, 4, 7, 9, 11, 60] [(1, .func (.func 24) #[] #[]), (2, .pointer (some ⟨b245, 0, none⟩)), (4, .pointer (some ⟨b359, 0, none⟩)), (7, .int .i64 r374.2), (9, .int .i64 r391.2), (11, .int .i64 r408.2), (60, .bool true)] [.is (((r34.2 : Int) != 0) = true)] hf423 (by kernel_rfl) ⟨(neT c425), trivial⟩ fun a1676 hf1677 => ?_
          refine thenN ?_
          refine condT hf1677 (by kernel_rfl) ?_
          refine wp_seq ?_
          refine reg [] [0] [(0, .bool false)] [] hf1677 (by kernel_rfl) trivial fun a1678 hf1679 => ?_
          have hm1680 : Mem [] M w0 [] w417 := hm424.sel [] _ rfl (by kernel_rfl)
          refine thenN ?_
          refine wp_ret ?_
          refine thenR ?_
          have hm1681 : Mem [] M w0 [] w417 := hm1680.sel [] _ rfl (by kernel_rfl)
          obtain rfl := Option.some.inj H0
          refine ret [] [.bool false] [] hf1679 (by kernel_rfl) trivial ?_
          exact ⟨_, rfl, rfl, hm1681⟩
  · refine inReg ?_
    refine listOf hf22 rfl (by kernel_rfl) (aCall (fid := 15) (args := []) (d := 20) hf22 (by kernel_rfl) (by kernel_rfl) callable15 (law8_awake.calls _ _  (hm0.give [] [] rfl rfl) r23 hr23) ?_)
    rintro _ w1683 a1684 ⟨rfl, hk1686⟩ hf1685
    have hm1687 := hm0.still hk1686.cum.none
    rw [c24] at hf1685
    refine go 1 [] [21] [(21, .bool true)] [] hf1685 (by kernel_rfl) trivial fun a1688 hf1689 => ?_
    refine endL rfl ?_
    refine thenN ?_
    refine condT hf1689 (by kernel_rfl) ?_
    refine wp_seq ?_
    refine reg [] [0] [(0, .bool false)] [] hf1689 (by kernel_rfl) trivial fun a1690 hf1691 => ?_
    refine thenN ?_
    refine wp_ret ?_
    refine thenR ?_
    have hm1692 : Mem [] M w0 [] w1683 := hm1687.sel [] _ rfl (by kernel_rfl)
    obtain rfl := Option.some.inj H0
    refine ret [] [.bool false] [] hf1691 (by kernel_rfl) trivial ?_
    exact ⟨_, rfl, rfl, hm1692⟩
end Go.Proofs.Ytkcgiolledmbnab
