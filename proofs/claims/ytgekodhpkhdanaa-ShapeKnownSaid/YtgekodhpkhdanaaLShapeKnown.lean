/- Printed by gen.py. -/
import Derived.Test.YtgekodhpkhdanaaF1
namespace Go.Proofs.Ytgekodhpkhdanaa
open Go Go.RowKit
set_option linter.unusedSimpArgs false
set_option linter.unusedVariables false
set_option linter.unnecessarySimpa false
/-! ### backstitch/backstitchlaw1.ShapeKnown -/
noncomputable def law1_ShapeKnown.f  : Option Bool :=
  (law1_awake.f).bind fun r3 =>
  if r3 = true then ((shape_Size.f ([] : (List Int))).bind fun r12 =>
  (shape_Size.f ([64, 64] : List Int)).bind fun r21 =>
  (shape_Size.f ([64, 65] : List Int)).bind fun r37 =>
  (shape_Size.f ([1, 1, 1, 1, 1] : List Int)).bind fun r53 =>
  (shape_Size.f ([1099511627776, 1099511627776, 0] : List Int)).bind fun r69 =>
  (shape_Spread.f ([2, 1, 3] : List Int) ([4, 1] : List Int)).bind fun r85 =>
  (shape_Spread.f ([2] : List Int) ([3] : List Int)).bind fun r111 =>
  (shape_Spread.f ([4096] : List Int) ([2, 1] : List Int)).bind fun r137 =>
  (shape_Spread.f ([] : (List Int)) ([] : (List Int))).bind fun r163 =>
  if r12.1 = 1 then (if r12.2 = 0 then (if r21.2 = 0 then (if r37.2 = 3 then (if r53.2 = 2 then (if r69.2 = 2 then (if r85.2 = 0 then ((shape_Same.f r85.1 ([2, 4, 3] : List Int)).bind fun r184 =>
  if r184 = true then (if r111.2 = 2 then (if r137.2 = 3 then (if r163.2 = 0 then (if (r163.1.length : Int) = 0 then ((shape_Index.f ([] : (List Int)) ([] : (List Int))).bind fun r190 =>
  if r190 = 0 then ((shape_Into.f ([1] : List Int) ([5] : List Int)).bind fun r192 =>
  if r192 = true then ((shape_Into.f ([5] : List Int) ([1] : List Int)).bind fun r194 =>
  if r194 = true then (some false)
  else ((shape_Into.f ([] : (List Int)) ([2, 2] : List Int)).bind fun r266 =>
  if r266 = true then ((shape_Into.f ([1] : List Int) ([] : (List Int))).bind fun r268 =>
  if r268 = true then (some false)
  else (some true))
  else (some false)))
  else (some false))
  else (some false))
  else (some false))
  else (some false))
  else (some false))
  else (some false))
  else (some false))
  else (some false))
  else (some false))
  else (some false))
  else (some false))
  else (some false))
  else (some false))
  else (some false))
  else (some false)
set_option maxRecDepth 100000 in
set_option maxHeartbeats 4000000 in
theorem law1_ShapeKnown.calls (M : List (Option Nat)) (w0 : World)  (hm0 : Mem [] M w0 [] w0) (r : Bool) (H0 : law1_ShapeKnown.f = some r) :
    Calls Try.prog 4 [].toArray w0 (fun x w' => ∃ v, x = .returned v ∧ v = .bool r ∧ Mem [] M w0 [] w') := by
  unfold law1_ShapeKnown.f at H0
  refine enter (n := 139) Try.func4 rfl rfl (by kernel_rfl) fun a0 (hf0 : Fr 139 a0 []) => ?_
  refine wp_seq ?_
  refine reg [] [] [] [] hf0 (by kernel_rfl) trivial fun a1 hf2 => ?_
  refine thenN ?_
  refine wp_seq ?_
  refine wp_seq ?_
  obtain ⟨r3, hr3, H0⟩ := ob_split H0
  rcases ifb_split H0 with ⟨c4, H0⟩ | ⟨c4, H0⟩
  · refine inReg ?_
    refine listOf hf2 rfl (by kernel_rfl) (aCall (fid := 9) (args := []) (d := 19) hf2 (by kernel_rfl) (by kernel_rfl) callable9 (law1_awake.calls _ _  (hm0.give [] [] rfl rfl) r3 hr3) ?_)
    rintro _ w5 a6 ⟨rfl, hk8⟩ hf7
    have hm9 : Mem [] M w0 [] w5 := hm0.still hk8.cum.none
    rw [c4] at hf7
    refine go 1 [] [20] [(20, .bool false)] [] hf7 (by kernel_rfl) trivial fun a10 hf11 => ?_
    refine endL rfl ?_
    refine thenN ?_
    refine condF hf11 (by kernel_rfl) ?_
    refine wp_skip ?_
    refine thenN ?_
    refine wp_seq ?_
    obtain ⟨r12, hr12, H0⟩ := ob_split H0
    refine inReg ?_
    have hm13 : Mem [] M w0 [.sl (Kd.int .i64) none 0 ([] : (List Int))] w5 := hm9.nilSl (Kd.int .i64)
    refine listOf hf11 rfl (by kernel_rfl) (aCall (fid := 15) (args := [.slice none 0 0]) (d := 22) hf11 (by kernel_rfl) (by kernel_rfl) callable15 (shape_Size.calls _ _ ([] : (List Int)) none 0 0 rfl (hm13.give [0] [.sl (Kd.int .i64) none 0 ([] : (List Int))] rfl rfl) r12 hr12) ?_)
    rintro _ w14 a15 ⟨rfl, hk17⟩ hf16
    have hm18 : Mem [] M w0 [] w14 := hm9.still hk17.cum.none
    refine go 5 [] [1, 2] [(1, .int .i64 r12.1), (2, .int .i64 r12.2)] [] hf16 (by kernel_rfl) trivial fun a19 hf20 => ?_
    refine endL rfl ?_
    refine thenN ?_
    refine wp_seq ?_
    obtain ⟨r21, hr21, H0⟩ := ob_split H0
    refine inReg ?_
    refine listOf hf20 rfl (by kernel_rfl) (aLit (cs := [.int .i64 64, .int .i64 64]) (E := 3) (len := 2) (d := 26) hf20 (by kernel_rfl) (by kernel_rfl) ?_)
    intro b22 w23 a24 hbb22 hx26 hg27 hf25
    have hm18s := hm18.still hg27
    have hm28 : Mem [] M w0 [.sl (Kd.int .i64) (some ⟨b22, 0, none⟩) 2 ([64, 64] : List Int)] w23 := Mem.lit (kd := (Kd.int .i64)) (xs := ([64, 64] : List Int)) hm18 hbb22 hx26 hg27 (Els.append (Els.one (kd := (Kd.int .i64)) (us := [.int .i64 64]) (x := 64) rfl) (Els.one (kd := (Kd.int .i64)) (us := [.int .i64 64]) (x := 64) rfl))
    refine listOf hf25 rfl (by kernel_rfl) (aCall (fid := 15) (args := [.slice (some ⟨b22, 0, none⟩) 2 2]) (d := 27) hf25 (by kernel_rfl) (by kernel_rfl) callable15 (shape_Size.calls _ _ ([64, 64] : List Int) (some ⟨b22, 0, none⟩) 2 2 rfl (hm28.give [0] [.sl (Kd.int .i64) (some ⟨b22, 0, none⟩) 2 ([64, 64] : List Int)] rfl rfl) r21 hr21) ?_)
    rintro _ w29 a30 ⟨rfl, hk32⟩ hf31
    have hm33 : Mem [] M w0 [.sl (Kd.int .i64) (some ⟨b22, 0, none⟩) 2 ([64, 64] : List Int)] w29 := hm28.still hk32.cum.none
    refine go 5 [] [1, 2, 4] [(1, .int .i64 r12.1), (2, .int .i64 r12.2), (4, .int .i64 r21.2)] [] hf31 (by kernel_rfl) trivial fun a34 hf35 => ?_
    refine endL rfl ?_
    have hm36 : Mem [] M w0 [] w29 := hm33.sel [] _ rfl (by kernel_rfl)
    refine thenN ?_
    refine wp_seq ?_
    obtain ⟨r37, hr37, H0⟩ := ob_split H0
    refine inReg ?_
    refine listOf hf35 rfl (by kernel_rfl) (aLit (cs := [.int .i64 64, .int .i64 65]) (E := 3) (len := 2) (d := 31) hf35 (by kernel_rfl) (by kernel_rfl) ?_)
    intro b38 w39 a40 hbb38 hx42 hg43 hf41
    have hm36s := hm36.still hg43
    have hm44 : Mem [] M w0 [.sl (Kd.int .i64) (some ⟨b38, 0, none⟩) 2 ([64, 65] : List Int)] w39 := Mem.lit (kd := (Kd.int .i64)) (xs := ([64, 65] : List Int)) hm36 hbb38 hx42 hg43 (Els.append (Els.one (kd := (Kd.int .i64)) (us := [.int .i64 64]) (x := 64) rfl) (Els.one (kd := (Kd.int .i64)) (us := [.int .i64 65]) (x := 65) rfl))
    refine listOf hf41 rfl (by kernel_rfl) (aCall (fid := 15) (args := [.slice (some ⟨b38, 0, none⟩) 2 2]) (d := 32) hf41 (by kernel_rfl) (by kernel_rfl) callable15 (shape_Size.calls _ _ ([64, 65] : List Int) (some ⟨b38, 0, none⟩) 2 2 rfl (hm44.give [0] [.sl (Kd.int .i64) (some ⟨b38, 0, none⟩) 2 ([64, 65] : List Int)] rfl rfl) r37 hr37) ?_)
    rintro _ w45 a46 ⟨rfl, hk48⟩ hf47
    have hm49 : Mem [] M w0 [.sl (Kd.int .i64) (some ⟨b38, 0, none⟩) 2 ([64, 65] : List Int)] w45 := hm44.still hk48.cum.none
    refine go 5 [] [1, 2, 4, 6] [(1, .int .i64 r12.1), (2, .int .i64 r12.2), (4, .int .i64 r21.2), (6, .int .i64 r37.2)] [] hf47 (by kernel_rfl) trivial fun a50 hf51 => ?_
    refine endL rfl ?_
    have hm52 : Mem [] M w0 [] w45 := hm49.sel [] _ rfl (by kernel_rfl)
    refine thenN ?_
    refine wp_seq ?_
    obtain ⟨r53, hr53, H0⟩ := ob_split H0
    refine inReg ?_
    refine listOf hf51 rfl (by kernel_rfl) (aLit (cs := [.int .i64 1, .int .i64 1, .int .i64 1, .int .i64 1, .int .i64 1]) (E := 3) (len := 5) (d := 36) hf51 (by kernel_rfl) (by kernel_rfl) ?_)
    intro b54 w55 a56 hbb54 hx58 hg59 hf57
    have hm52s := hm52.still hg59
    have hm60 : Mem [] M w0 [.sl (Kd.int .i64) (some ⟨b54, 0, none⟩) 5 ([1, 1, 1, 1, 1] : List Int)] w55 := Mem.lit (kd := (Kd.int .i64)) (xs := ([1, 1, 1, 1, 1] : List Int)) hm52 hbb54 hx58 hg59 (Els.append (Els.one (kd := (Kd.int .i64)) (us := [.int .i64 1]) (x := 1) rfl) (Els.append (Els.one (kd := (Kd.int .i64)) (us := [.int .i64 1]) (x := 1) rfl) (Els.append (Els.one (kd := (Kd.int .i64)) (us := [.int .i64 1]) (x := 1) rfl) (Els.append (Els.one (kd := (Kd.int .i64)) (us := [.int .i64 1]) (x := 1) rfl) (Els.one (kd := (Kd.int .i64)) (us := [.int .i64 1]) (x := 1) rfl)))))
    refine listOf hf57 rfl (by kernel_rfl) (aCall (fid := 15) (args := [.slice (some ⟨b54, 0, none⟩) 5 5]) (d := 37) hf57 (by kernel_rfl) (by kernel_rfl) callable15 (shape_Size.calls _ _ ([1, 1, 1, 1, 1] : List Int) (some ⟨b54, 0, none⟩) 5 5 rfl (hm60.give [0] [.sl (Kd.int .i64) (some ⟨b54, 0, none⟩) 5 ([1, 1, 1, 1, 1] : List Int)] rfl rfl) r53 hr53) ?_)
    rintro _ w61 a62 ⟨rfl, hk64⟩ hf63
    have hm65 : Mem [] M w0 [.sl (Kd.int .i64) (some ⟨b54, 0, none⟩) 5 ([1, 1, 1, 1, 1] : List Int)] w61 := hm60.still hk64.cum.none
    refine go 5 [] [1, 2, 4, 6, 8] [(1, .int .i64 r12.1), (2, .int .i64 r12.2), (4, .int .i64 r21.2), (6, .int .i64 r37.2), (8, .int .i64 r53.2)] [] hf63 (by kernel_rfl) trivial fun a66 hf67 => ?_
    refine endL rfl ?_
    have hm68 : Mem [] M w0 [] w61 := hm65.sel [] _ rfl (by kernel_rfl)
    refine thenN ?_
    refine wp_seq ?_
    obtain ⟨r69, hr69, H0⟩ := ob_split H0
    refine inReg ?_
    refine listOf hf67 rfl (by kernel_rfl) (aLit (cs := [.int .i64 1099511627776, .int .i64 1099511627776, .int .i64 0]) (E := 3) (len := 3) (d := 41) hf67 (by kernel_rfl) (by kernel_rfl) ?_)
    intro b70 w71 a72 hbb70 hx74 hg75 hf73
    have hm68s := hm68.still hg75
    have hm76 : Mem [] M w0 [.sl (Kd.int .i64) (some ⟨b70, 0, none⟩) 3 ([1099511627776, 1099511627776, 0] : List Int)] w71 := Mem.lit (kd := (Kd.int .i64)) (xs := ([1099511627776, 1099511627776, 0] : List Int)) hm68 hbb70 hx74 hg75 (Els.append (Els.one (kd := (Kd.int .i64)) (us := [.int .i64 1099511627776]) (x := 1099511627776) rfl) (Els.append (Els.one (kd := (Kd.int .i64)) (us := [.int .i64 1099511627776]) (x := 1099511627776) rfl) (Els.one (kd := (Kd.int .i64)) (us := [.int .i64 0]) (x := 0) rfl)))
    refine listOf hf73 rfl (by kernel_rfl) (aCall (fid := 15) (args := [.slice (some ⟨b70, 0, none⟩) 3 3]) (d := 42) hf73 (by kernel_rfl) (by kernel_rfl) callable15 (shape_Size.calls _ _ ([1099511627776, 1099511627776, 0] : List Int) (some ⟨b70, 0, none⟩) 3 3 rfl (hm76.give [0] [.sl (Kd.int .i64) (some ⟨b70, 0, none⟩) 3 ([1099511627776, 1099511627776, 0] : List Int)] rfl rfl) r69 hr69) ?_)
    rintro _ w77 a78 ⟨rfl, hk80⟩ hf79
    have hm81 : Mem [] M w0 [.sl (Kd.int .i64) (some ⟨b70, 0, none⟩) 3 ([1099511627776, 1099511627776, 0] : List Int)] w77 := hm76.still hk80.cum.none
    refine go 5 [] [1, 2, 4, 6, 8, 10] [(1, .int .i64 r12.1), (2, .int .i64 r12.2), (4, .int .i64 r21.2), (6, .int .i64 r37.2), (8, .int .i64 r53.2), (10, .int .i64 r69.2)] [] hf79 (by kernel_rfl) trivial fun a82 hf83 => ?_
    refine endL rfl ?_
    have hm84 : Mem [] M w0 [] w77 := hm81.sel [] _ rfl (by kernel_rfl)
    refine thenN ?_
    refine wp_seq ?_
    obtain ⟨r85, hr85, H0⟩ := ob_split H0
    refine inReg ?_
    refine listOf hf83 rfl (by kernel_rfl) (aLit (cs := [.int .i64 2, .int .i64 1, .int .i64 3]) (E := 3) (len := 3) (d := 46) hf83 (by kernel_rfl) (by kernel_rfl) ?_)
    intro b86 w87 a88 hbb86 hx90 hg91 hf89
    have hm84s := hm84.still hg91
    have hm92 : Mem [] M w0 [.sl (Kd.int .i64) (some ⟨b86, 0, none⟩) 3 ([2, 1, 3] : List Int)] w87 := Mem.lit (kd := (Kd.int .i64)) (xs := ([2, 1, 3] : List Int)) hm84 hbb86 hx90 hg91 (Els.append (Els.one (kd := (Kd.int .i64)) (us := [.int .i64 2]) (x := 2) rfl) (Els.append (Els.one (kd := (Kd.int .i64)) (us := [.int .i64 1]) (x := 1) rfl) (Els.one (kd := (Kd.int .i64)) (us := [.int .i64 3]) (x := 3) rfl)))
    refine listOf hf89 rfl (by kernel_rfl) (aLit (cs := [.int .i64 4, .int .i64 1]) (E := 3) (len := 2) (d := 47) hf89 (by kernel_rfl) (by kernel_rfl) ?_)
    intro b93 w94 a95 hbb93 hx97 hg98 hf96
    have hm92s := hm92.still hg98
    have hm99 : Mem [] M w0 [.sl (Kd.int .i64) (some ⟨b93, 0, none⟩) 2 ([4, 1] : List Int), .sl (Kd.int .i64) (some ⟨b86, 0, none⟩) 3 ([2, 1, 3] : List Int)] w94 := Mem.lit (kd := (Kd.int .i64)) (xs := ([4, 1] : List Int)) hm92 hbb93 hx97 hg98 (Els.append (Els.one (kd := (Kd.int .i64)) (us := [.int .i64 4]) (x := 4) rfl) (Els.one (kd := (Kd.int .i64)) (us := [.int .i64 1]) (x := 1) rfl))
    refine listOf hf96 rfl (by kernel_rfl) (aCall (fid := 10) (args := [.slice (some ⟨b86, 0, none⟩) 3 3, .slice (some ⟨b93, 0, none⟩) 2 2]) (d := 48) hf96 (by kernel_rfl) (by kernel_rfl) callable10 (shape_Spread.calls _ _ ([2, 1, 3] : List Int) (some ⟨b86, 0, none⟩) 3 3 rfl ([4, 1] : List Int) (some ⟨b93, 0, none⟩) 2 2 rfl (hm99.give [1, 0] [.sl (Kd.int .i64) (some ⟨b86, 0, none⟩) 3 ([2, 1, 3] : List Int), .sl (Kd.int .i64) (some ⟨b93, 0, none⟩) 2 ([4, 1] : List Int)] rfl rfl) r85 hr85) ?_)
    rintro _ w102 a103 ⟨A100, c101, rfl, hk105⟩ hf104
    have hm106 : Mem [] M w0 [.ow (Kd.int .i64) 3 A100 c101 r85.1, .sl (Kd.int .i64) (some ⟨b93, 0, none⟩) 2 ([4, 1] : List Int), .sl (Kd.int .i64) (some ⟨b86, 0, none⟩) 3 ([2, 1, 3] : List Int)] w102 := hm99.back hk105
    have hm107 : Mem [] M w0 [.sl (Kd.int .i64) A100 c101 r85.1, .sl (Kd.int .i64) (some ⟨b93, 0, none⟩) 2 ([4, 1] : List Int), .sl (Kd.int .i64) (some ⟨b86, 0, none⟩) 3 ([2, 1, 3] : List Int)] w102 := hm106.seal 0 _ rfl rfl
    refine go 5 [] [1, 2, 4, 6, 8, 10, 11, 12] [(1, .int .i64 r12.1), (2, .int .i64 r12.2), (4, .int .i64 r21.2), (6, .int .i64 r37.2), (8, .int .i64 r53.2), (10, .int .i64 r69.2), (11, .slice A100 r85.1.length c101), (12, .int .i64 r85.2)] [] hf104 (by kernel_rfl) trivial fun a108 hf109 => ?_
    refine endL rfl ?_
    have hm110 : Mem [] M w0 [.sl (Kd.int .i64) A100 c101 r85.1] w102 := hm107.sel [0] _ rfl (by kernel_rfl)
    refine thenN ?_
    refine wp_seq ?_
    obtain ⟨r111, hr111, H0⟩ := ob_split H0
    refine inReg ?_
    refine listOf hf109 rfl (by kernel_rfl) (aLit (cs := [.int .i64 2]) (E := 3) (len := 1) (d := 52) hf109 (by kernel_rfl) (by kernel_rfl) ?_)
    intro b112 w113 a114 hbb112 hx116 hg117 hf115
    have hm110s := hm110.still hg117
    have hm118 : Mem [] M w0 [.sl (Kd.int .i64) (some ⟨b112, 0, none⟩) 1 ([2] : List Int), .sl (Kd.int .i64) A100 c101 r85.1] w113 := Mem.lit (kd := (Kd.int .i64)) (xs := ([2] : List Int)) hm110 hbb112 hx116 hg117 (Els.one (kd := (Kd.int .i64)) (us := [.int .i64 2]) (x := 2) rfl)
    refine listOf hf115 rfl (by kernel_rfl) (aLit (cs := [.int .i64 3]) (E := 3) (len := 1) (d := 53) hf115 (by kernel_rfl) (by kernel_rfl) ?_)
    intro b119 w120 a121 hbb119 hx123 hg124 hf122
    have hm118s := hm118.still hg124
    have hm125 : Mem [] M w0 [.sl (Kd.int .i64) (some ⟨b119, 0, none⟩) 1 ([3] : List Int), .sl (Kd.int .i64) (some ⟨b112, 0, none⟩) 1 ([2] : List Int), .sl (Kd.int .i64) A100 c101 r85.1] w120 := Mem.lit (kd := (Kd.int .i64)) (xs := ([3] : List Int)) hm118 hbb119 hx123 hg124 (Els.one (kd := (Kd.int .i64)) (us := [.int .i64 3]) (x := 3) rfl)
    refine listOf hf122 rfl (by kernel_rfl) (aCall (fid := 10) (args := [.slice (some ⟨b112, 0, none⟩) 1 1, .slice (some ⟨b119, 0, none⟩) 1 1]) (d := 54) hf122 (by kernel_rfl) (by kernel_rfl) callable10 (shape_Spread.calls _ _ ([2] : List Int) (some ⟨b112, 0, none⟩) 1 1 rfl ([3] : List Int) (some ⟨b119, 0, none⟩) 1 1 rfl (hm125.give [1, 0] [.sl (Kd.int .i64) (some ⟨b112, 0, none⟩) 1 ([2] : List Int), .sl (Kd.int .i64) (some ⟨b119, 0, none⟩) 1 ([3] : List Int)] rfl rfl) r111 hr111) ?_)
    rintro _ w128 a129 ⟨A126, c127, rfl, hk131⟩ hf130
    have hm132 : Mem [] M w0 [.ow (Kd.int .i64) 3 A126 c127 r111.1, .sl (Kd.int .i64) (some ⟨b119, 0, none⟩) 1 ([3] : List Int), .sl (Kd.int .i64) (some ⟨b112, 0, none⟩) 1 ([2] : List Int), .sl (Kd.int .i64) A100 c101 r85.1] w128 := hm125.back hk131
    have hm133 : Mem [] M w0 [.sl (Kd.int .i64) A126 c127 r111.1, .sl (Kd.int .i64) (some ⟨b119, 0, none⟩) 1 ([3] : List Int), .sl (Kd.int .i64) (some ⟨b112, 0, none⟩) 1 ([2] : List Int), .sl (Kd.int .i64) A100 c101 r85.1] w128 := hm132.seal 0 _ rfl rfl
    refine go 5 [] [1, 2, 4, 6, 8, 10, 11, 12, 14] [(1, .int .i64 r12.1), (2, .int .i64 r12.2), (4, .int .i64 r21.2), (6, .int .i64 r37.2), (8, .int .i64 r53.2), (10, .int .i64 r69.2), (11, .slice A100 r85.1.length c101), (12, .int .i64 r85.2), (14, .int .i64 r111.2)] [] hf130 (by kernel_rfl) trivial fun a134 hf135 => ?_
    refine endL rfl ?_
    have hm136 : Mem [] M w0 [.sl (Kd.int .i64) A100 c101 r85.1] w128 := hm133.sel [3] _ rfl (by kernel_rfl)
    refine thenN ?_
    refine wp_seq ?_
    obtain ⟨r137, hr137, H0⟩ := ob_split H0
    refine inReg ?_
    refine listOf hf135 rfl (by kernel_rfl) (aLit (cs := [.int .i64 4096]) (E := 3) (len := 1) (d := 58) hf135 (by kernel_rfl) (by kernel_rfl) ?_)
    intro b138 w139 a140 hbb138 hx142 hg143 hf141
    have hm136s := hm136.still hg143
    have hm144 : Mem [] M w0 [.sl (Kd.int .i64) (some ⟨b138, 0, none⟩) 1 ([4096] : List Int), .sl (Kd.int .i64) A100 c101 r85.1] w139 := Mem.lit (kd := (Kd.int .i64)) (xs := ([4096] : List Int)) hm136 hbb138 hx142 hg143 (Els.one (kd := (Kd.int .i64)) (us := [.int .i64 4096]) (x := 4096) rfl)
    refine listOf hf141 rfl (by kernel_rfl) (aLit (cs := [.int .i64 2, .int .i64 1]) (E := 3) (len := 2) (d := 59) hf141 (by kernel_rfl) (by kernel_rfl) ?_)
    intro b145 w146 a147 hbb145 hx149 hg150 hf148
    have hm144s := hm144.still hg150
    have hm151 : Mem [] M w0 [.sl (Kd.int .i64) (some ⟨b145, 0, none⟩) 2 ([2, 1] : List Int), .sl (Kd.int .i64) (some ⟨b138, 0, none⟩) 1 ([4096] : List Int), .sl (Kd.int .i64) A100 c101 r85.1] w146 := Mem.lit (kd := (Kd.int .i64)) (xs := ([2, 1] : List Int)) hm144 hbb145 hx149 hg150 (Els.append (Els.one (kd := (Kd.int .i64)) (us := [.int .i64 2]) (x := 2) rfl) (Els.one (kd := (Kd.int .i64)) (us := [.int .i64 1]) (x := 1) rfl))
    refine listOf hf148 rfl (by kernel_rfl) (aCall (fid := 10) (args := [.slice (some ⟨b138, 0, none⟩) 1 1, .slice (some ⟨b145, 0, none⟩) 2 2]) (d := 60) hf148 (by kernel_rfl) (by kernel_rfl) callable10 (shape_Spread.calls _ _ ([4096] : List Int) (some ⟨b138, 0, none⟩) 1 1 rfl ([2, 1] : List Int) (some ⟨b145, 0, none⟩) 2 2 rfl (hm151.give [1, 0] [.sl (Kd.int .i64) (some ⟨b138, 0, none⟩) 1 ([4096] : List Int), .sl (Kd.int .i64) (some ⟨b145, 0, none⟩) 2 ([2, 1] : List Int)] rfl rfl) r137 hr137) ?_)
    rintro _ w154 a155 ⟨A152, c153, rfl, hk157⟩ hf156
    have hm158 : Mem [] M w0 [.ow (Kd.int .i64) 3 A152 c153 r137.1, .sl (Kd.int .i64) (some ⟨b145, 0, none⟩) 2 ([2, 1] : List Int), .sl (Kd.int .i64) (some ⟨b138, 0, none⟩) 1 ([4096] : List Int), .sl (Kd.int .i64) A100 c101 r85.1] w154 := hm151.back hk157
    have hm159 : Mem [] M w0 [.sl (Kd.int .i64) A152 c153 r137.1, .sl (Kd.int .i64) (some ⟨b145, 0, none⟩) 2 ([2, 1] : List Int), .sl (Kd.int .i64) (some ⟨b138, 0, none⟩) 1 ([4096] : List Int), .sl (Kd.int .i64) A100 c101 r85.1] w154 := hm158.seal 0 _ rfl rfl
    refine go 5 [] [1, 2, 4, 6, 8, 10, 11, 12, 14, 16] [(1, .int .i64 r12.1), (2, .int .i64 r12.2), (4, .int .i64 r21.2), (6, .int .i64 r37.2), (8, .int .i64 r53.2), (10, .int .i64 r69.2), (11, .slice A100 r85.1.length c101), (12, .int .i64 r85.2), (14, .int .i64 r111.2), (16, .int .i64 r137.2)] [] hf156 (by kernel_rfl) trivial fun a160 hf161 => ?_
    refine endL rfl ?_
    have hm162 : Mem [] M w0 [.sl (Kd.int .i64) A100 c101 r85.1] w154 := hm159.sel [3] _ rfl (by kernel_rfl)
    refine thenN ?_
    refine wp_seq ?_
    obtain ⟨r163, hr163, H0⟩ := ob_split H0
    refine inReg ?_
    have hm164 : Mem [] M w0 [.sl (Kd.int .i64) none 0 ([] : (List Int)), .sl (Kd.int .i64) A100 c101 r85.1] w154 := hm162.nilSl (Kd.int .i64)
    have hm165 : Mem [] M w0 [.sl (Kd.int .i64) none 0 ([] : (List Int)), .sl (Kd.int .i64) none 0 ([] : (List Int)), .sl (Kd.int .i64) A100 c101 r85.1] w154 := hm164.nilSl (Kd.int .i64)
    refine listOf hf161 rfl (by kernel_rfl) (aCall (fid := 10) (args := [.slice none 0 0, .slice none 0 0]) (d := 64) hf161 (by kernel_rfl) (by kernel_rfl) callable10 (shape_Spread.calls _ _ ([] : (List Int)) none 0 0 rfl ([] : (List Int)) none 0 0 rfl (hm165.give [1, 0] [.sl (Kd.int .i64) none 0 ([] : (List Int)), .sl (Kd.int .i64) none 0 ([] : (List Int))] rfl rfl) r163 hr163) ?_)
    rintro _ w168 a169 ⟨A166, c167, rfl, hk171⟩ hf170
    have hm172 : Mem [] M w0 [.ow (Kd.int .i64) 3 A166 c167 r163.1, .sl (Kd.int .i64) none 0 ([] : (List Int)), .sl (Kd.int .i64) none 0 ([] : (List Int)), .sl (Kd.int .i64) A100 c101 r85.1] w168 := hm165.back hk171
    have hm173 : Mem [] M w0 [.sl (Kd.int .i64) A166 c167 r163.1, .sl (Kd.int .i64) none 0 ([] : (List Int)), .sl (Kd.int .i64) none 0 ([] : (List Int)), .sl (Kd.int .i64) A100 c101 r85.1] w168 := hm172.seal 0 _ rfl rfl
    refine go 5 [] [1, 2, 4, 6, 8, 10, 11, 12, 14, 16, 17, 18] [(1, .int .i64 r12.1), (2, .int .i64 r12.2), (4, .int .i64 r21.2), (6, .int .i64 r37.2), (8, .int .i64 r53.2), (10, .int .i64 r69.2), (11, .slice A100 r85.1.length c101), (12, .int .i64 r85.2), (14, .int .i64 r111.2), (16, .int .i64 r137.2), (17, .slice A166 r163.1.length c167), (18, .int .i64 r163.2)] [] hf170 (by kernel_rfl) trivial fun a174 hf175 => ?_
    refine endL rfl ?_
    have hm176 : Mem [] M w0 [.sl (Kd.int .i64) A166 c167 r163.1, .sl (Kd.int .i64) A100 c101 r85.1] w168 := hm173.sel [0, 3] _ rfl (by kernel_rfl)
    refine thenN ?_
    refine wp_seq ?_
    rcases if_split H0 with ⟨c177, H0⟩ | ⟨c177, H0⟩
    · rcases if_split H0 with ⟨c178, H0⟩ | ⟨c178, H0⟩
      · rcases if_split H0 with ⟨c179, H0⟩ | ⟨c179, H0⟩
        · rcases if_split H0 with ⟨c180, H0⟩ | ⟨c180, H0⟩
          · rcases if_split H0 with ⟨c181, H0⟩ | ⟨c181, H0⟩
            · rcases if_split H0 with ⟨c182, H0⟩ | ⟨c182, H0⟩
              · rcases if_split H0 with ⟨c183, H0⟩ | ⟨c183, H0⟩
                · obtain ⟨r184, hr184, H0⟩ := ob_split H0
                  rcases ifb_split H0 with ⟨c185, H0⟩ | ⟨c185, H0⟩
                  · rcases if_split H0 with ⟨c186, H0⟩ | ⟨c186, H0⟩
                    · rcases if_split H0 with ⟨c187, H0⟩ | ⟨c187, H0⟩
                      · rcases if_split H0 with ⟨c188, H0⟩ | ⟨c188, H0⟩
                        · rcases if_split H0 with ⟨c189, H0⟩ | ⟨c189, H0⟩
                          · obtain ⟨r190, hr190, H0⟩ := ob_split H0
                            rcases if_split H0 with ⟨c191, H0⟩ | ⟨c191, H0⟩
                            · obtain ⟨r192, hr192, H0⟩ := ob_split H0
                              rcases ifb_split H0 with ⟨c193, H0⟩ | ⟨c193, H0⟩
                              · obtain ⟨r194, hr194, H0⟩ := ob_split H0
                                rcases ifb_split H0 with ⟨c195, H0⟩ | ⟨c195, H0⟩
                                · refine inReg ?_
                                  refine go 28 [.bool true, .bool true, .bool true, .bool true, .bool true, .bool true, .bool true] [14, 16, 17, 18, 93, 94] [(14, .int .i64 r111.2), (16, .int .i64 r137.2), (17, .slice A166 r163.1.length c167), (18, .int .i64 r163.2), (93, .bool true), (94, .slice A100 r85.1.length c101)] [.is (((r12.1 : Int) == 1) = true), .is (((r12.2 : Int) == 0) = true), .is (((r21.2 : Int) == 0) = true), .is (((r37.2 : Int) == 3) = true), .is (((r53.2 : Int) == 2) = true), .is (((r69.2 : Int) == 2) = true), .is (((r85.2 : Int) == 0) = true)] hf175 (by kernel_rfl) ⟨(eqT c177), (eqT c178), (eqT c179), (eqT c180), (eqT c181), (eqT c182), (eqT c183), trivial⟩ fun a196 hf197 => ?_
                                  refine listOf hf197 rfl (by kernel_rfl) (aLit (cs := [.int .i64 2, .int .i64 4, .int .i64 3]) (E := 3) (len := 3) (d := 95) hf197 (by kernel_rfl) (by kernel_rfl) ?_)
                                  intro b198 w199 a200 hbb198 hx202 hg203 hf201
                                  have hm176s := hm176.still hg203
                                  have hm204 : Mem [] M w0 [.sl (Kd.int .i64) (some ⟨b198, 0, none⟩) 3 ([2, 4, 3] : List Int), .sl (Kd.int .i64) A166 c167 r163.1, .sl (Kd.int .i64) A100 c101 r85.1] w199 := Mem.lit (kd := (Kd.int .i64)) (xs := ([2, 4, 3] : List Int)) hm176 hbb198 hx202 hg203 (Els.append (Els.one (kd := (Kd.int .i64)) (us := [.int .i64 2]) (x := 2) rfl) (Els.append (Els.one (kd := (Kd.int .i64)) (us := [.int .i64 4]) (x := 4) rfl) (Els.one (kd := (Kd.int .i64)) (us := [.int .i64 3]) (x := 3) rfl)))
                                  refine listOf hf201 rfl (by kernel_rfl) (aCall (fid := 16) (args := [.slice A100 r85.1.length c101, .slice (some ⟨b198, 0, none⟩) 3 3]) (d := 96) hf201 (by kernel_rfl) (by kernel_rfl) callable16 (shape_Same.calls _ _ r85.1 A100 r85.1.length c101 rfl ([2, 4, 3] : List Int) (some ⟨b198, 0, none⟩) 3 3 rfl (hm204.give [2, 0] [.sl (Kd.int .i64) A100 c101 r85.1, .sl (Kd.int .i64) (some ⟨b198, 0, none⟩) 3 ([2, 4, 3] : List Int)] rfl rfl) r184 hr184) ?_)
                                  rintro _ w205 a206 ⟨rfl, hk208⟩ hf207
                                  have hm209 : Mem [] M w0 [.sl (Kd.int .i64) (some ⟨b198, 0, none⟩) 3 ([2, 4, 3] : List Int), .sl (Kd.int .i64) A166 c167 r163.1, .sl (Kd.int .i64) A100 c101 r85.1] w205 := hm204.still hk208.cum.none
                                  rw [c185] at hf207
                                  refine go 19 [.bool true, .bool true, .bool true, .bool true] [115] [(115, .bool true)] [.is (((r111.2 : Int) == 2) = true), .is (((r137.2 : Int) == 3) = true), .is (((r163.2 : Int) == 0) = true), .is ((((r163.1.length : Int) : Int) == 0) = true)] hf207 (by kernel_rfl) ⟨(eqT c186), (eqT c187), (eqT c188), (eqT c189), trivial⟩ fun a210 hf211 => ?_
                                  have hm212 : Mem [] M w0 [.sl (Kd.int .i64) none 0 ([] : (List Int)), .sl (Kd.int .i64) (some ⟨b198, 0, none⟩) 3 ([2, 4, 3] : List Int), .sl (Kd.int .i64) A166 c167 r163.1, .sl (Kd.int .i64) A100 c101 r85.1] w205 := hm209.nilSl (Kd.int .i64)
                                  have hm213 : Mem [] M w0 [.sl (Kd.int .i64) none 0 ([] : (List Int)), .sl (Kd.int .i64) none 0 ([] : (List Int)), .sl (Kd.int .i64) (some ⟨b198, 0, none⟩) 3 ([2, 4, 3] : List Int), .sl (Kd.int .i64) A166 c167 r163.1, .sl (Kd.int .i64) A100 c101 r85.1] w205 := hm212.nilSl (Kd.int .i64)
                                  refine listOf hf211 rfl (by kernel_rfl) (aCall (fid := 17) (args := [.slice none 0 0, .slice none 0 0]) (d := 116) hf211 (by kernel_rfl) (by kernel_rfl) callable17 (shape_Index.calls _ _ ([] : (List Int)) none 0 0 rfl ([] : (List Int)) none 0 0 rfl (hm213.give [1, 0] [.sl (Kd.int .i64) none 0 ([] : (List Int)), .sl (Kd.int .i64) none 0 ([] : (List Int))] rfl rfl) r190 hr190) ?_)
                                  rintro _ w214 a215 ⟨rfl, hk217⟩ hf216
                                  have hm218 : Mem [] M w0 [.sl (Kd.int .i64) (some ⟨b198, 0, none⟩) 3 ([2, 4, 3] : List Int), .sl (Kd.int .i64) A166 c167 r163.1, .sl (Kd.int .i64) A100 c101 r85.1] w214 := hm209.still hk217.cum.none
                                  refine go 3 [.bool true] [119] [(119, .bool true)] [.is (((r190 : Int) == 0) = true)] hf216 (by kernel_rfl) ⟨(eqT c191), trivial⟩ fun a219 hf220 => ?_
                                  refine listOf hf220 rfl (by kernel_rfl) (aLit (cs := [.int .i64 1]) (E := 3) (len := 1) (d := 120) hf220 (by kernel_rfl) (by kernel_rfl) ?_)
                                  intro b221 w222 a223 hbb221 hx225 hg226 hf224
                                  have hm218s := hm218.still hg226
                                  have hm227 : Mem [] M w0 [.sl (Kd.int .i64) (some ⟨b221, 0, none⟩) 1 ([1] : List Int), .sl (Kd.int .i64) (some ⟨b198, 0, none⟩) 3 ([2, 4, 3] : List Int), .sl (Kd.int .i64) A166 c167 r163.1, .sl (Kd.int .i64) A100 c101 r85.1] w222 := Mem.lit (kd := (Kd.int .i64)) (xs := ([1] : List Int)) hm218 hbb221 hx225 hg226 (Els.one (kd := (Kd.int .i64)) (us := [.int .i64 1]) (x := 1) rfl)
                                  refine listOf hf224 rfl (by kernel_rfl) (aLit (cs := [.int .i64 5]) (E := 3) (len := 1) (d := 121) hf224 (by kernel_rfl) (by kernel_rfl) ?_)
                                  intro b228 w229 a230 hbb228 hx232 hg233 hf231
                                  have hm227s := hm227.still hg233
                                  have hm234 : Mem [] M w0 [.sl (Kd.int .i64) (some ⟨b228, 0, none⟩) 1 ([5] : List Int), .sl (Kd.int .i64) (some ⟨b221, 0, none⟩) 1 ([1] : List Int), .sl (Kd.int .i64) (some ⟨b198, 0, none⟩) 3 ([2, 4, 3] : List Int), .sl (Kd.int .i64) A166 c167 r163.1, .sl (Kd.int .i64) A100 c101 r85.1] w229 := Mem.lit (kd := (Kd.int .i64)) (xs := ([5] : List Int)) hm227 hbb228 hx232 hg233 (Els.one (kd := (Kd.int .i64)) (us := [.int .i64 5]) (x := 5) rfl)
                                  refine listOf hf231 rfl (by kernel_rfl) (aCall (fid := 13) (args := [.slice (some ⟨b221, 0, none⟩) 1 1, .slice (some ⟨b228, 0, none⟩) 1 1]) (d := 122) hf231 (by kernel_rfl) (by kernel_rfl) callable13 (shape_Into.calls _ _ ([1] : List Int) (some ⟨b221, 0, none⟩) 1 1 rfl ([5] : List Int) (some ⟨b228, 0, none⟩) 1 1 rfl (hm234.give [1, 0] [.sl (Kd.int .i64) (some ⟨b221, 0, none⟩) 1 ([1] : List Int), .sl (Kd.int .i64) (some ⟨b228, 0, none⟩) 1 ([5] : List Int)] rfl rfl) r192 hr192) ?_)
                                  rintro _ w235 a236 ⟨rfl, hk238⟩ hf237
                                  have hm239 : Mem [] M w0 [.sl (Kd.int .i64) (some ⟨b228, 0, none⟩) 1 ([5] : List Int), .sl (Kd.int .i64) (some ⟨b221, 0, none⟩) 1 ([1] : List Int), .sl (Kd.int .i64) (some ⟨b198, 0, none⟩) 3 ([2, 4, 3] : List Int), .sl (Kd.int .i64) A166 c167 r163.1, .sl (Kd.int .i64) A100 c101 r85.1] w235 := hm234.still hk238.cum.none
                                  rw [c193] at hf237
                                  refine go 2 [] [124] [(124, .bool true)] [] hf237 (by kernel_rfl) trivial fun a240 hf241 => ?_
                                  refine listOf hf241 rfl (by kernel_rfl) (aLit (cs := [.int .i64 5]) (E := 3) (len := 1) (d := 125) hf241 (by kernel_rfl) (by kernel_rfl) ?_)
                                  intro b242 w243 a244 hbb242 hx246 hg247 hf245
                                  have hm239s := hm239.still hg247
                                  have hm248 : Mem [] M w0 [.sl (Kd.int .i64) (some ⟨b242, 0, none⟩) 1 ([5] : List Int), .sl (Kd.int .i64) (some ⟨b228, 0, none⟩) 1 ([5] : List Int), .sl (Kd.int .i64) (some ⟨b221, 0, none⟩) 1 ([1] : List Int), .sl (Kd.int .i64) (some ⟨b198, 0, none⟩) 3 ([2, 4, 3] : List Int), .sl (Kd.int .i64) A166 c167 r163.1, .sl (Kd.int .i64) A100 c101 r85.1] w243 := Mem.lit (kd := (Kd.int .i64)) (xs := ([5] : List Int)) hm239 hbb242 hx246 hg247 (Els.one (kd := (Kd.int .i64)) (us := [.int .i64 5]) (x := 5) rfl)
                                  refine listOf hf245 rfl (by kernel_rfl) (aLit (cs := [.int .i64 1]) (E := 3) (len := 1) (d := 126) hf245 (by kernel_rfl) (by kernel_rfl) ?_)
                                  intro b249 w250 a251 hbb249 hx253 hg254 hf252
                                  have hm248s := hm248.still hg254
                                  have hm255 : Mem [] M w0 [.sl (Kd.int .i64) (some ⟨b249, 0, none⟩) 1 ([1] : List Int), .sl (Kd.int .i64) (some ⟨b242, 0, none⟩) 1 ([5] : List Int), .sl (Kd.int .i64) (some ⟨b228, 0, none⟩) 1 ([5] : List Int), .sl (Kd.int .i64) (some ⟨b221, 0, none⟩) 1 ([1] : List Int), .sl (Kd.int .i64) (some ⟨b198, 0, none⟩) 3 ([2, 4, 3] : List Int), .sl (Kd.int .i64) A166 c167 r163.1, .sl (Kd.int .i64) A100 c101 r85.1] w250 := Mem.lit (kd := (Kd.int .i64)) (xs := ([1] : List Int)) hm248 hbb249 hx253 hg254 (Els.one (kd := (Kd.int .i64)) (us := [.int .i64 1]) (x := 1) rfl)
                                  refine listOf hf252 rfl (by kernel_rfl) (aCall (fid := 13) (args := [.slice (some ⟨b242, 0, none⟩) 1 1, .slice (some ⟨b249, 0, none⟩) 1 1]) (d := 127) hf252 (by kernel_rfl) (by kernel_rfl) callable13 (shape_Into.calls _ _ ([5] : List Int) (some ⟨b242, 0, none⟩) 1 1 rfl ([1] : List Int) (some ⟨b249, 0, none⟩) 1 1 rfl (hm255.give [1, 0] [.sl (Kd.int .i64) (some ⟨b242, 0, none⟩) 1 ([5] : List Int), .sl (Kd.int .i64) (some ⟨b249, 0, none⟩) 1 ([1] : List Int)] rfl rfl) r194 hr194) ?_)
                                  rintro _ w256 a257 ⟨rfl, hk259⟩ hf258
                                  have hm260 : Mem [] M w0 [.sl (Kd.int .i64) (some ⟨b249, 0, none⟩) 1 ([1] : List Int), .sl (Kd.int .i64) (some ⟨b242, 0, none⟩) 1 ([5] : List Int), .sl (Kd.int .i64) (some ⟨b228, 0, none⟩) 1 ([5] : List Int), .sl (Kd.int .i64) (some ⟨b221, 0, none⟩) 1 ([1] : List Int), .sl (Kd.int .i64) (some ⟨b198, 0, none⟩) 3 ([2, 4, 3] : List Int), .sl (Kd.int .i64) A166 c167 r163.1, .sl (Kd.int .i64) A100 c101 r85.1] w256 := hm255.still hk259.cum.none
                                  rw [c195] at hf258
                                  refine go 12 [] [0] [(0, .bool false)] [] hf258 (by kernel_rfl) trivial fun a261 hf262 => ?_
                                  refine endL rfl ?_
                                  have hm263 : Mem [] M w0 [] w256 := hm260.sel [] _ rfl (by kernel_rfl)
                                  refine thenN ?_
                                  refine wp_ret ?_
                                  have hm264 : Mem [] M w0 [] w256 := hm263.sel [] _ rfl (by kernel_rfl)
                                  obtain rfl := Option.some.inj H0
                                  refine ret [] [.bool false] [] hf262 (by kernel_rfl) trivial ?_
                                  exact ⟨_, rfl, rfl, hm264⟩
                                · obtain ⟨r266, hr266, H0⟩ := ob_split H0
                                  rcases ifb_split H0 with ⟨c267, H0⟩ | ⟨c267, H0⟩
                                  · obtain ⟨r268, hr268, H0⟩ := ob_split H0
                                    rcases ifb_split H0 with ⟨c269, H0⟩ | ⟨c269, H0⟩
                                    · refine inReg ?_
                                      refine go 28 [.bool true, .bool true, .bool true, .bool true, .bool true, .bool true, .bool true] [14, 16, 17, 18, 93, 94] [(14, .int .i64 r111.2), (16, .int .i64 r137.2), (17, .slice A166 r163.1.length c167), (18, .int .i64 r163.2), (93, .bool true), (94, .slice A100 r85.1.length c101)] [.is (((r12.1 : Int) == 1) = true), .is (((r12.2 : Int) == 0) = true), .is (((r21.2 : Int) == 0) = true), .is (((r37.2 : Int) == 3) = true), .is (((r53.2 : Int) == 2) = true), .is (((r69.2 : Int) == 2) = true), .is (((r85.2 : Int) == 0) = true)] hf175 (by kernel_rfl) ⟨(eqT c177), (eqT c178), (eqT c179), (eqT c180), (eqT c181), (eqT c182), (eqT c183), trivial⟩ fun a270 hf271 => ?_
                                      refine listOf hf271 rfl (by kernel_rfl) (aLit (cs := [.int .i64 2, .int .i64 4, .int .i64 3]) (E := 3) (len := 3) (d := 95) hf271 (by kernel_rfl) (by kernel_rfl) ?_)
                                      intro b272 w273 a274 hbb272 hx276 hg277 hf275
                                      have hm176s := hm176.still hg277
                                      have hm278 : Mem [] M w0 [.sl (Kd.int .i64) (some ⟨b272, 0, none⟩) 3 ([2, 4, 3] : List Int), .sl (Kd.int .i64) A166 c167 r163.1, .sl (Kd.int .i64) A100 c101 r85.1] w273 := Mem.lit (kd := (Kd.int .i64)) (xs := ([2, 4, 3] : List Int)) hm176 hbb272 hx276 hg277 (Els.append (Els.one (kd := (Kd.int .i64)) (us := [.int .i64 2]) (x := 2) rfl) (Els.append (Els.one (kd := (Kd.int .i64)) (us := [.int .i64 4]) (x := 4) rfl) (Els.one (kd := (Kd.int .i64)) (us := [.int .i64 3]) (x := 3) rfl)))
                                      refine listOf hf275 rfl (by kernel_rfl) (aCall (fid := 16) (args := [.slice A100 r85.1.length c101, .slice (some ⟨b272, 0, none⟩) 3 3]) (d := 96) hf275 (by kernel_rfl) (by kernel_rfl) callable16 (shape_Same.calls _ _ r85.1 A100 r85.1.length c101 rfl ([2, 4, 3] : List Int) (some ⟨b272, 0, none⟩) 3 3 rfl (hm278.give [2, 0] [.sl (Kd.int .i64) A100 c101 r85.1, .sl (Kd.int .i64) (some ⟨b272, 0, none⟩) 3 ([2, 4, 3] : List Int)] rfl rfl) r184 hr184) ?_)
                                      rintro _ w279 a280 ⟨rfl, hk282⟩ hf281
                                      have hm283 : Mem [] M w0 [.sl (Kd.int .i64) (some ⟨b272, 0, none⟩) 3 ([2, 4, 3] : List Int), .sl (Kd.int .i64) A166 c167 r163.1, .sl (Kd.int .i64) A100 c101 r85.1] w279 := hm278.still hk282.cum.none
                                      rw [c185] at hf281
                                      refine go 19 [.bool true, .bool true, .bool true, .bool true] [115] [(115, .bool true)] [.is (((r111.2 : Int) == 2) = true), .is (((r137.2 : Int) == 3) = true), .is (((r163.2 : Int) == 0) = true), .is ((((r163.1.length : Int) : Int) == 0) = true)] hf281 (by kernel_rfl) ⟨(eqT c186), (eqT c187), (eqT c188), (eqT c189), trivial⟩ fun a284 hf285 => ?_
                                      have hm286 : Mem [] M w0 [.sl (Kd.int .i64) none 0 ([] : (List Int)), .sl (Kd.int .i64) (some ⟨b272, 0, none⟩) 3 ([2, 4, 3] : List Int), .sl (Kd.int .i64) A166 c167 r163.1, .sl (Kd.int .i64) A100 c101 r85.1] w279 := hm283.nilSl (Kd.int .i64)
                                      have hm287 : Mem [] M w0 [.sl (Kd.int .i64) none 0 ([] : (List Int)), .sl (Kd.int .i64) none 0 ([] : (List Int)), .sl (Kd.int .i64) (some ⟨b272, 0, none⟩) 3 ([2, 4, 3] : List Int), .sl (Kd.int .i64) A166 c167 r163.1, .sl (Kd.int .i64) A100 c101 r85.1] w279 := hm286.nilSl (Kd.int .i64)
                                      refine listOf hf285 rfl (by kernel_rfl) (aCall (fid := 17) (args := [.slice none 0 0, .slice none 0 0]) (d := 116) hf285 (by kernel_rfl) (by kernel_rfl) callable17 (shape_Index.calls _ _ ([] : (List Int)) none 0 0 rfl ([] : (List Int)) none 0 0 rfl (hm287.give [1, 0] [.sl (Kd.int .i64) none 0 ([] : (List Int)), .sl (Kd.int .i64) none 0 ([] : (List Int))] rfl rfl) r190 hr190) ?_)
                                      rintro _ w288 a289 ⟨rfl, hk291⟩ hf290
                                      have hm292 : Mem [] M w0 [.sl (Kd.int .i64) (some ⟨b272, 0, none⟩) 3 ([2, 4, 3] : List Int), .sl (Kd.int .i64) A166 c167 r163.1, .sl (Kd.int .i64) A100 c101 r85.1] w288 := hm283.still hk291.cum.none
                                      refine go 3 [.bool true] [119] [(119, .bool true)] [.is (((r190 : Int) == 0) = true)] hf290 (by kernel_rfl) ⟨(eqT c191), trivial⟩ fun a293 hf294 => ?_
                                      refine listOf hf294 rfl (by kernel_rfl) (aLit (cs := [.int .i64 1]) (E := 3) (len := 1) (d := 120) hf294 (by kernel_rfl) (by kernel_rfl) ?_)
                                      intro b295 w296 a297 hbb295 hx299 hg300 hf298
                                      have hm292s := hm292.still hg300
                                      have hm301 : Mem [] M w0 [.sl (Kd.int .i64) (some ⟨b295, 0, none⟩) 1 ([1] : List Int), .sl (Kd.int .i64) (some ⟨b272, 0, none⟩) 3 ([2, 4, 3] : List Int), .sl (Kd.int .i64) A166 c167 r163.1, .sl (Kd.int .i64) A100 c101 r85.1] w296 := Mem.lit (kd := (Kd.int .i64)) (xs := ([1] : List Int)) hm292 hbb295 hx299 hg300 (Els.one (kd := (Kd.int .i64)) (us := [.int .i64 1]) (x := 1) rfl)
                                      refine listOf hf298 rfl (by kernel_rfl) (aLit (cs := [.int .i64 5]) (E := 3) (len := 1) (d := 121) hf298 (by kernel_rfl) (by kernel_rfl) ?_)
                                      intro b302 w303 a304 hbb302 hx306 hg307 hf305
                                      have hm301s := hm301.still hg307
                                      have hm308 : Mem [] M w0 [.sl (Kd.int .i64) (some ⟨b302, 0, none⟩) 1 ([5] : List Int), .sl (Kd.int .i64) (some ⟨b295, 0, none⟩) 1 ([1] : List Int), .sl (Kd.int .i64) (some ⟨b272, 0, none⟩) 3 ([2, 4, 3] : List Int), .sl (Kd.int .i64) A166 c167 r163.1, .sl (Kd.int .i64) A100 c101 r85.1] w303 := Mem.lit (kd := (Kd.int .i64)) (xs := ([5] : List Int)) hm301 hbb302 hx306 hg307 (Els.one (kd := (Kd.int .i64)) (us := [.int .i64 5]) (x := 5) rfl)
                                      refine listOf hf305 rfl (by kernel_rfl) (aCall (fid := 13) (args := [.slice (some ⟨b295, 0, none⟩) 1 1, .slice (some ⟨b302, 0, none⟩) 1 1]) (d := 122) hf305 (by kernel_rfl) (by kernel_rfl) callable13 (shape_Into.calls _ _ ([1] : List Int) (some ⟨b295, 0, none⟩) 1 1 rfl ([5] : List Int) (some ⟨b302, 0, none⟩) 1 1 rfl (hm308.give [1, 0] [.sl (Kd.int .i64) (some ⟨b295, 0, none⟩) 1 ([1] : List Int), .sl (Kd.int .i64) (some ⟨b302, 0, none⟩) 1 ([5] : List Int)] rfl rfl) r192 hr192) ?_)
                                      rintro _ w309 a310 ⟨rfl, hk312⟩ hf311
                                      have hm313 : Mem [] M w0 [.sl (Kd.int .i64) (some ⟨b302, 0, none⟩) 1 ([5] : List Int), .sl (Kd.int .i64) (some ⟨b295, 0, none⟩) 1 ([1] : List Int), .sl (Kd.int .i64) (some ⟨b272, 0, none⟩) 3 ([2, 4, 3] : List Int), .sl (Kd.int .i64) A166 c167 r163.1, .sl (Kd.int .i64) A100 c101 r85.1] w309 := hm308.still hk312.cum.none
                                      rw [c193] at hf311
                                      refine go 2 [] [124] [(124, .bool true)] [] hf311 (by kernel_rfl) trivial fun a314 hf315 => ?_
                                      refine listOf hf315 rfl (by kernel_rfl) (aLit (cs := [.int .i64 5]) (E := 3) (len := 1) (d := 125) hf315 (by kernel_rfl) (by kernel_rfl) ?_)
                                      intro b316 w317 a318 hbb316 hx320 hg321 hf319
                                      have hm313s := hm313.still hg321
                                      have hm322 : Mem [] M w0 [.sl (Kd.int .i64) (some ⟨b316, 0, none⟩) 1 ([5] : List Int), .sl (Kd.int .i64) (some ⟨b302, 0, none⟩) 1 ([5] : List Int), .sl (Kd.int .i64) (some ⟨b295, 0, none⟩) 1 ([1] : List Int), .sl (Kd.int .i64) (some ⟨b272, 0, none⟩) 3 ([2, 4, 3] : List Int), .sl (Kd.int .i64) A166 c167 r163.1, .sl (Kd.int .i64) A100 c101 r85.1] w317 := Mem.lit (kd := (Kd.int .i64)) (xs := ([5] : List Int)) hm313 hbb316 hx320 hg321 (Els.one (kd := (Kd.int .i64)) (us := [.int .i64 5]) (x := 5) rfl)
                                      refine listOf hf319 rfl (by kernel_rfl) (aLit (cs := [.int .i64 1]) (E := 3) (len := 1) (d := 126) hf319 (by kernel_rfl) (by kernel_rfl) ?_)
                                      intro b323 w324 a325 hbb323 hx327 hg328 hf326
                                      have hm322s := hm322.still hg328
                                      have hm329 : Mem [] M w0 [.sl (Kd.int .i64) (some ⟨b323, 0, none⟩) 1 ([1] : List Int), .sl (Kd.int .i64) (some ⟨b316, 0, none⟩) 1 ([5] : List Int), .sl (Kd.int .i64) (some ⟨b302, 0, none⟩) 1 ([5] : List Int), .sl (Kd.int .i64) (some ⟨b295, 0, none⟩) 1 ([1] : List Int), .sl (Kd.int .i64) (some ⟨b272, 0, none⟩) 3 ([2, 4, 3] : List Int), .sl (Kd.int .i64) A166 c167 r163.1, .sl (Kd.int .i64) A100 c101 r85.1] w324 := Mem.lit (kd := (Kd.int .i64)) (xs := ([1] : List Int)) hm322 hbb323 hx327 hg328 (Els.one (kd := (Kd.int .i64)) (us := [.int .i64 1]) (x := 1) rfl)
                                      refine listOf hf326 rfl (by kernel_rfl) (aCall (fid := 13) (args := [.slice (some ⟨b316, 0, none⟩) 1 1, .slice (some ⟨b323, 0, none⟩) 1 1]) (d := 127) hf326 (by kernel_rfl) (by kernel_rfl) callable13 (shape_Into.calls _ _ ([5] : List Int) (some ⟨b316, 0, none⟩) 1 1 rfl ([1] : List Int) (some ⟨b323, 0, none⟩) 1 1 rfl (hm329.give [1, 0] [.sl (Kd.int .i64) (some ⟨b316, 0, none⟩) 1 ([5] : List Int), .sl (Kd.int .i64) (some ⟨b323, 0, none⟩) 1 ([1] : List Int)] rfl rfl) r194 hr194) ?_)
                                      rintro _ w330 a331 ⟨rfl, hk333⟩ hf332
                                      have hm334 : Mem [] M w0 [.sl (Kd.int .i64) (some ⟨b323, 0, none⟩) 1 ([1] : List Int), .sl (Kd.int .i64) (some ⟨b316, 0, none⟩) 1 ([5] : List Int), .sl (Kd.int .i64) (some ⟨b302, 0, none⟩) 1 ([5] : List Int), .sl (Kd.int .i64) (some ⟨b295, 0, none⟩) 1 ([1] : List Int), .sl (Kd.int .i64) (some ⟨b272, 0, none⟩) 3 ([2, 4, 3] : List Int), .sl (Kd.int .i64) A166 c167 r163.1, .sl (Kd.int .i64) A100 c101 r85.1] w330 := hm329.still hk333.cum.none
                                      rw [c195] at hf332
                                      refine go 3 [] [130] [(130, .bool true)] [] hf332 (by kernel_rfl) trivial fun a335 hf336 => ?_
                                      refine listOf hf336 rfl (by kernel_rfl) (aLit (cs := [.int .i64 2, .int .i64 2]) (E := 3) (len := 2) (d := 131) hf336 (by kernel_rfl) (by kernel_rfl) ?_)
                                      intro b337 w338 a339 hbb337 hx341 hg342 hf340
                                      have hm334s := hm334.still hg342
                                      have hm343 : Mem [] M w0 [.sl (Kd.int .i64) (some ⟨b337, 0, none⟩) 2 ([2, 2] : List Int), .sl (Kd.int .i64) (some ⟨b323, 0, none⟩) 1 ([1] : List Int), .sl (Kd.int .i64) (some ⟨b316, 0, none⟩) 1 ([5] : List Int), .sl (Kd.int .i64) (some ⟨b302, 0, none⟩) 1 ([5] : List Int), .sl (Kd.int .i64) (some ⟨b295, 0, none⟩) 1 ([1] : List Int), .sl (Kd.int .i64) (some ⟨b272, 0, none⟩) 3 ([2, 4, 3] : List Int), .sl (Kd.int .i64) A166 c167 r163.1, .sl (Kd.int .i64) A100 c101 r85.1] w338 := Mem.lit (kd := (Kd.int .i64)) (xs := ([2, 2] : List Int)) hm334 hbb337 hx341 hg342 (Els.append (Els.one (kd := (Kd.int .i64)) (us := [.int .i64 2]) (x := 2) rfl) (Els.one (kd := (Kd.int .i64)) (us := [.int .i64 2]) (x := 2) rfl))
                                      have hm344 : Mem [] M w0 [.sl (Kd.int .i64) none 0 ([] : (List Int)), .sl (Kd.int .i64) (some ⟨b337, 0, none⟩) 2 ([2, 2] : List Int), .sl (Kd.int .i64) (some ⟨b323, 0, none⟩) 1 ([1] : List Int), .sl (Kd.int .i64) (some ⟨b316, 0, none⟩) 1 ([5] : List Int), .sl (Kd.int .i64) (some ⟨b302, 0, none⟩) 1 ([5] : List Int), .sl (Kd.int .i64) (some ⟨b295, 0, none⟩) 1 ([1] : List Int), .sl (Kd.int .i64) (some ⟨b272, 0, none⟩) 3 ([2, 4, 3] : List Int), .sl (Kd.int .i64) A166 c167 r163.1, .sl (Kd.int .i64) A100 c101 r85.1] w338 := hm343.nilSl (Kd.int .i64)
                                      refine listOf hf340 rfl (by kernel_rfl) (aCall (fid := 13) (args := [.slice none 0 0, .slice (some ⟨b337, 0, none⟩) 2 2]) (d := 132) hf340 (by kernel_rfl) (by kernel_rfl) callable13 (shape_Into.calls _ _ ([] : (List Int)) none 0 0 rfl ([2, 2] : List Int) (some ⟨b337, 0, none⟩) 2 2 rfl (hm344.give [0, 1] [.sl (Kd.int .i64) none 0 ([] : (List Int)), .sl (Kd.int .i64) (some ⟨b337, 0, none⟩) 2 ([2, 2] : List Int)] rfl rfl) r266 hr266) ?_)
                                      rintro _ w345 a346 ⟨rfl, hk348⟩ hf347
                                      have hm349 : Mem [] M w0 [.sl (Kd.int .i64) (some ⟨b337, 0, none⟩) 2 ([2, 2] : List Int), .sl (Kd.int .i64) (some ⟨b323, 0, none⟩) 1 ([1] : List Int), .sl (Kd.int .i64) (some ⟨b316, 0, none⟩) 1 ([5] : List Int), .sl (Kd.int .i64) (some ⟨b302, 0, none⟩) 1 ([5] : List Int), .sl (Kd.int .i64) (some ⟨b295, 0, none⟩) 1 ([1] : List Int), .sl (Kd.int .i64) (some ⟨b272, 0, none⟩) 3 ([2, 4, 3] : List Int), .sl (Kd.int .i64) A166 c167 r163.1, .sl (Kd.int .i64) A100 c101 r85.1] w345 := hm343.still hk348.cum.none
                                      rw [c267] at hf347
                                      refine go 2 [] [134] [(134, .bool true)] [] hf347 (by kernel_rfl) trivial fun a350 hf351 => ?_
                                      refine listOf hf351 rfl (by kernel_rfl) (aLit (cs := [.int .i64 1]) (E := 3) (len := 1) (d := 135) hf351 (by kernel_rfl) (by kernel_rfl) ?_)
                                      intro b352 w353 a354 hbb352 hx356 hg357 hf355
                                      have hm349s := hm349.still hg357
                                      have hm358 : Mem [] M w0 [.sl (Kd.int .i64) (some ⟨b352, 0, none⟩) 1 ([1] : List Int), .sl (Kd.int .i64) (some ⟨b337, 0, none⟩) 2 ([2, 2] : List Int), .sl (Kd.int .i64) (some ⟨b323, 0, none⟩) 1 ([1] : List Int), .sl (Kd.int .i64) (some ⟨b316, 0, none⟩) 1 ([5] : List Int), .sl (Kd.int .i64) (some ⟨b302, 0, none⟩) 1 ([5] : List Int), .sl (Kd.int .i64) (some ⟨b295, 0, none⟩) 1 ([1] : List Int), .sl (Kd.int .i64) (some ⟨b272, 0, none⟩) 3 ([2, 4, 3] : List Int), .sl (Kd.int .i64) A166 c167 r163.1, .sl (Kd.int .i64) A100 c101 r85.1] w353 := Mem.lit (kd := (Kd.int .i64)) (xs := ([1] : List Int)) hm349 hbb352 hx356 hg357 (Els.one (kd := (Kd.int .i64)) (us := [.int .i64 1]) (x := 1) rfl)
                                      have hm359 : Mem [] M w0 [.sl (Kd.int .i64) none 0 ([] : (List Int)), .sl (Kd.int .i64) (some ⟨b352, 0, none⟩) 1 ([1] : List Int), .sl (Kd.int .i64) (some ⟨b337, 0, none⟩) 2 ([2, 2] : List Int), .sl (Kd.int .i64) (some ⟨b323, 0, none⟩) 1 ([1] : List Int), .sl (Kd.int .i64) (some ⟨b316, 0, none⟩) 1 ([5] : List Int), .sl (Kd.int .i64) (some ⟨b302, 0, none⟩) 1 ([5] : List Int), .sl (Kd.int .i64) (some ⟨b295, 0, none⟩) 1 ([1] : List Int), .sl (Kd.int .i64) (some ⟨b272, 0, none⟩) 3 ([2, 4, 3] : List Int), .sl (Kd.int .i64) A166 c167 r163.1, .sl (Kd.int .i64) A100 c101 r85.1] w353 := hm358.nilSl (Kd.int .i64)
                                      refine listOf hf355 rfl (by kernel_rfl) (aCall (fid := 13) (args := [.slice (some ⟨b352, 0, none⟩) 1 1, .slice none 0 0]) (d := 136) hf355 (by kernel_rfl) (by kernel_rfl) callable13 (shape_Into.calls _ _ ([1] : List Int) (some ⟨b352, 0, none⟩) 1 1 rfl ([] : (List Int)) none 0 0 rfl (hm359.give [1, 0] [.sl (Kd.int .i64) (some ⟨b352, 0, none⟩) 1 ([1] : List Int), .sl (Kd.int .i64) none 0 ([] : (List Int))] rfl rfl) r268 hr268) ?_)
                                      rintro _ w360 a361 ⟨rfl, hk363⟩ hf362
                                      have hm364 : Mem [] M w0 [.sl (Kd.int .i64) (some ⟨b352, 0, none⟩) 1 ([1] : List Int), .sl (Kd.int .i64) (some ⟨b337, 0, none⟩) 2 ([2, 2] : List Int), .sl (Kd.int .i64) (some ⟨b323, 0, none⟩) 1 ([1] : List Int), .sl (Kd.int .i64) (some ⟨b316, 0, none⟩) 1 ([5] : List Int), .sl (Kd.int .i64) (some ⟨b302, 0, none⟩) 1 ([5] : List Int), .sl (Kd.int .i64) (some ⟨b295, 0, none⟩) 1 ([1] : List Int), .sl (Kd.int .i64) (some ⟨b272, 0, none⟩) 3 ([2, 4, 3] : List Int), .sl (Kd.int .i64) A166 c167 r163.1, .sl (Kd.int .i64) A100 c101 r85.1] w360 := hm358.still hk363.cum.none
                                      rw [c269] at hf362
                                      refine go 3 [] [0] [(0, .bool false)] [] hf362 (by kernel_rfl) trivial fun a365 hf366 => ?_
                                      refine endL rfl ?_
                                      have hm367 : Mem [] M w0 [] w360 := hm364.sel [] _ rfl (by kernel_rfl)
                                      refine thenN ?_
                                      refine wp_ret ?_
                                      have hm368 : Mem [] M w0 [] w360 := hm367.sel [] _ rfl (by kernel_rfl)
                                      obtain rfl := Option.some.inj H0
                                      refine ret [] [.bool false] [] hf366 (by kernel_rfl) trivial ?_
                                      exact ⟨_, rfl, rfl, hm368⟩
                                    · refine inReg ?_
                                      refine go 28 [.bool true, .bool true, .bool true, .bool true, .bool true, .bool true, .bool true] [14, 16, 17, 18, 93, 94] [(14, .int .i64 r111.2), (16, .int .i64 r137.2), (17, .slice A166 r163.1.length c167), (18, .int .i64 r163.2), (93, .bool true), (94, .slice A100 r85.1.length c101)] [.is (((r12.1 : Int) == 1) = true), .is (((r12.2 : Int) == 0) = true), .is (((r21.2 : Int) == 0) = true), .is (((r37.2 : Int) == 3) = true), .is (((r53.2 : Int) == 2) = true), .is (((r69.2 : Int) == 2) = true), .is (((r85.2 : Int) == 0) = true)] hf175 (by kernel_rfl) ⟨(eqT c177), (eqT c178), (eqT c179), (eqT c180), (eqT c181), (eqT c182), (eqT c183), trivial⟩ fun a370 hf371 => ?_
                                      refine listOf hf371 rfl (by kernel_rfl) (aLit (cs := [.int .i64 2, .int .i64 4, .int .i64 3]) (E := 3) (len := 3) (d := 95) hf371 (by kernel_rfl) (by kernel_rfl) ?_)
                                      intro b372 w373 a374 hbb372 hx376 hg377 hf375
                                      have hm176s := hm176.still hg377
                                      have hm378 : Mem [] M w0 [.sl (Kd.int .i64) (some ⟨b372, 0, none⟩) 3 ([2, 4, 3] : List Int), .sl (Kd.int .i64) A166 c167 r163.1, .sl (Kd.int .i64) A100 c101 r85.1] w373 := Mem.lit (kd := (Kd.int .i64)) (xs := ([2, 4, 3] : List Int)) hm176 hbb372 hx376 hg377 (Els.append (Els.one (kd := (Kd.int .i64)) (us := [.int .i64 2]) (x := 2) rfl) (Els.append (Els.one (kd := (Kd.int .i64)) (us := [.int .i64 4]) (x := 4) rfl) (Els.one (kd := (Kd.int .i64)) (us := [.int .i64 3]) (x := 3) rfl)))
                                      refine listOf hf375 rfl (by kernel_rfl) (aCall (fid := 16) (args := [.slice A100 r85.1.length c101, .slice (some ⟨b372, 0, none⟩) 3 3]) (d := 96) hf375 (by kernel_rfl) (by kernel_rfl) callable16 (shape_Same.calls _ _ r85.1 A100 r85.1.length c101 rfl ([2, 4, 3] : List Int) (some ⟨b372, 0, none⟩) 3 3 rfl (hm378.give [2, 0] [.sl (Kd.int .i64) A100 c101 r85.1, .sl (Kd.int .i64) (some ⟨b372, 0, none⟩) 3 ([2, 4, 3] : List Int)] rfl rfl) r184 hr184) ?_)
                                      rintro _ w379 a380 ⟨rfl, hk382⟩ hf381
                                      have hm383 : Mem [] M w0 [.sl (Kd.int .i64) (some ⟨b372, 0, none⟩) 3 ([2, 4, 3] : List Int), .sl (Kd.int .i64) A166 c167 r163.1, .sl (Kd.int .i64) A100 c101 r85.1] w379 := hm378.still hk382.cum.none
                                      rw [c185] at hf381
                                      refine go 19 [.bool true, .bool true, .bool true, .bool true] [115] [(115, .bool true)] [.is (((r111.2 : Int) == 2) = true), .is (((r137.2 : Int) == 3) = true), .is (((r163.2 : Int) == 0) = true), .is ((((r163.1.length : Int) : Int) == 0) = true)] hf381 (by kernel_rfl) ⟨(eqT c186), (eqT c187), (eqT c188), (eqT c189), trivial⟩ fun a384 hf385 => ?_
                                      have hm386 : Mem [] M w0 [.sl (Kd.int .i64) none 0 ([] : (List Int)), .sl (Kd.int .i64) (some ⟨b372, 0, none⟩) 3 ([2, 4, 3] : List Int), .sl (Kd.int .i64) A166 c167 r163.1, .sl (Kd.int .i64) A100 c101 r85.1] w379 := hm383.nilSl (Kd.int .i64)
                                      have hm387 : Mem [] M w0 [.sl (Kd.int .i64) none 0 ([] : (List Int)), .sl (Kd.int .i64) none 0 ([] : (List Int)), .sl (Kd.int .i64) (some ⟨b372, 0, none⟩) 3 ([2, 4, 3] : List Int), .sl (Kd.int .i64) A166 c167 r163.1, .sl (Kd.int .i64) A100 c101 r85.1] w379 := hm386.nilSl (Kd.int .i64)
                                      refine listOf hf385 rfl (by kernel_rfl) (aCall (fid := 17) (args := [.slice none 0 0, .slice none 0 0]) (d := 116) hf385 (by kernel_rfl) (by kernel_rfl) callable17 (shape_Index.calls _ _ ([] : (List Int)) none 0 0 rfl ([] : (List Int)) none 0 0 rfl (hm387.give [1, 0] [.sl (Kd.int .i64) none 0 ([] : (List Int)), .sl (Kd.int .i64) none 0 ([] : (List Int))] rfl rfl) r190 hr190) ?_)
                                      rintro _ w388 a389 ⟨rfl, hk391⟩ hf390
                                      have hm392 : Mem [] M w0 [.sl (Kd.int .i64) (some ⟨b372, 0, none⟩) 3 ([2, 4, 3] : List Int), .sl (Kd.int .i64) A166 c167 r163.1, .sl (Kd.int .i64) A100 c101 r85.1] w388 := hm383.still hk391.cum.none
                                      refine go 3 [.bool true] [119] [(119, .bool true)] [.is (((r190 : Int) == 0) = true)] hf390 (by kernel_rfl) ⟨(eqT c191), trivial⟩ fun a393 hf394 => ?_
                                      refine listOf hf394 rfl (by kernel_rfl) (aLit (cs := [.int .i64 1]) (E := 3) (len := 1) (d := 120) hf394 (by kernel_rfl) (by kernel_rfl) ?_)
                                      intro b395 w396 a397 hbb395 hx399 hg400 hf398
                                      have hm392s := hm392.still hg400
                                      have hm401 : Mem [] M w0 [.sl (Kd.int .i64) (some ⟨b395, 0, none⟩) 1 ([1] : List Int), .sl (Kd.int .i64) (some ⟨b372, 0, none⟩) 3 ([2, 4, 3] : List Int), .sl (Kd.int .i64) A166 c167 r163.1, .sl (Kd.int .i64) A100 c101 r85.1] w396 := Mem.lit (kd := (Kd.int .i64)) (xs := ([1] : List Int)) hm392 hbb395 hx399 hg400 (Els.one (kd := (Kd.int .i64)) (us := [.int .i64 1]) (x := 1) rfl)
                                      refine listOf hf398 rfl (by kernel_rfl) (aLit (cs := [.int .i64 5]) (E := 3) (len := 1) (d := 121) hf398 (by kernel_rfl) (by kernel_rfl) ?_)
                                      intro b402 w403 a404 hbb402 hx406 hg407 hf405
                                      have hm401s := hm401.still hg407
                                      have hm408 : Mem [] M w0 [.sl (Kd.int .i64) (some ⟨b402, 0, none⟩) 1 ([5] : List Int), .sl (Kd.int .i64) (some ⟨b395, 0, none⟩) 1 ([1] : List Int), .sl (Kd.int .i64) (some ⟨b372, 0, none⟩) 3 ([2, 4, 3] : List Int), .sl (Kd.int .i64) A166 c167 r163.1, .sl (Kd.int .i64) A100 c101 r85.1] w403 := Mem.lit (kd := (Kd.int .i64)) (xs := ([5] : List Int)) hm401 hbb402 hx406 hg407 (Els.one (kd := (Kd.int .i64)) (us := [.int .i64 5]) (x := 5) rfl)
                                      refine listOf hf405 rfl (by kernel_rfl) (aCall (fid := 13) (args := [.slice (some ⟨b395, 0, none⟩) 1 1, .slice (some ⟨b402, 0, none⟩) 1 1]) (d := 122) hf405 (by kernel_rfl) (by kernel_rfl) callable13 (shape_Into.calls _ _ ([1] : List Int) (some ⟨b395, 0, none⟩) 1 1 rfl ([5] : List Int) (some ⟨b402, 0, none⟩) 1 1 rfl (hm408.give [1, 0] [.sl (Kd.int .i64) (some ⟨b395, 0, none⟩) 1 ([1] : List Int), .sl (Kd.int .i64) (some ⟨b402, 0, none⟩) 1 ([5] : List Int)] rfl rfl) r192 hr192) ?_)
                                      rintro _ w409 a410 ⟨rfl, hk412⟩ hf411
                                      have hm413 : Mem [] M w0 [.sl (Kd.int .i64) (some ⟨b402, 0, none⟩) 1 ([5] : List Int), .sl (Kd.int .i64) (some ⟨b395, 0, none⟩) 1 ([1] : List Int), .sl (Kd.int .i64) (some ⟨b372, 0, none⟩) 3 ([2, 4, 3] : List Int), .sl (Kd.int .i64) A166 c167 r163.1, .sl (Kd.int .i64) A100 c101 r85.1] w409 := hm408.still hk412.cum.none
                                      rw [c193] at hf411
                                      refine go 2 [] [124] [(124, .bool true)] [] hf411 (by kernel_rfl) trivial fun a414 hf415 => ?_
                                      refine listOf hf415 rfl (by kernel_rfl) (aLit (cs := [.int .i64 5]) (E := 3) (len := 1) (d := 125) hf415 (by kernel_rfl) (by kernel_rfl) ?_)
                                      intro b416 w417 a418 hbb416 hx420 hg421 hf419
                                      have hm413s := hm413.still hg421
                                      have hm422 : Mem [] M w0 [.sl (Kd.int .i64) (some ⟨b416, 0, none⟩) 1 ([5] : List Int), .sl (Kd.int .i64) (some ⟨b402, 0, none⟩) 1 ([5] : List Int), .sl (Kd.int .i64) (some ⟨b395, 0, none⟩) 1 ([1] : List Int), .sl (Kd.int .i64) (some ⟨b372, 0, none⟩) 3 ([2, 4, 3] : List Int), .sl (Kd.int .i64) A166 c167 r163.1, .sl (Kd.int .i64) A100 c101 r85.1] w417 := Mem.lit (kd := (Kd.int .i64)) (xs := ([5] : List Int)) hm413 hbb416 hx420 hg421 (Els.one (kd := (Kd.int .i64)) (us := [.int .i64 5]) (x := 5) rfl)
                                      refine listOf hf419 rfl (by kernel_rfl) (aLit (cs := [.int .i64 1]) (E := 3) (len := 1) (d := 126) hf419 (by kernel_rfl) (by kernel_rfl) ?_)
                                      intro b423 w424 a425 hbb423 hx427 hg428 hf426
                                      have hm422s := hm422.still hg428
                                      have hm429 : Mem [] M w0 [.sl (Kd.int .i64) (some ⟨b423, 0, none⟩) 1 ([1] : List Int), .sl (Kd.int .i64) (some ⟨b416, 0, none⟩) 1 ([5] : List Int), .sl (Kd.int .i64) (some ⟨b402, 0, none⟩) 1 ([5] : List Int), .sl (Kd.int .i64) (some ⟨b395, 0, none⟩) 1 ([1] : List Int), .sl (Kd.int .i64) (some ⟨b372, 0, none⟩) 3 ([2, 4, 3] : List Int), .sl (Kd.int .i64) A166 c167 r163.1, .sl (Kd.int .i64) A100 c101 r85.1] w424 := Mem.lit (kd := (Kd.int .i64)) (xs := ([1] : List Int)) hm422 hbb423 hx427 hg428 (Els.one (kd := (Kd.int .i64)) (us := [.int .i64 1]) (x := 1) rfl)
                                      refine listOf hf426 rfl (by kernel_rfl) (aCall (fid := 13) (args := [.slice (some ⟨b416, 0, none⟩) 1 1, .slice (some ⟨b423, 0, none⟩) 1 1]) (d := 127) hf426 (by kernel_rfl) (by kernel_rfl) callable13 (shape_Into.calls _ _ ([5] : List Int) (some ⟨b416, 0, none⟩) 1 1 rfl ([1] : List Int) (some ⟨b423, 0, none⟩) 1 1 rfl (hm429.give [1, 0] [.sl (Kd.int .i64) (some ⟨b416, 0, none⟩) 1 ([5] : List Int), .sl (Kd.int .i64) (some ⟨b423, 0, none⟩) 1 ([1] : List Int)] rfl rfl) r194 hr194) ?_)
                                      rintro _ w430 a431 ⟨rfl, hk433⟩ hf432
                                      have hm434 : Mem [] M w0 [.sl (Kd.int .i64) (some ⟨b423, 0, none⟩) 1 ([1] : List Int), .sl (Kd.int .i64) (some ⟨b416, 0, none⟩) 1 ([5] : List Int), .sl (Kd.int .i64) (some ⟨b402, 0, none⟩) 1 ([5] : List Int), .sl (Kd.int .i64) (some ⟨b395, 0, none⟩) 1 ([1] : List Int), .sl (Kd.int .i64) (some ⟨b372, 0, none⟩) 3 ([2, 4, 3] : List Int), .sl (Kd.int .i64) A166 c167 r163.1, .sl (Kd.int .i64) A100 c101 r85.1] w430 := hm429.still hk433.cum.none
                                      rw [c195] at hf432
                                      refine go 3 [] [130] [(130, .bool true)] [] hf432 (by kernel_rfl) trivial fun a435 hf436 => ?_
                                      refine listOf hf436 rfl (by kernel_rfl) (aLit (cs := [.int .i64 2, .int .i64 2]) (E := 3) (len := 2) (d := 131) hf436 (by kernel_rfl) (by kernel_rfl) ?_)
                                      intro b437 w438 a439 hbb437 hx441 hg442 hf440
                                      have hm434s := hm434.still hg442
                                      have hm443 : Mem [] M w0 [.sl (Kd.int .i64) (some ⟨b437, 0, none⟩) 2 ([2, 2] : List Int), .sl (Kd.int .i64) (some ⟨b423, 0, none⟩) 1 ([1] : List Int), .sl (Kd.int .i64) (some ⟨b416, 0, none⟩) 1 ([5] : List Int), .sl (Kd.int .i64) (some ⟨b402, 0, none⟩) 1 ([5] : List Int), .sl (Kd.int .i64) (some ⟨b395, 0, none⟩) 1 ([1] : List Int), .sl (Kd.int .i64) (some ⟨b372, 0, none⟩) 3 ([2, 4, 3] : List Int), .sl (Kd.int .i64) A166 c167 r163.1, .sl (Kd.int .i64) A100 c101 r85.1] w438 := Mem.lit (kd := (Kd.int .i64)) (xs := ([2, 2] : List Int)) hm434 hbb437 hx441 hg442 (Els.append (Els.one (kd := (Kd.int .i64)) (us := [.int .i64 2]) (x := 2) rfl) (Els.one (kd := (Kd.int .i64)) (us := [.int .i64 2]) (x := 2) rfl))
                                      have hm444 : Mem [] M w0 [.sl (Kd.int .i64) none 0 ([] : (List Int)), .sl (Kd.int .i64) (some ⟨b437, 0, none⟩) 2 ([2, 2] : List Int), .sl (Kd.int .i64) (some ⟨b423, 0, none⟩) 1 ([1] : List Int), .sl (Kd.int .i64) (some ⟨b416, 0, none⟩) 1 ([5] : List Int), .sl (Kd.int .i64) (some ⟨b402, 0, none⟩) 1 ([5] : List Int), .sl (Kd.int .i64) (some ⟨b395, 0, none⟩) 1 ([1] : List Int), .sl (Kd.int .i64) (some ⟨b372, 0, none⟩) 3 ([2, 4, 3] : List Int), .sl (Kd.int .i64) A166 c167 r163.1, .sl (Kd.int .i64) A100 c101 r85.1] w438 := hm443.nilSl (Kd.int .i64)
                                      refine listOf hf440 rfl (by kernel_rfl) (aCall (fid := 13) (args := [.slice none 0 0, .slice (some ⟨b437, 0, none⟩) 2 2]) (d := 132) hf440 (by kernel_rfl) (by kernel_rfl) callable13 (shape_Into.calls _ _ ([] : (List Int)) none 0 0 rfl ([2, 2] : List Int) (some ⟨b437, 0, none⟩) 2 2 rfl (hm444.give [0, 1] [.sl (Kd.int .i64) none 0 ([] : (List Int)), .sl (Kd.int .i64) (some ⟨b437, 0, none⟩) 2 ([2, 2] : List Int)] rfl rfl) r266 hr266) ?_)
                                      rintro _ w445 a446 ⟨rfl, hk448⟩ hf447
                                      have hm449 : Mem [] M w0 [.sl (Kd.int .i64) (some ⟨b437, 0, none⟩) 2 ([2, 2] : List Int), .sl (Kd.int .i64) (some ⟨b423, 0, none⟩) 1 ([1] : List Int), .sl (Kd.int .i64) (some ⟨b416, 0, none⟩) 1 ([5] : List Int), .sl (Kd.int .i64) (some ⟨b402, 0, none⟩) 1 ([5] : List Int), .sl (Kd.int .i64) (some ⟨b395, 0, none⟩) 1 ([1] : List Int), .sl (Kd.int .i64) (some ⟨b372, 0, none⟩) 3 ([2, 4, 3] : List Int), .sl (Kd.int .i64) A166 c167 r163.1, .sl (Kd.int .i64) A100 c101 r85.1] w445 := hm443.still hk448.cum.none
                                      rw [c267] at hf447
                                      refine go 2 [] [134] [(134, .bool true)] [] hf447 (by kernel_rfl) trivial fun a450 hf451 => ?_
                                      refine listOf hf451 rfl (by kernel_rfl) (aLit (cs := [.int .i64 1]) (E := 3) (len := 1) (d := 135) hf451 (by kernel_rfl) (by kernel_rfl) ?_)
                                      intro b452 w453 a454 hbb452 hx456 hg457 hf455
                                      have hm449s := hm449.still hg457
                                      have hm458 : Mem [] M w0 [.sl (Kd.int .i64) (some ⟨b452, 0, none⟩) 1 ([1] : List Int), .sl (Kd.int .i64) (some ⟨b437, 0, none⟩) 2 ([2, 2] : List Int), .sl (Kd.int .i64) (some ⟨b423, 0, none⟩) 1 ([1] : List Int), .sl (Kd.int .i64) (some ⟨b416, 0, none⟩) 1 ([5] : List Int), .sl (Kd.int .i64) (some ⟨b402, 0, none⟩) 1 ([5] : List Int), .sl (Kd.int .i64) (some ⟨b395, 0, none⟩) 1 ([1] : List Int), .sl (Kd.int .i64) (some ⟨b372, 0, none⟩) 3 ([2, 4, 3] : List Int), .sl (Kd.int .i64) A166 c167 r163.1, .sl (Kd.int .i64) A100 c101 r85.1] w453 := Mem.lit (kd := (Kd.int .i64)) (xs := ([1] : List Int)) hm449 hbb452 hx456 hg457 (Els.one (kd := (Kd.int .i64)) (us := [.int .i64 1]) (x := 1) rfl)
                                      have hm459 : Mem [] M w0 [.sl (Kd.int .i64) none 0 ([] : (List Int)), .sl (Kd.int .i64) (some ⟨b452, 0, none⟩) 1 ([1] : List Int), .sl (Kd.int .i64) (some ⟨b437, 0, none⟩) 2 ([2, 2] : List Int), .sl (Kd.int .i64) (some ⟨b423, 0, none⟩) 1 ([1] : List Int), .sl (Kd.int .i64) (some ⟨b416, 0, none⟩) 1 ([5] : List Int), .sl (Kd.int .i64) (some ⟨b402, 0, none⟩) 1 ([5] : List Int), .sl (Kd.int .i64) (some ⟨b395, 0, none⟩) 1 ([1] : List Int), .sl (Kd.int .i64) (some ⟨b372, 0, none⟩) 3 ([2, 4, 3] : List Int), .sl (Kd.int .i64) A166 c167 r163.1, .sl (Kd.int .i64) A100 c101 r85.1] w453 := hm458.nilSl (Kd.int .i64)
                                      refine listOf hf455 rfl (by kernel_rfl) (aCall (fid := 13) (args := [.slice (some ⟨b452, 0, none⟩) 1 1, .slice none 0 0]) (d := 136) hf455 (by kernel_rfl) (by kernel_rfl) callable13 (shape_Into.calls _ _ ([1] : List Int) (some ⟨b452, 0, none⟩) 1 1 rfl ([] : (List Int)) none 0 0 rfl (hm459.give [1, 0] [.sl (Kd.int .i64) (some ⟨b452, 0, none⟩) 1 ([1] : List Int), .sl (Kd.int .i64) none 0 ([] : (List Int))] rfl rfl) r268 hr268) ?_)
                                      rintro _ w460 a461 ⟨rfl, hk463⟩ hf462
                                      have hm464 : Mem [] M w0 [.sl (Kd.int .i64) (some ⟨b452, 0, none⟩) 1 ([1] : List Int), .sl (Kd.int .i64) (some ⟨b437, 0, none⟩) 2 ([2, 2] : List Int), .sl (Kd.int .i64) (some ⟨b423, 0, none⟩) 1 ([1] : List Int), .sl (Kd.int .i64) (some ⟨b416, 0, none⟩) 1 ([5] : List Int), .sl (Kd.int .i64) (some ⟨b402, 0, none⟩) 1 ([5] : List Int), .sl (Kd.int .i64) (some ⟨b395, 0, none⟩) 1 ([1] : List Int), .sl (Kd.int .i64) (some ⟨b372, 0, none⟩) 3 ([2, 4, 3] : List Int), .sl (Kd.int .i64) A166 c167 r163.1, .sl (Kd.int .i64) A100 c101 r85.1] w460 := hm458.still hk463.cum.none
                                      rw [c269] at hf462
                                      refine go 3 [] [0] [(0, .bool true)] [] hf462 (by kernel_rfl) trivial fun a465 hf466 => ?_
                                      refine endL rfl ?_
                                      have hm467 : Mem [] M w0 [] w460 := hm464.sel [] _ rfl (by kernel_rfl)
                                      refine thenN ?_
                                      refine wp_ret ?_
                                      have hm468 : Mem [] M w0 [] w460 := hm467.sel [] _ rfl (by kernel_rfl)
                                      obtain rfl := Option.some.inj H0
                                      refine ret [] [.bool true] [] hf466 (by kernel_rfl) trivial ?_
                                      exact ⟨_, rfl, rfl, hm468⟩
                                  · refine inReg ?_
                                    refine go 28 [.bool true, .bool true, .bool true, .bool true, .bool true, .bool true, .bool true] [14, 16, 17, 18, 93, 94] [(14, .int .i64 r111.2), (16, .int .i64 r137.2), (17, .slice A166 r163.1.length c167), (18, .int .i64 r163.2), (93, .bool true), (94, .slice A100 r85.1.length c101)] [.is (((r12.1 : Int) == 1) = true), .is (((r12.2 : Int) == 0) = true), .is (((r21.2 : Int) == 0) = true), .is (((r37.2 : Int) == 3) = true), .is (((r53.2 : Int) == 2) = true), .is (((r69.2 : Int) == 2) = true), .is (((r85.2 : Int) == 0) = true)] hf175 (by kernel_rfl) ⟨(eqT c177), (eqT c178), (eqT c179), (eqT c180), (eqT c181), (eqT c182), (eqT c183), trivial⟩ fun a470 hf471 => ?_
                                    refine listOf hf471 rfl (by kernel_rfl) (aLit (cs := [.int .i64 2, .int .i64 4, .int .i64 3]) (E := 3) (len := 3) (d := 95) hf471 (by kernel_rfl) (by kernel_rfl) ?_)
                                    intro b472 w473 a474 hbb472 hx476 hg477 hf475
                                    have hm176s := hm176.still hg477
                                    have hm478 : Mem [] M w0 [.sl (Kd.int .i64) (some ⟨b472, 0, none⟩) 3 ([2, 4, 3] : List Int), .sl (Kd.int .i64) A166 c167 r163.1, .sl (Kd.int .i64) A100 c101 r85.1] w473 := Mem.lit (kd := (Kd.int .i64)) (xs := ([2, 4, 3] : List Int)) hm176 hbb472 hx476 hg477 (Els.append (Els.one (kd := (Kd.int .i64)) (us := [.int .i64 2]) (x := 2) rfl) (Els.append (Els.one (kd := (Kd.int .i64)) (us := [.int .i64 4]) (x := 4) rfl) (Els.one (kd := (Kd.int .i64)) (us := [.int .i64 3]) (x := 3) rfl)))
                                    refine listOf hf475 rfl (by kernel_rfl) (aCall (fid := 16) (args := [.slice A100 r85.1.length c101, .slice (some ⟨b472, 0, none⟩) 3 3]) (d := 96) hf475 (by kernel_rfl) (by kernel_rfl) callable16 (shape_Same.calls _ _ r85.1 A100 r85.1.length c101 rfl ([2, 4, 3] : List Int) (some ⟨b472, 0, none⟩) 3 3 rfl (hm478.give [2, 0] [.sl (Kd.int .i64) A100 c101 r85.1, .sl (Kd.int .i64) (some ⟨b472, 0, none⟩) 3 ([2, 4, 3] : List Int)] rfl rfl) r184 hr184) ?_)
                                    rintro _ w479 a480 ⟨rfl, hk482⟩ hf481
                                    have hm483 : Mem [] M w0 [.sl (Kd.int .i64) (some ⟨b472, 0, none⟩) 3 ([2, 4, 3] : List Int), .sl (Kd.int .i64) A166 c167 r163.1, .sl (Kd.int .i64) A100 c101 r85.1] w479 := hm478.still hk482.cum.none
                                    rw [c185] at hf481
                                    refine go 19 [.bool true, .bool true, .bool true, .bool true] [115] [(115, .bool true)] [.is (((r111.2 : Int) == 2) = true), .is (((r137.2 : Int) == 3) = true), .is (((r163.2 : Int) == 0) = true), .is ((((r163.1.length : Int) : Int) == 0) = true)] hf481 (by kernel_rfl) ⟨(eqT c186), (eqT c187), (eqT c188), (eqT c189), trivial⟩ fun a484 hf485 => ?_
                                    have hm486 : Mem [] M w0 [.sl (Kd.int .i64) none 0 ([] : (List Int)), .sl (Kd.int .i64) (some ⟨b472, 0, none⟩) 3 ([2, 4, 3] : List Int), .sl (Kd.int .i64) A166 c167 r163.1, .sl (Kd.int .i64) A100 c101 r85.1] w479 := hm483.nilSl (Kd.int .i64)
                                    have hm487 : Mem [] M w0 [.sl (Kd.int .i64) none 0 ([] : (List Int)), .sl (Kd.int .i64) none 0 ([] : (List Int)), .sl (Kd.int .i64) (some ⟨b472, 0, none⟩) 3 ([2, 4, 3] : List Int), .sl (Kd.int .i64) A166 c167 r163.1, .sl (Kd.int .i64) A100 c101 r85.1] w479 := hm486.nilSl (Kd.int .i64)
                                    refine listOf hf485 rfl (by kernel_rfl) (aCall (fid := 17) (args := [.slice none 0 0, .slice none 0 0]) (d := 116) hf485 (by kernel_rfl) (by kernel_rfl) callable17 (shape_Index.calls _ _ ([] : (List Int)) none 0 0 rfl ([] : (List Int)) none 0 0 rfl (hm487.give [1, 0] [.sl (Kd.int .i64) none 0 ([] : (List Int)), .sl (Kd.int .i64) none 0 ([] : (List Int))] rfl rfl) r190 hr190) ?_)
                                    rintro _ w488 a489 ⟨rfl, hk491⟩ hf490
                                    have hm492 : Mem [] M w0 [.sl (Kd.int .i64) (some ⟨b472, 0, none⟩) 3 ([2, 4, 3] : List Int), .sl (Kd.int .i64) A166 c167 r163.1, .sl (Kd.int .i64) A100 c101 r85.1] w488 := hm483.still hk491.cum.none
                                    refine go 3 [.bool true] [119] [(119, .bool true)] [.is (((r190 : Int) == 0) = true)] hf490 (by kernel_rfl) ⟨(eqT c191), trivial⟩ fun a493 hf494 => ?_
                                    refine listOf hf494 rfl (by kernel_rfl) (aLit (cs := [.int .i64 1]) (E := 3) (len := 1) (d := 120) hf494 (by kernel_rfl) (by kernel_rfl) ?_)
                                    intro b495 w496 a497 hbb495 hx499 hg500 hf498
                                    have hm492s := hm492.still hg500
                                    have hm501 : Mem [] M w0 [.sl (Kd.int .i64) (some ⟨b495, 0, none⟩) 1 ([1] : List Int), .sl (Kd.int .i64) (some ⟨b472, 0, none⟩) 3 ([2, 4, 3] : List Int), .sl (Kd.int .i64) A166 c167 r163.1, .sl (Kd.int .i64) A100 c101 r85.1] w496 := Mem.lit (kd := (Kd.int .i64)) (xs := ([1] : List Int)) hm492 hbb495 hx499 hg500 (Els.one (kd := (Kd.int .i64)) (us := [.int .i64 1]) (x := 1) rfl)
                                    refine listOf hf498 rfl (by kernel_rfl) (aLit (cs := [.int .i64 5]) (E := 3) (len := 1) (d := 121) hf498 (by kernel_rfl) (by kernel_rfl) ?_)
                                    intro b502 w503 a504 hbb502 hx506 hg507 hf505
                                    have hm501s := hm501.still hg507
                                    have hm508 : Mem [] M w0 [.sl (Kd.int .i64) (some ⟨b502, 0, none⟩) 1 ([5] : List Int), .sl (Kd.int .i64) (some ⟨b495, 0, none⟩) 1 ([1] : List Int), .sl (Kd.int .i64) (some ⟨b472, 0, none⟩) 3 ([2, 4, 3] : List Int), .sl (Kd.int .i64) A166 c167 r163.1, .sl (Kd.int .i64) A100 c101 r85.1] w503 := Mem.lit (kd := (Kd.int .i64)) (xs := ([5] : List Int)) hm501 hbb502 hx506 hg507 (Els.one (kd := (Kd.int .i64)) (us := [.int .i64 5]) (x := 5) rfl)
                                    refine listOf hf505 rfl (by kernel_rfl) (aCall (fid := 13) (args := [.slice (some ⟨b495, 0, none⟩) 1 1, .slice (some ⟨b502, 0, none⟩) 1 1]) (d := 122) hf505 (by kernel_rfl) (by kernel_rfl) callable13 (shape_Into.calls _ _ ([1] : List Int) (some ⟨b495, 0, none⟩) 1 1 rfl ([5] : List Int) (some ⟨b502, 0, none⟩) 1 1 rfl (hm508.give [1, 0] [.sl (Kd.int .i64) (some ⟨b495, 0, none⟩) 1 ([1] : List Int), .sl (Kd.int .i64) (some ⟨b502, 0, none⟩) 1 ([5] : List Int)] rfl rfl) r192 hr192) ?_)
                                    rintro _ w509 a510 ⟨rfl, hk512⟩ hf511
                                    have hm513 : Mem [] M w0 [.sl (Kd.int .i64) (some ⟨b502, 0, none⟩) 1 ([5] : List Int), .sl (Kd.int .i64) (some ⟨b495, 0, none⟩) 1 ([1] : List Int), .sl (Kd.int .i64) (some ⟨b472, 0, none⟩) 3 ([2, 4, 3] : List Int), .sl (Kd.int .i64) A166 c167 r163.1, .sl (Kd.int .i64) A100 c101 r85.1] w509 := hm508.still hk512.cum.none
                                    rw [c193] at hf511
                                    refine go 2 [] [124] [(124, .bool true)] [] hf511 (by kernel_rfl) trivial fun a514 hf515 => ?_
                                    refine listOf hf515 rfl (by kernel_rfl) (aLit (cs := [.int .i64 5]) (E := 3) (len := 1) (d := 125) hf515 (by kernel_rfl) (by kernel_rfl) ?_)
                                    intro b516 w517 a518 hbb516 hx520 hg521 hf519
                                    have hm513s := hm513.still hg521
                                    have hm522 : Mem [] M w0 [.sl (Kd.int .i64) (some ⟨b516, 0, none⟩) 1 ([5] : List Int), .sl (Kd.int .i64) (some ⟨b502, 0, none⟩) 1 ([5] : List Int), .sl (Kd.int .i64) (some ⟨b495, 0, none⟩) 1 ([1] : List Int), .sl (Kd.int .i64) (some ⟨b472, 0, none⟩) 3 ([2, 4, 3] : List Int), .sl (Kd.int .i64) A166 c167 r163.1, .sl (Kd.int .i64) A100 c101 r85.1] w517 := Mem.lit (kd := (Kd.int .i64)) (xs := ([5] : List Int)) hm513 hbb516 hx520 hg521 (Els.one (kd := (Kd.int .i64)) (us := [.int .i64 5]) (x := 5) rfl)
                                    refine listOf hf519 rfl (by kernel_rfl) (aLit (cs := [.int .i64 1]) (E := 3) (len := 1) (d := 126) hf519 (by kernel_rfl) (by kernel_rfl) ?_)
                                    intro b523 w524 a525 hbb523 hx527 hg528 hf526
                                    have hm522s := hm522.still hg528
                                    have hm529 : Mem [] M w0 [.sl (Kd.int .i64) (some ⟨b523, 0, none⟩) 1 ([1] : List Int), .sl (Kd.int .i64) (some ⟨b516, 0, none⟩) 1 ([5] : List Int), .sl (Kd.int .i64) (some ⟨b502, 0, none⟩) 1 ([5] : List Int), .sl (Kd.int .i64) (some ⟨b495, 0, none⟩) 1 ([1] : List Int), .sl (Kd.int .i64) (some ⟨b472, 0, none⟩) 3 ([2, 4, 3] : List Int), .sl (Kd.int .i64) A166 c167 r163.1, .sl (Kd.int .i64) A100 c101 r85.1] w524 := Mem.lit (kd := (Kd.int .i64)) (xs := ([1] : List Int)) hm522 hbb523 hx527 hg528 (Els.one (kd := (Kd.int .i64)) (us := [.int .i64 1]) (x := 1) rfl)
                                    refine listOf hf526 rfl (by kernel_rfl) (aCall (fid := 13) (args := [.slice (some ⟨b516, 0, none⟩) 1 1, .slice (some ⟨b523, 0, none⟩) 1 1]) (d := 127) hf526 (by kernel_rfl) (by kernel_rfl) callable13 (shape_Into.calls _ _ ([5] : List Int) (some ⟨b516, 0, none⟩) 1 1 rfl ([1] : List Int) (some ⟨b523, 0, none⟩) 1 1 rfl (hm529.give [1, 0] [.sl (Kd.int .i64) (some ⟨b516, 0, none⟩) 1 ([5] : List Int), .sl (Kd.int .i64) (some ⟨b523, 0, none⟩) 1 ([1] : List Int)] rfl rfl) r194 hr194) ?_)
                                    rintro _ w530 a531 ⟨rfl, hk533⟩ hf532
                                    have hm534 : Mem [] M w0 [.sl (Kd.int .i64) (some ⟨b523, 0, none⟩) 1 ([1] : List Int), .sl (Kd.int .i64) (some ⟨b516, 0, none⟩) 1 ([5] : List Int), .sl (Kd.int .i64) (some ⟨b502, 0, none⟩) 1 ([5] : List Int), .sl (Kd.int .i64) (some ⟨b495, 0, none⟩) 1 ([1] : List Int), .sl (Kd.int .i64) (some ⟨b472, 0, none⟩) 3 ([2, 4, 3] : List Int), .sl (Kd.int .i64) A166 c167 r163.1, .sl (Kd.int .i64) A100 c101 r85.1] w530 := hm529.still hk533.cum.none
                                    rw [c195] at hf532
                                    refine go 3 [] [130] [(130, .bool true)] [] hf532 (by kernel_rfl) trivial fun a535 hf536 => ?_
                                    refine listOf hf536 rfl (by kernel_rfl) (aLit (cs := [.int .i64 2, .int .i64 2]) (E := 3) (len := 2) (d := 131) hf536 (by kernel_rfl) (by kernel_rfl) ?_)
                                    intro b537 w538 a539 hbb537 hx541 hg542 hf540
                                    have hm534s := hm534.still hg542
                                    have hm543 : Mem [] M w0 [.sl (Kd.int .i64) (some ⟨b537, 0, none⟩) 2 ([2, 2] : List Int), .sl (Kd.int .i64) (some ⟨b523, 0, none⟩) 1 ([1] : List Int), .sl (Kd.int .i64) (some ⟨b516, 0, none⟩) 1 ([5] : List Int), .sl (Kd.int .i64) (some ⟨b502, 0, none⟩) 1 ([5] : List Int), .sl (Kd.int .i64) (some ⟨b495, 0, none⟩) 1 ([1] : List Int), .sl (Kd.int .i64) (some ⟨b472, 0, none⟩) 3 ([2, 4, 3] : List Int), .sl (Kd.int .i64) A166 c167 r163.1, .sl (Kd.int .i64) A100 c101 r85.1] w538 := Mem.lit (kd := (Kd.int .i64)) (xs := ([2, 2] : List Int)) hm534 hbb537 hx541 hg542 (Els.append (Els.one (kd := (Kd.int .i64)) (us := [.int .i64 2]) (x := 2) rfl) (Els.one (kd := (Kd.int .i64)) (us := [.int .i64 2]) (x := 2) rfl))
                                    have hm544 : Mem [] M w0 [.sl (Kd.int .i64) none 0 ([] : (List Int)), .sl (Kd.int .i64) (some ⟨b537, 0, none⟩) 2 ([2, 2] : List Int), .sl (Kd.int .i64) (some ⟨b523, 0, none⟩) 1 ([1] : List Int), .sl (Kd.int .i64) (some ⟨b516, 0, none⟩) 1 ([5] : List Int), .sl (Kd.int .i64) (some ⟨b502, 0, none⟩) 1 ([5] : List Int), .sl (Kd.int .i64) (some ⟨b495, 0, none⟩) 1 ([1] : List Int), .sl (Kd.int .i64) (some ⟨b472, 0, none⟩) 3 ([2, 4, 3] : List Int), .sl (Kd.int .i64) A166 c167 r163.1, .sl (Kd.int .i64) A100 c101 r85.1] w538 := hm543.nilSl (Kd.int .i64)
                                    refine listOf hf540 rfl (by kernel_rfl) (aCall (fid := 13) (args := [.slice none 0 0, .slice (some ⟨b537, 0, none⟩) 2 2]) (d := 132) hf540 (by kernel_rfl) (by kernel_rfl) callable13 (shape_Into.calls _ _ ([] : (List Int)) none 0 0 rfl ([2, 2] : List Int) (some ⟨b537, 0, none⟩) 2 2 rfl (hm544.give [0, 1] [.sl (Kd.int .i64) none 0 ([] : (List Int)), .sl (Kd.int .i64) (some ⟨b537, 0, none⟩) 2 ([2, 2] : List Int)] rfl rfl) r266 hr266) ?_)
                                    rintro _ w545 a546 ⟨rfl, hk548⟩ hf547
                                    have hm549 : Mem [] M w0 [.sl (Kd.int .i64) (some ⟨b537, 0, none⟩) 2 ([2, 2] : List Int), .sl (Kd.int .i64) (some ⟨b523, 0, none⟩) 1 ([1] : List Int), .sl (Kd.int .i64) (some ⟨b516, 0, none⟩) 1 ([5] : List Int), .sl (Kd.int .i64) (some ⟨b502, 0, none⟩) 1 ([5] : List Int), .sl (Kd.int .i64) (some ⟨b495, 0, none⟩) 1 ([1] : List Int), .sl (Kd.int .i64) (some ⟨b472, 0, none⟩) 3 ([2, 4, 3] : List Int), .sl (Kd.int .i64) A166 c167 r163.1, .sl (Kd.int .i64) A100 c101 r85.1] w545 := hm543.still hk548.cum.none
                                    rw [c267] at hf547
                                    refine go 7 [] [0] [(0, .bool false)] [] hf547 (by kernel_rfl) trivial fun a550 hf551 => ?_
                                    refine endL rfl ?_
                                    have hm552 : Mem [] M w0 [] w545 := hm549.sel [] _ rfl (by kernel_rfl)
                                    refine thenN ?_
                                    refine wp_ret ?_
                                    have hm553 : Mem [] M w0 [] w545 := hm552.sel [] _ rfl (by kernel_rfl)
                                    obtain rfl := Option.some.inj H0
                                    refine ret [] [.bool false] [] hf551 (by kernel_rfl) trivial ?_
                                    exact ⟨_, rfl, rfl, hm553⟩
                              · refine inReg ?_
                                refine go 28 [.bool true, .bool true, .bool true, .bool true, .bool true, .bool true, .bool true] [14, 16, 17, 18, 93, 94] [(14, .int .i64 r111.2), (16, .int .i64 r137.2), (17, .slice A166 r163.1.length c167), (18, .int .i64 r163.2), (93, .bool true), (94, .slice A100 r85.1.length c101)] [.is (((r12.1 : Int) == 1) = true), .is (((r12.2 : Int) == 0) = true), .is (((r21.2 : Int) == 0) = true), .is (((r37.2 : Int) == 3) = true), .is (((r53.2 : Int) == 2) = true), .is (((r69.2 : Int) == 2) = true), .is (((r85.2 : Int) == 0) = true)] hf175 (by kernel_rfl) ⟨(eqT c177), (eqT c178), (eqT c179), (eqT c180), (eqT c181), (eqT c182), (eqT c183), trivial⟩ fun a555 hf556 => ?_
                                refine listOf hf556 rfl (by kernel_rfl) (aLit (cs := [.int .i64 2, .int .i64 4, .int .i64 3]) (E := 3) (len := 3) (d := 95) hf556 (by kernel_rfl) (by kernel_rfl) ?_)
                                intro b557 w558 a559 hbb557 hx561 hg562 hf560
                                have hm176s := hm176.still hg562
                                have hm563 : Mem [] M w0 [.sl (Kd.int .i64) (some ⟨b557, 0, none⟩) 3 ([2, 4, 3] : List Int), .sl (Kd.int .i64) A166 c167 r163.1, .sl (Kd.int .i64) A100 c101 r85.1] w558 := Mem.lit (kd := (Kd.int .i64)) (xs := ([2, 4, 3] : List Int)) hm176 hbb557 hx561 hg562 (Els.append (Els.one (kd := (Kd.int .i64)) (us := [.int .i64 2]) (x := 2) rfl) (Els.append (Els.one (kd := (Kd.int .i64)) (us := [.int .i64 4]) (x := 4) rfl) (Els.one (kd := (Kd.int .i64)) (us := [.int .i64 3]) (x := 3) rfl)))
                                refine listOf hf560 rfl (by kernel_rfl) (aCall (fid := 16) (args := [.slice A100 r85.1.length c101, .slice (some ⟨b557, 0, none⟩) 3 3]) (d := 96) hf560 (by kernel_rfl) (by kernel_rfl) callable16 (shape_Same.calls _ _ r85.1 A100 r85.1.length c101 rfl ([2, 4, 3] : List Int) (some ⟨b557, 0, none⟩) 3 3 rfl (hm563.give [2, 0] [.sl (Kd.int .i64) A100 c101 r85.1, .sl (Kd.int .i64) (some ⟨b557, 0, none⟩) 3 ([2, 4, 3] : List Int)] rfl rfl) r184 hr184) ?_)
                                rintro _ w564 a565 ⟨rfl, hk567⟩ hf566
                                have hm568 : Mem [] M w0 [.sl (Kd.int .i64) (some ⟨b557, 0, none⟩) 3 ([2, 4, 3] : List Int), .sl (Kd.int .i64) A166 c167 r163.1, .sl (Kd.int .i64) A100 c101 r85.1] w564 := hm563.still hk567.cum.none
                                rw [c185] at hf566
                                refine go 19 [.bool true, .bool true, .bool true, .bool true] [115] [(115, .bool true)] [.is (((r111.2 : Int) == 2) = true), .is (((r137.2 : Int) == 3) = true), .is (((r163.2 : Int) == 0) = true), .is ((((r163.1.length : Int) : Int) == 0) = true)] hf566 (by kernel_rfl) ⟨(eqT c186), (eqT c187), (eqT c188), (eqT c189), trivial⟩ fun a569 hf570 => ?_
                                have hm571 : Mem [] M w0 [.sl (Kd.int .i64) none 0 ([] : (List Int)), .sl (Kd.int .i64) (some ⟨b557, 0, none⟩) 3 ([2, 4, 3] : List Int), .sl (Kd.int .i64) A166 c167 r163.1, .sl (Kd.int .i64) A100 c101 r85.1] w564 := hm568.nilSl (Kd.int .i64)
                                have hm572 : Mem [] M w0 [.sl (Kd.int .i64) none 0 ([] : (List Int)), .sl (Kd.int .i64) none 0 ([] : (List Int)), .sl (Kd.int .i64) (some ⟨b557, 0, none⟩) 3 ([2, 4, 3] : List Int), .sl (Kd.int .i64) A166 c167 r163.1, .sl (Kd.int .i64) A100 c101 r85.1] w564 := hm571.nilSl (Kd.int .i64)
                                refine listOf hf570 rfl (by kernel_rfl) (aCall (fid := 17) (args := [.slice none 0 0, .slice none 0 0]) (d := 116) hf570 (by kernel_rfl) (by kernel_rfl) callable17 (shape_Index.calls _ _ ([] : (List Int)) none 0 0 rfl ([] : (List Int)) none 0 0 rfl (hm572.give [1, 0] [.sl (Kd.int .i64) none 0 ([] : (List Int)), .sl (Kd.int .i64) none 0 ([] : (List Int))] rfl rfl) r190 hr190) ?_)
                                rintro _ w573 a574 ⟨rfl, hk576⟩ hf575
                                have hm577 : Mem [] M w0 [.sl (Kd.int .i64) (some ⟨b557, 0, none⟩) 3 ([2, 4, 3] : List Int), .sl (Kd.int .i64) A166 c167 r163.1, .sl (Kd.int .i64) A100 c101 r85.1] w573 := hm568.still hk576.cum.none
                                refine go 3 [.bool true] [119] [(119, .bool true)] [.is (((r190 : Int) == 0) = true)] hf575 (by kernel_rfl) ⟨(eqT c191), trivial⟩ fun a578 hf579 => ?_
                                refine listOf hf579 rfl (by kernel_rfl) (aLit (cs := [.int .i64 1]) (E := 3) (len := 1) (d := 120) hf579 (by kernel_rfl) (by kernel_rfl) ?_)
                                intro b580 w581 a582 hbb580 hx584 hg585 hf583
                                have hm577s := hm577.still hg585
                                have hm586 : Mem [] M w0 [.sl (Kd.int .i64) (some ⟨b580, 0, none⟩) 1 ([1] : List Int), .sl (Kd.int .i64) (some ⟨b557, 0, none⟩) 3 ([2, 4, 3] : List Int), .sl (Kd.int .i64) A166 c167 r163.1, .sl (Kd.int .i64) A100 c101 r85.1] w581 := Mem.lit (kd := (Kd.int .i64)) (xs := ([1] : List Int)) hm577 hbb580 hx584 hg585 (Els.one (kd := (Kd.int .i64)) (us := [.int .i64 1]) (x := 1) rfl)
                                refine listOf hf583 rfl (by kernel_rfl) (aLit (cs := [.int .i64 5]) (E := 3) (len := 1) (d := 121) hf583 (by kernel_rfl) (by kernel_rfl) ?_)
                                intro b587 w588 a589 hbb587 hx591 hg592 hf590
                                have hm586s := hm586.still hg592
                                have hm593 : Mem [] M w0 [.sl (Kd.int .i64) (some ⟨b587, 0, none⟩) 1 ([5] : List Int), .sl (Kd.int .i64) (some ⟨b580, 0, none⟩) 1 ([1] : List Int), .sl (Kd.int .i64) (some ⟨b557, 0, none⟩) 3 ([2, 4, 3] : List Int), .sl (Kd.int .i64) A166 c167 r163.1, .sl (Kd.int .i64) A100 c101 r85.1] w588 := Mem.lit (kd := (Kd.int .i64)) (xs := ([5] : List Int)) hm586 hbb587 hx591 hg592 (Els.one (kd := (Kd.int .i64)) (us := [.int .i64 5]) (x := 5) rfl)
                                refine listOf hf590 rfl (by kernel_rfl) (aCall (fid := 13) (args := [.slice (some ⟨b580, 0, none⟩) 1 1, .slice (some ⟨b587, 0, none⟩) 1 1]) (d := 122) hf590 (by kernel_rfl) (by kernel_rfl) callable13 (shape_Into.calls _ _ ([1] : List Int) (some ⟨b580, 0, none⟩) 1 1 rfl ([5] : List Int) (some ⟨b587, 0, none⟩) 1 1 rfl (hm593.give [1, 0] [.sl (Kd.int .i64) (some ⟨b580, 0, none⟩) 1 ([1] : List Int), .sl (Kd.int .i64) (some ⟨b587, 0, none⟩) 1 ([5] : List Int)] rfl rfl) r192 hr192) ?_)
                                rintro _ w594 a595 ⟨rfl, hk597⟩ hf596
                                have hm598 : Mem [] M w0 [.sl (Kd.int .i64) (some ⟨b587, 0, none⟩) 1 ([5] : List Int), .sl (Kd.int .i64) (some ⟨b580, 0, none⟩) 1 ([1] : List Int), .sl (Kd.int .i64) (some ⟨b557, 0, none⟩) 3 ([2, 4, 3] : List Int), .sl (Kd.int .i64) A166 c167 r163.1, .sl (Kd.int .i64) A100 c101 r85.1] w594 := hm593.still hk597.cum.none
                                rw [c193] at hf596
                                refine go 17 [] [0] [(0, .bool false)] [] hf596 (by kernel_rfl) trivial fun a599 hf600 => ?_
                                refine endL rfl ?_
                                have hm601 : Mem [] M w0 [] w594 := hm598.sel [] _ rfl (by kernel_rfl)
                                refine thenN ?_
                                refine wp_ret ?_
                                have hm602 : Mem [] M w0 [] w594 := hm601.sel [] _ rfl (by kernel_rfl)
                                obtain rfl := Option.some.inj H0
                                refine ret [] [.bool false] [] hf600 (by kernel_rfl) trivial ?_
                                exact ⟨_, rfl, rfl, hm602⟩
                            · refine inReg ?_
                              refine go 28 [.bool true, .bool true, .bool true, .bool true, .bool true, .bool true, .bool true] [14, 16, 17, 18, 93, 94] [(14, .int .i64 r111.2), (16, .int .i64 r137.2), (17, .slice A166 r163.1.length c167), (18, .int .i64 r163.2), (93, .bool true), (94, .slice A100 r85.1.length c101)] [.is (((r12.1 : Int) == 1) = true), .is (((r12.2 : Int) == 0) = true), .is (((r21.2 : Int) == 0) = true), .is (((r37.2 : Int) == 3) = true), .is (((r53.2 : Int) == 2) = true), .is (((r69.2 : Int) == 2) = true), .is (((r85.2 : Int) == 0) = true)] hf175 (by kernel_rfl) ⟨(eqT c177), (eqT c178), (eqT c179), (eqT c180), (eqT c181), (eqT c182), (eqT c183), trivial⟩ fun a604 hf605 => ?_
                              refine listOf hf605 rfl (by kernel_rfl) (aLit (cs := [.int .i64 2, .int .i64 4, .int .i64 3]) (E := 3) (len := 3) (d := 95) hf605 (by kernel_rfl) (by kernel_rfl) ?_)
                              intro b606 w607 a608 hbb606 hx610 hg611 hf609
                              have hm176s := hm176.still hg611
                              have hm612 : Mem [] M w0 [.sl (Kd.int .i64) (some ⟨b606, 0, none⟩) 3 ([2, 4, 3] : List Int), .sl (Kd.int .i64) A166 c167 r163.1, .sl (Kd.int .i64) A100 c101 r85.1] w607 := Mem.lit (kd := (Kd.int .i64)) (xs := ([2, 4, 3] : List Int)) hm176 hbb606 hx610 hg611 (Els.append (Els.one (kd := (Kd.int .i64)) (us := [.int .i64 2]) (x := 2) rfl) (Els.append (Els.one (kd := (Kd.int .i64)) (us := [.int .i64 4]) (x := 4) rfl) (Els.one (kd := (Kd.int .i64)) (us := [.int .i64 3]) (x := 3) rfl)))
                              refine listOf hf609 rfl (by kernel_rfl) (aCall (fid := 16) (args := [.slice A100 r85.1.length c101, .slice (some ⟨b606, 0, none⟩) 3 3]) (d := 96) hf609 (by kernel_rfl) (by kernel_rfl) callable16 (shape_Same.calls _ _ r85.1 A100 r85.1.length c101 rfl ([2, 4, 3] : List Int) (some ⟨b606, 0, none⟩) 3 3 rfl (hm612.give [2, 0] [.sl (Kd.int .i64) A100 c101 r85.1, .sl (Kd.int .i64) (some ⟨b606, 0, none⟩) 3 ([2, 4, 3] : List Int)] rfl rfl) r184 hr184) ?_)
                              rintro _ w613 a614 ⟨rfl, hk616⟩ hf615
                              have hm617 : Mem [] M w0 [.sl (Kd.int .i64) (some ⟨b606, 0, none⟩) 3 ([2, 4, 3] : List Int), .sl (Kd.int .i64) A166 c167 r163.1, .sl (Kd.int .i64) A100 c101 r85.1] w613 := hm612.still hk616.cum.none
                              rw [c185] at hf615
                              refine go 19 [.bool true, .bool true, .bool true, .bool true] [115] [(115, .bool true)] [.is (((r111.2 : Int) == 2) = true), .is (((r137.2 : Int) == 3) = true), .is (((r163.2 : Int) == 0) = true), .is ((((r163.1.length : Int) : Int) == 0) = true)] hf615 (by kernel_rfl) ⟨(eqT c186), (eqT c187), (eqT c188), (eqT c189), trivial⟩ fun a618 hf619 => ?_
                              have hm620 : Mem [] M w0 [.sl (Kd.int .i64) none 0 ([] : (List Int)), .sl (Kd.int .i64) (some ⟨b606, 0, none⟩) 3 ([2, 4, 3] : List Int), .sl (Kd.int .i64) A166 c167 r163.1, .sl (Kd.int .i64) A100 c101 r85.1] w613 := hm617.nilSl (Kd.int .i64)
                              have hm621 : Mem [] M w0 [.sl (Kd.int .i64) none 0 ([] : (List Int)), .sl (Kd.int .i64) none 0 ([] : (List Int)), .sl (Kd.int .i64) (some ⟨b606, 0, none⟩) 3 ([2, 4, 3] : List Int), .sl (Kd.int .i64) A166 c167 r163.1, .sl (Kd.int .i64) A100 c101 r85.1] w613 := hm620.nilSl (Kd.int .i64)
                              refine listOf hf619 rfl (by kernel_rfl) (aCall (fid := 17) (args := [.slice none 0 0, .slice none 0 0]) (d := 116) hf619 (by kernel_rfl) (by kernel_rfl) callable17 (shape_Index.calls _ _ ([] : (List Int)) none 0 0 rfl ([] : (List Int)) none 0 0 rfl (hm621.give [1, 0] [.sl (Kd.int .i64) none 0 ([] : (List Int)), .sl (Kd.int .i64) none 0 ([] : (List Int))] rfl rfl) r190 hr190) ?_)
                              rintro _ w622 a623 ⟨rfl, hk625⟩ hf624
                              have hm626 : Mem [] M w0 [.sl (Kd.int .i64) (some ⟨b606, 0, none⟩) 3 ([2, 4, 3] : List Int), .sl (Kd.int .i64) A166 c167 r163.1, .sl (Kd.int .i64) A100 c101 r85.1] w622 := hm617.still hk625.cum.none
                              refine go 23 [.bool false] [0] [(0, .bool false)] [.is (((r190 : Int) == 0) = false)] hf624 (by kernel_rfl) ⟨(eqF c191), trivial⟩ fun a627 hf628 => ?_
                              refine endL rfl ?_
                              have hm629 : Mem [] M w0 [] w622 := hm626.sel [] _ rfl (by kernel_rfl)
                              refine thenN ?_
                              refine wp_ret ?_
                              have hm630 : Mem [] M w0 [] w622 := hm629.sel [] _ rfl (by kernel_rfl)
                              obtain rfl := Option.some.inj H0
                              refine ret [] [.bool false] [] hf628 (by kernel_rfl) trivial ?_
                              exact ⟨_, rfl, rfl, hm630⟩
                          · refine inReg ?_
                            refine go 28 [.bool true, .bool true, .bool true, .bool true, .bool true, .bool true, .bool true] [14, 16, 17, 18, 93, 94] [(14, .int .i64 r111.2), (16, .int .i64 r137.2), (17, .slice A166 r163.1.length c167), (18, .int .i64 r163.2), (93, .bool true), (94, .slice A100 r85.1.length c101)] [.is (((r12.1 : Int) == 1) = true), .is (((r12.2 : Int) == 0) = true), .is (((r21.2 : Int) == 0) = true), .is (((r37.2 : Int) == 3) = true), .is (((r53.2 : Int) == 2) = true), .is (((r69.2 : Int) == 2) = true), .is (((r85.2 : Int) == 0) = true)] hf175 (by kernel_rfl) ⟨(eqT c177), (eqT c178), (eqT c179), (eqT c180), (eqT c181), (eqT c182), (eqT c183), trivial⟩ fun a632 hf633 => ?_
                            refine listOf hf633 rfl (by kernel_rfl) (aLit (cs := [.int .i64 2, .int .i64 4, .int .i64 3]) (E := 3) (len := 3) (d := 95) hf633 (by kernel_rfl) (by kernel_rfl) ?_)
                            intro b634 w635 a636 hbb634 hx638 hg639 hf637
                            have hm176s := hm176.still hg639
                            have hm640 : Mem [] M w0 [.sl (Kd.int .i64) (some ⟨b634, 0, none⟩) 3 ([2, 4, 3] : List Int), .sl (Kd.int .i64) A166 c167 r163.1, .sl (Kd.int .i64) A100 c101 r85.1] w635 := Mem.lit (kd := (Kd.int .i64)) (xs := ([2, 4, 3] : List Int)) hm176 hbb634 hx638 hg639 (Els.append (Els.one (kd := (Kd.int .i64)) (us := [.int .i64 2]) (x := 2) rfl) (Els.append (Els.one (kd := (Kd.int .i64)) (us := [.int .i64 4]) (x := 4) rfl) (Els.one (kd := (Kd.int .i64)) (us := [.int .i64 3]) (x := 3) rfl)))
                            refine listOf hf637 rfl (by kernel_rfl) (aCall (fid := 16) (args := [.slice A100 r85.1.length c101, .slice (some ⟨b634, 0, none⟩) 3 3]) (d := 96) hf637 (by kernel_rfl) (by kernel_rfl) callable16 (shape_Same.calls _ _ r85.1 A100 r85.1.length c101 rfl ([2, 4, 3] : List Int) (some ⟨b634, 0, none⟩) 3 3 rfl (hm640.give [2, 0] [.sl (Kd.int .i64) A100 c101 r85.1, .sl (Kd.int .i64) (some ⟨b634, 0, none⟩) 3 ([2, 4, 3] : List Int)] rfl rfl) r184 hr184) ?_)
                            rintro _ w641 a642 ⟨rfl, hk644⟩ hf643
                            have hm645 : Mem [] M w0 [.sl (Kd.int .i64) (some ⟨b634, 0, none⟩) 3 ([2, 4, 3] : List Int), .sl (Kd.int .i64) A166 c167 r163.1, .sl (Kd.int .i64) A100 c101 r85.1] w641 := hm640.still hk644.cum.none
                            rw [c185] at hf643
                            refine go 43 [.bool true, .bool true, .bool true, .bool false] [0] [(0, .bool false)] [.is (((r111.2 : Int) == 2) = true), .is (((r137.2 : Int) == 3) = true), .is (((r163.2 : Int) == 0) = true), .is ((((r163.1.length : Int) : Int) == 0) = false)] hf643 (by kernel_rfl) ⟨(eqT c186), (eqT c187), (eqT c188), (eqF c189), trivial⟩ fun a646 hf647 => ?_
                            refine endL rfl ?_
                            have hm648 : Mem [] M w0 [] w641 := hm645.sel [] _ rfl (by kernel_rfl)
                            refine thenN ?_
                            refine wp_ret ?_
                            have hm649 : Mem [] M w0 [] w641 := hm648.sel [] _ rfl (by kernel_rfl)
                            obtain rfl := Option.some.inj H0
                            refine ret [] [.bool false] [] hf647 (by kernel_rfl) trivial ?_
                            exact ⟨_, rfl, rfl, hm649⟩
                        · refine inReg ?_
                          refine go 28 [.bool true, .bool true, .bool true, .bool true, .bool true, .bool true, .bool true] [14, 16, 17, 18, 93, 94] [(14, .int .i64 r111.2), (16, .int .i64 r137.2), (17, .slice A166 r163.1.length c167), (18, .int .i64 r163.2), (93, .bool true), (94, .slice A100 r85.1.length c101)] [.is (((r12.1 : Int) == 1) = true), .is (((r12.2 : Int) == 0) = true), .is (((r21.2 : Int) == 0) = true), .is (((r37.2 : Int) == 3) = true), .is (((r53.2 : Int) == 2) = true), .is (((r69.2 : Int) == 2) = true), .is (((r85.2 : Int) == 0) = true)] hf175 (by kernel_rfl) ⟨(eqT c177), (eqT c178), (eqT c179), (eqT c180), (eqT c181), (eqT c182), (eqT c183), trivial⟩ fun a651 hf652 => ?_
                          refine listOf hf652 rfl (by kernel_rfl) (aLit (cs := [.int .i64 2, .int .i64 4, .int .i64 3]) (E := 3) (len := 3) (d := 95) hf652 (by kernel_rfl) (by kernel_rfl) ?_)
                          intro b653 w654 a655 hbb653 hx657 hg658 hf656
                          have hm176s := hm176.still hg658
                          have hm659 : Mem [] M w0 [.sl (Kd.int .i64) (some ⟨b653, 0, none⟩) 3 ([2, 4, 3] : List Int), .sl (Kd.int .i64) A166 c167 r163.1, .sl (Kd.int .i64) A100 c101 r85.1] w654 := Mem.lit (kd := (Kd.int .i64)) (xs := ([2, 4, 3] : List Int)) hm176 hbb653 hx657 hg658 (Els.append (Els.one (kd := (Kd.int .i64)) (us := [.int .i64 2]) (x := 2) rfl) (Els.append (Els.one (kd := (Kd.int .i64)) (us := [.int .i64 4]) (x := 4) rfl) (Els.one (kd := (Kd.int .i64)) (us := [.int .i64 3]) (x := 3) rfl)))
                          refine listOf hf656 rfl (by kernel_rfl) (aCall (fid := 16) (args := [.slice A100 r85.1.length c101, .slice (some ⟨b653, 0, none⟩) 3 3]) (d := 96) hf656 (by kernel_rfl) (by kernel_rfl) callable16 (shape_Same.calls _ _ r85.1 A100 r85.1.length c101 rfl ([2, 4, 3] : List Int) (some ⟨b653, 0, none⟩) 3 3 rfl (hm659.give [2, 0] [.sl (Kd.int .i64) A100 c101 r85.1, .sl (Kd.int .i64) (some ⟨b653, 0, none⟩) 3 ([2, 4, 3] : List Int)] rfl rfl) r184 hr184) ?_)
                          rintro _ w660 a661 ⟨rfl, hk663⟩ hf662
                          have hm664 : Mem [] M w0 [.sl (Kd.int .i64) (some ⟨b653, 0, none⟩) 3 ([2, 4, 3] : List Int), .sl (Kd.int .i64) A166 c167 r163.1, .sl (Kd.int .i64) A100 c101 r85.1] w660 := hm659.still hk663.cum.none
                          rw [c185] at hf662
                          refine go 43 [.bool true, .bool true, .bool false] [0] [(0, .bool false)] [.is (((r111.2 : Int) == 2) = true), .is (((r137.2 : Int) == 3) = true), .is (((r163.2 : Int) == 0) = false)] hf662 (by kernel_rfl) ⟨(eqT c186), (eqT c187), (eqF c188), trivial⟩ fun a665 hf666 => ?_
                          refine endL rfl ?_
                          have hm667 : Mem [] M w0 [] w660 := hm664.sel [] _ rfl (by kernel_rfl)
                          refine thenN ?_
                          refine wp_ret ?_
                          have hm668 : Mem [] M w0 [] w660 := hm667.sel [] _ rfl (by kernel_rfl)
                          obtain rfl := Option.some.inj H0
                          refine ret [] [.bool false] [] hf666 (by kernel_rfl) trivial ?_
                          exact ⟨_, rfl, rfl, hm668⟩
                      · refine inReg ?_
                        refine go 28 [.bool true, .bool true, .bool true, .bool true, .bool true, .bool true, .bool true] [14, 16, 17, 18, 93, 94] [(14, .int .i64 r111.2), (16, .int .i64 r137.2), (17, .slice A166 r163.1.length c167), (18, .int .i64 r163.2), (93, .bool true), (94, .slice A100 r85.1.length c101)] [.is (((r12.1 : Int) == 1) = true), .is (((r12.2 : Int) == 0) = true), .is (((r21.2 : Int) == 0) = true), .is (((r37.2 : Int) == 3) = true), .is (((r53.2 : Int) == 2) = true), .is (((r69.2 : Int) == 2) = true), .is (((r85.2 : Int) == 0) = true)] hf175 (by kernel_rfl) ⟨(eqT c177), (eqT c178), (eqT c179), (eqT c180), (eqT c181), (eqT c182), (eqT c183), trivial⟩ fun a670 hf671 => ?_
                        refine listOf hf671 rfl (by kernel_rfl) (aLit (cs := [.int .i64 2, .int .i64 4, .int .i64 3]) (E := 3) (len := 3) (d := 95) hf671 (by kernel_rfl) (by kernel_rfl) ?_)
                        intro b672 w673 a674 hbb672 hx676 hg677 hf675
                        have hm176s := hm176.still hg677
                        have hm678 : Mem [] M w0 [.sl (Kd.int .i64) (some ⟨b672, 0, none⟩) 3 ([2, 4, 3] : List Int), .sl (Kd.int .i64) A166 c167 r163.1, .sl (Kd.int .i64) A100 c101 r85.1] w673 := Mem.lit (kd := (Kd.int .i64)) (xs := ([2, 4, 3] : List Int)) hm176 hbb672 hx676 hg677 (Els.append (Els.one (kd := (Kd.int .i64)) (us := [.int .i64 2]) (x := 2) rfl) (Els.append (Els.one (kd := (Kd.int .i64)) (us := [.int .i64 4]) (x := 4) rfl) (Els.one (kd := (Kd.int .i64)) (us := [.int .i64 3]) (x := 3) rfl)))
                        refine listOf hf675 rfl (by kernel_rfl) (aCall (fid := 16) (args := [.slice A100 r85.1.length c101, .slice (some ⟨b672, 0, none⟩) 3 3]) (d := 96) hf675 (by kernel_rfl) (by kernel_rfl) callable16 (shape_Same.calls _ _ r85.1 A100 r85.1.length c101 rfl ([2, 4, 3] : List Int) (some ⟨b672, 0, none⟩) 3 3 rfl (hm678.give [2, 0] [.sl (Kd.int .i64) A100 c101 r85.1, .sl (Kd.int .i64) (some ⟨b672, 0, none⟩) 3 ([2, 4, 3] : List Int)] rfl rfl) r184 hr184) ?_)
                        rintro _ w679 a680 ⟨rfl, hk682⟩ hf681
                        have hm683 : Mem [] M w0 [.sl (Kd.int .i64) (some ⟨b672, 0, none⟩) 3 ([2, 4, 3] : List Int), .sl (Kd.int .i64) A166 c167 r163.1, .sl (Kd.int .i64) A100 c101 r85.1] w679 := hm678.still hk682.cum.none
                        rw [c185] at hf681
                        refine go 43 [.bool true, .bool false] [0] [(0, .bool false)] [.is (((r111.2 : Int) == 2) = true), .is (((r137.2 : Int) == 3) = false)] hf681 (by kernel_rfl) ⟨(eqT c186), (eqF c187), trivial⟩ fun a684 hf685 => ?_
                        refine endL rfl ?_
                        have hm686 : Mem [] M w0 [] w679 := hm683.sel [] _ rfl (by kernel_rfl)
                        refine thenN ?_
                        refine wp_ret ?_
                        have hm687 : Mem [] M w0 [] w679 := hm686.sel [] _ rfl (by kernel_rfl)
                        obtain rfl := Option.some.inj H0
                        refine ret [] [.bool false] [] hf685 (by kernel_rfl) trivial ?_
                        exact ⟨_, rfl, rfl, hm687⟩
                    · refine inReg ?_
                      refine go 28 [.bool true, .bool true, .bool true, .bool true, .bool true, .bool true, .bool true] [14, 16, 17, 18, 93, 94] [(14, .int .i64 r111.2), (16, .int .i64 r137.2), (17, .slice A166 r163.1.length c167), (18, .int .i64 r163.2), (93, .bool true), (94, .slice A100 r85.1.length c101)] [.is (((r12.1 : Int) == 1) = true), .is (((r12.2 : Int) == 0) = true), .is (((r21.2 : Int) == 0) = true), .is (((r37.2 : Int) == 3) = true), .is (((r53.2 : Int) == 2) = true), .is (((r69.2 : Int) == 2) = true), .is (((r85.2 : Int) == 0) = true)] hf175 (by kernel_rfl) ⟨(eqT c177), (eqT c178), (eqT c179), (eqT c180), (eqT c181), (eqT c182), (eqT c183), trivial⟩ fun a689 hf690 => ?_
                      refine listOf hf690 rfl (by kernel_rfl) (aLit (cs := [.int .i64 2, .int .i64 4, .int .i64 3]) (E := 3) (len := 3) (d := 95) hf690 (by kernel_rfl) (by kernel_rfl) ?_)
                      intro b691 w692 a693 hbb691 hx695 hg696 hf694
                      have hm176s := hm176.still hg696
                      have hm697 : Mem [] M w0 [.sl (Kd.int .i64) (some ⟨b691, 0, none⟩) 3 ([2, 4, 3] : List Int), .sl (Kd.int .i64) A166 c167 r163.1, .sl (Kd.int .i64) A100 c101 r85.1] w692 := Mem.lit (kd := (Kd.int .i64)) (xs := ([2, 4, 3] : List Int)) hm176 hbb691 hx695 hg696 (Els.append (Els.one (kd := (Kd.int .i64)) (us := [.int .i64 2]) (x := 2) rfl) (Els.append (Els.one (kd := (Kd.int .i64)) (us := [.int .i64 4]) (x := 4) rfl) (Els.one (kd := (Kd.int .i64)) (us := [.int .i64 3]) (x := 3) rfl)))
                      refine listOf hf694 rfl (by kernel_rfl) (aCall (fid := 16) (args := [.slice A100 r85.1.length c101, .slice (some ⟨b691, 0, none⟩) 3 3]) (d := 96) hf694 (by kernel_rfl) (by kernel_rfl) callable16 (shape_Same.calls _ _ r85.1 A100 r85.1.length c101 rfl ([2, 4, 3] : List Int) (some ⟨b691, 0, none⟩) 3 3 rfl (hm697.give [2, 0] [.sl (Kd.int .i64) A100 c101 r85.1, .sl (Kd.int .i64) (some ⟨b691, 0, none⟩) 3 ([2, 4, 3] : List Int)] rfl rfl) r184 hr184) ?_)
                      rintro _ w698 a699 ⟨rfl, hk701⟩ hf700
                      have hm702 : Mem [] M w0 [.sl (Kd.int .i64) (some ⟨b691, 0, none⟩) 3 ([2, 4, 3] : List Int), .sl (Kd.int .i64) A166 c167 r163.1, .sl (Kd.int .i64) A100 c101 r85.1] w698 := hm697.still hk701.cum.none
                      rw [c185] at hf700
                      refine go 43 [.bool false] [0] [(0, .bool false)] [.is (((r111.2 : Int) == 2) = false)] hf700 (by kernel_rfl) ⟨(eqF c186), trivial⟩ fun a703 hf704 => ?_
                      refine endL rfl ?_
                      have hm705 : Mem [] M w0 [] w698 := hm702.sel [] _ rfl (by kernel_rfl)
                      refine thenN ?_
                      refine wp_ret ?_
                      have hm706 : Mem [] M w0 [] w698 := hm705.sel [] _ rfl (by kernel_rfl)
                      obtain rfl := Option.some.inj H0
                      refine ret [] [.bool false] [] hf704 (by kernel_rfl) trivial ?_
                      exact ⟨_, rfl, rfl, hm706⟩
                  · refine inReg ?_
                    refine go 28 [.bool true, .bool true, .bool true, .bool true, .bool true, .bool true, .bool true] [14, 16, 17, 18, 93, 94] [(14, .int .i64 r111.2), (16, .int .i64 r137.2), (17, .slice A166 r163.1.length c167), (18, .int .i64 r163.2), (93, .bool true), (94, .slice A100 r85.1.length c101)] [.is (((r12.1 : Int) == 1) = true), .is (((r12.2 : Int) == 0) = true), .is (((r21.2 : Int) == 0) = true), .is (((r37.2 : Int) == 3) = true), .is (((r53.2 : Int) == 2) = true), .is (((r69.2 : Int) == 2) = true), .is (((r85.2 : Int) == 0) = true)] hf175 (by kernel_rfl) ⟨(eqT c177), (eqT c178), (eqT c179), (eqT c180), (eqT c181), (eqT c182), (eqT c183), trivial⟩ fun a708 hf709 => ?_
                    refine listOf hf709 rfl (by kernel_rfl) (aLit (cs := [.int .i64 2, .int .i64 4, .int .i64 3]) (E := 3) (len := 3) (d := 95) hf709 (by kernel_rfl) (by kernel_rfl) ?_)
                    intro b710 w711 a712 hbb710 hx714 hg715 hf713
                    have hm176s := hm176.still hg715
                    have hm716 : Mem [] M w0 [.sl (Kd.int .i64) (some ⟨b710, 0, none⟩) 3 ([2, 4, 3] : List Int), .sl (Kd.int .i64) A166 c167 r163.1, .sl (Kd.int .i64) A100 c101 r85.1] w711 := Mem.lit (kd := (Kd.int .i64)) (xs := ([2, 4, 3] : List Int)) hm176 hbb710 hx714 hg715 (Els.append (Els.one (kd := (Kd.int .i64)) (us := [.int .i64 2]) (x := 2) rfl) (Els.append (Els.one (kd := (Kd.int .i64)) (us := [.int .i64 4]) (x := 4) rfl) (Els.one (kd := (Kd.int .i64)) (us := [.int .i64 3]) (x := 3) rfl)))
                    refine listOf hf713 rfl (by kernel_rfl) (aCall (fid := 16) (args := [.slice A100 r85.1.length c101, .slice (some ⟨b710, 0, none⟩) 3 3]) (d := 96) hf713 (by kernel_rfl) (by kernel_rfl) callable16 (shape_Same.calls _ _ r85.1 A100 r85.1.length c101 rfl ([2, 4, 3] : List Int) (some ⟨b710, 0, none⟩) 3 3 rfl (hm716.give [2, 0] [.sl (Kd.int .i64) A100 c101 r85.1, .sl (Kd.int .i64) (some ⟨b710, 0, none⟩) 3 ([2, 4, 3] : List Int)] rfl rfl) r184 hr184) ?_)
                    rintro _ w717 a718 ⟨rfl, hk720⟩ hf719
                    have hm721 : Mem [] M w0 [.sl (Kd.int .i64) (some ⟨b710, 0, none⟩) 3 ([2, 4, 3] : List Int), .sl (Kd.int .i64) A166 c167 r163.1, .sl (Kd.int .i64) A100 c101 r85.1] w717 := hm716.still hk720.cum.none
                    rw [c185] at hf719
                    refine go 43 [] [0] [(0, .bool false)] [] hf719 (by kernel_rfl) trivial fun a722 hf723 => ?_
                    refine endL rfl ?_
                    have hm724 : Mem [] M w0 [] w717 := hm721.sel [] _ rfl (by kernel_rfl)
                    refine thenN ?_
                    refine wp_ret ?_
                    have hm725 : Mem [] M w0 [] w717 := hm724.sel [] _ rfl (by kernel_rfl)
                    obtain rfl := Option.some.inj H0
                    refine ret [] [.bool false] [] hf723 (by kernel_rfl) trivial ?_
                    exact ⟨_, rfl, rfl, hm725⟩
                · refine reg [.bool true, .bool true, .bool true, .bool true, .bool true, .bool true, .bool false] [0] [(0, .bool false)] [.is (((r12.1 : Int) == 1) = true), .is (((r12.2 : Int) == 0) = true), .is (((r21.2 : Int) == 0) = true), .is (((r37.2 : Int) == 3) = true), .is (((r53.2 : Int) == 2) = true), .is (((r69.2 : Int) == 2) = true), .is (((r85.2 : Int) == 0) = false)] hf175 (by kernel_rfl) ⟨(eqT c177), (eqT c178), (eqT c179), (eqT c180), (eqT c181), (eqT c182), (eqF c183), trivial⟩ fun a727 hf728 => ?_
                  have hm729 : Mem [] M w0 [] w168 := hm176.sel [] _ rfl (by kernel_rfl)
                  refine thenN ?_
                  refine wp_ret ?_
                  have hm730 : Mem [] M w0 [] w168 := hm729.sel [] _ rfl (by kernel_rfl)
                  obtain rfl := Option.some.inj H0
                  refine ret [] [.bool false] [] hf728 (by kernel_rfl) trivial ?_
                  exact ⟨_, rfl, rfl, hm730⟩
              · refine reg [.bool true, .bool true, .bool true, .bool true, .bool true, .bool false] [0] [(0, .bool false)] [.is (((r12.1 : Int) == 1) = true), .is (((r12.2 : Int) == 0) = true), .is (((r21.2 : Int) == 0) = true), .is (((r37.2 : Int) == 3) = true), .is (((r53.2 : Int) == 2) = true), .is (((r69.2 : Int) == 2) = false)] hf175 (by kernel_rfl) ⟨(eqT c177), (eqT c178), (eqT c179), (eqT c180), (eqT c181), (eqF c182), trivial⟩ fun a732 hf733 => ?_
                have hm734 : Mem [] M w0 [] w168 := hm176.sel [] _ rfl (by kernel_rfl)
                refine thenN ?_
                refine wp_ret ?_
                have hm735 : Mem [] M w0 [] w168 := hm734.sel [] _ rfl (by kernel_rfl)
                obtain rfl := Option.some.inj H0
                refine ret [] [.bool false] [] hf733 (by kernel_rfl) trivial ?_
                exact ⟨_, rfl, rfl, hm735⟩
            · refine reg [.bool true, .bool true, .bool true, .bool true, .bool false] [0] [(0, .bool false)] [.is (((r12.1 : Int) == 1) = true), .is (((r12.2 : Int) == 0) = true), .is (((r21.2 : Int) == 0) = true), .is (((r37.2 : Int) == 3) = true), .is (((r53.2 : Int) == 2) = false)] hf175 (by kernel_rfl) ⟨(eqT c177), (eqT c178), (eqT c179), (eqT c180), (eqF c181), trivial⟩ fun a737 hf738 => ?_
              have hm739 : Mem [] M w0 [] w168 := hm176.sel [] _ rfl (by kernel_rfl)
              refine thenN ?_
              refine wp_ret ?_
              have hm740 : Mem [] M w0 [] w168 := hm739.sel [] _ rfl (by kernel_rfl)
              obtain rfl := Option.some.inj H0
              refine ret [] [.bool false] [] hf738 (by kernel_rfl) trivial ?_
              exact ⟨_, rfl, rfl, hm740⟩
          · refine reg [.bool true, .bool true, .bool true, .bool false] [0] [(0, .bool false)] [.is (((r12.1 : Int) == 1) = true), .is (((r12.2 : Int) == 0) = true), .is (((r21.2 : Int) == 0) = true), .is (((r37.2 : Int) == 3) = false)] hf175 (by kernel_rfl) ⟨(eqT c177), (eqT c178), (eqT c179), (eqF c180), trivial⟩ fun a742 hf743 => ?_
            have hm744 : Mem [] M w0 [] w168 := hm176.sel [] _ rfl (by kernel_rfl)
            refine thenN ?_
            refine wp_ret ?_
            have hm745 : Mem [] M w0 [] w168 := hm744.sel [] _ rfl (by kernel_rfl)
            obtain rfl := Option.some.inj H0
            refine ret [] [.bool false] [] hf743 (by kernel_rfl) trivial ?_
            exact ⟨_, rfl, rfl, hm745⟩
        · refine reg [.bool true, .bool true, .bool false] [0] [(0, .bool false)] [.is (((r12.1 : Int) == 1) = true), .is (((r12.2 : Int) == 0) = true), .is (((r21.2 : Int) == 0) = false)] hf175 (by kernel_rfl) ⟨(eqT c177), (eqT c178), (eqF c179), trivial⟩ fun a747 hf748 => ?_
          have hm749 : Mem [] M w0 [] w168 := hm176.sel [] _ rfl (by kernel_rfl)
          refine thenN ?_
          refine wp_ret ?_
          have hm750 : Mem [] M w0 [] w168 := hm749.sel [] _ rfl (by kernel_rfl)
          obtain rfl := Option.some.inj H0
          refine ret [] [.bool false] [] hf748 (by kernel_rfl) trivial ?_
          exact ⟨_, rfl, rfl, hm750⟩
      · refine reg [.bool true, .bool false] [0] [(0, .bool false)] [.is (((r12.1 : Int) == 1) = true), .is (((r12.2 : Int) == 0) = false)] hf175 (by kernel_rfl) ⟨(eqT c177), (eqF c178), trivial⟩ fun a752 hf753 => ?_
        have hm754 : Mem [] M w0 [] w168 := hm176.sel [] _ rfl (by kernel_rfl)
        refine thenN ?_
        refine wp_ret ?_
        have hm755 : Mem [] M w0 [] w168 := hm754.sel [] _ rfl (by kernel_rfl)
        obtain rfl := Option.some.inj H0
        refine ret [] [.bool false] [] hf753 (by kernel_rfl) trivial ?_
        exact ⟨_, rfl, rfl, hm755⟩
    · refine reg [.bool false] [0] [(0, .bool false)] [.is (((r12.1 : Int) == 1) = false)] hf175 (by kernel_rfl) ⟨(eqF c177), trivial⟩ fun a757 hf758 => ?_
      have hm759 : Mem [] M w0 [] w168 := hm176.sel [] _ rfl (by kernel_rfl)
      refine thenN ?_
      refine wp_ret ?_
      have hm760 : Mem [] M w0 [] w168 := hm759.sel [] _ rfl (by kernel_rfl)
      obtain rfl := Option.some.inj H0
      refine ret [] [.bool false] [] hf758 (by kernel_rfl) trivial ?_
      exact ⟨_, rfl, rfl, hm760⟩
  · refine inReg ?_
    refine listOf hf2 rfl (by kernel_rfl) (aCall (fid := 9) (args := []) (d := 19) hf2 (by kernel_rfl) (by kernel_rfl) callable9 (law1_awake.calls _ _  (hm0.give [] [] rfl rfl) r3 hr3) ?_)
    rintro _ w762 a763 ⟨rfl, hk765⟩ hf764
    have hm766 : Mem [] M w0 [] w762 := hm0.still hk765.cum.none
    rw [c4] at hf764
    refine go 1 [] [20] [(20, .bool true)] [] hf764 (by kernel_rfl) trivial fun a767 hf768 => ?_
    refine endL rfl ?_
    refine thenN ?_
    refine condT hf768 (by kernel_rfl) ?_
    refine wp_seq ?_
    refine reg [] [0] [(0, .bool false)] [] hf768 (by kernel_rfl) trivial fun a769 hf770 => ?_
    refine thenN ?_
    refine wp_ret ?_
    refine thenR ?_
    have hm771 : Mem [] M w0 [] w762 := hm766.sel [] _ rfl (by kernel_rfl)
    obtain rfl := Option.some.inj H0
    refine ret [] [.bool false] [] hf770 (by kernel_rfl) trivial ?_
    exact ⟨_, rfl, rfl, hm771⟩
end Go.Proofs.Ytgekodhpkhdanaa
