/- Printed by gen.py. -/
import Derived.Test.YtkdhahdfkonilaaDoorF0
namespace Go.Proofs.YtkdhahdfkonilaaDoor
open Go Go.RowKit
set_option linter.unusedSimpArgs false
set_option linter.unusedVariables false
set_option linter.unnecessarySimpa false
/-! ### backstitch/script.word -/
noncomputable def script_word.f (x0 : Node) (x1 : (List UInt8)) (x2 : (List UInt8)) : Option ((List Int) × (List Int) × Int × Tensor × (List Hook) × Bool) :=
  (script_number.f x2).bind fun r23 =>
  if x1 = ([105] : List UInt8) then (if x0.In.length + 1 ≤ 549755813888 then (some ((x0.In ++ ([r23.1] : List Int)), x0.To, x0.No, x0.Val, x0.Hooks, r23.2))
  else none)
  else (if x1 = ([116] : List UInt8) then (if x0.To.length + 1 ≤ 549755813888 then (some (x0.In, (x0.To ++ ([r23.1] : List Int)), x0.No, x0.Val, x0.Hooks, r23.2))
  else none)
  else (if x1 = ([110] : List UInt8) then (some (x0.In, x0.To, r23.1, x0.Val, x0.Hooks, r23.2))
  else (if x1 = ([115] : List UInt8) then (if x0.Val.Shape.length + 1 ≤ 549755813888 then (some (x0.In, x0.To, x0.No, (⟨(x0.Val.Shape ++ ([r23.1] : List Int)), x0.Val.Data⟩ : Tensor), x0.Hooks, r23.2))
  else none)
  else (if x1 = ([118] : List UInt8) then ((script_Parse.f x2).bind fun r165 =>
  if x0.Val.Data.length + 1 ≤ 549755813888 then (some (x0.In, x0.To, x0.No, (⟨x0.Val.Shape, (x0.Val.Data ++ ([r165.1] : List Nat))⟩ : Tensor), x0.Hooks, r165.2))
  else none)
  else (if x1 = ([104] : List UInt8) then ((script_hook.f x2).bind fun r215 =>
  if x0.Hooks.length + 1 ≤ 549755813888 then (some (x0.In, x0.To, x0.No, x0.Val, (x0.Hooks ++ ([r215.1] : List Hook)), r215.2))
  else none)
  else (some (x0.In, x0.To, x0.No, x0.Val, x0.Hooks, false)))))))
set_option maxRecDepth 100000 in
set_option maxHeartbeats 4000000 in
theorem script_word.calls (B0 : List (Option Nat)) (M : List (Option Nat)) (w0 : World) (x0 : Node) (b0 : Nat) (A0_1 : Option Addr) (n0_1 c0_1 : Nat) (e0_1 : n0_1 = x0.In.length) (A0_2 : Option Addr) (n0_2 c0_2 : Nat) (e0_2 : n0_2 = x0.To.length) (A0_4_0 : Option Addr) (n0_4_0 c0_4_0 : Nat) (e0_4_0 : n0_4_0 = x0.Val.Shape.length) (A0_4_1 : Option Addr) (n0_4_1 c0_4_1 : Nat) (e0_4_1 : n0_4_1 = x0.Val.Data.length) (A0_6 : Option Addr) (n0_6 c0_6 : Nat) (e0_6 : n0_6 = x0.Hooks.length) (x1 : (List UInt8)) (x2 : (List UInt8)) (hm0 : Mem B0 M w0 [.bx b0 [.int .i64 x0.Op, .slice A0_1 n0_1 c0_1, .slice A0_2 n0_2 c0_2, .int .i64 x0.No, .slice A0_4_0 n0_4_0 c0_4_0, .slice A0_4_1 n0_4_1 c0_4_1, .slice A0_6 n0_6 c0_6] 49, .ow (Kd.int .i64) 3 A0_1 c0_1 x0.In, .ow (Kd.int .i64) 3 A0_2 c0_2 x0.To, .ow (Kd.int .i64) 3 A0_4_0 c0_4_0 x0.Val.Shape, .ow Kd.float 35 A0_4_1 c0_4_1 x0.Val.Data, .ow kHook 51 A0_6 c0_6 x0.Hooks] w0) (r : ((List Int) × (List Int) × Int × Tensor × (List Hook) × Bool)) (H0 : script_word.f x0 x1 x2 = some r) (hG : Glob B0 w0) :
    Calls Tryd.prog 43 [.pointer (some ⟨b0, 0, none⟩), .string (bs x1), .string (bs x2)].toArray w0 (fun x w' => ∃ v, x = .returned v ∧ ∃ Ap0_1 cp0_1 Ap0_2 cp0_2 Ap0_4_0 cp0_4_0 Ap0_4_1 cp0_4_1 Ap0_6 cp0_6, v = .bool r.2.2.2.2.2 ∧ Mem B0 M w0 [.bx b0 [.int .i64 x0.Op, .slice Ap0_1 r.1.length cp0_1, .slice Ap0_2 r.2.1.length cp0_2, .int .i64 r.2.2.1, .slice Ap0_4_0 r.2.2.2.1.Shape.length cp0_4_0, .slice Ap0_4_1 r.2.2.2.1.Data.length cp0_4_1, .slice Ap0_6 r.2.2.2.2.1.length cp0_6] 49, .ow (Kd.int .i64) 3 Ap0_1 cp0_1 r.1, .ow (Kd.int .i64) 3 Ap0_2 cp0_2 r.2.1, .ow (Kd.int .i64) 3 Ap0_4_0 cp0_4_0 r.2.2.2.1.Shape, .ow Kd.float 35 Ap0_4_1 cp0_4_1 r.2.2.2.1.Data, .ow kHook 51 Ap0_6 cp0_6 r.2.2.2.2.1] w') := by
  subst e0_1
  subst e0_2
  subst e0_4_0
  subst e0_4_1
  subst e0_6
  unfold script_word.f at H0
  refine enter (n := 102) Tryd.func43 rfl rfl (by kernel_rfl) fun a0 (hf0 : Fr 102 a0 [(0, .pointer (some ⟨b0, 0, none⟩)), (1, .string (bs x1)), (2, .string (bs x2))]) => ?_
  refine wp_seq ?_
  refine reg [] [0, 1, 2] [(0, .pointer (some ⟨b0, 0, none⟩)), (1, .string (bs x1)), (2, .string (bs x2))] [] hf0 (by kernel_rfl) trivial fun a21 hf22 => ?_
  refine thenN ?_
  refine wp_seq ?_
  obtain ⟨r23, hr23, H0⟩ := ob_split H0
  refine inReg ?_
  refine go 1 [] [0, 1, 2, 14] [(0, .pointer (some ⟨b0, 0, none⟩)), (1, .string (bs x1)), (2, .string (bs x2)), (14, .string (bs x2))] [] hf22 (by kernel_rfl) trivial fun a24 hf25 => ?_
  refine listOf hf25 rfl (by kernel_rfl) (aCall (fid := 53) (args := [.string (bs x2)]) (d := 15) hf25 (by kernel_rfl) (by kernel_rfl) callable53 (script_number.calls _ _ x2 (hm0.give [] [] rfl rfl) r23 hr23 (hG.at hm0)) ?_)
  rintro _ w26 a27 ⟨rfl, hk29⟩ hf28
  have hm30 := hm0.still hk29.cum.none
  refine go 5 [] [0, 1, 2, 7, 8] [(0, .pointer (some ⟨b0, 0, none⟩)), (1, .string (bs x1)), (2, .string (bs x2)), (7, .int .i64 r23.1), (8, .bool r23.2)] [] hf28 (by kernel_rfl) trivial fun a31 hf32 => ?_
  refine endL rfl ?_
  refine thenN ?_
  refine wp_seq ?_
  refine wp_seq ?_
  refine reg [] [0, 2, 7, 8, 18] [(0, .pointer (some ⟨b0, 0, none⟩)), (2, .string (bs x2)), (7, .int .i64 r23.1), (8, .bool r23.2), (18, .string (bs x1))] [] hf32 (by kernel_rfl) trivial fun a33 hf34 => ?_
  refine thenN ?_
  refine wp_block ?_
  refine wp_seq ?_
  rcases if_split H0 with ⟨c35, H0⟩ | ⟨c35, H0⟩
  · refine reg [.bool true] [0, 2, 7, 8, 18, 19] [(0, .pointer (some ⟨b0, 0, none⟩)), (2, .string (bs x2)), (7, .int .i64 r23.1), (8, .bool r23.2), (18, .string (bs x1)), (19, .bool true)] [.is ((decide (bs x1 = bs ([105] : List UInt8))) = true)] hf34 (by kernel_rfl) ⟨(seT c35), trivial⟩ fun a36 hf37 => ?_
    refine thenN ?_
    refine condT hf37 (by kernel_rfl) ?_
    obtain ⟨g38, H0⟩ := if_guard H0
    refine inReg ?_
    refine go 6 [.slice A0_1 x0.In.length c0_1] [8, 21, 25, 26] [(8, .bool r23.2), (21, .pointer (some ⟨b0, 0, none⟩)), (25, .slice A0_1 x0.In.length c0_1), (26, .int .i64 r23.1)] [.cell ⟨b0, 1, none⟩ (.slice A0_1 x0.In.length c0_1)] hf37 (by kernel_rfl) ⟨(hm30.cell 0 rfl rfl), trivial⟩ fun a39 hf40 => ?_
    refine listOf hf40 rfl (by kernel_rfl) (aLit (cs := [.int .i64 r23.1]) (E := 3) (len := 1) (d := 27) hf40 (by kernel_rfl) (by kernel_rfl) ?_)
    intro b41 w42 a43 hbb41 hx45 hg46 hf44
    have hm30s := hm30.still hg46
    have hm47 := Mem.lit (kd := (Kd.int .i64)) (xs := ([r23.1] : List Int)) hm30 hbb41 hx45 hg46 (Els.one (kd := (Kd.int .i64)) (us := [.int .i64 r23.1]) (x := r23.1) rfl)
    have e56 : x0.In.length = x0.In.length := rfl
    have e57 : 1 = ([r23.1] : List Int).length := rfl
    refine listOf hf44 rfl (by kernel_rfl) (aApp (kd := (Kd.int .i64)) (base := 0) (E := 3) (A := A0_1) (B := (some ⟨b41, 0, none⟩)) (c := c0_1) (c2 := 1) (xs := x0.In) (ys := ([r23.1] : List Int)) (k := x0.In.length) (m := 1) (sz := 1) (d := 28) hf44 (by kernel_rfl) e56 e57 (by kernel_rfl) rfl (by kernel_rfl) (hm47.at 2 rfl) (hm47.at2 2 0 rfl rfl).2 (hm47.cpAt 0 rfl) (Nat.zero_le _) (by have := g38; omega) ?_)
    intro A48 c49 w50 a51 ho53 hg54 hr55 hf52
    have hm58 := hm47.setOwn 2 _ rfl rfl ho53 hg54 hr55
    refine go 2 [] [8, 28, 30] [(8, .bool r23.2), (28, .slice A48 ((x0.In ++ ([r23.1] : List Int)).length) c49), (30, .pointer (some ⟨b0, 1, none⟩))] [] hf52 (by kernel_rfl) trivial fun a59 hf60 => ?_
    refine listOf hf60 rfl (by kernel_rfl) (aStoreB (b := b0) (j := 1) (T := 49) (cs := [.int .i64 x0.Op, .slice A0_1 x0.In.length c0_1, .slice A0_2 x0.To.length c0_2, .int .i64 x0.No, .slice A0_4_0 x0.Val.Shape.length c0_4_0, .slice A0_4_1 x0.Val.Data.length c0_4_1, .slice A0_6 x0.Hooks.length c0_6]) (us := [.slice A48 ((x0.In ++ ([r23.1] : List Int)).length) c49]) (cs' := [.int .i64 x0.Op, .slice A48 ((x0.In ++ ([r23.1] : List Int)).length) c49, .slice A0_2 x0.To.length c0_2, .int .i64 x0.No, .slice A0_4_0 x0.Val.Shape.length c0_4_0, .slice A0_4_1 x0.Val.Data.length c0_4_1, .slice A0_6 x0.Hooks.length c0_6]) hf60 (by kernel_rfl) (hm58.bxAt 1 rfl) (by kernel_rfl) (by kernel_rfl) (by kernel_rfl) ?_)
    intro w61 hx62 hg63
    have hm65 := hm58.setBox 1 _ rfl rfl hx62 hg63
    refine endL rfl ?_
    have hm66 := hm65.sel [1, 2, 3, 4, 5, 6] _ rfl (by kernel_rfl)
    refine blkN ?_
    refine thenN ?_
    refine wp_seq ?_
    refine reg [] [6] [(6, .bool r23.2)] [] hf60 (by kernel_rfl) trivial fun a67 hf68 => ?_
    refine thenN ?_
    refine wp_ret ?_
    have hm69 : Mem B0 M w0 [.bx b0 [.int .i64 x0.Op, .slice A48 ((x0.In ++ ([r23.1] : List Int)).length) c49, .slice A0_2 x0.To.length c0_2, .int .i64 x0.No, .slice A0_4_0 x0.Val.Shape.length c0_4_0, .slice A0_4_1 x0.Val.Data.length c0_4_1, .slice A0_6 x0.Hooks.length c0_6] 49, .ow (Kd.int .i64) 3 A48 c49 (x0.In ++ ([r23.1] : List Int)), .ow (Kd.int .i64) 3 A0_2 c0_2 x0.To, .ow (Kd.int .i64) 3 A0_4_0 c0_4_0 x0.Val.Shape, .ow Kd.float 35 A0_4_1 c0_4_1 x0.Val.Data, .ow kHook 51 A0_6 c0_6 x0.Hooks] w61 := hm66.sel [0, 1, 2, 3, 4, 5] _ rfl (by kernel_rfl)
    obtain rfl := Option.some.inj H0
    refine ret [] [.bool r23.2] [] hf68 (by kernel_rfl) trivial ?_
    exact ⟨_, rfl, A48, c49, A0_2, c0_2, A0_4_0, c0_4_0, A0_4_1, c0_4_1, A0_6, c0_6, rfl, hm69⟩
  refine reg [.bool false] [0, 2, 7, 8, 18, 19] [(0, .pointer (some ⟨b0, 0, none⟩)), (2, .string (bs x2)), (7, .int .i64 r23.1), (8, .bool r23.2), (18, .string (bs x1)), (19, .bool false)] [.is ((decide (bs x1 = bs ([105] : List UInt8))) = false)] hf34 (by kernel_rfl) ⟨(seF c35), trivial⟩ fun a71 hf72 => ?_
  refine thenN ?_
  refine condF hf72 (by kernel_rfl) ?_
  refine wp_seq ?_
  rcases if_split H0 with ⟨c73, H0⟩ | ⟨c73, H0⟩
  · refine reg [.bool true] [0, 2, 7, 8, 18, 31] [(0, .pointer (some ⟨b0, 0, none⟩)), (2, .string (bs x2)), (7, .int .i64 r23.1), (8, .bool r23.2), (18, .string (bs x1)), (31, .bool true)] [.is ((decide (bs x1 = bs ([116] : List UInt8))) = true)] hf72 (by kernel_rfl) ⟨(seT c73), trivial⟩ fun a74 hf75 => ?_
    refine thenN ?_
    refine condT hf75 (by kernel_rfl) ?_
    obtain ⟨g76, H0⟩ := if_guard H0
    refine inReg ?_
    refine go 6 [.slice A0_2 x0.To.length c0_2] [8, 33, 37, 38] [(8, .bool r23.2), (33, .pointer (some ⟨b0, 0, none⟩)), (37, .slice A0_2 x0.To.length c0_2), (38, .int .i64 r23.1)] [.cell ⟨b0, 2, none⟩ (.slice A0_2 x0.To.length c0_2)] hf75 (by kernel_rfl) ⟨(hm30.cell 0 rfl rfl), trivial⟩ fun a77 hf78 => ?_
    refine listOf hf78 rfl (by kernel_rfl) (aLit (cs := [.int .i64 r23.1]) (E := 3) (len := 1) (d := 39) hf78 (by kernel_rfl) (by kernel_rfl) ?_)
    intro b79 w80 a81 hbb79 hx83 hg84 hf82
    have hm30s := hm30.still hg84
    have hm85 := Mem.lit (kd := (Kd.int .i64)) (xs := ([r23.1] : List Int)) hm30 hbb79 hx83 hg84 (Els.one (kd := (Kd.int .i64)) (us := [.int .i64 r23.1]) (x := r23.1) rfl)
    have e94 : x0.To.length = x0.To.length := rfl
    have e95 : 1 = ([r23.1] : List Int).length := rfl
    refine listOf hf82 rfl (by kernel_rfl) (aApp (kd := (Kd.int .i64)) (base := 0) (E := 3) (A := A0_2) (B := (some ⟨b79, 0, none⟩)) (c := c0_2) (c2 := 1) (xs := x0.To) (ys := ([r23.1] : List Int)) (k := x0.To.length) (m := 1) (sz := 1) (d := 40) hf82 (by kernel_rfl) e94 e95 (by kernel_rfl) rfl (by kernel_rfl) (hm85.at 3 rfl) (hm85.at2 3 0 rfl rfl).2 (hm85.cpAt 0 rfl) (Nat.zero_le _) (by have := g76; omega) ?_)
    intro A86 c87 w88 a89 ho91 hg92 hr93 hf90
    have hm96 := hm85.setOwn 3 _ rfl rfl ho91 hg92 hr93
    refine go 2 [] [8, 40, 42] [(8, .bool r23.2), (40, .slice A86 ((x0.To ++ ([r23.1] : List Int)).length) c87), (42, .pointer (some ⟨b0, 2, none⟩))] [] hf90 (by kernel_rfl) trivial fun a97 hf98 => ?_
    refine listOf hf98 rfl (by kernel_rfl) (aStoreB (b := b0) (j := 2) (T := 49) (cs := [.int .i64 x0.Op, .slice A0_1 x0.In.length c0_1, .slice A0_2 x0.To.length c0_2, .int .i64 x0.No, .slice A0_4_0 x0.Val.Shape.length c0_4_0, .slice A0_4_1 x0.Val.Data.length c0_4_1, .slice A0_6 x0.Hooks.length c0_6]) (us := [.slice A86 ((x0.To ++ ([r23.1] : List Int)).length) c87]) (cs' := [.int .i64 x0.Op, .slice A0_1 x0.In.length c0_1, .slice A86 ((x0.To ++ ([r23.1] : List Int)).length) c87, .int .i64 x0.No, .slice A0_4_0 x0.Val.Shape.length c0_4_0, .slice A0_4_1 x0.Val.Data.length c0_4_1, .slice A0_6 x0.Hooks.length c0_6]) hf98 (by kernel_rfl) (hm96.bxAt 1 rfl) (by kernel_rfl) (by kernel_rfl) (by kernel_rfl) ?_)
    intro w99 hx100 hg101
    have hm102 := hm96.setBox 1 _ rfl rfl hx100 hg101
    refine endL rfl ?_
    have hm103 := hm102.sel [1, 2, 3, 4, 5, 6] _ rfl (by kernel_rfl)
    refine blkN ?_
    refine thenN ?_
    refine wp_seq ?_
    refine reg [] [6] [(6, .bool r23.2)] [] hf98 (by kernel_rfl) trivial fun a104 hf105 => ?_
    refine thenN ?_
    refine wp_ret ?_
    have hm106 : Mem B0 M w0 [.bx b0 [.int .i64 x0.Op, .slice A0_1 x0.In.length c0_1, .slice A86 ((x0.To ++ ([r23.1] : List Int)).length) c87, .int .i64 x0.No, .slice A0_4_0 x0.Val.Shape.length c0_4_0, .slice A0_4_1 x0.Val.Data.length c0_4_1, .slice A0_6 x0.Hooks.length c0_6] 49, .ow (Kd.int .i64) 3 A0_1 c0_1 x0.In, .ow (Kd.int .i64) 3 A86 c87 (x0.To ++ ([r23.1] : List Int)), .ow (Kd.int .i64) 3 A0_4_0 c0_4_0 x0.Val.Shape, .ow Kd.float 35 A0_4_1 c0_4_1 x0.Val.Data, .ow kHook 51 A0_6 c0_6 x0.Hooks] w99 := hm103.sel [0, 1, 2, 3, 4, 5] _ rfl (by kernel_rfl)
    obtain rfl := Option.some.inj H0
    refine ret [] [.bool r23.2] [] hf105 (by kernel_rfl) trivial ?_
    exact ⟨_, rfl, A0_1, c0_1, A86, c87, A0_4_0, c0_4_0, A0_4_1, c0_4_1, A0_6, c0_6, rfl, hm106⟩
  refine reg [.bool false] [0, 2, 7, 8, 18, 31] [(0, .pointer (some ⟨b0, 0, none⟩)), (2, .string (bs x2)), (7, .int .i64 r23.1), (8, .bool r23.2), (18, .string (bs x1)), (31, .bool false)] [.is ((decide (bs x1 = bs ([116] : List UInt8))) = false)] hf72 (by kernel_rfl) ⟨(seF c73), trivial⟩ fun a108 hf109 => ?_
  refine thenN ?_
  refine condF hf109 (by kernel_rfl) ?_
  refine wp_seq ?_
  rcases if_split H0 with ⟨c110, H0⟩ | ⟨c110, H0⟩
  · refine reg [.bool true] [0, 2, 7, 8, 18, 43] [(0, .pointer (some ⟨b0, 0, none⟩)), (2, .string (bs x2)), (7, .int .i64 r23.1), (8, .bool r23.2), (18, .string (bs x1)), (43, .bool true)] [.is ((decide (bs x1 = bs ([110] : List UInt8))) = true)] hf109 (by kernel_rfl) ⟨(seT c110), trivial⟩ fun a111 hf112 => ?_
    refine thenN ?_
    refine condT hf112 (by kernel_rfl) ?_
    refine inReg ?_
    refine go 4 [] [8, 46, 48] [(8, .bool r23.2), (46, .int .i64 r23.1), (48, .pointer (some ⟨b0, 3, none⟩))] [] hf112 (by kernel_rfl) trivial fun a113 hf114 => ?_
    refine listOf hf114 rfl (by kernel_rfl) (aStoreB (b := b0) (j := 3) (T := 49) (cs := [.int .i64 x0.Op, .slice A0_1 x0.In.length c0_1, .slice A0_2 x0.To.length c0_2, .int .i64 x0.No, .slice A0_4_0 x0.Val.Shape.length c0_4_0, .slice A0_4_1 x0.Val.Data.length c0_4_1, .slice A0_6 x0.Hooks.length c0_6]) (us := [.int .i64 r23.1]) (cs' := [.int .i64 x0.Op, .slice A0_1 x0.In.length c0_1, .slice A0_2 x0.To.length c0_2, .int .i64 r23.1, .slice A0_4_0 x0.Val.Shape.length c0_4_0, .slice A0_4_1 x0.Val.Data.length c0_4_1, .slice A0_6 x0.Hooks.length c0_6]) hf114 (by kernel_rfl) (hm30.bxAt 0 rfl) (by kernel_rfl) (by kernel_rfl) (by kernel_rfl) ?_)
    intro w115 hx116 hg117
    have hm118 := hm30.setBox 0 _ rfl rfl hx116 hg117
    refine endL rfl ?_
    refine blkN ?_
    refine thenN ?_
    refine wp_seq ?_
    refine reg [] [6] [(6, .bool r23.2)] [] hf114 (by kernel_rfl) trivial fun a119 hf120 => ?_
    refine thenN ?_
    refine wp_ret ?_
    have hm121 : Mem B0 M w0 [.bx b0 [.int .i64 x0.Op, .slice A0_1 x0.In.length c0_1, .slice A0_2 x0.To.length c0_2, .int .i64 r23.1, .slice A0_4_0 x0.Val.Shape.length c0_4_0, .slice A0_4_1 x0.Val.Data.length c0_4_1, .slice A0_6 x0.Hooks.length c0_6] 49, .ow (Kd.int .i64) 3 A0_1 c0_1 x0.In, .ow (Kd.int .i64) 3 A0_2 c0_2 x0.To, .ow (Kd.int .i64) 3 A0_4_0 c0_4_0 x0.Val.Shape, .ow Kd.float 35 A0_4_1 c0_4_1 x0.Val.Data, .ow kHook 51 A0_6 c0_6 x0.Hooks] w115 := hm118.sel [0, 1, 2, 3, 4, 5] _ rfl (by kernel_rfl)
    obtain rfl := Option.some.inj H0
    refine ret [] [.bool r23.2] [] hf120 (by kernel_rfl) trivial ?_
    exact ⟨_, rfl, A0_1, c0_1, A0_2, c0_2, A0_4_0, c0_4_0, A0_4_1, c0_4_1, A0_6, c0_6, rfl, hm121⟩
  refine reg [.bool false] [0, 2, 7, 8, 18, 43] [(0, .pointer (some ⟨b0, 0, none⟩)), (2, .string (bs x2)), (7, .int .i64 r23.1), (8, .bool r23.2), (18, .string (bs x1)), (43, .bool false)] [.is ((decide (bs x1 = bs ([110] : List UInt8))) = false)] hf109 (by kernel_rfl) ⟨(seF c110), trivial⟩ fun a123 hf124 => ?_
  refine thenN ?_
  refine condF hf124 (by kernel_rfl) ?_
  refine wp_seq ?_
  rcases if_split H0 with ⟨c125, H0⟩ | ⟨c125, H0⟩
  · refine reg [.bool true] [0, 2, 7, 8, 18, 49] [(0, .pointer (some ⟨b0, 0, none⟩)), (2, .string (bs x2)), (7, .int .i64 r23.1), (8, .bool r23.2), (18, .string (bs x1)), (49, .bool true)] [.is ((decide (bs x1 = bs ([115] : List UInt8))) = true)] hf124 (by kernel_rfl) ⟨(seT c125), trivial⟩ fun a126 hf127 => ?_
    refine thenN ?_
    refine condT hf127 (by kernel_rfl) ?_
    obtain ⟨g128, H0⟩ := if_guard H0
    refine inReg ?_
    refine go 7 [.slice A0_4_0 x0.Val.Shape.length c0_4_0] [8, 51, 56, 57] [(8, .bool r23.2), (51, .pointer (some ⟨b0, 0, none⟩)), (56, .slice A0_4_0 x0.Val.Shape.length c0_4_0), (57, .int .i64 r23.1)] [.cell ⟨b0, 4, none⟩ (.slice A0_4_0 x0.Val.Shape.length c0_4_0)] hf127 (by kernel_rfl) ⟨(hm30.cell 0 rfl rfl), trivial⟩ fun a129 hf130 => ?_
    refine listOf hf130 rfl (by kernel_rfl) (aLit (cs := [.int .i64 r23.1]) (E := 3) (len := 1) (d := 58) hf130 (by kernel_rfl) (by kernel_rfl) ?_)
    intro b131 w132 a133 hbb131 hx135 hg136 hf134
    have hm30s := hm30.still hg136
    have hm137 := Mem.lit (kd := (Kd.int .i64)) (xs := ([r23.1] : List Int)) hm30 hbb131 hx135 hg136 (Els.one (kd := (Kd.int .i64)) (us := [.int .i64 r23.1]) (x := r23.1) rfl)
    have e146 : x0.Val.Shape.length = x0.Val.Shape.length := rfl
    have e147 : 1 = ([r23.1] : List Int).length := rfl
    refine listOf hf134 rfl (by kernel_rfl) (aApp (kd := (Kd.int .i64)) (base := 0) (E := 3) (A := A0_4_0) (B := (some ⟨b131, 0, none⟩)) (c := c0_4_0) (c2 := 1) (xs := x0.Val.Shape) (ys := ([r23.1] : List Int)) (k := x0.Val.Shape.length) (m := 1) (sz := 1) (d := 59) hf134 (by kernel_rfl) e146 e147 (by kernel_rfl) rfl (by kernel_rfl) (hm137.at 4 rfl) (hm137.at2 4 0 rfl rfl).2 (hm137.cpAt 0 rfl) (Nat.zero_le _) (by have := g128; omega) ?_)
    intro A138 c139 w140 a141 ho143 hg144 hr145 hf142
    have hm148 := hm137.setOwn 4 _ rfl rfl ho143 hg144 hr145
    refine go 3 [] [8, 59, 62] [(8, .bool r23.2), (59, .slice A138 ((x0.Val.Shape ++ ([r23.1] : List Int)).length) c139), (62, .pointer (some ⟨b0, 4, none⟩))] [] hf142 (by kernel_rfl) trivial fun a149 hf150 => ?_
    refine listOf hf150 rfl (by kernel_rfl) (aStoreB (b := b0) (j := 4) (T := 49) (cs := [.int .i64 x0.Op, .slice A0_1 x0.In.length c0_1, .slice A0_2 x0.To.length c0_2, .int .i64 x0.No, .slice A0_4_0 x0.Val.Shape.length c0_4_0, .slice A0_4_1 x0.Val.Data.length c0_4_1, .slice A0_6 x0.Hooks.length c0_6]) (us := [.slice A138 ((x0.Val.Shape ++ ([r23.1] : List Int)).length) c139]) (cs' := [.int .i64 x0.Op, .slice A0_1 x0.In.length c0_1, .slice A0_2 x0.To.length c0_2, .int .i64 x0.No, .slice A138 ((x0.Val.Shape ++ ([r23.1] : List Int)).length) c139, .slice A0_4_1 x0.Val.Data.length c0_4_1, .slice A0_6 x0.Hooks.length c0_6]) hf150 (by kernel_rfl) (hm148.bxAt 1 rfl) (by kernel_rfl) (by kernel_rfl) (by kernel_rfl) ?_)
    intro w151 hx152 hg153
    have hm154 := hm148.setBox 1 _ rfl rfl hx152 hg153
    refine endL rfl ?_
    have hm155 := hm154.sel [1, 2, 3, 4, 5, 6] _ rfl (by kernel_rfl)
    refine blkN ?_
    refine thenN ?_
    refine wp_seq ?_
    refine reg [] [6] [(6, .bool r23.2)] [] hf150 (by kernel_rfl) trivial fun a156 hf157 => ?_
    refine thenN ?_
    refine wp_ret ?_
    have hm158 : Mem B0 M w0 [.bx b0 [.int .i64 x0.Op, .slice A0_1 x0.In.length c0_1, .slice A0_2 x0.To.length c0_2, .int .i64 x0.No, .slice A138 ((x0.Val.Shape ++ ([r23.1] : List Int)).length) c139, .slice A0_4_1 x0.Val.Data.length c0_4_1, .slice A0_6 x0.Hooks.length c0_6] 49, .ow (Kd.int .i64) 3 A0_1 c0_1 x0.In, .ow (Kd.int .i64) 3 A0_2 c0_2 x0.To, .ow (Kd.int .i64) 3 A138 c139 (x0.Val.Shape ++ ([r23.1] : List Int)), .ow Kd.float 35 A0_4_1 c0_4_1 x0.Val.Data, .ow kHook 51 A0_6 c0_6 x0.Hooks] w151 := hm155.sel [0, 1, 2, 3, 4, 5] _ rfl (by kernel_rfl)
    obtain rfl := Option.some.inj H0
    refine ret [] [.bool r23.2] [] hf157 (by kernel_rfl) trivial ?_
    exact ⟨_, rfl, A0_1, c0_1, A0_2, c0_2, A138, c139, A0_4_1, c0_4_1, A0_6, c0_6, rfl, hm158⟩
  refine reg [.bool false] [0, 2, 7, 8, 18, 49] [(0, .pointer (some ⟨b0, 0, none⟩)), (2, .string (bs x2)), (7, .int .i64 r23.1), (8, .bool r23.2), (18, .string (bs x1)), (49, .bool false)] [.is ((decide (bs x1 = bs ([115] : List UInt8))) = false)] hf124 (by kernel_rfl) ⟨(seF c125), trivial⟩ fun a160 hf161 => ?_
  refine thenN ?_
  refine condF hf161 (by kernel_rfl) ?_
  refine wp_seq ?_
  rcases if_split H0 with ⟨c162, H0⟩ | ⟨c162, H0⟩
  · refine reg [.bool true] [0, 2, 18, 63] [(0, .pointer (some ⟨b0, 0, none⟩)), (2, .string (bs x2)), (18, .string (bs x1)), (63, .bool true)] [.is ((decide (bs x1 = bs ([118] : List UInt8))) = true)] hf161 (by kernel_rfl) ⟨(seT c162), trivial⟩ fun a163 hf164 => ?_
    refine thenN ?_
    refine condT hf164 (by kernel_rfl) ?_
    refine wp_seq ?_
    obtain ⟨r165, hr165, H0⟩ := ob_split H0
    refine inReg ?_
    refine go 1 [] [0, 66] [(0, .pointer (some ⟨b0, 0, none⟩)), (66, .string (bs x2))] [] hf164 (by kernel_rfl) trivial fun a166 hf167 => ?_
    refine listOf hf167 rfl (by kernel_rfl) (aCall (fid := 16) (args := [.string (bs x2)]) (d := 67) hf167 (by kernel_rfl) (by kernel_rfl) callable16 (script_Parse.calls _ _ x2 (hm30.give [] [] rfl rfl) r165 hr165) ?_)
    rintro _ w169 a170 ⟨b168, rfl, hb168, hk172⟩ hf171
    have hm173 := hm30.still hk172.cum.none
    refine go 5 [] [0, 9, 10] [(0, .pointer (some ⟨b0, 0, none⟩)), (9, .float .f64 b168), (10, .bool r165.2)] [] hf171 (by kernel_rfl) trivial fun a174 hf175 => ?_
    refine endL rfl ?_
    refine thenN ?_
    obtain ⟨g176, H0⟩ := if_guard H0
    refine inReg ?_
    refine go 7 [.slice A0_4_1 x0.Val.Data.length c0_4_1] [10, 70, 75, 76] [(10, .bool r165.2), (70, .pointer (some ⟨b0, 0, none⟩)), (75, .slice A0_4_1 x0.Val.Data.length c0_4_1), (76, .float .f64 b168)] [.cell ⟨b0, 5, none⟩ (.slice A0_4_1 x0.Val.Data.length c0_4_1)] hf175 (by kernel_rfl) ⟨(hm173.cell 0 rfl rfl), trivial⟩ fun a177 hf178 => ?_
    refine listOf hf178 rfl (by kernel_rfl) (aLit (cs := [.float .f64 b168]) (E := 35) (len := 1) (d := 77) hf178 (by kernel_rfl) (by kernel_rfl) ?_)
    intro b179 w180 a181 hbb179 hx183 hg184 hf182
    have hm173s := hm173.still hg184
    have hm185 := Mem.lit (kd := Kd.float) (xs := ([r165.1] : List Nat)) hm173 hbb179 hx183 hg184 (Els.one (kd := Kd.float) (us := [.float .f64 b168]) (x := r165.1) ⟨_, rfl, hb168⟩)
    have e194 : x0.Val.Data.length = x0.Val.Data.length := rfl
    have e195 : 1 = ([r165.1] : List Nat).length := rfl
    refine listOf hf182 rfl (by kernel_rfl) (aApp (kd := Kd.float) (base := 0) (E := 35) (A := A0_4_1) (B := (some ⟨b179, 0, none⟩)) (c := c0_4_1) (c2 := 1) (xs := x0.Val.Data) (ys := ([r165.1] : List Nat)) (k := x0.Val.Data.length) (m := 1) (sz := 1) (d := 78) hf182 (by kernel_rfl) e194 e195 (by kernel_rfl) rfl (by kernel_rfl) (hm185.at 5 rfl) (hm185.at2 5 0 rfl rfl).2 (hm185.cpAt 0 rfl) (Nat.zero_le _) (by have := g176; omega) ?_)
    intro A186 c187 w188 a189 ho191 hg192 hr193 hf190
    have hm196 := hm185.setOwn 5 _ rfl rfl ho191 hg192 hr193
    refine go 4 [] [78, 79, 82] [(78, .slice A186 ((x0.Val.Data ++ ([r165.1] : List Nat)).length) c187), (79, .bool r165.2), (82, .pointer (some ⟨b0, 5, none⟩))] [] hf190 (by kernel_rfl) trivial fun a197 hf198 => ?_
    refine listOf hf198 rfl (by kernel_rfl) (aStoreB (b := b0) (j := 5) (T := 49) (cs := [.int .i64 x0.Op, .slice A0_1 x0.In.length c0_1, .slice A0_2 x0.To.length c0_2, .int .i64 x0.No, .slice A0_4_0 x0.Val.Shape.length c0_4_0, .slice A0_4_1 x0.Val.Data.length c0_4_1, .slice A0_6 x0.Hooks.length c0_6]) (us := [.slice A186 ((x0.Val.Data ++ ([r165.1] : List Nat)).length) c187]) (cs' := [.int .i64 x0.Op, .slice A0_1 x0.In.length c0_1, .slice A0_2 x0.To.length c0_2, .int .i64 x0.No, .slice A0_4_0 x0.Val.Shape.length c0_4_0, .slice A186 ((x0.Val.Data ++ ([r165.1] : List Nat)).length) c187, .slice A0_6 x0.Hooks.length c0_6]) hf198 (by kernel_rfl) (hm196.bxAt 1 rfl) (by kernel_rfl) (by kernel_rfl) (by kernel_rfl) ?_)
    intro w199 hx200 hg201
    have hm202 := hm196.setBox 1 _ rfl rfl hx200 hg201
    refine go 1 [] [8] [(8, .bool r165.2)] [] hf198 (by kernel_rfl) trivial fun a203 hf204 => ?_
    refine endL rfl ?_
    have hm205 := hm202.sel [1, 2, 3, 4, 5, 6] _ rfl (by kernel_rfl)
    refine blkN ?_
    refine thenN ?_
    refine wp_seq ?_
    refine reg [] [6] [(6, .bool r165.2)] [] hf204 (by kernel_rfl) trivial fun a206 hf207 => ?_
    refine thenN ?_
    refine wp_ret ?_
    have hm208 : Mem B0 M w0 [.bx b0 [.int .i64 x0.Op, .slice A0_1 x0.In.length c0_1, .slice A0_2 x0.To.length c0_2, .int .i64 x0.No, .slice A0_4_0 x0.Val.Shape.length c0_4_0, .slice A186 ((x0.Val.Data ++ ([r165.1] : List Nat)).length) c187, .slice A0_6 x0.Hooks.length c0_6] 49, .ow (Kd.int .i64) 3 A0_1 c0_1 x0.In, .ow (Kd.int .i64) 3 A0_2 c0_2 x0.To, .ow (Kd.int .i64) 3 A0_4_0 c0_4_0 x0.Val.Shape, .ow Kd.float 35 A186 c187 (x0.Val.Data ++ ([r165.1] : List Nat)), .ow kHook 51 A0_6 c0_6 x0.Hooks] w199 := hm205.sel [0, 1, 2, 3, 4, 5] _ rfl (by kernel_rfl)
    obtain rfl := Option.some.inj H0
    refine ret [] [.bool r165.2] [] hf207 (by kernel_rfl) trivial ?_
    exact ⟨_, rfl, A0_1, c0_1, A0_2, c0_2, A0_4_0, c0_4_0, A186, c187, A0_6, c0_6, rfl, hm208⟩
  refine reg [.bool false] [0, 2, 18, 63] [(0, .pointer (some ⟨b0, 0, none⟩)), (2, .string (bs x2)), (18, .string (bs x1)), (63, .bool false)] [.is ((decide (bs x1 = bs ([118] : List UInt8))) = false)] hf161 (by kernel_rfl) ⟨(seF c162), trivial⟩ fun a210 hf211 => ?_
  refine thenN ?_
  refine condF hf211 (by kernel_rfl) ?_
  refine wp_seq ?_
  rcases if_split H0 with ⟨c212, H0⟩ | ⟨c212, H0⟩
  rotate_left
  · refine reg [.bool false] [0, 2, 83] [(0, .pointer (some ⟨b0, 0, none⟩)), (2, .string (bs x2)), (83, .bool false)] [.is ((decide (bs x1 = bs ([104] : List UInt8))) = false)] hf211 (by kernel_rfl) ⟨(seF c212), trivial⟩ fun a330 hf331 => ?_
    refine thenN ?_
    refine condF hf331 (by kernel_rfl) ?_
    refine wp_seq ?_
    refine reg [] [6] [(6, .bool false)] [] hf331 (by kernel_rfl) trivial fun a332 hf333 => ?_
    refine thenN ?_
    refine wp_ret ?_
    refine blkR ?_
    refine thenR ?_
    have hm334 : Mem B0 M w0 [.bx b0 [.int .i64 x0.Op, .slice A0_1 x0.In.length c0_1, .slice A0_2 x0.To.length c0_2, .int .i64 x0.No, .slice A0_4_0 x0.Val.Shape.length c0_4_0, .slice A0_4_1 x0.Val.Data.length c0_4_1, .slice A0_6 x0.Hooks.length c0_6] 49, .ow (Kd.int .i64) 3 A0_1 c0_1 x0.In, .ow (Kd.int .i64) 3 A0_2 c0_2 x0.To, .ow (Kd.int .i64) 3 A0_4_0 c0_4_0 x0.Val.Shape, .ow Kd.float 35 A0_4_1 c0_4_1 x0.Val.Data, .ow kHook 51 A0_6 c0_6 x0.Hooks] w26 := hm30.sel [0, 1, 2, 3, 4, 5] _ rfl (by kernel_rfl)
    obtain rfl := Option.some.inj H0
    refine ret [] [.bool false] [] hf333 (by kernel_rfl) trivial ?_
    exact ⟨_, rfl, A0_1, c0_1, A0_2, c0_2, A0_4_0, c0_4_0, A0_4_1, c0_4_1, A0_6, c0_6, rfl, hm334⟩
  refine reg [.bool true] [0, 2, 83] [(0, .pointer (some ⟨b0, 0, none⟩)), (2, .string (bs x2)), (83, .bool true)] [.is ((decide (bs x1 = bs ([104] : List UInt8))) = true)] hf211 (by kernel_rfl) ⟨(seT c212), trivial⟩ fun a213 hf214 => ?_
  refine thenN ?_
  refine condT hf214 (by kernel_rfl) ?_
  refine wp_seq ?_
  obtain ⟨r215, hr215, H0⟩ := ob_split H0
  refine inReg ?_
  refine go 1 [] [0, 86] [(0, .pointer (some ⟨b0, 0, none⟩)), (86, .string (bs x2))] [] hf214 (by kernel_rfl) trivial fun a216 hf217 => ?_
  refine listOf hf217 rfl (by kernel_rfl) (aCall (fid := 54) (args := [.string (bs x2)]) (d := 87) hf217 (by kernel_rfl) (by kernel_rfl) callable54 (script_hook.calls _ _ x2 (hm30.give [] [] rfl rfl) r215 hr215 (hG.at hm30)) ?_)
  rintro _ w219 a220 ⟨b218, rfl, hb218, hk222⟩ hf221
  have hm223 := hm30.still hk222.cum.none
  refine go 3 [] [0, 88, 89] [(0, .pointer (some ⟨b0, 0, none⟩)), (88, .agg #[.int .i64 r215.1.Do, .float .f64 b218]), (89, .bool r215.2)] [] hf221 (by kernel_rfl) trivial fun a224 hf225 => ?_
  refine listOf hf225 rfl (by kernel_rfl) (aNew (cs := [.int .i64 0, .float .f64 0]) (T := 51) (d := 11) hf225 (by kernel_rfl) (by kernel_rfl) ?_)
  intro b226 w227 a228 hbb226 hx230 hg231 hf229
  have hm232 := hm223.box hbb226 hx230 hg231
  refine listOf hf229 rfl (by kernel_rfl) (aStoreB (b := b226) (j := 0) (T := 51) (cs := [.int .i64 0, .float .f64 0]) (us := [.int .i64 r215.1.Do, .float .f64 b218]) (cs' := [.int .i64 r215.1.Do, .float .f64 b218]) hf229 (by kernel_rfl) (hm232.bxAt 0 rfl) (by kernel_rfl) (by kernel_rfl) (by kernel_rfl) ?_)
  intro w233 hx234 hg235
  have hm236 := hm232.setBox 0 _ rfl rfl hx234 hg235
  refine go 1 [] [0, 11, 12] [(0, .pointer (some ⟨b0, 0, none⟩)), (11, .pointer (some ⟨b226, 0, none⟩)), (12, .bool r215.2)] [] hf229 (by kernel_rfl) trivial fun a237 hf238 => ?_
  refine endL rfl ?_
  refine thenN ?_
  obtain ⟨g239, H0⟩ := if_guard H0
  refine midReg (fun (a : Act) (w : World) => ∃ (A247 : Option Addr) (c248 : Nat), Fr 102 a [(8, .bool r215.2)] ∧ Mem B0 M w0 [.bx b0 [.int .i64 x0.Op, .slice A0_1 x0.In.length c0_1, .slice A0_2 x0.To.length c0_2, .int .i64 x0.No, .slice A0_4_0 x0.Val.Shape.length c0_4_0, .slice A0_4_1 x0.Val.Data.length c0_4_1, .slice A247 ((x0.Hooks ++ ([r215.1] : List Hook)).length) c248] 49, .ow (Kd.int .i64) 3 A0_1 c0_1 x0.In, .ow (Kd.int .i64) 3 A0_2 c0_2 x0.To, .ow (Kd.int .i64) 3 A0_4_0 c0_4_0 x0.Val.Shape, .ow Kd.float 35 A0_4_1 c0_4_1 x0.Val.Data, .ow kHook 51 A247 c248 (x0.Hooks ++ ([r215.1] : List Hook))] w) ?_ ?_
  · refine anyG (K := [bk A0_6]) [11] (by kernel_rfl) fun w263 hg264 => ?_
    have hm265 := hm236.still hg264
    refine quiet0 [0, 1, 2, 3, 4, 5, 8] [.slice A0_6 x0.Hooks.length c0_6, .agg #[.int .i64 r215.1.Do, .float .f64 b218]] [90, 94, 95, 98] #[true, true, true, true, true, true, false, false, true, false, false, false, false] [(90, .pointer (some ⟨b0, 0, none⟩)), (94, .slice A0_6 x0.Hooks.length c0_6), (95, .agg #[.int .i64 r215.1.Do, .float .f64 b218]), (98, .bool r215.2)] [.cell ⟨b0, 6, none⟩ (.slice A0_6 x0.Hooks.length c0_6), .is (some (⟨b0, 6, none⟩ : Addr).block ∉ [bk A0_6]), .cell ⟨b226, 0, none⟩ (.int .i64 r215.1.Do), .is (some (⟨b226, 0, none⟩ : Addr).block ∉ [bk A0_6]), .cell ⟨b226, 1, none⟩ (.float .f64 b218), .is (some (⟨b226, 1, none⟩ : Addr).block ∉ [bk A0_6])] 6 rfl (by kernel_rfl) (fun _ _ _ _ _ h => nomatch h.1) hf238 (by kernel_rfl) ⟨(hm265.cell 1 rfl rfl), (hm265.bxK 1 [6] _ rfl rfl rfl), (hm265.cell 0 rfl rfl), (hm265.bxK 0 [6] _ rfl rfl rfl), (hm265.cell 0 rfl rfl), (hm265.bxK 0 [6] _ rfl rfl rfl), trivial⟩ fun a294 hf295 => ?_
    refine all1 6 (by kernel_rfl) ?_
    refine opOf hf295 rfl (by kernel_rfl) (aLit (cs := [.int .i64 r215.1.Do, .float .f64 b218]) (E := 51) (len := 1) (d := 96) hf295 (by kernel_rfl) (by kernel_rfl) ?_)
    intro b296 w297 a298 hbb296 hx300 hg301 hf299
    refine ⟨.inr (Gr.still hg301), ?_⟩
    have hm265s := hm265.still hg301
    have hm302 := Mem.lit (kd := kHook) (xs := ([r215.1] : List Hook)) hm265 hbb296 hx300 hg301 (Els.one (kd := kHook) (us := [.int .i64 r215.1.Do, .float .f64 b218]) (x := r215.1) (kHook.mk r215.1 hb218))
    refine all1 7 (by kernel_rfl) ?_
    have e311 : x0.Hooks.length = x0.Hooks.length := rfl
    have e312 : 1 = ([r215.1] : List Hook).length := rfl
    refine opOf hf299 rfl (by kernel_rfl) (aApp (kd := kHook) (base := 0) (E := 51) (A := A0_6) (B := (some ⟨b296, 0, none⟩)) (c := c0_6) (c2 := 1) (xs := x0.Hooks) (ys := ([r215.1] : List Hook)) (k := x0.Hooks.length) (m := 1) (sz := 2) (d := 97) hf299 (by kernel_rfl) e311 e312 (by kernel_rfl) rfl (by kernel_rfl) (hm302.at 7 rfl) (hm302.at2 7 0 rfl rfl).2 (hm302.cpAt 0 rfl) (Nat.zero_le _) (by have := g239; omega) ?_)
    intro A303 c304 w305 a306 ho308 hg309 hr310 hf307
    refine ⟨.inr (Gr.own hg309 (by simp)), ?_⟩
    have hm313 := hm302.setOwn 7 _ rfl rfl ho308 hg309 hr310
    refine quiet0 [9, 10] [] [97, 98, 100] #[true, true, true, true, true, true, true, true, true, true, true, false, false] [(97, .slice A303 ((x0.Hooks ++ ([r215.1] : List Hook)).length) c304), (98, .bool r215.2), (100, .pointer (some ⟨b0, 6, none⟩))] [] 2 rfl (by kernel_rfl) (fun _ _ _ _ _ h => nomatch h.1) hf307 (by kernel_rfl) trivial fun a314 hf315 => ?_
    refine all1 11 (by kernel_rfl) ?_
    refine opOf hf315 rfl (by kernel_rfl) (aStoreB (b := b0) (j := 6) (T := 49) (cs := [.int .i64 x0.Op, .slice A0_1 x0.In.length c0_1, .slice A0_2 x0.To.length c0_2, .int .i64 x0.No, .slice A0_4_0 x0.Val.Shape.length c0_4_0, .slice A0_4_1 x0.Val.Data.length c0_4_1, .slice A0_6 x0.Hooks.length c0_6]) (us := [.slice A303 ((x0.Hooks ++ ([r215.1] : List Hook)).length) c304]) (cs' := [.int .i64 x0.Op, .slice A0_1 x0.In.length c0_1, .slice A0_2 x0.To.length c0_2, .int .i64 x0.No, .slice A0_4_0 x0.Val.Shape.length c0_4_0, .slice A0_4_1 x0.Val.Data.length c0_4_1, .slice A303 ((x0.Hooks ++ ([r215.1] : List Hook)).length) c304]) hf315 (by kernel_rfl) (hm313.bxAt 2 rfl) (by kernel_rfl) (by kernel_rfl) (by kernel_rfl) ?_)
    intro w316 hx317 hg318
    refine ⟨.inl (by decide), ?_⟩
    have hm319 := hm313.setBox 2 _ rfl rfl hx317 hg318
    refine quiet0 [12] [] [8] #[true, true, true, true, true, true, true, true, true, true, true, true, true] [(8, .bool r215.2)] [] 0 rfl (by kernel_rfl) (fun _ _ _ _ _ h => nomatch h.1) hf315 (by kernel_rfl) trivial fun a320 hf321 => ?_
    refine allDone (by kernel_rfl) ⟨rfl, A303, c304, hf321.sel (l := [8]) (by kernel_rfl), hm319.sel [2, 3, 4, 5, 6, 7] _ rfl (by kernel_rfl)⟩
  rintro a322 w323 ⟨A247, c248, hf324, hm325⟩
  refine blkN ?_
  refine thenN ?_
  refine wp_seq ?_
  refine reg [] [6] [(6, .bool r215.2)] [] hf324 (by kernel_rfl) trivial fun a326 hf327 => ?_
  refine thenN ?_
  refine wp_ret ?_
  have hm328 : Mem B0 M w0 [.bx b0 [.int .i64 x0.Op, .slice A0_1 x0.In.length c0_1, .slice A0_2 x0.To.length c0_2, .int .i64 x0.No, .slice A0_4_0 x0.Val.Shape.length c0_4_0, .slice A0_4_1 x0.Val.Data.length c0_4_1, .slice A247 ((x0.Hooks ++ ([r215.1] : List Hook)).length) c248] 49, .ow (Kd.int .i64) 3 A0_1 c0_1 x0.In, .ow (Kd.int .i64) 3 A0_2 c0_2 x0.To, .ow (Kd.int .i64) 3 A0_4_0 c0_4_0 x0.Val.Shape, .ow Kd.float 35 A0_4_1 c0_4_1 x0.Val.Data, .ow kHook 51 A247 c248 (x0.Hooks ++ ([r215.1] : List Hook))] w323 := hm325.sel [0, 1, 2, 3, 4, 5] _ rfl (by kernel_rfl)
  obtain rfl := Option.some.inj H0
  refine ret [] [.bool r215.2] [] hf327 (by kernel_rfl) trivial ?_
  exact ⟨_, rfl, A0_1, c0_1, A0_2, c0_2, A0_4_0, c0_4_0, A0_4_1, c0_4_1, A247, c248, rfl, hm328⟩
end Go.Proofs.YtkdhahdfkonilaaDoor
