/- Printed by gen.py. -/
import Derived.Test.YteaoijahdinciaaF11
import Derived.Test.YteaoijahdinciaaF12
import Derived.Test.YteaoijahdinciaaF14
import Derived.Test.YteaoijahdinciaaF2
import Derived.Test.YteaoijahdinciaaF7
import Derived.Test.YteaoijahdinciaaF8
import Derived.Test.YteaoijahdinciaaF9
namespace Go.Proofs.Yteaoijahdinciaa
open Go Go.RowKit
set_option linter.unusedSimpArgs false
set_option linter.unusedVariables false
set_option linter.unnecessarySimpa false
/-! ### backstitch/backstitchlaw19.ShelfRefuses -/
noncomputable def law19_ShelfRefuses.f (x0 : (List Tensor)) (x1 : Tensor) (x2 : Int) : Option Bool :=
  (law19_awake.f).bind fun r30 =>
  if r30 = true then (((law12_Small.f x0).bind fun r991 =>
  if r991 = true then ((law3_Small.f x1).bind fun r993 =>
  if r993 = true then (some 0)
  else (some 1))
  else (some 1) : Option Nat).bind fun r39 =>
  if r39 = 0 then ((shelf_New.f x0).bind fun r44 =>
  onPtr r44.1 (fun y46 =>
  (ref19_New.f x0).bind fun r155 =>
  onPtr r155.1 (fun y157 =>
  if r44.2 = 0 then ((if 0 ≤ x2 then (if x2 < (x0.length : Int) then ((ref1_TensorMay.f x1).bind fun r842 =>
  if r842 = true then (if 0 ≤ x2 ∧ x2 < (x0.length : Int) then ((ref1_SameInts.f x1.Shape ((rd x0 x2).Shape)).bind fun r845 =>
  if r845 = true then (some 0)
  else (some 1))
  else none)
  else (some 1))
  else (some 1))
  else (some 1) : Option Nat).bind fun r177 =>
  if r177 = 0 then ((shelf_Shelf_Set.f y46 x2 x1).bind fun r182 =>
  if r182.2.2 = 0 then (some true)
  else (some false))
  else ((shelf_Shelf_Set.f y46 x2 x1).bind fun r220 =>
  if 0 + x0.length ≤ 549755813888 then (if (([] : List Tensor) ++ x0).length + 1 ≤ 549755813888 then ((shelf_Shelf_Commit.f (⟨r220.1, r220.2.1, y46.grads⟩ : Shelf) ((([] : List Tensor) ++ x0) ++ ([x1] : List Tensor))).bind fun r606 =>
  if 0 < (x0.length : Int) then (if 0 ≤ (w64 ((((([] : List Tensor) ++ x0).length : Nat) : Int) - 1)) ∧ (w64 ((((([] : List Tensor) ++ x0).length : Nat) : Int) - 1)) < (((([] : List Tensor) ++ x0).length : Nat) : Int) then (if 0 ≤ (w64 ((x0.length : Int) - 1)) ∧ (w64 ((x0.length : Int) - 1)) < (x0.length : Int) then ((ref1_SameInts.f ((rd x0 (w64 ((x0.length : Int) - 1))).Shape) ([3, 3, 3] : List Int)).bind fun r685 =>
  if r685 = true then (if r220.2.2 = 0 then (some false)
  else (if r606.2 = 1 then ((law19_Same.f (⟨r220.1, r220.2.1, r606.1⟩ : Shelf) y157).bind fun r721 =>
  some r721)
  else (some false)))
  else ((shelf_Shelf_Commit.f (⟨r220.1, r220.2.1, r606.1⟩ : Shelf) (put (([] : List Tensor) ++ x0) (w64 ((((([] : List Tensor) ++ x0).length : Nat) : Int) - 1)) (⟨([3, 3, 3] : List Int), (List.replicate (27 : Int).toNat (0 : Nat))⟩ : Tensor))).bind fun r766 =>
  if r220.2.2 = 0 then (some false)
  else (if r606.2 = 1 then (if r766.2 = 0 then (some false)
  else ((law19_Same.f (⟨r220.1, r220.2.1, r766.1⟩ : Shelf) y157).bind fun r793 =>
  some r793))
  else (some false))))
  else none)
  else none)
  else (if r220.2.2 = 0 then (some false)
  else (if r606.2 = 1 then ((law19_Same.f (⟨r220.1, r220.2.1, r606.1⟩ : Shelf) y157).bind fun r820 =>
  some r820)
  else (some false))))
  else none)
  else none))
  else (if r44.2 = r155.2 then (some true)
  else (some false))) none) ((ref19_New.f x0).bind fun r56 =>
  onPtr r56.1 (fun y58 =>
  if r44.2 = 0 then (if r44.2 = r56.2 then (some true)
  else (some false))
  else (if r44.2 = r56.2 then (some true)
  else (some false))) (if r44.2 = 0 then (if r44.2 = r56.2 then (some true)
  else (some false))
  else (if r44.2 = r56.2 then (some true)
  else (some false)))))
  else (some true))
  else (some false)
set_option maxRecDepth 100000 in
set_option maxHeartbeats 4000000 in
theorem law19_ShelfRefuses.calls (M : List (Option Nat)) (w0 : World) (x0 : (List Tensor)) (A0 : Option Addr) (n0 c0 : Nat) (e0 : n0 = x0.length) (x1 : Tensor) (A1_0 : Option Addr) (n1_0 c1_0 : Nat) (e1_0 : n1_0 = x1.Shape.length) (A1_1 : Option Addr) (n1_1 c1_1 : Nat) (e1_1 : n1_1 = x1.Data.length) (x2 : Int) (hm0 : Mem [] M w0 [.sl kTensor A0 c0 x0, .sl (Kd.int .i64) A1_0 c1_0 x1.Shape, .sl Kd.float A1_1 c1_1 x1.Data] w0) (r : Bool) (H0 : law19_ShelfRefuses.f x0 x1 x2 = some r) :
    Calls Try.prog 6 [.slice A0 n0 c0, .agg #[.slice A1_0 n1_0 c1_0, .slice A1_1 n1_1 c1_1], .int .i64 x2].toArray w0 (fun x w' => ∃ v, x = .returned v ∧ v = .bool r ∧ Mem [] M w0 [] w') := by
  subst e0
  subst e1_0
  subst e1_1
  unfold law19_ShelfRefuses.f at H0
  refine enter (n := 127) Try.func6 rfl rfl (by kernel_rfl) fun a0 (hf0 : Fr 127 a0 [(0, .slice A0 x0.length c0), (1, .agg #[.slice A1_0 x1.Shape.length c1_0, .slice A1_1 x1.Data.length c1_1]), (2, .int .i64 x2)]) => ?_
  refine wp_seq ?_
  refine inReg ?_
  refine listOf hf0 rfl (by kernel_rfl) (aNew (cs := [.slice A1_0 x1.Shape.length c1_0, .slice A1_1 x1.Data.length c1_1]) (T := 29) (d := 4) hf0 (by kernel_rfl) (by kernel_rfl) ?_)
  intro b21 w22 a23 hbb21 hx25 hg26 hf24
  have hm27 := hm0.box hbb21 hx25 hg26
  refine go 1 [] [0, 2, 4] [(0, .slice A0 x0.length c0), (2, .int .i64 x2), (4, .pointer (some ⟨b21, 0, none⟩))] [] hf24 (by kernel_rfl) trivial fun a28 hf29 => ?_
  refine endL rfl ?_
  refine thenN ?_
  refine wp_seq ?_
  refine wp_seq ?_
  obtain ⟨r30, hr30, H0⟩ := ob_split H0
  rcases ifb_split H0 with ⟨c31, H0⟩ | ⟨c31, H0⟩
  rotate_left
  · refine inReg ?_
    refine listOf hf29 rfl (by kernel_rfl) (aCall (fid := 9) (args := []) (d := 15) hf29 (by kernel_rfl) (by kernel_rfl) callable9 (law19_awake.calls _ _  (hm27.give [] [] rfl rfl) r30 hr30) ?_)
    rintro _ w1036 a1037 ⟨rfl, hk1039⟩ hf1038
    have hm1040 := hm27.still hk1039.cum.none
    rw [c31] at hf1038
    refine go 1 [] [0, 2, 4, 16] [(0, .slice A0 x0.length c0), (2, .int .i64 x2), (4, .pointer (some ⟨b21, 0, none⟩)), (16, .bool true)] [] hf1038 (by kernel_rfl) trivial fun a1041 hf1042 => ?_
    refine endL rfl ?_
    refine thenN ?_
    refine condT hf1042 (by kernel_rfl) ?_
    refine wp_seq ?_
    refine reg [] [6] [(6, .bool false)] [] hf1042 (by kernel_rfl) trivial fun a1043 hf1044 => ?_
    have hm1045 := hm1040.sel [] _ rfl (by kernel_rfl)
    refine thenN ?_
    refine wp_ret ?_
    refine thenR ?_
    have hm1046 : Mem [] M w0 [] w1036 := hm1045.sel [] _ rfl (by kernel_rfl)
    obtain rfl := Option.some.inj H0
    refine ret [] [.bool false] [] hf1044 (by kernel_rfl) trivial ?_
    exact ⟨_, rfl, rfl, hm1046⟩
  refine inReg ?_
  refine listOf hf29 rfl (by kernel_rfl) (aCall (fid := 9) (args := []) (d := 15) hf29 (by kernel_rfl) (by kernel_rfl) callable9 (law19_awake.calls _ _  (hm27.give [] [] rfl rfl) r30 hr30) ?_)
  rintro _ w32 a33 ⟨rfl, hk35⟩ hf34
  have hm36 := hm27.still hk35.cum.none
  rw [c31] at hf34
  refine go 1 [] [0, 2, 4, 16] [(0, .slice A0 x0.length c0), (2, .int .i64 x2), (4, .pointer (some ⟨b21, 0, none⟩)), (16, .bool false)] [] hf34 (by kernel_rfl) trivial fun a37 hf38 => ?_
  refine endL rfl ?_
  refine thenN ?_
  refine condF hf38 (by kernel_rfl) ?_
  refine wp_skip ?_
  refine thenN ?_
  refine wp_seq ?_
  refine wp_seq ?_
  obtain ⟨r39, H1, H0⟩ := ob_split H0
  refine wpJoin (Mid := fun (a : Act) (w : World) => r39 = 0 ∧ Fr 127 a [(0, .slice A0 x0.length c0), (2, .int .i64 x2), (4, .pointer (some ⟨b21, 0, none⟩)), (24, .bool false)] ∧ Mem [] M w0 [.bx b21 [.slice A1_0 x1.Shape.length c1_0, .slice A1_1 x1.Data.length c1_1] 29, .sl kTensor A0 c0 x0, .sl (Kd.int .i64) A1_0 c1_0 x1.Shape, .sl Kd.float A1_1 c1_1 x1.Data] w) ?_ ?_
  · intro J989
    refine wpJoin (Mid := fun (a : Act) (w : World) => r39 = 1 ∧ Fr 127 a [(0, .slice A0 x0.length c0), (2, .int .i64 x2), (4, .pointer (some ⟨b21, 0, none⟩)), (24, .bool true)] ∧ Mem [] M w0 [.bx b21 [.slice A1_0 x1.Shape.length c1_0, .slice A1_1 x1.Data.length c1_1] 29, .sl kTensor A0 c0 x0, .sl (Kd.int .i64) A1_0 c1_0 x1.Shape, .sl Kd.float A1_1 c1_1 x1.Data] w) ?_ ?_
    · intro J990
      obtain ⟨r991, hr991, H1⟩ := ob_split H1
      rcases ifb_split H1 with ⟨c992, H1⟩ | ⟨c992, H1⟩
      rotate_left
      · refine inReg ?_
        refine go 1 [] [0, 2, 4, 17] [(0, .slice A0 x0.length c0), (2, .int .i64 x2), (4, .pointer (some ⟨b21, 0, none⟩)), (17, .slice A0 x0.length c0)] [] hf38 (by kernel_rfl) trivial fun a1027 hf1028 => ?_
        refine listOf hf1028 rfl (by kernel_rfl) (aCall (fid := 15) (args := [.slice A0 x0.length c0]) (d := 18) hf1028 (by kernel_rfl) (by kernel_rfl) callable15 (law12_Small.calls _ _ x0 A0 x0.length c0 rfl (hm36.give [1] [.sl kTensor A0 c0 x0] rfl rfl) r991 hr991) ?_)
        rintro _ w1029 a1030 ⟨rfl, hk1032⟩ hf1031
        have hm1033 := hm36.still hk1032.cum.none
        rw [c992] at hf1031
        refine go 6 [] [0, 2, 4, 24] [(0, .slice A0 x0.length c0), (2, .int .i64 x2), (4, .pointer (some ⟨b21, 0, none⟩)), (24, .bool true)] [] hf1031 (by kernel_rfl) trivial fun a1034 hf1035 => ?_
        refine endL rfl ?_
        exact J990 _ _ ⟨(Option.some.inj H1).symm, hf1035.sel (l := [0, 2, 4, 24]) (by kernel_rfl), hm1033.sel [0, 1, 2, 3] _ rfl (by kernel_rfl)⟩
      obtain ⟨r993, hr993, H1⟩ := ob_split H1
      rcases ifb_split H1 with ⟨c994, H1⟩ | ⟨c994, H1⟩
      · refine inReg ?_
        refine go 1 [] [0, 2, 4, 17] [(0, .slice A0 x0.length c0), (2, .int .i64 x2), (4, .pointer (some ⟨b21, 0, none⟩)), (17, .slice A0 x0.length c0)] [] hf38 (by kernel_rfl) trivial fun a995 hf996 => ?_
        refine listOf hf996 rfl (by kernel_rfl) (aCall (fid := 15) (args := [.slice A0 x0.length c0]) (d := 18) hf996 (by kernel_rfl) (by kernel_rfl) callable15 (law12_Small.calls _ _ x0 A0 x0.length c0 rfl (hm36.give [1] [.sl kTensor A0 c0 x0] rfl rfl) r991 hr991) ?_)
        rintro _ w997 a998 ⟨rfl, hk1000⟩ hf999
        have hm1001 := hm36.still hk1000.cum.none
        rw [c992] at hf999
        refine go 3 [.agg #[.slice A1_0 x1.Shape.length c1_0, .slice A1_1 x1.Data.length c1_1]] [0, 2, 4, 20, 21] [(0, .slice A0 x0.length c0), (2, .int .i64 x2), (4, .pointer (some ⟨b21, 0, none⟩)), (20, .bool false), (21, .agg #[.slice A1_0 x1.Shape.length c1_0, .slice A1_1 x1.Data.length c1_1])] [.cell ⟨b21, 0, none⟩ (.slice A1_0 x1.Shape.length c1_0), .cell ⟨b21, 1, none⟩ (.slice A1_1 x1.Data.length c1_1)] hf999 (by kernel_rfl) ⟨(hm1001.cell 0 rfl rfl), (hm1001.cell 0 rfl rfl), trivial⟩ fun a1002 hf1003 => ?_
        refine listOf hf1003 rfl (by kernel_rfl) (aCall (fid := 20) (args := [.agg #[.slice A1_0 x1.Shape.length c1_0, .slice A1_1 x1.Data.length c1_1]]) (d := 22) hf1003 (by kernel_rfl) (by kernel_rfl) callable20 (law3_Small.calls _ _ x1 A1_0 x1.Shape.length c1_0 rfl A1_1 x1.Data.length c1_1 rfl (hm1001.give [2, 3] [.sl (Kd.int .i64) A1_0 c1_0 x1.Shape, .sl Kd.float A1_1 c1_1 x1.Data] rfl rfl) r993 hr993) ?_)
        rintro _ w1004 a1005 ⟨rfl, hk1007⟩ hf1006
        have hm1008 := hm1001.still hk1007.cum.none
        rw [c994] at hf1006
        refine go 2 [] [0, 2, 4, 24] [(0, .slice A0 x0.length c0), (2, .int .i64 x2), (4, .pointer (some ⟨b21, 0, none⟩)), (24, .bool false)] [] hf1006 (by kernel_rfl) trivial fun a1009 hf1010 => ?_
        refine endL rfl ?_
        exact J989 _ _ ⟨(Option.some.inj H1).symm, hf1010.sel (l := [0, 2, 4, 24]) (by kernel_rfl), hm1008.sel [0, 1, 2, 3] _ rfl (by kernel_rfl)⟩
      refine inReg ?_
      refine go 1 [] [0, 2, 4, 17] [(0, .slice A0 x0.length c0), (2, .int .i64 x2), (4, .pointer (some ⟨b21, 0, none⟩)), (17, .slice A0 x0.length c0)] [] hf38 (by kernel_rfl) trivial fun a1011 hf1012 => ?_
      refine listOf hf1012 rfl (by kernel_rfl) (aCall (fid := 15) (args := [.slice A0 x0.length c0]) (d := 18) hf1012 (by kernel_rfl) (by kernel_rfl) callable15 (law12_Small.calls _ _ x0 A0 x0.length c0 rfl (hm36.give [1] [.sl kTensor A0 c0 x0] rfl rfl) r991 hr991) ?_)
      rintro _ w1013 a1014 ⟨rfl, hk1016⟩ hf1015
      have hm1017 := hm36.still hk1016.cum.none
      rw [c992] at hf1015
      refine go 3 [.agg #[.slice A1_0 x1.Shape.length c1_0, .slice A1_1 x1.Data.length c1_1]] [0, 2, 4, 20, 21] [(0, .slice A0 x0.length c0), (2, .int .i64 x2), (4, .pointer (some ⟨b21, 0, none⟩)), (20, .bool false), (21, .agg #[.slice A1_0 x1.Shape.length c1_0, .slice A1_1 x1.Data.length c1_1])] [.cell ⟨b21, 0, none⟩ (.slice A1_0 x1.Shape.length c1_0), .cell ⟨b21, 1, none⟩ (.slice A1_1 x1.Data.length c1_1)] hf1015 (by kernel_rfl) ⟨(hm1017.cell 0 rfl rfl), (hm1017.cell 0 rfl rfl), trivial⟩ fun a1018 hf1019 => ?_
      refine listOf hf1019 rfl (by kernel_rfl) (aCall (fid := 20) (args := [.agg #[.slice A1_0 x1.Shape.length c1_0, .slice A1_1 x1.Data.length c1_1]]) (d := 22) hf1019 (by kernel_rfl) (by kernel_rfl) callable20 (law3_Small.calls _ _ x1 A1_0 x1.Shape.length c1_0 rfl A1_1 x1.Data.length c1_1 rfl (hm1017.give [2, 3] [.sl (Kd.int .i64) A1_0 c1_0 x1.Shape, .sl Kd.float A1_1 c1_1 x1.Data] rfl rfl) r993 hr993) ?_)
      rintro _ w1020 a1021 ⟨rfl, hk1023⟩ hf1022
      have hm1024 := hm1017.still hk1023.cum.none
      rw [c994] at hf1022
      refine go 2 [] [0, 2, 4, 24] [(0, .slice A0 x0.length c0), (2, .int .i64 x2), (4, .pointer (some ⟨b21, 0, none⟩)), (24, .bool true)] [] hf1022 (by kernel_rfl) trivial fun a1025 hf1026 => ?_
      refine endL rfl ?_
      exact J990 _ _ ⟨(Option.some.inj H1).symm, hf1026.sel (l := [0, 2, 4, 24]) (by kernel_rfl), hm1024.sel [0, 1, 2, 3] _ rfl (by kernel_rfl)⟩
    rintro a980 w981 ⟨rfl, hf982, hm983⟩
    rw [if_neg (by decide)] at H0
    refine thenN ?_
    refine condT hf982 (by kernel_rfl) ?_
    refine wp_seq ?_
    refine reg [] [6] [(6, .bool true)] [] hf982 (by kernel_rfl) trivial fun a984 hf985 => ?_
    have hm986 := hm983.sel [] _ rfl (by kernel_rfl)
    refine thenN ?_
    refine wp_ret ?_
    refine thenR ?_
    have hm987 : Mem [] M w0 [] w981 := hm986.sel [] _ rfl (by kernel_rfl)
    obtain rfl := Option.some.inj H0
    refine ret [] [.bool true] [] hf985 (by kernel_rfl) trivial ?_
    exact ⟨_, rfl, rfl, hm987⟩
  rintro a40 w41 ⟨rfl, hf42, hm43⟩
  rw [if_pos rfl] at H0
  refine thenN ?_
  refine condF hf42 (by kernel_rfl) ?_
  refine wp_skip ?_
  refine thenN ?_
  refine wp_seq ?_
  obtain ⟨r44, hr44, H0⟩ := ob_split H0
  rcases ptr_split H0 with ⟨c45, H0⟩ | ⟨y46, c45, H0⟩
  · refine inReg ?_
    refine go 1 [] [0, 2, 4, 26] [(0, .slice A0 x0.length c0), (2, .int .i64 x2), (4, .pointer (some ⟨b21, 0, none⟩)), (26, .slice A0 x0.length c0)] [] hf42 (by kernel_rfl) trivial fun a47 hf48 => ?_
    refine listOf hf48 rfl (by kernel_rfl) (aCall (fid := 10) (args := [.slice A0 x0.length c0]) (d := 27) hf48 (by kernel_rfl) (by kernel_rfl) callable10 (shelf_New.calls_n _ _ x0 A0 x0.length c0 rfl (hm43.give [1] [.sl kTensor A0 c0 x0] rfl rfl) r44 c45 hr44) ?_)
    rintro _ w49 a50 ⟨rfl, hk52⟩ hf51
    have hm53 := hm43.still hk52.cum.none
    refine go 5 [] [0, 2, 4, 7, 8] [(0, .slice A0 x0.length c0), (2, .int .i64 x2), (4, .pointer (some ⟨b21, 0, none⟩)), (7, .pointer none), (8, .int .i64 r44.2)] [] hf51 (by kernel_rfl) trivial fun a54 hf55 => ?_
    refine endL rfl ?_
    refine thenN ?_
    refine wp_seq ?_
    obtain ⟨r56, hr56, H0⟩ := ob_split H0
    rcases ptr_split H0 with ⟨c57, H0⟩ | ⟨y58, c57, H0⟩
    · refine inReg ?_
      refine go 1 [] [0, 2, 4, 7, 8, 31] [(0, .slice A0 x0.length c0), (2, .int .i64 x2), (4, .pointer (some ⟨b21, 0, none⟩)), (7, .pointer none), (8, .int .i64 r44.2), (31, .slice A0 x0.length c0)] [] hf55 (by kernel_rfl) trivial fun a59 hf60 => ?_
      refine listOf hf60 rfl (by kernel_rfl) (aCall (fid := 16) (args := [.slice A0 x0.length c0]) (d := 32) hf60 (by kernel_rfl) (by kernel_rfl) callable16 (ref19_New.calls_n _ _ x0 A0 x0.length c0 rfl (hm53.give [1] [.sl kTensor A0 c0 x0] rfl rfl) r56 c57 hr56) ?_)
      rintro _ w61 a62 ⟨rfl, hk65⟩ hf63
      have hm66 := hm53.still hk65.cum.none
      refine go 5 [] [0, 2, 4, 7, 8, 9, 10] [(0, .slice A0 x0.length c0), (2, .int .i64 x2), (4, .pointer (some ⟨b21, 0, none⟩)), (7, .pointer none), (8, .int .i64 r44.2), (9, .pointer none), (10, .int .i64 r56.2)] [] hf63 (by kernel_rfl) trivial fun a67 hf68 => ?_
      refine endL rfl ?_
      refine thenN ?_
      refine wp_seq ?_
      refine wp_seq ?_
      rcases if_split H0 with ⟨c69, H0⟩ | ⟨c69, H0⟩
      · refine reg [.bool false] [0, 2, 4, 7, 8, 9, 10, 40] [(0, .slice A0 x0.length c0), (2, .int .i64 x2), (4, .pointer (some ⟨b21, 0, none⟩)), (7, .pointer none), (8, .int .i64 r44.2), (9, .pointer none), (10, .int .i64 r56.2), (40, .bool true)] [.is (((r44.2 : Int) != 0) = false)] hf68 (by kernel_rfl) ⟨(neF c69), trivial⟩ fun a70 hf71 => ?_
        refine thenN ?_
        refine condT hf71 (by kernel_rfl) ?_
        refine wp_seq ?_
        rcases if_split H0 with ⟨c72, H0⟩ | ⟨c72, H0⟩
        · refine reg [.bool true] [6] [(6, .bool true)] [.is (((r44.2 : Int) == r56.2) = true)] hf71 (by kernel_rfl) ⟨(eqT c72), trivial⟩ fun a73 hf74 => ?_
          have hm75 := hm66.sel [] _ rfl (by kernel_rfl)
          refine thenN ?_
          refine wp_ret ?_
          refine thenR ?_
          have hm76 : Mem [] M w0 [] w61 := hm75.sel [] _ rfl (by kernel_rfl)
          obtain rfl := Option.some.inj H0
          refine ret [] [.bool true] [] hf74 (by kernel_rfl) trivial ?_
          exact ⟨_, rfl, rfl, hm76⟩
        refine reg [.bool false] [6] [(6, .bool false)] [.is (((r44.2 : Int) == r56.2) = false)] hf71 (by kernel_rfl) ⟨(eqF c72), trivial⟩ fun a78 hf79 => ?_
        have hm80 := hm66.sel [] _ rfl (by kernel_rfl)
        refine thenN ?_
        refine wp_ret ?_
        refine thenR ?_
        have hm81 : Mem [] M w0 [] w61 := hm80.sel [] _ rfl (by kernel_rfl)
        obtain rfl := Option.some.inj H0
        refine ret [] [.bool false] [] hf79 (by kernel_rfl) trivial ?_
        exact ⟨_, rfl, rfl, hm81⟩
      refine reg [.bool true] [0, 2, 4, 7, 8, 9, 10, 40] [(0, .slice A0 x0.length c0), (2, .int .i64 x2), (4, .pointer (some ⟨b21, 0, none⟩)), (7, .pointer none), (8, .int .i64 r44.2), (9, .pointer none), (10, .int .i64 r56.2), (40, .bool true)] [.is (((r44.2 : Int) != 0) = true)] hf68 (by kernel_rfl) ⟨(neT c69), trivial⟩ fun a83 hf84 => ?_
      refine thenN ?_
      refine condT hf84 (by kernel_rfl) ?_
      refine wp_seq ?_
      rcases if_split H0 with ⟨c85, H0⟩ | ⟨c85, H0⟩
      · refine reg [.bool true] [6] [(6, .bool true)] [.is (((r44.2 : Int) == r56.2) = true)] hf84 (by kernel_rfl) ⟨(eqT c85), trivial⟩ fun a86 hf87 => ?_
        have hm88 := hm66.sel [] _ rfl (by kernel_rfl)
        refine thenN ?_
        refine wp_ret ?_
        refine thenR ?_
        have hm89 : Mem [] M w0 [] w61 := hm88.sel [] _ rfl (by kernel_rfl)
        obtain rfl := Option.some.inj H0
        refine ret [] [.bool true] [] hf87 (by kernel_rfl) trivial ?_
        exact ⟨_, rfl, rfl, hm89⟩
      refine reg [.bool false] [6] [(6, .bool false)] [.is (((r44.2 : Int) == r56.2) = false)] hf84 (by kernel_rfl) ⟨(eqF c85), trivial⟩ fun a91 hf92 => ?_
      have hm93 := hm66.sel [] _ rfl (by kernel_rfl)
      refine thenN ?_
      refine wp_ret ?_
      refine thenR ?_
      have hm94 : Mem [] M w0 [] w61 := hm93.sel [] _ rfl (by kernel_rfl)
      obtain rfl := Option.some.inj H0
      refine ret [] [.bool false] [] hf92 (by kernel_rfl) trivial ?_
      exact ⟨_, rfl, rfl, hm94⟩
    · refine inReg ?_
      refine go 1 [] [0, 2, 4, 7, 8, 31] [(0, .slice A0 x0.length c0), (2, .int .i64 x2), (4, .pointer (some ⟨b21, 0, none⟩)), (7, .pointer none), (8, .int .i64 r44.2), (31, .slice A0 x0.length c0)] [] hf55 (by kernel_rfl) trivial fun a96 hf97 => ?_
      refine listOf hf97 rfl (by kernel_rfl) (aCall (fid := 16) (args := [.slice A0 x0.length c0]) (d := 32) hf97 (by kernel_rfl) (by kernel_rfl) callable16 (ref19_New.calls_s _ _ x0 A0 x0.length c0 rfl (hm53.give [1] [.sl kTensor A0 c0 x0] rfl rfl) r56 y58 c57 hr56) ?_)
      rintro _ w105 a106 ⟨b98, A99, c100, A101, c102, A103, c104, rfl, hk108⟩ hf107
      have hm109 := hm53.back hk108
      refine go 5 [] [0, 2, 4, 7, 8, 9, 10] [(0, .slice A0 x0.length c0), (2, .int .i64 x2), (4, .pointer (some ⟨b21, 0, none⟩)), (7, .pointer none), (8, .int .i64 r44.2), (9, .pointer (some ⟨b98, 0, none⟩)), (10, .int .i64 r56.2)] [] hf107 (by kernel_rfl) trivial fun a110 hf111 => ?_
      refine endL rfl ?_
      refine thenN ?_
      refine wp_seq ?_
      refine wp_seq ?_
      rcases if_split H0 with ⟨c112, H0⟩ | ⟨c112, H0⟩
      · refine reg [.bool false] [0, 2, 4, 7, 8, 9, 10, 40] [(0, .slice A0 x0.length c0), (2, .int .i64 x2), (4, .pointer (some ⟨b21, 0, none⟩)), (7, .pointer none), (8, .int .i64 r44.2), (9, .pointer (some ⟨b98, 0, none⟩)), (10, .int .i64 r56.2), (40, .bool true)] [.is (((r44.2 : Int) != 0) = false)] hf111 (by kernel_rfl) ⟨(neF c112), trivial⟩ fun a113 hf114 => ?_
        refine thenN ?_
        refine condT hf114 (by kernel_rfl) ?_
        refine wp_seq ?_
        rcases if_split H0 with ⟨c115, H0⟩ | ⟨c115, H0⟩
        · refine reg [.bool true] [6] [(6, .bool true)] [.is (((r44.2 : Int) == r56.2) = true)] hf114 (by kernel_rfl) ⟨(eqT c115), trivial⟩ fun a116 hf117 => ?_
          have hm118 := hm109.sel [] _ rfl (by kernel_rfl)
          refine thenN ?_
          refine wp_ret ?_
          refine thenR ?_
          have hm119 : Mem [] M w0 [] w105 := hm118.sel [] _ rfl (by kernel_rfl)
          obtain rfl := Option.some.inj H0
          refine ret [] [.bool true] [] hf117 (by kernel_rfl) trivial ?_
          exact ⟨_, rfl, rfl, hm119⟩
        refine reg [.bool false] [6] [(6, .bool false)] [.is (((r44.2 : Int) == r56.2) = false)] hf114 (by kernel_rfl) ⟨(eqF c115), trivial⟩ fun a121 hf122 => ?_
        have hm123 := hm109.sel [] _ rfl (by kernel_rfl)
        refine thenN ?_
        refine wp_ret ?_
        refine thenR ?_
        have hm124 : Mem [] M w0 [] w105 := hm123.sel [] _ rfl (by kernel_rfl)
        obtain rfl := Option.some.inj H0
        refine ret [] [.bool false] [] hf122 (by kernel_rfl) trivial ?_
        exact ⟨_, rfl, rfl, hm124⟩
      refine reg [.bool true] [0, 2, 4, 7, 8, 9, 10, 40] [(0, .slice A0 x0.length c0), (2, .int .i64 x2), (4, .pointer (some ⟨b21, 0, none⟩)), (7, .pointer none), (8, .int .i64 r44.2), (9, .pointer (some ⟨b98, 0, none⟩)), (10, .int .i64 r56.2), (40, .bool true)] [.is (((r44.2 : Int) != 0) = true)] hf111 (by kernel_rfl) ⟨(neT c112), trivial⟩ fun a126 hf127 => ?_
      refine thenN ?_
      refine condT hf127 (by kernel_rfl) ?_
      refine wp_seq ?_
      rcases if_split H0 with ⟨c128, H0⟩ | ⟨c128, H0⟩
      · refine reg [.bool true] [6] [(6, .bool true)] [.is (((r44.2 : Int) == r56.2) = true)] hf127 (by kernel_rfl) ⟨(eqT c128), trivial⟩ fun a129 hf130 => ?_
        have hm131 := hm109.sel [] _ rfl (by kernel_rfl)
        refine thenN ?_
        refine wp_ret ?_
        refine thenR ?_
        have hm132 : Mem [] M w0 [] w105 := hm131.sel [] _ rfl (by kernel_rfl)
        obtain rfl := Option.some.inj H0
        refine ret [] [.bool true] [] hf130 (by kernel_rfl) trivial ?_
        exact ⟨_, rfl, rfl, hm132⟩
      refine reg [.bool false] [6] [(6, .bool false)] [.is (((r44.2 : Int) == r56.2) = false)] hf127 (by kernel_rfl) ⟨(eqF c128), trivial⟩ fun a134 hf135 => ?_
      have hm136 := hm109.sel [] _ rfl (by kernel_rfl)
      refine thenN ?_
      refine wp_ret ?_
      refine thenR ?_
      have hm137 : Mem [] M w0 [] w105 := hm136.sel [] _ rfl (by kernel_rfl)
      obtain rfl := Option.some.inj H0
      refine ret [] [.bool false] [] hf135 (by kernel_rfl) trivial ?_
      exact ⟨_, rfl, rfl, hm137⟩
  · refine inReg ?_
    refine go 1 [] [0, 2, 4, 26] [(0, .slice A0 x0.length c0), (2, .int .i64 x2), (4, .pointer (some ⟨b21, 0, none⟩)), (26, .slice A0 x0.length c0)] [] hf42 (by kernel_rfl) trivial fun a139 hf140 => ?_
    refine listOf hf140 rfl (by kernel_rfl) (aCall (fid := 10) (args := [.slice A0 x0.length c0]) (d := 27) hf140 (by kernel_rfl) (by kernel_rfl) callable10 (shelf_New.calls_s _ _ x0 A0 x0.length c0 rfl (hm43.give [1] [.sl kTensor A0 c0 x0] rfl rfl) r44 y46 c45 hr44) ?_)
    rintro _ w148 a149 ⟨b141, A142, c143, A144, c145, A146, c147, rfl, hk151⟩ hf150
    have hm152 := hm43.back hk151
    refine go 5 [] [0, 2, 4, 7, 8] [(0, .slice A0 x0.length c0), (2, .int .i64 x2), (4, .pointer (some ⟨b21, 0, none⟩)), (7, .pointer (some ⟨b141, 0, none⟩)), (8, .int .i64 r44.2)] [] hf150 (by kernel_rfl) trivial fun a153 hf154 => ?_
    refine endL rfl ?_
    refine thenN ?_
    refine wp_seq ?_
    obtain ⟨r155, hr155, H0⟩ := ob_split H0
    rcases ptr_split H0 with ⟨c156, H0⟩ | ⟨y157, c156, H0⟩
    · exact absurd H0 (by simp [Step.go])
    · refine inReg ?_
      refine go 1 [] [0, 2, 4, 7, 8, 31] [(0, .slice A0 x0.length c0), (2, .int .i64 x2), (4, .pointer (some ⟨b21, 0, none⟩)), (7, .pointer (some ⟨b141, 0, none⟩)), (8, .int .i64 r44.2), (31, .slice A0 x0.length c0)] [] hf154 (by kernel_rfl) trivial fun a158 hf159 => ?_
      refine listOf hf159 rfl (by kernel_rfl) (aCall (fid := 16) (args := [.slice A0 x0.length c0]) (d := 32) hf159 (by kernel_rfl) (by kernel_rfl) callable16 (ref19_New.calls_s _ _ x0 A0 x0.length c0 rfl (hm152.give [5] [.sl kTensor A0 c0 x0] rfl rfl) r155 y157 c156 hr155) ?_)
      rintro _ w167 a168 ⟨b160, A161, c162, A163, c164, A165, c166, rfl, hk170⟩ hf169
      have hm171 := hm152.back hk170
      refine go 5 [] [0, 2, 4, 7, 8, 9, 10] [(0, .slice A0 x0.length c0), (2, .int .i64 x2), (4, .pointer (some ⟨b21, 0, none⟩)), (7, .pointer (some ⟨b141, 0, none⟩)), (8, .int .i64 r44.2), (9, .pointer (some ⟨b160, 0, none⟩)), (10, .int .i64 r155.2)] [] hf169 (by kernel_rfl) trivial fun a172 hf173 => ?_
      refine endL rfl ?_
      refine thenN ?_
      refine wp_seq ?_
      refine wp_seq ?_
      rcases if_split H0 with ⟨c174, H0⟩ | ⟨c174, H0⟩
      rotate_left
      · refine reg [.bool true] [0, 2, 4, 7, 8, 9, 10, 40] [(0, .slice A0 x0.length c0), (2, .int .i64 x2), (4, .pointer (some ⟨b21, 0, none⟩)), (7, .pointer (some ⟨b141, 0, none⟩)), (8, .int .i64 r44.2), (9, .pointer (some ⟨b160, 0, none⟩)), (10, .int .i64 r155.2), (40, .bool true)] [.is (((r44.2 : Int) != 0) = true)] hf173 (by kernel_rfl) ⟨(neT c174), trivial⟩ fun a967 hf968 => ?_
        refine thenN ?_
        refine condT hf968 (by kernel_rfl) ?_
        refine wp_seq ?_
        rcases if_split H0 with ⟨c969, H0⟩ | ⟨c969, H0⟩
        · refine reg [.bool true] [6] [(6, .bool true)] [.is (((r44.2 : Int) == r155.2) = true)] hf968 (by kernel_rfl) ⟨(eqT c969), trivial⟩ fun a970 hf971 => ?_
          have hm972 := hm171.sel [] _ rfl (by kernel_rfl)
          refine thenN ?_
          refine wp_ret ?_
          refine thenR ?_
          have hm973 : Mem [] M w0 [] w167 := hm972.sel [] _ rfl (by kernel_rfl)
          obtain rfl := Option.some.inj H0
          refine ret [] [.bool true] [] hf971 (by kernel_rfl) trivial ?_
          exact ⟨_, rfl, rfl, hm973⟩
        refine reg [.bool false] [6] [(6, .bool false)] [.is (((r44.2 : Int) == r155.2) = false)] hf968 (by kernel_rfl) ⟨(eqF c969), trivial⟩ fun a975 hf976 => ?_
        have hm977 := hm171.sel [] _ rfl (by kernel_rfl)
        refine thenN ?_
        refine wp_ret ?_
        refine thenR ?_
        have hm978 : Mem [] M w0 [] w167 := hm977.sel [] _ rfl (by kernel_rfl)
        obtain rfl := Option.some.inj H0
        refine ret [] [.bool false] [] hf976 (by kernel_rfl) trivial ?_
        exact ⟨_, rfl, rfl, hm978⟩
      refine reg [.bool false] [0, 2, 4, 7, 8, 9, 10, 40] [(0, .slice A0 x0.length c0), (2, .int .i64 x2), (4, .pointer (some ⟨b21, 0, none⟩)), (7, .pointer (some ⟨b141, 0, none⟩)), (8, .int .i64 r44.2), (9, .pointer (some ⟨b160, 0, none⟩)), (10, .int .i64 r155.2), (40, .bool false)] [.is (((r44.2 : Int) != 0) = false)] hf173 (by kernel_rfl) ⟨(neF c174), trivial⟩ fun a175 hf176 => ?_
      refine thenN ?_
      refine condF hf176 (by kernel_rfl) ?_
      refine wp_skip ?_
      refine thenN ?_
      refine wp_seq ?_
      refine wp_seq ?_
      obtain ⟨r177, H1, H0⟩ := ob_split H0
      refine wpJoin (Mid := fun (a : Act) (w : World) => r177 = 1 ∧ Fr 127 a [(0, .slice A0 x0.length c0), (2, .int .i64 x2), (4, .pointer (some ⟨b21, 0, none⟩)), (7, .pointer (some ⟨b141, 0, none⟩)), (9, .pointer (some ⟨b160, 0, none⟩)), (65, .bool false)] ∧ Mem [] M w0 [.bx b160 [.slice A161 y157.T.length c162, .slice A163 y157.G.length c164, .slice A165 y157.V.length c166] 65, .ow kTensor 29 A161 c162 y157.T, .ow kTensor 29 A163 c164 y157.G, .ow (Kd.int .i64) 3 A165 c166 y157.V, .bx b141 [.slice A142 y46.l.length c143, .slice A144 y46.vers.length c145, .slice A146 y46.grads.length c147] 72, .ow kTensor 29 A142 c143 y46.l, .ow (Kd.int .i64) 3 A144 c145 y46.vers, .ow kTensor 29 A146 c147 y46.grads, .bx b21 [.slice A1_0 x1.Shape.length c1_0, .slice A1_1 x1.Data.length c1_1] 29, .sl kTensor A0 c0 x0, .sl (Kd.int .i64) A1_0 c1_0 x1.Shape, .sl Kd.float A1_1 c1_1 x1.Data] w) ?_ ?_
      · intro J838
        refine wpJoin (Mid := fun (a : Act) (w : World) => r177 = 0 ∧ Fr 127 a [(0, .slice A0 x0.length c0), (2, .int .i64 x2), (4, .pointer (some ⟨b21, 0, none⟩)), (7, .pointer (some ⟨b141, 0, none⟩)), (9, .pointer (some ⟨b160, 0, none⟩)), (65, .bool true)] ∧ Mem [] M w0 [.bx b160 [.slice A161 y157.T.length c162, .slice A163 y157.G.length c164, .slice A165 y157.V.length c166] 65, .ow kTensor 29 A161 c162 y157.T, .ow kTensor 29 A163 c164 y157.G, .ow (Kd.int .i64) 3 A165 c166 y157.V, .bx b141 [.slice A142 y46.l.length c143, .slice A144 y46.vers.length c145, .slice A146 y46.grads.length c147] 72, .ow kTensor 29 A142 c143 y46.l, .ow (Kd.int .i64) 3 A144 c145 y46.vers, .ow kTensor 29 A146 c147 y46.grads, .bx b21 [.slice A1_0 x1.Shape.length c1_0, .slice A1_1 x1.Data.length c1_1] 29, .sl kTensor A0 c0 x0, .sl (Kd.int .i64) A1_0 c1_0 x1.Shape, .sl Kd.float A1_1 c1_1 x1.Data] w) ?_ ?_
        · intro J839
          rcases if_split H1 with ⟨c840, H1⟩ | ⟨c840, H1⟩
          rotate_left
          · refine regQ [.bool false] [0, 2, 4, 7, 9, 65] [(0, .slice A0 x0.length c0), (2, .int .i64 x2), (4, .pointer (some ⟨b21, 0, none⟩)), (7, .pointer (some ⟨b141, 0, none⟩)), (9, .pointer (some ⟨b160, 0, none⟩)), (65, .bool false)] [.is (decide (0 ≤ x2) = false)] (by kernel_rfl) (by kernel_rfl) hf176 (by kernel_rfl) ⟨(decide_eq_false c840), trivial⟩ fun a962 w964 hf963 hg965 => ?_
            have hm966 := hm171.still hg965
            exact J838 _ _ ⟨(Option.some.inj H1).symm, hf963.sel (l := [0, 2, 4, 7, 9, 65]) (by kernel_rfl), hm966.sel [0, 1, 2, 3, 4, 5, 6, 7, 8, 9, 10, 11] _ rfl (by kernel_rfl)⟩
          rcases if_split H1 with ⟨c841, H1⟩ | ⟨c841, H1⟩
          rotate_left
          · refine regQ [.bool true, .bool false] [0, 2, 4, 7, 9, 65] [(0, .slice A0 x0.length c0), (2, .int .i64 x2), (4, .pointer (some ⟨b21, 0, none⟩)), (7, .pointer (some ⟨b141, 0, none⟩)), (9, .pointer (some ⟨b160, 0, none⟩)), (65, .bool false)] [.is (decide (0 ≤ x2) = true), .is (decide (x2 < (x0.length : Int)) = false)] (by kernel_rfl) (by kernel_rfl) hf176 (by kernel_rfl) ⟨(decide_eq_true c840), (decide_eq_false c841), trivial⟩ fun a957 w959 hf958 hg960 => ?_
            have hm961 := hm171.still hg960
            exact J838 _ _ ⟨(Option.some.inj H1).symm, hf958.sel (l := [0, 2, 4, 7, 9, 65]) (by kernel_rfl), hm961.sel [0, 1, 2, 3, 4, 5, 6, 7, 8, 9, 10, 11] _ rfl (by kernel_rfl)⟩
          obtain ⟨r842, hr842, H1⟩ := ob_split H1
          rcases ifb_split H1 with ⟨c843, H1⟩ | ⟨c843, H1⟩
          rotate_left
          · refine midReg (fun (a : Act) (w : World) => Fr 127 a [(0, .slice A0 x0.length c0), (2, .int .i64 x2), (4, .pointer (some ⟨b21, 0, none⟩)), (7, .pointer (some ⟨b141, 0, none⟩)), (9, .pointer (some ⟨b160, 0, none⟩)), (65, .bool false)] ∧ Mem [] M w0 [.bx b160 [.slice A161 y157.T.length c162, .slice A163 y157.G.length c164, .slice A165 y157.V.length c166] 65, .ow kTensor 29 A161 c162 y157.T, .ow kTensor 29 A163 c164 y157.G, .ow (Kd.int .i64) 3 A165 c166 y157.V, .bx b141 [.slice A142 y46.l.length c143, .slice A144 y46.vers.length c145, .slice A146 y46.grads.length c147] 72, .ow kTensor 29 A142 c143 y46.l, .ow (Kd.int .i64) 3 A144 c145 y46.vers, .ow kTensor 29 A146 c147 y46.grads, .bx b21 [.slice A1_0 x1.Shape.length c1_0, .slice A1_1 x1.Data.length c1_1] 29, .sl kTensor A0 c0 x0, .sl (Kd.int .i64) A1_0 c1_0 x1.Shape, .sl Kd.float A1_1 c1_1 x1.Data] w) ?_ ?_
            · refine anyG (K := []) [] (by kernel_rfl) fun w932 hg933 => ?_
              have hm934 := hm171.still hg933
              refine quiet0 [0, 1, 2, 3, 4, 5, 6, 7, 8, 9] [.bool true, .bool true, .agg #[.slice A1_0 x1.Shape.length c1_0, .slice A1_1 x1.Data.length c1_1]] [0, 2, 4, 7, 9, 52, 53] #[true, true, true, true, true, true, true, true, true, true, false, false, false, false, false, false, false, false, false, false, false, false] [(0, .slice A0 x0.length c0), (2, .int .i64 x2), (4, .pointer (some ⟨b21, 0, none⟩)), (7, .pointer (some ⟨b141, 0, none⟩)), (9, .pointer (some ⟨b160, 0, none⟩)), (52, .bool true), (53, .agg #[.slice A1_0 x1.Shape.length c1_0, .slice A1_1 x1.Data.length c1_1])] [.is (decide (0 ≤ x2) = true), .is (decide (x2 < (x0.length : Int)) = true), .cell ⟨b21, 0, none⟩ (.slice A1_0 x1.Shape.length c1_0), .cell ⟨b21, 1, none⟩ (.slice A1_1 x1.Data.length c1_1)] 12 rfl (by kernel_rfl) (fun _ _ _ _ _ h => nomatch h.1) hf176 (by kernel_rfl) ⟨(decide_eq_true c840), (decide_eq_true c841), (hm934.cell 8 rfl rfl), (hm934.cell 8 rfl rfl), trivial⟩ fun a944 hf945 => ?_
              refine all1 10 (by kernel_rfl) ?_
              refine opOf hf945 rfl (by kernel_rfl) (aCall (fid := 21) (args := [.agg #[.slice A1_0 x1.Shape.length c1_0, .slice A1_1 x1.Data.length c1_1]]) (d := 54) hf945 (by kernel_rfl) (by kernel_rfl) callable21 (ref1_TensorMay.calls _ _ x1 A1_0 x1.Shape.length c1_0 rfl A1_1 x1.Data.length c1_1 rfl (hm934.give [10, 11] [.sl (Kd.int .i64) A1_0 c1_0 x1.Shape, .sl Kd.float A1_1 c1_1 x1.Data] rfl rfl) r842 hr842) ?_)
              rintro _ w946 a947 ⟨rfl, hk949⟩ hf948
              refine ⟨.inr (Gr.still hk949.cum.none), ?_⟩
              have hm950 := hm934.still hk949.cum.none
              rw [c843] at hf948
              refine quiet0 [11, 12, 13, 14, 15, 16, 17, 18, 19, 20, 21] [] [0, 2, 4, 7, 9, 65] #[true, true, true, true, true, true, true, true, true, true, true, true, true, true, true, true, true, true, true, true, true, true] [(0, .slice A0 x0.length c0), (2, .int .i64 x2), (4, .pointer (some ⟨b21, 0, none⟩)), (7, .pointer (some ⟨b141, 0, none⟩)), (9, .pointer (some ⟨b160, 0, none⟩)), (65, .bool false)] [] 0 rfl (by kernel_rfl) (fun _ _ _ _ _ h => nomatch h.1) hf948 (by kernel_rfl) trivial fun a951 hf952 => ?_
              refine allDone (by kernel_rfl) ⟨rfl, hf952.sel (l := [0, 2, 4, 7, 9, 65]) (by kernel_rfl), hm950.sel [0, 1, 2, 3, 4, 5, 6, 7, 8, 9, 10, 11] _ rfl (by kernel_rfl)⟩
            rintro a953 w954 ⟨hf955, hm956⟩
            exact J838 _ _ ⟨(Option.some.inj H1).symm, hf955.sel (l := [0, 2, 4, 7, 9, 65]) (by kernel_rfl), hm956.sel [0, 1, 2, 3, 4, 5, 6, 7, 8, 9, 10, 11] _ rfl (by kernel_rfl)⟩
          obtain ⟨g844, H1⟩ := if_guard H1
          obtain ⟨r845, hr845, H1⟩ := ob_split H1
          refine midReg (fun (a : Act) (w : World) => Fr 127 a [(0, .slice A0 x0.length c0), (2, .int .i64 x2), (4, .pointer (some ⟨b21, 0, none⟩)), (7, .pointer (some ⟨b141, 0, none⟩)), (9, .pointer (some ⟨b160, 0, none⟩)), (65, .bool r845)] ∧ Mem [] M w0 [.bx b160 [.slice A161 y157.T.length c162, .slice A163 y157.G.length c164, .slice A165 y157.V.length c166] 65, .ow kTensor 29 A161 c162 y157.T, .ow kTensor 29 A163 c164 y157.G, .ow (Kd.int .i64) 3 A165 c166 y157.V, .bx b141 [.slice A142 y46.l.length c143, .slice A144 y46.vers.length c145, .slice A146 y46.grads.length c147] 72, .ow kTensor 29 A142 c143 y46.l, .ow (Kd.int .i64) 3 A144 c145 y46.vers, .ow kTensor 29 A146 c147 y46.grads, .bx b21 [.slice A1_0 x1.Shape.length c1_0, .slice A1_1 x1.Data.length c1_1] 29, .sl kTensor A0 c0 x0, .sl (Kd.int .i64) A1_0 c1_0 x1.Shape, .sl Kd.float A1_1 c1_1 x1.Data] w) ?_ ?_
          · refine anyG (K := []) [] (by kernel_rfl) fun w867 hg868 => ?_
            have hm869 := hm171.still hg868
            refine quiet0 [0, 1, 2, 3, 4, 5, 6, 7, 8, 9] [.bool true, .bool true, .agg #[.slice A1_0 x1.Shape.length c1_0, .slice A1_1 x1.Data.length c1_1]] [0, 2, 4, 7, 9, 52, 53] #[true, true, true, true, true, true, true, true, true, true, false, false, false, false, false, false, false, false, false, false, false, false] [(0, .slice A0 x0.length c0), (2, .int .i64 x2), (4, .pointer (some ⟨b21, 0, none⟩)), (7, .pointer (some ⟨b141, 0, none⟩)), (9, .pointer (some ⟨b160, 0, none⟩)), (52, .bool true), (53, .agg #[.slice A1_0 x1.Shape.length c1_0, .slice A1_1 x1.Data.length c1_1])] [.is (decide (0 ≤ x2) = true), .is (decide (x2 < (x0.length : Int)) = true), .cell ⟨b21, 0, none⟩ (.slice A1_0 x1.Shape.length c1_0), .cell ⟨b21, 1, none⟩ (.slice A1_1 x1.Data.length c1_1)] 12 rfl (by kernel_rfl) (fun _ _ _ _ _ h => nomatch h.1) hf176 (by kernel_rfl) ⟨(decide_eq_true c840), (decide_eq_true c841), (hm869.cell 8 rfl rfl), (hm869.cell 8 rfl rfl), trivial⟩ fun a896 hf897 => ?_
            refine all1 10 (by kernel_rfl) ?_
            refine opOf hf897 rfl (by kernel_rfl) (aCall (fid := 21) (args := [.agg #[.slice A1_0 x1.Shape.length c1_0, .slice A1_1 x1.Data.length c1_1]]) (d := 54) hf897 (by kernel_rfl) (by kernel_rfl) callable21 (ref1_TensorMay.calls _ _ x1 A1_0 x1.Shape.length c1_0 rfl A1_1 x1.Data.length c1_1 rfl (hm869.give [10, 11] [.sl (Kd.int .i64) A1_0 c1_0 x1.Shape, .sl Kd.float A1_1 c1_1 x1.Data] rfl rfl) r842 hr842) ?_)
            rintro _ w898 a899 ⟨rfl, hk901⟩ hf900
            refine ⟨.inr (Gr.still hk901.cum.none), ?_⟩
            have hm902 := hm869.still hk901.cum.none
            rw [c843] at hf900
            have q903 := (hm902.slAt 9 rfl).get x2 g844.1 g844.2
            obtain ⟨us904, hr905, hc906⟩ := q903.2
            obtain ⟨A907, c908, A909, c910, rfl, ⟨pA907, sA907⟩, ⟨pA909, sA909⟩⟩ := kTensor.open hr905
            have hm911 := hm902.elem pA907 sA907
            have hm912 := hm911.elem pA909 sA909
            refine quiet0 [11, 12, 13, 14, 15, 16, 17, 18, 19] [.slice A1_0 x1.Shape.length c1_0, .slice A907 (((rd x0 x2).Shape).length) c908] [0, 2, 4, 7, 9, 56, 58, 63] #[true, true, true, true, true, true, true, true, true, true, true, true, true, true, true, true, true, true, true, true, false, false] [(0, .slice A0 x0.length c0), (2, .int .i64 x2), (4, .pointer (some ⟨b21, 0, none⟩)), (7, .pointer (some ⟨b141, 0, none⟩)), (9, .pointer (some ⟨b160, 0, none⟩)), (56, .bool true), (58, .slice A1_0 x1.Shape.length c1_0), (63, .slice A907 (((rd x0 x2).Shape).length) c908)] [.cell ⟨b21, 0, none⟩ (.slice A1_0 x1.Shape.length c1_0), .is (Option.isSome A0 = true), .is (0 ≤ x2 ∧ x2 < (x0.length : Int)), .cell ((ad A0).add ((x2).toNat * 2)) (.slice A907 (((rd x0 x2).Shape).length) c908)] 2 rfl (by kernel_rfl) (fun _ _ _ _ _ h => nomatch h.1) hf900 (by kernel_rfl) ⟨(hm902.cell 8 rfl rfl), q903.1, g844, (hc906 0 _ rfl), trivial⟩ fun a913 hf914 => ?_
            refine all1 20 (by kernel_rfl) ?_
            refine opOf hf914 rfl (by kernel_rfl) (aCall (fid := 22) (args := [.slice A1_0 x1.Shape.length c1_0, .slice A907 (((rd x0 x2).Shape).length) c908]) (d := 64) hf914 (by kernel_rfl) (by kernel_rfl) callable22 (ref1_SameInts.calls _ _ x1.Shape A1_0 x1.Shape.length c1_0 rfl ((rd x0 x2).Shape) A907 (((rd x0 x2).Shape).length) c908 rfl (hm912.give [12, 1] [.sl (Kd.int .i64) A1_0 c1_0 x1.Shape, .sl (Kd.int .i64) A907 c908 ((rd x0 x2).Shape)] rfl rfl) r845 hr845) ?_)
            rintro _ w915 a916 ⟨rfl, hk918⟩ hf917
            refine ⟨.inr (Gr.still hk918.cum.none), ?_⟩
            have hm919 := hm912.still hk918.cum.none
            refine quiet0 [21] [] [0, 2, 4, 7, 9, 65] #[true, true, true, true, true, true, true, true, true, true, true, true, true, true, true, true, true, true, true, true, true, true] [(0, .slice A0 x0.length c0), (2, .int .i64 x2), (4, .pointer (some ⟨b21, 0, none⟩)), (7, .pointer (some ⟨b141, 0, none⟩)), (9, .pointer (some ⟨b160, 0, none⟩)), (65, .bool r845)] [] 0 rfl (by kernel_rfl) (fun _ _ _ _ _ h => nomatch h.1) hf917 (by kernel_rfl) trivial fun a920 hf921 => ?_
            refine allDone (by kernel_rfl) ⟨rfl, hf921.sel (l := [0, 2, 4, 7, 9, 65]) (by kernel_rfl), hm919.sel [2, 3, 4, 5, 6, 7, 8, 9, 10, 11, 12, 13] _ rfl (by kernel_rfl)⟩
          rintro a922 w923 ⟨hf924, hm925⟩
          rcases ifb_split H1 with ⟨c926, H1⟩ | ⟨c926, H1⟩
          · rw [c926] at hf924
            exact J839 _ _ ⟨(Option.some.inj H1).symm, hf924.sel (l := [0, 2, 4, 7, 9, 65]) (by kernel_rfl), hm925.sel [0, 1, 2, 3, 4, 5, 6, 7, 8, 9, 10, 11] _ rfl (by kernel_rfl)⟩
          rw [c926] at hf924
          exact J838 _ _ ⟨(Option.some.inj H1).symm, hf924.sel (l := [0, 2, 4, 7, 9, 65]) (by kernel_rfl), hm925.sel [0, 1, 2, 3, 4, 5, 6, 7, 8, 9, 10, 11] _ rfl (by kernel_rfl)⟩
        rintro a178 w179 ⟨rfl, hf180, hm181⟩
        rw [if_pos rfl] at H0
        refine thenN ?_
        refine condT hf180 (by kernel_rfl) ?_
        refine wp_seq ?_
        obtain ⟨r182, hr182, H0⟩ := ob_split H0
        rcases if_split H0 with ⟨c183, H0⟩ | ⟨c183, H0⟩
        · refine inReg ?_
          refine go 3 [.agg #[.slice A1_0 x1.Shape.length c1_0, .slice A1_1 x1.Data.length c1_1]] [66, 67, 68] [(66, .pointer (some ⟨b141, 0, none⟩)), (67, .int .i64 x2), (68, .agg #[.slice A1_0 x1.Shape.length c1_0, .slice A1_1 x1.Data.length c1_1])] [.cell ⟨b21, 0, none⟩ (.slice A1_0 x1.Shape.length c1_0), .cell ⟨b21, 1, none⟩ (.slice A1_1 x1.Data.length c1_1)] hf180 (by kernel_rfl) ⟨(hm181.cell 8 rfl rfl), (hm181.cell 8 rfl rfl), trivial⟩ fun a184 hf185 => ?_
          refine listOf hf185 rfl (by kernel_rfl) (aCall (fid := 19) (args := [.pointer (some ⟨b141, 0, none⟩), .int .i64 x2, .agg #[.slice A1_0 x1.Shape.length c1_0, .slice A1_1 x1.Data.length c1_1]]) (d := 69) hf185 (by kernel_rfl) (by kernel_rfl) callable19 (shelf_Shelf_Set.calls _ _ _ y46 b141 A142 y46.l.length c143 rfl A144 y46.vers.length c145 rfl A146 y46.grads.length c147 rfl x2 x1 A1_0 x1.Shape.length c1_0 rfl A1_1 x1.Data.length c1_1 rfl (hm181.giveO [4, 5, 6, 7] [0, 1, 2, 3, 8, 9, 10, 11] [10, 11] [.bx b141 [.slice A142 y46.l.length c143, .slice A144 y46.vers.length c145, .slice A146 y46.grads.length c147] 72, .ow kTensor 29 A142 c143 y46.l, .ow (Kd.int .i64) 3 A144 c145 y46.vers, .ow kTensor 29 A146 c147 y46.grads] _ [.sl (Kd.int .i64) A1_0 c1_0 x1.Shape, .sl Kd.float A1_1 c1_1 x1.Data] rfl rfl rfl (by kernel_rfl) rfl) r182 hr182) ?_)
          rintro _ w190 a191 ⟨A186, c187, A188, c189, rfl, hk193⟩ hf192
          have hm194 := hm181.backO [4, 5, 6, 7] [0, 1, 2, 3, 8, 9, 10, 11] _ _ rfl rfl (by kernel_rfl) hk193
          refine go 2 [.bool true] [6] [(6, .bool true)] [.is (((r182.2.2 : Int) == 0) = true)] hf192 (by kernel_rfl) ⟨(eqT c183), trivial⟩ fun a195 hf196 => ?_
          refine endL rfl ?_
          have hm197 := hm194.sel [] _ rfl (by kernel_rfl)
          refine thenN ?_
          refine wp_ret ?_
          refine thenR ?_
          have hm198 : Mem [] M w0 [] w190 := hm197.sel [] _ rfl (by kernel_rfl)
          obtain rfl := Option.some.inj H0
          refine ret [] [.bool true] [] hf196 (by kernel_rfl) trivial ?_
          exact ⟨_, rfl, rfl, hm198⟩
        refine inReg ?_
        refine go 3 [.agg #[.slice A1_0 x1.Shape.length c1_0, .slice A1_1 x1.Data.length c1_1]] [66, 67, 68] [(66, .pointer (some ⟨b141, 0, none⟩)), (67, .int .i64 x2), (68, .agg #[.slice A1_0 x1.Shape.length c1_0, .slice A1_1 x1.Data.length c1_1])] [.cell ⟨b21, 0, none⟩ (.slice A1_0 x1.Shape.length c1_0), .cell ⟨b21, 1, none⟩ (.slice A1_1 x1.Data.length c1_1)] hf180 (by kernel_rfl) ⟨(hm181.cell 8 rfl rfl), (hm181.cell 8 rfl rfl), trivial⟩ fun a200 hf201 => ?_
        refine listOf hf201 rfl (by kernel_rfl) (aCall (fid := 19) (args := [.pointer (some ⟨b141, 0, none⟩), .int .i64 x2, .agg #[.slice A1_0 x1.Shape.length c1_0, .slice A1_1 x1.Data.length c1_1]]) (d := 69) hf201 (by kernel_rfl) (by kernel_rfl) callable19 (shelf_Shelf_Set.calls _ _ _ y46 b141 A142 y46.l.length c143 rfl A144 y46.vers.length c145 rfl A146 y46.grads.length c147 rfl x2 x1 A1_0 x1.Shape.length c1_0 rfl A1_1 x1.Data.length c1_1 rfl (hm181.giveO [4, 5, 6, 7] [0, 1, 2, 3, 8, 9, 10, 11] [10, 11] [.bx b141 [.slice A142 y46.l.length c143, .slice A144 y46.vers.length c145, .slice A146 y46.grads.length c147] 72, .ow kTensor 29 A142 c143 y46.l, .ow (Kd.int .i64) 3 A144 c145 y46.vers, .ow kTensor 29 A146 c147 y46.grads] _ [.sl (Kd.int .i64) A1_0 c1_0 x1.Shape, .sl Kd.float A1_1 c1_1 x1.Data] rfl rfl rfl (by kernel_rfl) rfl) r182 hr182) ?_)
        rintro _ w206 a207 ⟨A202, c203, A204, c205, rfl, hk209⟩ hf208
        have hm210 := hm181.backO [4, 5, 6, 7] [0, 1, 2, 3, 8, 9, 10, 11] _ _ rfl rfl (by kernel_rfl) hk209
        refine go 2 [.bool false] [6] [(6, .bool false)] [.is (((r182.2.2 : Int) == 0) = false)] hf208 (by kernel_rfl) ⟨(eqF c183), trivial⟩ fun a211 hf212 => ?_
        refine endL rfl ?_
        have hm213 := hm210.sel [] _ rfl (by kernel_rfl)
        refine thenN ?_
        refine wp_ret ?_
        refine thenR ?_
        have hm214 : Mem [] M w0 [] w206 := hm213.sel [] _ rfl (by kernel_rfl)
        obtain rfl := Option.some.inj H0
        refine ret [] [.bool false] [] hf212 (by kernel_rfl) trivial ?_
        exact ⟨_, rfl, rfl, hm214⟩
      rintro a216 w217 ⟨rfl, hf218, hm219⟩
      rw [if_neg (by decide)] at H0
      refine thenN ?_
      refine condF hf218 (by kernel_rfl) ?_
      refine wp_skip ?_
      refine thenN ?_
      refine wp_seq ?_
      obtain ⟨r220, hr220, H0⟩ := ob_split H0
      refine inReg ?_
      refine go 3 [.agg #[.slice A1_0 x1.Shape.length c1_0, .slice A1_1 x1.Data.length c1_1]] [0, 4, 7, 9, 71, 72, 73] [(0, .slice A0 x0.length c0), (4, .pointer (some ⟨b21, 0, none⟩)), (7, .pointer (some ⟨b141, 0, none⟩)), (9, .pointer (some ⟨b160, 0, none⟩)), (71, .pointer (some ⟨b141, 0, none⟩)), (72, .int .i64 x2), (73, .agg #[.slice A1_0 x1.Shape.length c1_0, .slice A1_1 x1.Data.length c1_1])] [.cell ⟨b21, 0, none⟩ (.slice A1_0 x1.Shape.length c1_0), .cell ⟨b21, 1, none⟩ (.slice A1_1 x1.Data.length c1_1)] hf218 (by kernel_rfl) ⟨(hm219.cell 8 rfl rfl), (hm219.cell 8 rfl rfl), trivial⟩ fun a221 hf222 => ?_
      refine listOf hf222 rfl (by kernel_rfl) (aCall (fid := 19) (args := [.pointer (some ⟨b141, 0, none⟩), .int .i64 x2, .agg #[.slice A1_0 x1.Shape.length c1_0, .slice A1_1 x1.Data.length c1_1]]) (d := 74) hf222 (by kernel_rfl) (by kernel_rfl) callable19 (shelf_Shelf_Set.calls _ _ _ y46 b141 A142 y46.l.length c143 rfl A144 y46.vers.length c145 rfl A146 y46.grads.length c147 rfl x2 x1 A1_0 x1.Shape.length c1_0 rfl A1_1 x1.Data.length c1_1 rfl (hm219.giveO [4, 5, 6, 7] [0, 1, 2, 3, 8, 9, 10, 11] [10, 11] [.bx b141 [.slice A142 y46.l.length c143, .slice A144 y46.vers.length c145, .slice A146 y46.grads.length c147] 72, .ow kTensor 29 A142 c143 y46.l, .ow (Kd.int .i64) 3 A144 c145 y46.vers, .ow kTensor 29 A146 c147 y46.grads] _ [.sl (Kd.int .i64) A1_0 c1_0 x1.Shape, .sl Kd.float A1_1 c1_1 x1.Data] rfl rfl rfl (by kernel_rfl) rfl) r220 hr220) ?_)
      rintro _ w227 a228 ⟨A223, c224, A225, c226, rfl, hk230⟩ hf229
      have hm231 := hm219.backO [4, 5, 6, 7] [0, 1, 2, 3, 8, 9, 10, 11] _ _ rfl rfl (by kernel_rfl) hk230
      refine go 1 [] [0, 4, 7, 9, 11] [(0, .slice A0 x0.length c0), (4, .pointer (some ⟨b21, 0, none⟩)), (7, .pointer (some ⟨b141, 0, none⟩)), (9, .pointer (some ⟨b160, 0, none⟩)), (11, .int .i64 r220.2.2)] [] hf229 (by kernel_rfl) trivial fun a232 hf233 => ?_
      refine endL rfl ?_
      refine thenN ?_
      refine wp_seq ?_
      obtain ⟨g234, H0⟩ := if_guard H0
      obtain ⟨g235, H0⟩ := if_guard H0
      refine midReg (fun (a : Act) (w : World) => ∃ (A261 : Option Addr) (c262 : Nat), Fr 127 a [(0, .slice A0 x0.length c0), (7, .pointer (some ⟨b141, 0, none⟩)), (9, .pointer (some ⟨b160, 0, none⟩)), (11, .int .i64 r220.2.2), (12, .slice A261 (((([] : List Tensor) ++ x0) ++ ([x1] : List Tensor)).length) c262)] ∧ Mem [] M w0 [.ow kTensor 29 A261 c262 ((([] : List Tensor) ++ x0) ++ ([x1] : List Tensor)), .bx b141 [.slice A223 r220.1.length c224, .slice A225 r220.2.1.length c226, .slice A146 y46.grads.length c147] 72, .ow kTensor 29 A223 c224 r220.1, .ow (Kd.int .i64) 3 A225 c226 r220.2.1, .ow kTensor 29 A146 c147 y46.grads, .bx b160 [.slice A161 y157.T.length c162, .slice A163 y157.G.length c164, .slice A165 y157.V.length c166] 65, .ow kTensor 29 A161 c162 y157.T, .ow kTensor 29 A163 c164 y157.G, .ow (Kd.int .i64) 3 A165 c166 y157.V, .sl kTensor A0 c0 x0] w) ?_ ?_
      · refine anyG (K := []) [2, 5] (by kernel_rfl) fun w273 hg274 => ?_
        have hm275 := hm231.still hg274
        refine memoStep (R := fun (a : Act) (w : World) => ∃ (b278 : Nat), Fr 127 a [(0, .slice A0 x0.length c0), (4, .pointer (some ⟨b21, 0, none⟩)), (7, .pointer (some ⟨b141, 0, none⟩)), (9, .pointer (some ⟨b160, 0, none⟩)), (11, .int .i64 r220.2.2), (75, .slice (some ⟨b278, 0, none⟩) 0 0), (76, .slice A0 x0.length c0), (78, .agg #[.slice A1_0 x1.Shape.length c1_0, .slice A1_1 x1.Data.length c1_1])] ∧ Mem [] M w0 [.ow kTensor 29 (some ⟨b278, 0, none⟩) 0 ([] : List Tensor), .bx b141 [.slice A223 r220.1.length c224, .slice A225 r220.2.1.length c226, .slice A146 y46.grads.length c147] 72, .ow kTensor 29 A223 c224 r220.1, .ow (Kd.int .i64) 3 A225 c226 r220.2.1, .ow kTensor 29 A146 c147 y46.grads, .bx b160 [.slice A161 y157.T.length c162, .slice A163 y157.G.length c164, .slice A165 y157.V.length c166] 65, .ow kTensor 29 A161 c162 y157.T, .ow kTensor 29 A163 c164 y157.G, .ow (Kd.int .i64) 3 A165 c166 y157.V, .bx b21 [.slice A1_0 x1.Shape.length c1_0, .slice A1_1 x1.Data.length c1_1] 29, .sl kTensor A0 c0 x0, .sl (Kd.int .i64) A1_0 c1_0 x1.Shape, .sl Kd.float A1_1 c1_1 x1.Data] w) #[true, true, false, true, false, false, false] 4 ?_ fun L429 => ?_
        · rintro a430 w431 ⟨b278, hf432, hm433⟩
          refine all2 2 4 (by kernel_rfl) ?_ ?_
          · have e442 : 0 = ([] : List Tensor).length := rfl
            have e443 : x0.length = x0.length := rfl
            refine opOf hf432 rfl (by kernel_rfl) (aApp (kd := kTensor) (base := 0) (E := 29) (A := (some ⟨b278, 0, none⟩)) (B := A0) (c := 0) (c2 := c0) (xs := ([] : List Tensor)) (ys := x0) (k := 0) (m := x0.length) (sz := 2) (d := 77) hf432 (by kernel_rfl) e442 e443 (by kernel_rfl) rfl (by kernel_rfl) (hm433.at 0 rfl) (hm433.at2 0 10 rfl rfl).2 (hm433.cpAt 10 rfl) (Nat.zero_le _) (by have := g234; omega) ?_)
            intro A434 c435 w436 a437 ho439 hg440 hr441 hf438
            refine ⟨.inl (by decide), ?_⟩
            have hm444 := hm433.setOwn 0 _ rfl rfl ho439 hg440 hr441
            refine all1 4 (by kernel_rfl) ?_
            refine opOf hf438 rfl (by kernel_rfl) (aLit (cs := [.slice A1_0 x1.Shape.length c1_0, .slice A1_1 x1.Data.length c1_1]) (E := 29) (len := 1) (d := 79) hf438 (by kernel_rfl) (by kernel_rfl) ?_)
            intro b445 w446 a447 hbb445 hx449 hg450 hf448
            refine ⟨.inr (Gr.still hg450), ?_⟩
            have hm444s := hm444.still hg450
            have hm451 := Mem.lit (kd := kTensor) (xs := ([x1] : List Tensor)) hm444 hbb445 hx449 hg450 (Els.one (kd := kTensor) (us := [.slice A1_0 x1.Shape.length c1_0, .slice A1_1 x1.Data.length c1_1]) (x := x1) (kTensor.mk x1 ⟨hm444s.cpAt 11 rfl, (hm444s.slAt 11 rfl)⟩ ⟨hm444s.cpAt 12 rfl, (hm444s.slAt 12 rfl)⟩))
            refine all1 5 (by kernel_rfl) ?_
            have e460 : (([] : List Tensor) ++ x0).length = (([] : List Tensor) ++ x0).length := rfl
            have e461 : 1 = ([x1] : List Tensor).length := rfl
            refine opOf hf448 rfl (by kernel_rfl) (aApp (kd := kTensor) (base := 0) (E := 29) (A := A434) (B := (some ⟨b445, 0, none⟩)) (c := c435) (c2 := 1) (xs := (([] : List Tensor) ++ x0)) (ys := ([x1] : List Tensor)) (k := ((([] : List Tensor) ++ x0).length)) (m := 1) (sz := 2) (d := 80) hf448 (by kernel_rfl) e460 e461 (by kernel_rfl) rfl (by kernel_rfl) (hm451.at 1 rfl) (hm451.at2 1 0 rfl rfl).2 (hm451.cpAt 0 rfl) (Nat.zero_le _) (by have := g235; omega) ?_)
            intro A452 c453 w454 a455 ho457 hg458 hr459 hf456
            refine ⟨.inl (by decide), ?_⟩
            have hm462 := hm451.setOwn 1 _ rfl rfl ho457 hg458 hr459
            refine quiet0 [6] [] [0, 7, 9, 11, 12] #[true, true, true, true, true, true, true] [(0, .slice A0 x0.length c0), (7, .pointer (some ⟨b141, 0, none⟩)), (9, .pointer (some ⟨b160, 0, none⟩)), (11, .int .i64 r220.2.2), (12, .slice A452 (((([] : List Tensor) ++ x0) ++ ([x1] : List Tensor)).length) c453)] [] 0 rfl (by kernel_rfl) (fun _ _ _ _ _ h => nomatch h.1) hf456 (by kernel_rfl) trivial fun a463 hf464 => ?_
            refine allDone (by kernel_rfl) ⟨rfl, A452, c453, hf464.sel (l := [0, 7, 9, 11, 12]) (by kernel_rfl), hm462.sel [1, 2, 3, 4, 5, 6, 7, 8, 9, 11] _ rfl (by kernel_rfl)⟩
          · refine opOf hf432 rfl (by kernel_rfl) (aLit (cs := [.slice A1_0 x1.Shape.length c1_0, .slice A1_1 x1.Data.length c1_1]) (E := 29) (len := 1) (d := 79) hf432 (by kernel_rfl) (by kernel_rfl) ?_)
            intro b465 w466 a467 hbb465 hx469 hg470 hf468
            refine ⟨.inr (Gr.still hg470), ?_⟩
            have hm433s := hm433.still hg470
            have hm471 := Mem.lit (kd := kTensor) (xs := ([x1] : List Tensor)) hm433 hbb465 hx469 hg470 (Els.one (kd := kTensor) (us := [.slice A1_0 x1.Shape.length c1_0, .slice A1_1 x1.Data.length c1_1]) (x := x1) (kTensor.mk x1 ⟨hm433s.cpAt 11 rfl, (hm433s.slAt 11 rfl)⟩ ⟨hm433s.cpAt 12 rfl, (hm433s.slAt 12 rfl)⟩))
            refine all1 2 (by kernel_rfl) ?_
            have e480 : 0 = ([] : List Tensor).length := rfl
            have e481 : x0.length = x0.length := rfl
            refine opOf hf468 rfl (by kernel_rfl) (aApp (kd := kTensor) (base := 0) (E := 29) (A := (some ⟨b278, 0, none⟩)) (B := A0) (c := 0) (c2 := c0) (xs := ([] : List Tensor)) (ys := x0) (k := 0) (m := x0.length) (sz := 2) (d := 77) hf468 (by kernel_rfl) e480 e481 (by kernel_rfl) rfl (by kernel_rfl) (hm471.at 1 rfl) (hm471.at2 1 11 rfl rfl).2 (hm471.cpAt 11 rfl) (Nat.zero_le _) (by have := g234; omega) ?_)
            intro A472 c473 w474 a475 ho477 hg478 hr479 hf476
            refine ⟨.inl (by decide), ?_⟩
            have hm482 := hm471.setOwn 1 _ rfl rfl ho477 hg478 hr479
            refine all1 5 (by kernel_rfl) ?_
            have e491 : (([] : List Tensor) ++ x0).length = (([] : List Tensor) ++ x0).length := rfl
            have e492 : 1 = ([x1] : List Tensor).length := rfl
            refine opOf hf476 rfl (by kernel_rfl) (aApp (kd := kTensor) (base := 0) (E := 29) (A := A472) (B := (some ⟨b465, 0, none⟩)) (c := c473) (c2 := 1) (xs := (([] : List Tensor) ++ x0)) (ys := ([x1] : List Tensor)) (k := ((([] : List Tensor) ++ x0).length)) (m := 1) (sz := 2) (d := 80) hf476 (by kernel_rfl) e491 e492 (by kernel_rfl) rfl (by kernel_rfl) (hm482.at 1 rfl) (hm482.at2 1 0 rfl rfl).2 (hm482.cpAt 0 rfl) (Nat.zero_le _) (by have := g235; omega) ?_)
            intro A483 c484 w485 a486 ho488 hg489 hr490 hf487
            refine ⟨.inl (by decide), ?_⟩
            have hm493 := hm482.setOwn 1 _ rfl rfl ho488 hg489 hr490
            refine quiet0 [6] [] [0, 7, 9, 11, 12] #[true, true, true, true, true, true, true] [(0, .slice A0 x0.length c0), (7, .pointer (some ⟨b141, 0, none⟩)), (9, .pointer (some ⟨b160, 0, none⟩)), (11, .int .i64 r220.2.2), (12, .slice A483 (((([] : List Tensor) ++ x0) ++ ([x1] : List Tensor)).length) c484)] [] 0 rfl (by kernel_rfl) (fun _ _ _ _ _ h => nomatch h.1) hf487 (by kernel_rfl) trivial fun a494 hf495 => ?_
            refine allDone (by kernel_rfl) ⟨rfl, A483, c484, hf495.sel (l := [0, 7, 9, 11, 12]) (by kernel_rfl), hm493.sel [1, 2, 3, 4, 5, 6, 7, 8, 9, 11] _ rfl (by kernel_rfl)⟩
        refine memoStep (R := fun (a : Act) (w : World) => ∃ (b278 : Nat), Fr 127 a [(0, .slice A0 x0.length c0), (4, .pointer (some ⟨b21, 0, none⟩)), (7, .pointer (some ⟨b141, 0, none⟩)), (9, .pointer (some ⟨b160, 0, none⟩)), (11, .int .i64 r220.2.2), (75, .slice (some ⟨b278, 0, none⟩) 0 0), (76, .slice A0 x0.length c0)] ∧ Mem [] M w0 [.ow kTensor 29 (some ⟨b278, 0, none⟩) 0 ([] : List Tensor), .bx b141 [.slice A223 r220.1.length c224, .slice A225 r220.2.1.length c226, .slice A146 y46.grads.length c147] 72, .ow kTensor 29 A223 c224 r220.1, .ow (Kd.int .i64) 3 A225 c226 r220.2.1, .ow kTensor 29 A146 c147 y46.grads, .bx b160 [.slice A161 y157.T.length c162, .slice A163 y157.G.length c164, .slice A165 y157.V.length c166] 65, .ow kTensor 29 A161 c162 y157.T, .ow kTensor 29 A163 c164 y157.G, .ow (Kd.int .i64) 3 A165 c166 y157.V, .bx b21 [.slice A1_0 x1.Shape.length c1_0, .slice A1_1 x1.Data.length c1_1] 29, .sl kTensor A0 c0 x0, .sl (Kd.int .i64) A1_0 c1_0 x1.Shape, .sl Kd.float A1_1 c1_1 x1.Data] w) #[true, true, false, false, false, false, false] 5 ?_ fun L496 => ?_
        · rintro a497 w498 ⟨b278, hf499, hm500⟩
          refine all2 2 3 (by kernel_rfl) ?_ ?_
          · have e509 : 0 = ([] : List Tensor).length := rfl
            have e510 : x0.length = x0.length := rfl
            refine opOf hf499 rfl (by kernel_rfl) (aApp (kd := kTensor) (base := 0) (E := 29) (A := (some ⟨b278, 0, none⟩)) (B := A0) (c := 0) (c2 := c0) (xs := ([] : List Tensor)) (ys := x0) (k := 0) (m := x0.length) (sz := 2) (d := 77) hf499 (by kernel_rfl) e509 e510 (by kernel_rfl) rfl (by kernel_rfl) (hm500.at 0 rfl) (hm500.at2 0 10 rfl rfl).2 (hm500.cpAt 10 rfl) (Nat.zero_le _) (by have := g234; omega) ?_)
            intro A501 c502 w503 a504 ho506 hg507 hr508 hf505
            refine ⟨.inl (by decide), ?_⟩
            have hm511 := hm500.setOwn 0 _ rfl rfl ho506 hg507 hr508
            refine all1 3 (by kernel_rfl) ?_
            refine opOf hf505 rfl (by kernel_rfl) (aOne [.agg #[.slice A1_0 x1.Shape.length c1_0, .slice A1_1 x1.Data.length c1_1]] (.agg #[.slice A1_0 x1.Shape.length c1_0, .slice A1_1 x1.Data.length c1_1]) [.cell ⟨b21, 0, none⟩ (.slice A1_0 x1.Shape.length c1_0), .cell ⟨b21, 1, none⟩ (.slice A1_1 x1.Data.length c1_1)] 78 hf505 (by kernel_rfl) rfl (by kernel_rfl) ⟨(hm511.cell 9 rfl rfl), (hm511.cell 9 rfl rfl), trivial⟩ fun a512 hf513 => ?_)
            refine ⟨.inr (Gr.refl _ _), ?_⟩
            refine all1 4 (by kernel_rfl) ?_
            refine opOf hf513 rfl (by kernel_rfl) (aLit (cs := [.slice A1_0 x1.Shape.length c1_0, .slice A1_1 x1.Data.length c1_1]) (E := 29) (len := 1) (d := 79) hf513 (by kernel_rfl) (by kernel_rfl) ?_)
            intro b514 w515 a516 hbb514 hx518 hg519 hf517
            refine ⟨.inr (Gr.still hg519), ?_⟩
            have hm511s := hm511.still hg519
            have hm520 := Mem.lit (kd := kTensor) (xs := ([x1] : List Tensor)) hm511 hbb514 hx518 hg519 (Els.one (kd := kTensor) (us := [.slice A1_0 x1.Shape.length c1_0, .slice A1_1 x1.Data.length c1_1]) (x := x1) (kTensor.mk x1 ⟨hm511s.cpAt 11 rfl, (hm511s.slAt 11 rfl)⟩ ⟨hm511s.cpAt 12 rfl, (hm511s.slAt 12 rfl)⟩))
            refine all1 5 (by kernel_rfl) ?_
            have e529 : (([] : List Tensor) ++ x0).length = (([] : List Tensor) ++ x0).length := rfl
            have e530 : 1 = ([x1] : List Tensor).length := rfl
            refine opOf hf517 rfl (by kernel_rfl) (aApp (kd := kTensor) (base := 0) (E := 29) (A := A501) (B := (some ⟨b514, 0, none⟩)) (c := c502) (c2 := 1) (xs := (([] : List Tensor) ++ x0)) (ys := ([x1] : List Tensor)) (k := ((([] : List Tensor) ++ x0).length)) (m := 1) (sz := 2) (d := 80) hf517 (by kernel_rfl) e529 e530 (by kernel_rfl) rfl (by kernel_rfl) (hm520.at 1 rfl) (hm520.at2 1 0 rfl rfl).2 (hm520.cpAt 0 rfl) (Nat.zero_le _) (by have := g235; omega) ?_)
            intro A521 c522 w523 a524 ho526 hg527 hr528 hf525
            refine ⟨.inl (by decide), ?_⟩
            have hm531 := hm520.setOwn 1 _ rfl rfl ho526 hg527 hr528
            refine quiet0 [6] [] [0, 7, 9, 11, 12] #[true, true, true, true, true, true, true] [(0, .slice A0 x0.length c0), (7, .pointer (some ⟨b141, 0, none⟩)), (9, .pointer (some ⟨b160, 0, none⟩)), (11, .int .i64 r220.2.2), (12, .slice A521 (((([] : List Tensor) ++ x0) ++ ([x1] : List Tensor)).length) c522)] [] 0 rfl (by kernel_rfl) (fun _ _ _ _ _ h => nomatch h.1) hf525 (by kernel_rfl) trivial fun a532 hf533 => ?_
            refine allDone (by kernel_rfl) ⟨rfl, A521, c522, hf533.sel (l := [0, 7, 9, 11, 12]) (by kernel_rfl), hm531.sel [1, 2, 3, 4, 5, 6, 7, 8, 9, 11] _ rfl (by kernel_rfl)⟩
          · refine opOf hf499 rfl (by kernel_rfl) (aOne [.agg #[.slice A1_0 x1.Shape.length c1_0, .slice A1_1 x1.Data.length c1_1]] (.agg #[.slice A1_0 x1.Shape.length c1_0, .slice A1_1 x1.Data.length c1_1]) [.cell ⟨b21, 0, none⟩ (.slice A1_0 x1.Shape.length c1_0), .cell ⟨b21, 1, none⟩ (.slice A1_1 x1.Data.length c1_1)] 78 hf499 (by kernel_rfl) rfl (by kernel_rfl) ⟨(hm500.cell 9 rfl rfl), (hm500.cell 9 rfl rfl), trivial⟩ fun a534 hf535 => ?_)
            refine ⟨.inr (Gr.refl _ _), ?_⟩
            exact L429 _ _ ⟨b278, hf535.sel (l := [0, 4, 7, 9, 11, 75, 76, 78]) (by kernel_rfl), hm500.sel [0, 1, 2, 3, 4, 5, 6, 7, 8, 9, 10, 11, 12] _ rfl (by kernel_rfl)⟩
        refine memoStep (R := fun (a : Act) (w : World) => Fr 127 a [(0, .slice A0 x0.length c0), (4, .pointer (some ⟨b21, 0, none⟩)), (7, .pointer (some ⟨b141, 0, none⟩)), (9, .pointer (some ⟨b160, 0, none⟩)), (11, .int .i64 r220.2.2), (76, .slice A0 x0.length c0), (78, .agg #[.slice A1_0 x1.Shape.length c1_0, .slice A1_1 x1.Data.length c1_1])] ∧ Mem [] M w0 [.bx b141 [.slice A223 r220.1.length c224, .slice A225 r220.2.1.length c226, .slice A146 y46.grads.length c147] 72, .ow kTensor 29 A223 c224 r220.1, .ow (Kd.int .i64) 3 A225 c226 r220.2.1, .ow kTensor 29 A146 c147 y46.grads, .bx b160 [.slice A161 y157.T.length c162, .slice A163 y157.G.length c164, .slice A165 y157.V.length c166] 65, .ow kTensor 29 A161 c162 y157.T, .ow kTensor 29 A163 c164 y157.G, .ow (Kd.int .i64) 3 A165 c166 y157.V, .bx b21 [.slice A1_0 x1.Shape.length c1_0, .slice A1_1 x1.Data.length c1_1] 29, .sl kTensor A0 c0 x0, .sl (Kd.int .i64) A1_0 c1_0 x1.Shape, .sl Kd.float A1_1 c1_1 x1.Data] w) #[false, true, false, true, false, false, false] 5 ?_ fun L536 => ?_
        · rintro a537 w538 ⟨hf539, hm540⟩
          refine all2 0 4 (by kernel_rfl) ?_ ?_
          · refine opOf hf539 rfl (by kernel_rfl) (aLit (cs := []) (E := 29) (len := 0) (d := 75) hf539 (by kernel_rfl) (by kernel_rfl) ?_)
            intro b541 w542 a543 hbb541 hx545 hg546 hf544
            refine ⟨.inr (Gr.still hg546), ?_⟩
            have hm547 : Mem [] M w0 [.ow kTensor 29 (some ⟨b541, 0, none⟩) 0 ([] : List Tensor), .bx b141 [.slice A223 r220.1.length c224, .slice A225 r220.2.1.length c226, .slice A146 y46.grads.length c147] 72, .ow kTensor 29 A223 c224 r220.1, .ow (Kd.int .i64) 3 A225 c226 r220.2.1, .ow kTensor 29 A146 c147 y46.grads, .bx b160 [.slice A161 y157.T.length c162, .slice A163 y157.G.length c164, .slice A165 y157.V.length c166] 65, .ow kTensor 29 A161 c162 y157.T, .ow kTensor 29 A163 c164 y157.G, .ow (Kd.int .i64) 3 A165 c166 y157.V, .bx b21 [.slice A1_0 x1.Shape.length c1_0, .slice A1_1 x1.Data.length c1_1] 29, .sl kTensor A0 c0 x0, .sl (Kd.int .i64) A1_0 c1_0 x1.Shape, .sl Kd.float A1_1 c1_1 x1.Data] w542 := Mem.litOwn (kd := kTensor) (xs := ([] : List Tensor)) hm540 hbb541 hx545 hg546 (Els.nil) (by simp [maxLen])
            exact L429 _ _ ⟨b541, hf544.sel (l := [0, 4, 7, 9, 11, 75, 76, 78]) (by kernel_rfl), hm547.sel [0, 1, 2, 3, 4, 5, 6, 7, 8, 9, 10, 11, 12] _ rfl (by kernel_rfl)⟩
          · refine opOf hf539 rfl (by kernel_rfl) (aLit (cs := [.slice A1_0 x1.Shape.length c1_0, .slice A1_1 x1.Data.length c1_1]) (E := 29) (len := 1) (d := 79) hf539 (by kernel_rfl) (by kernel_rfl) ?_)
            intro b548 w549 a550 hbb548 hx552 hg553 hf551
            refine ⟨.inr (Gr.still hg553), ?_⟩
            have hm540s := hm540.still hg553
            have hm554 := Mem.lit (kd := kTensor) (xs := ([x1] : List Tensor)) hm540 hbb548 hx552 hg553 (Els.one (kd := kTensor) (us := [.slice A1_0 x1.Shape.length c1_0, .slice A1_1 x1.Data.length c1_1]) (x := x1) (kTensor.mk x1 ⟨hm540s.cpAt 10 rfl, (hm540s.slAt 10 rfl)⟩ ⟨hm540s.cpAt 11 rfl, (hm540s.slAt 11 rfl)⟩))
            refine all1 0 (by kernel_rfl) ?_
            refine opOf hf551 rfl (by kernel_rfl) (aLit (cs := []) (E := 29) (len := 0) (d := 75) hf551 (by kernel_rfl) (by kernel_rfl) ?_)
            intro b555 w556 a557 hbb555 hx559 hg560 hf558
            refine ⟨.inr (Gr.still hg560), ?_⟩
            have hm561 : Mem [] M w0 [.ow kTensor 29 (some ⟨b555, 0, none⟩) 0 ([] : List Tensor), .sl kTensor (some ⟨b548, 0, none⟩) 1 ([x1] : List Tensor), .bx b141 [.slice A223 r220.1.length c224, .slice A225 r220.2.1.length c226, .slice A146 y46.grads.length c147] 72, .ow kTensor 29 A223 c224 r220.1, .ow (Kd.int .i64) 3 A225 c226 r220.2.1, .ow kTensor 29 A146 c147 y46.grads, .bx b160 [.slice A161 y157.T.length c162, .slice A163 y157.G.length c164, .slice A165 y157.V.length c166] 65, .ow kTensor 29 A161 c162 y157.T, .ow kTensor 29 A163 c164 y157.G, .ow (Kd.int .i64) 3 A165 c166 y157.V, .bx b21 [.slice A1_0 x1.Shape.length c1_0, .slice A1_1 x1.Data.length c1_1] 29, .sl kTensor A0 c0 x0, .sl (Kd.int .i64) A1_0 c1_0 x1.Shape, .sl Kd.float A1_1 c1_1 x1.Data] w556 := Mem.litOwn (kd := kTensor) (xs := ([] : List Tensor)) hm554 hbb555 hx559 hg560 (Els.nil) (by simp [maxLen])
            refine all1 2 (by kernel_rfl) ?_
            have e570 : 0 = ([] : List Tensor).length := rfl
            have e571 : x0.length = x0.length := rfl
            refine opOf hf558 rfl (by kernel_rfl) (aApp (kd := kTensor) (base := 0) (E := 29) (A := (some ⟨b555, 0, none⟩)) (B := A0) (c := 0) (c2 := c0) (xs := ([] : List Tensor)) (ys := x0) (k := 0) (m := x0.length) (sz := 2) (d := 77) hf558 (by kernel_rfl) e570 e571 (by kernel_rfl) rfl (by kernel_rfl) (hm561.at 0 rfl) (hm561.at2 0 11 rfl rfl).2 (hm561.cpAt 11 rfl) (Nat.zero_le _) (by have := g234; omega) ?_)
            intro A562 c563 w564 a565 ho567 hg568 hr569 hf566
            refine ⟨.inl (by decide), ?_⟩
            have hm572 := hm561.setOwn 0 _ rfl rfl ho567 hg568 hr569
            refine all1 5 (by kernel_rfl) ?_
            have e581 : (([] : List Tensor) ++ x0).length = (([] : List Tensor) ++ x0).length := rfl
            have e582 : 1 = ([x1] : List Tensor).length := rfl
            refine opOf hf566 rfl (by kernel_rfl) (aApp (kd := kTensor) (base := 0) (E := 29) (A := A562) (B := (some ⟨b548, 0, none⟩)) (c := c563) (c2 := 1) (xs := (([] : List Tensor) ++ x0)) (ys := ([x1] : List Tensor)) (k := ((([] : List Tensor) ++ x0).length)) (m := 1) (sz := 2) (d := 80) hf566 (by kernel_rfl) e581 e582 (by kernel_rfl) rfl (by kernel_rfl) (hm572.at 0 rfl) (hm572.at2 0 1 rfl rfl).2 (hm572.cpAt 1 rfl) (Nat.zero_le _) (by have := g235; omega) ?_)
            intro A573 c574 w575 a576 ho578 hg579 hr580 hf577
            refine ⟨.inl (by decide), ?_⟩
            have hm583 := hm572.setOwn 0 _ rfl rfl ho578 hg579 hr580
            refine quiet0 [6] [] [0, 7, 9, 11, 12] #[true, true, true, true, true, true, true] [(0, .slice A0 x0.length c0), (7, .pointer (some ⟨b141, 0, none⟩)), (9, .pointer (some ⟨b160, 0, none⟩)), (11, .int .i64 r220.2.2), (12, .slice A573 (((([] : List Tensor) ++ x0) ++ ([x1] : List Tensor)).length) c574)] [] 0 rfl (by kernel_rfl) (fun _ _ _ _ _ h => nomatch h.1) hf577 (by kernel_rfl) trivial fun a584 hf585 => ?_
            refine allDone (by kernel_rfl) ⟨rfl, A573, c574, hf585.sel (l := [0, 7, 9, 11, 12]) (by kernel_rfl), hm583.sel [0, 2, 3, 4, 5, 6, 7, 8, 9, 11] _ rfl (by kernel_rfl)⟩
        refine memoStep (R := fun (a : Act) (w : World) => Fr 127 a [(0, .slice A0 x0.length c0), (4, .pointer (some ⟨b21, 0, none⟩)), (7, .pointer (some ⟨b141, 0, none⟩)), (9, .pointer (some ⟨b160, 0, none⟩)), (11, .int .i64 r220.2.2), (76, .slice A0 x0.length c0)] ∧ Mem [] M w0 [.bx b141 [.slice A223 r220.1.length c224, .slice A225 r220.2.1.length c226, .slice A146 y46.grads.length c147] 72, .ow kTensor 29 A223 c224 r220.1, .ow (Kd.int .i64) 3 A225 c226 r220.2.1, .ow kTensor 29 A146 c147 y46.grads, .bx b160 [.slice A161 y157.T.length c162, .slice A163 y157.G.length c164, .slice A165 y157.V.length c166] 65, .ow kTensor 29 A161 c162 y157.T, .ow kTensor 29 A163 c164 y157.G, .ow (Kd.int .i64) 3 A165 c166 y157.V, .bx b21 [.slice A1_0 x1.Shape.length c1_0, .slice A1_1 x1.Data.length c1_1] 29, .sl kTensor A0 c0 x0, .sl (Kd.int .i64) A1_0 c1_0 x1.Shape, .sl Kd.float A1_1 c1_1 x1.Data] w) #[false, true, false, false, false, false, false] 6 ?_ fun L586 => ?_
        · rintro a587 w588 ⟨hf589, hm590⟩
          refine all2 0 3 (by kernel_rfl) ?_ ?_
          · refine opOf hf589 rfl (by kernel_rfl) (aLit (cs := []) (E := 29) (len := 0) (d := 75) hf589 (by kernel_rfl) (by kernel_rfl) ?_)
            intro b591 w592 a593 hbb591 hx595 hg596 hf594
            refine ⟨.inr (Gr.still hg596), ?_⟩
            have hm597 : Mem [] M w0 [.ow kTensor 29 (some ⟨b591, 0, none⟩) 0 ([] : List Tensor), .bx b141 [.slice A223 r220.1.length c224, .slice A225 r220.2.1.length c226, .slice A146 y46.grads.length c147] 72, .ow kTensor 29 A223 c224 r220.1, .ow (Kd.int .i64) 3 A225 c226 r220.2.1, .ow kTensor 29 A146 c147 y46.grads, .bx b160 [.slice A161 y157.T.length c162, .slice A163 y157.G.length c164, .slice A165 y157.V.length c166] 65, .ow kTensor 29 A161 c162 y157.T, .ow kTensor 29 A163 c164 y157.G, .ow (Kd.int .i64) 3 A165 c166 y157.V, .bx b21 [.slice A1_0 x1.Shape.length c1_0, .slice A1_1 x1.Data.length c1_1] 29, .sl kTensor A0 c0 x0, .sl (Kd.int .i64) A1_0 c1_0 x1.Shape, .sl Kd.float A1_1 c1_1 x1.Data] w592 := Mem.litOwn (kd := kTensor) (xs := ([] : List Tensor)) hm590 hbb591 hx595 hg596 (Els.nil) (by simp [maxLen])
            exact L496 _ _ ⟨b591, hf594.sel (l := [0, 4, 7, 9, 11, 75, 76]) (by kernel_rfl), hm597.sel [0, 1, 2, 3, 4, 5, 6, 7, 8, 9, 10, 11, 12] _ rfl (by kernel_rfl)⟩
          · refine opOf hf589 rfl (by kernel_rfl) (aOne [.agg #[.slice A1_0 x1.Shape.length c1_0, .slice A1_1 x1.Data.length c1_1]] (.agg #[.slice A1_0 x1.Shape.length c1_0, .slice A1_1 x1.Data.length c1_1]) [.cell ⟨b21, 0, none⟩ (.slice A1_0 x1.Shape.length c1_0), .cell ⟨b21, 1, none⟩ (.slice A1_1 x1.Data.length c1_1)] 78 hf589 (by kernel_rfl) rfl (by kernel_rfl) ⟨(hm590.cell 8 rfl rfl), (hm590.cell 8 rfl rfl), trivial⟩ fun a598 hf599 => ?_)
            refine ⟨.inr (Gr.refl _ _), ?_⟩
            exact L536 _ _ ⟨hf599.sel (l := [0, 4, 7, 9, 11, 76, 78]) (by kernel_rfl), hm590.sel [0, 1, 2, 3, 4, 5, 6, 7, 8, 9, 10, 11] _ rfl (by kernel_rfl)⟩
        refine quiet0 [1] [] [0, 4, 7, 9, 11, 76] #[false, true, false, false, false, false, false] [(0, .slice A0 x0.length c0), (4, .pointer (some ⟨b21, 0, none⟩)), (7, .pointer (some ⟨b141, 0, none⟩)), (9, .pointer (some ⟨b160, 0, none⟩)), (11, .int .i64 r220.2.2), (76, .slice A0 x0.length c0)] [] 6 rfl (by kernel_rfl) (fun _ _ _ _ _ h => nomatch h.1) hf233 (by kernel_rfl) trivial fun a600 hf601 => ?_
        exact L586 _ _ ⟨hf601.sel (l := [0, 4, 7, 9, 11, 76]) (by kernel_rfl), hm275.sel [0, 1, 2, 3, 4, 5, 6, 7, 8, 9, 10, 11] _ rfl (by kernel_rfl)⟩
      rintro a602 w603 ⟨A261, c262, hf604, hm605⟩
      refine thenN ?_
      refine wp_seq ?_
      obtain ⟨r606, hr606, H0⟩ := ob_split H0
      refine inReg ?_
      refine go 2 [] [0, 7, 9, 11, 81, 82] [(0, .slice A0 x0.length c0), (7, .pointer (some ⟨b141, 0, none⟩)), (9, .pointer (some ⟨b160, 0, none⟩)), (11, .int .i64 r220.2.2), (81, .pointer (some ⟨b141, 0, none⟩)), (82, .slice A261 (((([] : List Tensor) ++ x0) ++ ([x1] : List Tensor)).length) c262)] [] hf604 (by kernel_rfl) trivial fun a607 hf608 => ?_
      have hm609 := hm605.seal 0 _ rfl rfl
      refine listOf hf608 rfl (by kernel_rfl) (aCall (fid := 11) (args := [.pointer (some ⟨b141, 0, none⟩), .slice A261 (((([] : List Tensor) ++ x0) ++ ([x1] : List Tensor)).length) c262]) (d := 83) hf608 (by kernel_rfl) (by kernel_rfl) callable11 (shelf_Shelf_Commit.calls _ _ _ (⟨r220.1, r220.2.1, y46.grads⟩ : Shelf) b141 A223 r220.1.length c224 rfl A225 r220.2.1.length c226 rfl A146 y46.grads.length c147 rfl ((([] : List Tensor) ++ x0) ++ ([x1] : List Tensor)) A261 (((([] : List Tensor) ++ x0) ++ ([x1] : List Tensor)).length) c262 rfl (hm609.giveO [1, 2, 3, 4] [0, 5, 6, 7, 8, 9] [0] [.bx b141 [.slice A223 r220.1.length c224, .slice A225 r220.2.1.length c226, .slice A146 y46.grads.length c147] 72, .ow kTensor 29 A223 c224 r220.1, .ow (Kd.int .i64) 3 A225 c226 r220.2.1, .ow kTensor 29 A146 c147 y46.grads] _ [.sl kTensor A261 c262 ((([] : List Tensor) ++ x0) ++ ([x1] : List Tensor))] rfl rfl rfl (by kernel_rfl) rfl) r606 hr606) ?_)
      rintro _ w612 a613 ⟨A610, c611, rfl, hk615⟩ hf614
      have hm616 := hm609.backO [1, 2, 3, 4] [0, 5, 6, 7, 8, 9] _ _ rfl rfl (by kernel_rfl) hk615
      refine go 1 [] [0, 7, 9, 11, 13] [(0, .slice A0 x0.length c0), (7, .pointer (some ⟨b141, 0, none⟩)), (9, .pointer (some ⟨b160, 0, none⟩)), (11, .int .i64 r220.2.2), (13, .int .i64 r606.2)] [] hf614 (by kernel_rfl) trivial fun a617 hf618 => ?_
      refine endL rfl ?_
      have hm619 := hm616.sel [0, 1, 2, 3, 5, 6, 7, 8, 9] _ rfl (by kernel_rfl)
      refine thenN ?_
      refine wp_seq ?_
      refine reg [] [0, 7, 9, 11, 13, 14] [(0, .slice A0 x0.length c0), (7, .pointer (some ⟨b141, 0, none⟩)), (9, .pointer (some ⟨b160, 0, none⟩)), (11, .int .i64 r220.2.2), (13, .int .i64 r606.2), (14, .int .i64 r220.2.2)] [] hf618 (by kernel_rfl) trivial fun a620 hf621 => ?_
      refine thenN ?_
      refine wp_seq ?_
      refine wp_seq ?_
      rcases if_split H0 with ⟨c622, H0⟩ | ⟨c622, H0⟩
      rotate_left
      · refine reg [.bool false] [0, 7, 9, 11, 13, 14, 87] [(0, .slice A0 x0.length c0), (7, .pointer (some ⟨b141, 0, none⟩)), (9, .pointer (some ⟨b160, 0, none⟩)), (11, .int .i64 r220.2.2), (13, .int .i64 r606.2), (14, .int .i64 r220.2.2), (87, .bool false)] [.is (decide (0 < (x0.length : Int)) = false)] hf621 (by kernel_rfl) ⟨(decide_eq_false c622), trivial⟩ fun a811 hf812 => ?_
        refine thenN ?_
        refine condF hf812 (by kernel_rfl) ?_
        refine wp_skip ?_
        refine thenN ?_
        refine wp_seq ?_
        rcases if_split H0 with ⟨c813, H0⟩ | ⟨c813, H0⟩
        · refine reg [.bool false] [6] [(6, .bool false)] [.is (((r220.2.2 : Int) != 0) = false)] hf812 (by kernel_rfl) ⟨(neF c813), trivial⟩ fun a814 hf815 => ?_
          have hm816 := hm619.sel [] _ rfl (by kernel_rfl)
          refine thenN ?_
          refine wp_ret ?_
          have hm817 : Mem [] M w0 [] w612 := hm816.sel [] _ rfl (by kernel_rfl)
          obtain rfl := Option.some.inj H0
          refine ret [] [.bool false] [] hf815 (by kernel_rfl) trivial ?_
          exact ⟨_, rfl, rfl, hm817⟩
        rcases if_split H0 with ⟨c819, H0⟩ | ⟨c819, H0⟩
        rotate_left
        · refine reg [.bool true, .bool false] [6] [(6, .bool false)] [.is (((r220.2.2 : Int) != 0) = true), .is (((r606.2 : Int) == 1) = false)] hf812 (by kernel_rfl) ⟨(neT c813), (eqF c819), trivial⟩ fun a833 hf834 => ?_
          have hm835 := hm619.sel [] _ rfl (by kernel_rfl)
          refine thenN ?_
          refine wp_ret ?_
          have hm836 : Mem [] M w0 [] w612 := hm835.sel [] _ rfl (by kernel_rfl)
          obtain rfl := Option.some.inj H0
          refine ret [] [.bool false] [] hf834 (by kernel_rfl) trivial ?_
          exact ⟨_, rfl, rfl, hm836⟩
        obtain ⟨r820, hr820, H0⟩ := ob_split H0
        refine inReg ?_
        refine go 13 [.bool true, .bool true, .bool true] [122, 123, 124] [(122, .bool true), (123, .pointer (some ⟨b141, 0, none⟩)), (124, .pointer (some ⟨b160, 0, none⟩))] [.is (((r220.2.2 : Int) != 0) = true), .is (((r606.2 : Int) == 1) = true), .is (((r220.2.2 : Int) != 0) = true)] hf812 (by kernel_rfl) ⟨(neT c813), (eqT c819), (neT c813), trivial⟩ fun a821 hf822 => ?_
        refine listOf hf822 rfl (by kernel_rfl) (aCall (fid := 18) (args := [.pointer (some ⟨b141, 0, none⟩), .pointer (some ⟨b160, 0, none⟩)]) (d := 125) hf822 (by kernel_rfl) (by kernel_rfl) callable18 (law19_Same.calls _ _ _ (⟨r220.1, r220.2.1, r606.1⟩ : Shelf) b141 A223 r220.1.length c224 rfl A225 r220.2.1.length c226 rfl A610 r606.1.length c611 rfl y157 b160 A161 y157.T.length c162 rfl A163 y157.G.length c164 rfl A165 y157.V.length c166 rfl (hm619.giveO [0, 1, 2, 3, 4, 5, 6, 7] [8] [] [.bx b141 [.slice A223 r220.1.length c224, .slice A225 r220.2.1.length c226, .slice A610 r606.1.length c611] 72, .ow kTensor 29 A223 c224 r220.1, .ow (Kd.int .i64) 3 A225 c226 r220.2.1, .ow kTensor 29 A610 c611 r606.1, .bx b160 [.slice A161 y157.T.length c162, .slice A163 y157.G.length c164, .slice A165 y157.V.length c166] 65, .ow kTensor 29 A161 c162 y157.T, .ow kTensor 29 A163 c164 y157.G, .ow (Kd.int .i64) 3 A165 c166 y157.V] _ [] rfl rfl rfl (by kernel_rfl) rfl) r820 hr820) ?_)
        rintro _ w823 a824 ⟨rfl, hk826⟩ hf825
        have hm827 := hm619.backO [0, 1, 2, 3, 4, 5, 6, 7] [8] _ _ rfl rfl (by kernel_rfl) hk826
        refine go 2 [] [6] [(6, .bool r820)] [] hf825 (by kernel_rfl) trivial fun a828 hf829 => ?_
        refine endL rfl ?_
        have hm830 := hm827.sel [] _ rfl (by kernel_rfl)
        refine thenN ?_
        refine wp_ret ?_
        have hm831 : Mem [] M w0 [] w823 := hm830.sel [] _ rfl (by kernel_rfl)
        obtain rfl := Option.some.inj H0
        refine ret [] [.bool r820] [] hf829 (by kernel_rfl) trivial ?_
        exact ⟨_, rfl, rfl, hm831⟩
      refine reg [.bool true] [0, 7, 9, 11, 13, 14, 87] [(0, .slice A0 x0.length c0), (7, .pointer (some ⟨b141, 0, none⟩)), (9, .pointer (some ⟨b160, 0, none⟩)), (11, .int .i64 r220.2.2), (13, .int .i64 r606.2), (14, .int .i64 r220.2.2), (87, .bool true)] [.is (decide (0 < (x0.length : Int)) = true)] hf621 (by kernel_rfl) ⟨(decide_eq_true c622), trivial⟩ fun a623 hf624 => ?_
      refine thenN ?_
      refine condT hf624 (by kernel_rfl) ?_
      refine wp_seq ?_
      refine inReg ?_
      refine listOf hf624 rfl (by kernel_rfl) (aLit (cs := []) (E := 29) (len := 0) (d := 88) hf624 (by kernel_rfl) (by kernel_rfl) ?_)
      intro b625 w626 a627 hbb625 hx629 hg630 hf628
      have hm631 : Mem [] M w0 [.ow kTensor 29 (some ⟨b625, 0, none⟩) 0 ([] : List Tensor), .bx b141 [.slice A223 r220.1.length c224, .slice A225 r220.2.1.length c226, .slice A610 r606.1.length c611] 72, .ow kTensor 29 A223 c224 r220.1, .ow (Kd.int .i64) 3 A225 c226 r220.2.1, .ow kTensor 29 A610 c611 r606.1, .bx b160 [.slice A161 y157.T.length c162, .slice A163 y157.G.length c164, .slice A165 y157.V.length c166] 65, .ow kTensor 29 A161 c162 y157.T, .ow kTensor 29 A163 c164 y157.G, .ow (Kd.int .i64) 3 A165 c166 y157.V, .sl kTensor A0 c0 x0] w626 := Mem.litOwn (kd := kTensor) (xs := ([] : List Tensor)) hm619 hbb625 hx629 hg630 (Els.nil) (by simp [maxLen])
      refine go 1 [] [0, 7, 9, 11, 13, 14, 88, 89] [(0, .slice A0 x0.length c0), (7, .pointer (some ⟨b141, 0, none⟩)), (9, .pointer (some ⟨b160, 0, none⟩)), (11, .int .i64 r220.2.2), (13, .int .i64 r606.2), (14, .int .i64 r220.2.2), (88, .slice (some ⟨b625, 0, none⟩) 0 0), (89, .slice A0 x0.length c0)] [] hf628 (by kernel_rfl) trivial fun a632 hf633 => ?_
      have e642 : 0 = ([] : List Tensor).length := rfl
      have e643 : x0.length = x0.length := rfl
      refine listOf hf633 rfl (by kernel_rfl) (aApp (kd := kTensor) (base := 0) (E := 29) (A := (some ⟨b625, 0, none⟩)) (B := A0) (c := 0) (c2 := c0) (xs := ([] : List Tensor)) (ys := x0) (k := 0) (m := x0.length) (sz := 2) (d := 90) hf633 (by kernel_rfl) e642 e643 (by kernel_rfl) rfl (by kernel_rfl) (hm631.at 0 rfl) (hm631.at2 0 9 rfl rfl).2 (hm631.cpAt 9 rfl) (Nat.zero_le _) (by have := g234; omega) ?_)
      intro A634 c635 w636 a637 ho639 hg640 hr641 hf638
      have hm644 := hm631.setOwn 0 _ rfl rfl ho639 hg640 hr641
      refine go 1 [] [0, 7, 9, 11, 12, 13, 14] [(0, .slice A0 x0.length c0), (7, .pointer (some ⟨b141, 0, none⟩)), (9, .pointer (some ⟨b160, 0, none⟩)), (11, .int .i64 r220.2.2), (12, .slice A634 ((([] : List Tensor) ++ x0).length) c635), (13, .int .i64 r606.2), (14, .int .i64 r220.2.2)] [] hf638 (by kernel_rfl) trivial fun a645 hf646 => ?_
      refine endL rfl ?_
      refine thenN ?_
      refine wp_seq ?_
      obtain ⟨g647, H0⟩ := if_guard H0
      refine inReg ?_
      refine go 4 [] [0, 7, 9, 11, 12, 13, 14, 91, 94] [(0, .slice A0 x0.length c0), (7, .pointer (some ⟨b141, 0, none⟩)), (9, .pointer (some ⟨b160, 0, none⟩)), (11, .int .i64 r220.2.2), (12, .slice A634 ((([] : List Tensor) ++ x0).length) c635), (13, .int .i64 r606.2), (14, .int .i64 r220.2.2), (91, .slice A634 ((([] : List Tensor) ++ x0).length) c635), (94, .int .i64 (w64 ((((([] : List Tensor) ++ x0).length : Nat) : Int) - 1)))] [] hf646 (by kernel_rfl) trivial fun a648 hf649 => ?_
      refine listOf hf649 rfl (by kernel_rfl) (aLit (cs := [.int .i64 3, .int .i64 3, .int .i64 3]) (E := 3) (len := 3) (d := 95) hf649 (by kernel_rfl) (by kernel_rfl) ?_)
      intro b650 w651 a652 hbb650 hx654 hg655 hf653
      have hm644s := hm644.still hg655
      have hm656 := Mem.lit (kd := (Kd.int .i64)) (xs := ([3, 3, 3] : List Int)) hm644 hbb650 hx654 hg655 (Els.append (Els.one (kd := (Kd.int .i64)) (us := [.int .i64 3]) (x := 3) rfl) (Els.append (Els.one (kd := (Kd.int .i64)) (us := [.int .i64 3]) (x := 3) rfl) (Els.one (kd := (Kd.int .i64)) (us := [.int .i64 3]) (x := 3) rfl)))
      refine listOf hf653 rfl (by kernel_rfl) (aMake (kd := Kd.float) (x := 0) (E := 26) (L := 27) (z := [.float .f64 0]) (sz := 1) (d := 96) hf653 (by kernel_rfl) (by kernel_rfl) rfl (fun _ _ => ⟨0, rfl, FR.lit (by kernel_rfl) (by kernel_rfl)⟩) (by decide) (by decide) ?_)
      intro A657 c658 w659 a660 ho662 hb664 hg663 hf661
      have hm665 : Mem [] M w0 [.ow Kd.float 26 A657 c658 (List.replicate (27 : Int).toNat (0 : Nat)), .sl (Kd.int .i64) (some ⟨b650, 0, none⟩) 3 ([3, 3, 3] : List Int), .ow kTensor 29 A634 c635 (([] : List Tensor) ++ x0), .bx b141 [.slice A223 r220.1.length c224, .slice A225 r220.2.1.length c226, .slice A610 r606.1.length c611] 72, .ow kTensor 29 A223 c224 r220.1, .ow (Kd.int .i64) 3 A225 c226 r220.2.1, .ow kTensor 29 A610 c611 r606.1, .bx b160 [.slice A161 y157.T.length c162, .slice A163 y157.G.length c164, .slice A165 y157.V.length c166] 65, .ow kTensor 29 A161 c162 y157.T, .ow kTensor 29 A163 c164 y157.G, .ow (Kd.int .i64) 3 A165 c166 y157.V, .sl kTensor A0 c0 x0] w659 := hm656.own (ho662 _) hg663
      have hm666 := hm665.seal 0 _ rfl rfl
      have q667 := (hm666.owAt 2 rfl).cells (w64 ((((([] : List Tensor) ++ x0).length : Nat) : Int) - 1)) g647.1 g647.2
      obtain ⟨us668, hr669, hc670⟩ := q667.2
      obtain ⟨A671, c672, A673, c674, rfl, ⟨pA671, sA671⟩, ⟨pA673, sA673⟩⟩ := kTensor.open hr669
      have hm675 := hm666.elem pA671 sA671
      have hm676 := hm675.elem pA673 sA673
      refine go 2 [] [0, 7, 9, 11, 12, 13, 14, 97, 98] [(0, .slice A0 x0.length c0), (7, .pointer (some ⟨b141, 0, none⟩)), (9, .pointer (some ⟨b160, 0, none⟩)), (11, .int .i64 r220.2.2), (12, .slice A634 ((([] : List Tensor) ++ x0).length) c635), (13, .int .i64 r606.2), (14, .int .i64 r220.2.2), (97, .agg #[.slice (some ⟨b650, 0, none⟩) 3 3, .slice A657 ((List.replicate (27 : Int).toNat (0 : Nat)).length) c658]), (98, .pointer (some ((ad A634).add (((w64 ((((([] : List Tensor) ++ x0).length : Nat) : Int) - 1))).toNat * 2))))] [.is (Option.isSome A634 = true), .is (0 ≤ (w64 ((((([] : List Tensor) ++ x0).length : Nat) : Int) - 1)) ∧ (w64 ((((([] : List Tensor) ++ x0).length : Nat) : Int) - 1)) < (((([] : List Tensor) ++ x0).length : Nat) : Int))] hf661 (by kernel_rfl) ⟨q667.1, g647, trivial⟩ fun a677 hf678 => ?_
      refine listOf hf678 rfl (by kernel_rfl) (aStoreO (kd := kTensor) (base := 0) (E := 29) (A := A634) (c := c635) (xs := (([] : List Tensor) ++ x0)) (i := (w64 ((((([] : List Tensor) ++ x0).length : Nat) : Int) - 1))) (x := (⟨([3, 3, 3] : List Int), (List.replicate (27 : Int).toNat (0 : Nat))⟩ : Tensor)) (us := [.slice (some ⟨b650, 0, none⟩) 3 3, .slice A657 ((List.replicate (27 : Int).toNat (0 : Nat)).length) c658]) (sz := 2) hf678 (by kernel_rfl) rfl (by kernel_rfl) (hm676.at 4 rfl) (kTensor.mk (⟨([3, 3, 3] : List Int), (List.replicate (27 : Int).toNat (0 : Nat))⟩ : Tensor) ⟨hm676.cpAt 3 rfl, (hm676.at2 4 3 rfl rfl).2⟩ ⟨hm676.cpAt 2 rfl, (hm676.at2 4 2 rfl rfl).2⟩) g647.1 g647.2 ?_)
      intro w679 hx680 hg681
      have hm682 := hm676.setOwn 4 _ rfl rfl hx680 hg681 (.inl rfl)
      refine endL rfl ?_
      have hm683 := hm682.sel [4, 5, 6, 7, 8, 9, 10, 11, 12, 13] _ rfl (by kernel_rfl)
      refine thenN ?_
      refine wp_seq ?_
      obtain ⟨g684, H0⟩ := if_guard H0
      obtain ⟨r685, hr685, H0⟩ := ob_split H0
      rcases ifb_split H0 with ⟨c686, H0⟩ | ⟨c686, H0⟩
      · have q687 := (hm683.slAt 9 rfl).get (w64 ((x0.length : Int) - 1)) g684.1 g684.2
        obtain ⟨us688, hr689, hc690⟩ := q687.2
        obtain ⟨A691, c692, A693, c694, rfl, ⟨pA691, sA691⟩, ⟨pA693, sA693⟩⟩ := kTensor.open hr689
        have hm695 := hm683.elem pA691 sA691
        have hm696 := hm695.elem pA693 sA693
        refine inReg ?_
        refine go 7 [.slice A691 (((rd x0 (w64 ((x0.length : Int) - 1))).Shape).length) c692] [7, 9, 11, 12, 13, 14, 105] [(7, .pointer (some ⟨b141, 0, none⟩)), (9, .pointer (some ⟨b160, 0, none⟩)), (11, .int .i64 r220.2.2), (12, .slice A634 ((([] : List Tensor) ++ x0).length) c635), (13, .int .i64 r606.2), (14, .int .i64 r220.2.2), (105, .slice A691 (((rd x0 (w64 ((x0.length : Int) - 1))).Shape).length) c692)] [.is (Option.isSome A0 = true), .is (0 ≤ (w64 ((x0.length : Int) - 1)) ∧ (w64 ((x0.length : Int) - 1)) < (x0.length : Int)), .cell ((ad A0).add (((w64 ((x0.length : Int) - 1))).toNat * 2)) (.slice A691 (((rd x0 (w64 ((x0.length : Int) - 1))).Shape).length) c692)] hf678 (by kernel_rfl) ⟨q687.1, g684, (hc690 0 _ rfl), trivial⟩ fun a697 hf698 => ?_
        refine listOf hf698 rfl (by kernel_rfl) (aLit (cs := [.int .i64 3, .int .i64 3, .int .i64 3]) (E := 3) (len := 3) (d := 106) hf698 (by kernel_rfl) (by kernel_rfl) ?_)
        intro b699 w700 a701 hbb699 hx703 hg704 hf702
        have hm696s := hm696.still hg704
        have hm705 := Mem.lit (kd := (Kd.int .i64)) (xs := ([3, 3, 3] : List Int)) hm696 hbb699 hx703 hg704 (Els.append (Els.one (kd := (Kd.int .i64)) (us := [.int .i64 3]) (x := 3) rfl) (Els.append (Els.one (kd := (Kd.int .i64)) (us := [.int .i64 3]) (x := 3) rfl) (Els.one (kd := (Kd.int .i64)) (us := [.int .i64 3]) (x := 3) rfl)))
        refine listOf hf702 rfl (by kernel_rfl) (aCall (fid := 22) (args := [.slice A691 (((rd x0 (w64 ((x0.length : Int) - 1))).Shape).length) c692, .slice (some ⟨b699, 0, none⟩) 3 3]) (d := 107) hf702 (by kernel_rfl) (by kernel_rfl) callable22 (ref1_SameInts.calls _ _ ((rd x0 (w64 ((x0.length : Int) - 1))).Shape) A691 (((rd x0 (w64 ((x0.length : Int) - 1))).Shape).length) c692 rfl ([3, 3, 3] : List Int) (some ⟨b699, 0, none⟩) 3 3 rfl (hm705.give [2, 0] [.sl (Kd.int .i64) A691 c692 ((rd x0 (w64 ((x0.length : Int) - 1))).Shape), .sl (Kd.int .i64) (some ⟨b699, 0, none⟩) 3 ([3, 3, 3] : List Int)] rfl rfl) r685 hr685) ?_)
        rintro _ w706 a707 ⟨rfl, hk709⟩ hf708
        have hm710 := hm705.still hk709.cum.none
        rw [c686] at hf708
        refine go 1 [] [7, 9, 11, 12, 13, 14, 108] [(7, .pointer (some ⟨b141, 0, none⟩)), (9, .pointer (some ⟨b160, 0, none⟩)), (11, .int .i64 r220.2.2), (12, .slice A634 ((([] : List Tensor) ++ x0).length) c635), (13, .int .i64 r606.2), (14, .int .i64 r220.2.2), (108, .bool false)] [] hf708 (by kernel_rfl) trivial fun a711 hf712 => ?_
        refine endL rfl ?_
        have hm713 := hm710.sel [3, 4, 5, 6, 7, 8, 9, 10, 11] _ rfl (by kernel_rfl)
        refine thenN ?_
        refine condF hf712 (by kernel_rfl) ?_
        refine wp_skip ?_
        refine thenN ?_
        refine wp_seq ?_
        rcases if_split H0 with ⟨c714, H0⟩ | ⟨c714, H0⟩
        · refine reg [.bool false] [6] [(6, .bool false)] [.is (((r220.2.2 : Int) != 0) = false)] hf712 (by kernel_rfl) ⟨(neF c714), trivial⟩ fun a715 hf716 => ?_
          have hm717 := hm713.sel [] _ rfl (by kernel_rfl)
          refine thenN ?_
          refine wp_ret ?_
          have hm718 : Mem [] M w0 [] w706 := hm717.sel [] _ rfl (by kernel_rfl)
          obtain rfl := Option.some.inj H0
          refine ret [] [.bool false] [] hf716 (by kernel_rfl) trivial ?_
          exact ⟨_, rfl, rfl, hm718⟩
        rcases if_split H0 with ⟨c720, H0⟩ | ⟨c720, H0⟩
        rotate_left
        · refine reg [.bool true, .bool false] [6] [(6, .bool false)] [.is (((r220.2.2 : Int) != 0) = true), .is (((r606.2 : Int) == 1) = false)] hf712 (by kernel_rfl) ⟨(neT c714), (eqF c720), trivial⟩ fun a734 hf735 => ?_
          have hm736 := hm713.sel [] _ rfl (by kernel_rfl)
          refine thenN ?_
          refine wp_ret ?_
          have hm737 : Mem [] M w0 [] w706 := hm736.sel [] _ rfl (by kernel_rfl)
          obtain rfl := Option.some.inj H0
          refine ret [] [.bool false] [] hf735 (by kernel_rfl) trivial ?_
          exact ⟨_, rfl, rfl, hm737⟩
        obtain ⟨r721, hr721, H0⟩ := ob_split H0
        refine inReg ?_
        refine go 13 [.bool true, .bool true, .bool true] [122, 123, 124] [(122, .bool true), (123, .pointer (some ⟨b141, 0, none⟩)), (124, .pointer (some ⟨b160, 0, none⟩))] [.is (((r220.2.2 : Int) != 0) = true), .is (((r606.2 : Int) == 1) = true), .is (((r220.2.2 : Int) != 0) = true)] hf712 (by kernel_rfl) ⟨(neT c714), (eqT c720), (neT c714), trivial⟩ fun a722 hf723 => ?_
        refine listOf hf723 rfl (by kernel_rfl) (aCall (fid := 18) (args := [.pointer (some ⟨b141, 0, none⟩), .pointer (some ⟨b160, 0, none⟩)]) (d := 125) hf723 (by kernel_rfl) (by kernel_rfl) callable18 (law19_Same.calls _ _ _ (⟨r220.1, r220.2.1, r606.1⟩ : Shelf) b141 A223 r220.1.length c224 rfl A225 r220.2.1.length c226 rfl A610 r606.1.length c611 rfl y157 b160 A161 y157.T.length c162 rfl A163 y157.G.length c164 rfl A165 y157.V.length c166 rfl (hm713.giveO [1, 2, 3, 4, 5, 6, 7, 8] [0] [] [.bx b141 [.slice A223 r220.1.length c224, .slice A225 r220.2.1.length c226, .slice A610 r606.1.length c611] 72, .ow kTensor 29 A223 c224 r220.1, .ow (Kd.int .i64) 3 A225 c226 r220.2.1, .ow kTensor 29 A610 c611 r606.1, .bx b160 [.slice A161 y157.T.length c162, .slice A163 y157.G.length c164, .slice A165 y157.V.length c166] 65, .ow kTensor 29 A161 c162 y157.T, .ow kTensor 29 A163 c164 y157.G, .ow (Kd.int .i64) 3 A165 c166 y157.V] _ [] rfl rfl rfl (by kernel_rfl) rfl) r721 hr721) ?_)
        rintro _ w724 a725 ⟨rfl, hk727⟩ hf726
        have hm728 := hm713.backO [1, 2, 3, 4, 5, 6, 7, 8] [0] _ _ rfl rfl (by kernel_rfl) hk727
        refine go 2 [] [6] [(6, .bool r721)] [] hf726 (by kernel_rfl) trivial fun a729 hf730 => ?_
        refine endL rfl ?_
        have hm731 := hm728.sel [] _ rfl (by kernel_rfl)
        refine thenN ?_
        refine wp_ret ?_
        have hm732 : Mem [] M w0 [] w724 := hm731.sel [] _ rfl (by kernel_rfl)
        obtain rfl := Option.some.inj H0
        refine ret [] [.bool r721] [] hf730 (by kernel_rfl) trivial ?_
        exact ⟨_, rfl, rfl, hm732⟩
      have q739 := (hm683.slAt 9 rfl).get (w64 ((x0.length : Int) - 1)) g684.1 g684.2
      obtain ⟨us740, hr741, hc742⟩ := q739.2
      obtain ⟨A743, c744, A745, c746, rfl, ⟨pA743, sA743⟩, ⟨pA745, sA745⟩⟩ := kTensor.open hr741
      have hm747 := hm683.elem pA743 sA743
      have hm748 := hm747.elem pA745 sA745
      refine inReg ?_
      refine go 7 [.slice A743 (((rd x0 (w64 ((x0.length : Int) - 1))).Shape).length) c744] [7, 9, 11, 12, 13, 14, 105] [(7, .pointer (some ⟨b141, 0, none⟩)), (9, .pointer (some ⟨b160, 0, none⟩)), (11, .int .i64 r220.2.2), (12, .slice A634 ((([] : List Tensor) ++ x0).length) c635), (13, .int .i64 r606.2), (14, .int .i64 r220.2.2), (105, .slice A743 (((rd x0 (w64 ((x0.length : Int) - 1))).Shape).length) c744)] [.is (Option.isSome A0 = true), .is (0 ≤ (w64 ((x0.length : Int) - 1)) ∧ (w64 ((x0.length : Int) - 1)) < (x0.length : Int)), .cell ((ad A0).add (((w64 ((x0.length : Int) - 1))).toNat * 2)) (.slice A743 (((rd x0 (w64 ((x0.length : Int) - 1))).Shape).length) c744)] hf678 (by kernel_rfl) ⟨q739.1, g684, (hc742 0 _ rfl), trivial⟩ fun a749 hf750 => ?_
      refine listOf hf750 rfl (by kernel_rfl) (aLit (cs := [.int .i64 3, .int .i64 3, .int .i64 3]) (E := 3) (len := 3) (d := 106) hf750 (by kernel_rfl) (by kernel_rfl) ?_)
      intro b751 w752 a753 hbb751 hx755 hg756 hf754
      have hm748s := hm748.still hg756
      have hm757 := Mem.lit (kd := (Kd.int .i64)) (xs := ([3, 3, 3] : List Int)) hm748 hbb751 hx755 hg756 (Els.append (Els.one (kd := (Kd.int .i64)) (us := [.int .i64 3]) (x := 3) rfl) (Els.append (Els.one (kd := (Kd.int .i64)) (us := [.int .i64 3]) (x := 3) rfl) (Els.one (kd := (Kd.int .i64)) (us := [.int .i64 3]) (x := 3) rfl)))
      refine listOf hf754 rfl (by kernel_rfl) (aCall (fid := 22) (args := [.slice A743 (((rd x0 (w64 ((x0.length : Int) - 1))).Shape).length) c744, .slice (some ⟨b751, 0, none⟩) 3 3]) (d := 107) hf754 (by kernel_rfl) (by kernel_rfl) callable22 (ref1_SameInts.calls _ _ ((rd x0 (w64 ((x0.length : Int) - 1))).Shape) A743 (((rd x0 (w64 ((x0.length : Int) - 1))).Shape).length) c744 rfl ([3, 3, 3] : List Int) (some ⟨b751, 0, none⟩) 3 3 rfl (hm757.give [2, 0] [.sl (Kd.int .i64) A743 c744 ((rd x0 (w64 ((x0.length : Int) - 1))).Shape), .sl (Kd.int .i64) (some ⟨b751, 0, none⟩) 3 ([3, 3, 3] : List Int)] rfl rfl) r685 hr685) ?_)
      rintro _ w758 a759 ⟨rfl, hk761⟩ hf760
      have hm762 := hm757.still hk761.cum.none
      rw [c686] at hf760
      refine go 1 [] [7, 9, 11, 12, 13, 14, 108] [(7, .pointer (some ⟨b141, 0, none⟩)), (9, .pointer (some ⟨b160, 0, none⟩)), (11, .int .i64 r220.2.2), (12, .slice A634 ((([] : List Tensor) ++ x0).length) c635), (13, .int .i64 r606.2), (14, .int .i64 r220.2.2), (108, .bool true)] [] hf760 (by kernel_rfl) trivial fun a763 hf764 => ?_
      refine endL rfl ?_
      have hm765 := hm762.sel [3, 4, 5, 6, 7, 8, 9, 10, 11] _ rfl (by kernel_rfl)
      refine thenN ?_
      refine condT hf764 (by kernel_rfl) ?_
      obtain ⟨r766, hr766, H0⟩ := ob_split H0
      refine inReg ?_
      refine go 2 [] [7, 9, 11, 13, 14, 109, 110] [(7, .pointer (some ⟨b141, 0, none⟩)), (9, .pointer (some ⟨b160, 0, none⟩)), (11, .int .i64 r220.2.2), (13, .int .i64 r606.2), (14, .int .i64 r220.2.2), (109, .pointer (some ⟨b141, 0, none⟩)), (110, .slice A634 ((([] : List Tensor) ++ x0).length) c635)] [] hf764 (by kernel_rfl) trivial fun a767 hf768 => ?_
      have hm769 := hm765.seal 0 _ rfl rfl
      refine listOf hf768 rfl (by kernel_rfl) (aCall (fid := 11) (args := [.pointer (some ⟨b141, 0, none⟩), .slice A634 ((([] : List Tensor) ++ x0).length) c635]) (d := 111) hf768 (by kernel_rfl) (by kernel_rfl) callable11 (shelf_Shelf_Commit.calls _ _ _ (⟨r220.1, r220.2.1, r606.1⟩ : Shelf) b141 A223 r220.1.length c224 rfl A225 r220.2.1.length c226 rfl A610 r606.1.length c611 rfl (put (([] : List Tensor) ++ x0) (w64 ((((([] : List Tensor) ++ x0).length : Nat) : Int) - 1)) (⟨([3, 3, 3] : List Int), (List.replicate (27 : Int).toNat (0 : Nat))⟩ : Tensor)) A634 ((([] : List Tensor) ++ x0).length) c635 (by simp only [put_length]) (hm769.giveO [1, 2, 3, 4] [0, 5, 6, 7, 8] [0] [.bx b141 [.slice A223 r220.1.length c224, .slice A225 r220.2.1.length c226, .slice A610 r606.1.length c611] 72, .ow kTensor 29 A223 c224 r220.1, .ow (Kd.int .i64) 3 A225 c226 r220.2.1, .ow kTensor 29 A610 c611 r606.1] _ [.sl kTensor A634 c635 (put (([] : List Tensor) ++ x0) (w64 ((((([] : List Tensor) ++ x0).length : Nat) : Int) - 1)) (⟨([3, 3, 3] : List Int), (List.replicate (27 : Int).toNat (0 : Nat))⟩ : Tensor))] rfl rfl rfl (by kernel_rfl) rfl) r766 hr766) ?_)
      rintro _ w772 a773 ⟨A770, c771, rfl, hk775⟩ hf774
      have hm776 := hm769.backO [1, 2, 3, 4] [0, 5, 6, 7, 8] _ _ rfl rfl (by kernel_rfl) hk775
      refine go 1 [] [7, 9, 11, 13, 14] [(7, .pointer (some ⟨b141, 0, none⟩)), (9, .pointer (some ⟨b160, 0, none⟩)), (11, .int .i64 r220.2.2), (13, .int .i64 r606.2), (14, .int .i64 r766.2)] [] hf774 (by kernel_rfl) trivial fun a777 hf778 => ?_
      refine endL rfl ?_
      have hm779 := hm776.sel [0, 1, 2, 3, 5, 6, 7, 8] _ rfl (by kernel_rfl)
      refine thenN ?_
      refine wp_seq ?_
      rcases if_split H0 with ⟨c780, H0⟩ | ⟨c780, H0⟩
      · refine reg [.bool false] [6] [(6, .bool false)] [.is (((r220.2.2 : Int) != 0) = false)] hf778 (by kernel_rfl) ⟨(neF c780), trivial⟩ fun a781 hf782 => ?_
        have hm783 := hm779.sel [] _ rfl (by kernel_rfl)
        refine thenN ?_
        refine wp_ret ?_
        have hm784 : Mem [] M w0 [] w772 := hm783.sel [] _ rfl (by kernel_rfl)
        obtain rfl := Option.some.inj H0
        refine ret [] [.bool false] [] hf782 (by kernel_rfl) trivial ?_
        exact ⟨_, rfl, rfl, hm784⟩
      rcases if_split H0 with ⟨c786, H0⟩ | ⟨c786, H0⟩
      rotate_left
      · refine reg [.bool true, .bool false] [6] [(6, .bool false)] [.is (((r220.2.2 : Int) != 0) = true), .is (((r606.2 : Int) == 1) = false)] hf778 (by kernel_rfl) ⟨(neT c780), (eqF c786), trivial⟩ fun a806 hf807 => ?_
        have hm808 := hm779.sel [] _ rfl (by kernel_rfl)
        refine thenN ?_
        refine wp_ret ?_
        have hm809 : Mem [] M w0 [] w772 := hm808.sel [] _ rfl (by kernel_rfl)
        obtain rfl := Option.some.inj H0
        refine ret [] [.bool false] [] hf807 (by kernel_rfl) trivial ?_
        exact ⟨_, rfl, rfl, hm809⟩
      rcases if_split H0 with ⟨c787, H0⟩ | ⟨c787, H0⟩
      · refine reg [.bool true, .bool true, .bool false] [6] [(6, .bool false)] [.is (((r220.2.2 : Int) != 0) = true), .is (((r606.2 : Int) == 1) = true), .is (((r766.2 : Int) != 0) = false)] hf778 (by kernel_rfl) ⟨(neT c780), (eqT c786), (neF c787), trivial⟩ fun a788 hf789 => ?_
        have hm790 := hm779.sel [] _ rfl (by kernel_rfl)
        refine thenN ?_
        refine wp_ret ?_
        have hm791 : Mem [] M w0 [] w772 := hm790.sel [] _ rfl (by kernel_rfl)
        obtain rfl := Option.some.inj H0
        refine ret [] [.bool false] [] hf789 (by kernel_rfl) trivial ?_
        exact ⟨_, rfl, rfl, hm791⟩
      obtain ⟨r793, hr793, H0⟩ := ob_split H0
      refine inReg ?_
      refine go 13 [.bool true, .bool true, .bool true] [122, 123, 124] [(122, .bool true), (123, .pointer (some ⟨b141, 0, none⟩)), (124, .pointer (some ⟨b160, 0, none⟩))] [.is (((r220.2.2 : Int) != 0) = true), .is (((r606.2 : Int) == 1) = true), .is (((r766.2 : Int) != 0) = true)] hf778 (by kernel_rfl) ⟨(neT c780), (eqT c786), (neT c787), trivial⟩ fun a794 hf795 => ?_
      refine listOf hf795 rfl (by kernel_rfl) (aCall (fid := 18) (args := [.pointer (some ⟨b141, 0, none⟩), .pointer (some ⟨b160, 0, none⟩)]) (d := 125) hf795 (by kernel_rfl) (by kernel_rfl) callable18 (law19_Same.calls _ _ _ (⟨r220.1, r220.2.1, r766.1⟩ : Shelf) b141 A223 r220.1.length c224 rfl A225 r220.2.1.length c226 rfl A770 r766.1.length c771 rfl y157 b160 A161 y157.T.length c162 rfl A163 y157.G.length c164 rfl A165 y157.V.length c166 rfl (hm779.giveO [0, 1, 2, 3, 4, 5, 6, 7] [] [] [.bx b141 [.slice A223 r220.1.length c224, .slice A225 r220.2.1.length c226, .slice A770 r766.1.length c771] 72, .ow kTensor 29 A223 c224 r220.1, .ow (Kd.int .i64) 3 A225 c226 r220.2.1, .ow kTensor 29 A770 c771 r766.1, .bx b160 [.slice A161 y157.T.length c162, .slice A163 y157.G.length c164, .slice A165 y157.V.length c166] 65, .ow kTensor 29 A161 c162 y157.T, .ow kTensor 29 A163 c164 y157.G, .ow (Kd.int .i64) 3 A165 c166 y157.V] _ [] rfl rfl rfl (by kernel_rfl) rfl) r793 hr793) ?_)
      rintro _ w796 a797 ⟨rfl, hk799⟩ hf798
      have hm800 := hm779.backO [0, 1, 2, 3, 4, 5, 6, 7] [] _ _ rfl rfl (by kernel_rfl) hk799
      refine go 2 [] [6] [(6, .bool r793)] [] hf798 (by kernel_rfl) trivial fun a801 hf802 => ?_
      refine endL rfl ?_
      have hm803 := hm800.sel [] _ rfl (by kernel_rfl)
      refine thenN ?_
      refine wp_ret ?_
      have hm804 : Mem [] M w0 [] w796 := hm803.sel [] _ rfl (by kernel_rfl)
      obtain rfl := Option.some.inj H0
      refine ret [] [.bool r793] [] hf802 (by kernel_rfl) trivial ?_
      exact ⟨_, rfl, rfl, hm804⟩
end Go.Proofs.Yteaoijahdinciaa
