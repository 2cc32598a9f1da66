/- Printed by gen.py. -/
import Derived.Test.YtkcgiolledmbnaaF3
import Derived.Test.YtkcgiolledmbnaaF4
namespace Go.Proofs.Ytkcgiolledmbnaa
open Go Go.RowKit
set_option linter.unusedSimpArgs false
set_option linter.unusedVariables false
set_option linter.unnecessarySimpa false
/-! ### math.IsInf -/
noncomputable def math_IsInf.f (x0 : Nat) (x1 : Int) : Option Bool :=
  if x1 = 0 then ((math_Abs.f x0).bind fun r26 =>
  if (fgt r26 9218868437227405311) = true then (some true)
  else (some false))
  else (if x1 < 0 then (if (fgt (fneg x0) 9218868437227405311) = true then (some true)
  else (some false))
  else (if (fgt x0 9218868437227405311) = true then (some true)
  else (some false)))
set_option maxRecDepth 100000 in
set_option maxHeartbeats 4000000 in
theorem math_IsInf.calls (M : List (Option Nat)) (w0 : World) (x0 : Nat) (b0 : Nat) (h0 : FR b0 x0) (x1 : Int) (hm0 : Mem [] M w0 [] w0) (r : Bool) (H0 : math_IsInf.f x0 x1 = some r) :
    Calls Try.prog 60 [.float .f64 b0, .int .i64 x1].toArray w0 (fun x w' => ∃ v, x = .returned v ∧ v = .bool r ∧ Mem [] M w0 [] w') := by
  unfold math_IsInf.f at H0
  refine enter (n := 15) Try.func60 rfl rfl (by kernel_rfl) fun a0 (hf0 : Fr 15 a0 [(0, .float .f64 b0), (1, .int .i64 x1)]) => ?_
  refine wp_seq ?_
  refine reg [] [0, 1] [(0, .float .f64 b0), (1, .int .i64 x1)] [] hf0 (by kernel_rfl) trivial fun a21 hf22 => ?_
  refine thenN ?_
  refine wp_seq ?_
  refine wp_seq ?_
  rcases if_split H0 with ⟨c23, H0⟩ | ⟨c23, H0⟩
  · refine reg [.bool true] [0, 1, 6] [(0, .float .f64 b0), (1, .int .i64 x1), (6, .bool true)] [.is (((x1 : Int) == 0) = true)] hf22 (by kernel_rfl) ⟨(eqT c23), trivial⟩ fun a24 hf25 => ?_
    refine thenN ?_
    refine condT hf25 (by kernel_rfl) ?_
    obtain ⟨r26, hr26, H0⟩ := ob_split H0
    refine inReg ?_
    refine go 1 [] [0, 7] [(0, .float .f64 b0), (7, .float .f64 b0)] [] hf25 (by kernel_rfl) trivial fun a27 hf28 => ?_
    refine listOf hf28 rfl (by kernel_rfl) (aCall (fid := 69) (args := [.float .f64 b0]) (d := 8) hf28 (by kernel_rfl) (by kernel_rfl) callable69 (math_Abs.calls _ _ x0 b0 h0 (hm0.give [] [] rfl rfl) r26 hr26) ?_)
    rintro _ w30 a31 ⟨b29, rfl, hb29, hk33⟩ hf32
    have hm34 := hm0.still hk33.cum.none
    refine go 1 [] [0] [(0, .float .f64 b29)] [] hf32 (by kernel_rfl) trivial fun a35 hf36 => ?_
    refine endL rfl ?_
    refine thenN ?_
    refine wp_seq ?_
    rcases ifb_split H0 with ⟨c37, H0⟩ | ⟨c37, H0⟩
    · refine reg [.bool true] [4] [(4, .bool true)] [.is ((FloatKind.f64.format.order b29 9218868437227405311 == some .gt) = true)] hf36 (by kernel_rfl) ⟨(ftGt hb29 (FR.lit (by kernel_rfl) (by kernel_rfl)) c37), trivial⟩ fun a38 hf39 => ?_
      refine thenN ?_
      refine wp_ret ?_
      have hm40 : Mem [] M w0 [] w30 := hm34.sel [] _ rfl (by kernel_rfl)
      obtain rfl := Option.some.inj H0
      refine ret [] [.bool true] [] hf39 (by kernel_rfl) trivial ?_
      exact ⟨_, rfl, rfl, hm40⟩
    · refine reg [.bool false] [4] [(4, .bool false)] [.is ((FloatKind.f64.format.order b29 9218868437227405311 == some .gt) = false)] hf36 (by kernel_rfl) ⟨(ftGt hb29 (FR.lit (by kernel_rfl) (by kernel_rfl)) c37), trivial⟩ fun a42 hf43 => ?_
      refine thenN ?_
      refine wp_ret ?_
      have hm44 : Mem [] M w0 [] w30 := hm34.sel [] _ rfl (by kernel_rfl)
      obtain rfl := Option.some.inj H0
      refine ret [] [.bool false] [] hf43 (by kernel_rfl) trivial ?_
      exact ⟨_, rfl, rfl, hm44⟩
  · refine reg [.bool false] [0, 1, 6] [(0, .float .f64 b0), (1, .int .i64 x1), (6, .bool false)] [.is (((x1 : Int) == 0) = false)] hf22 (by kernel_rfl) ⟨(eqF c23), trivial⟩ fun a46 hf47 => ?_
    refine thenN ?_
    refine condF hf47 (by kernel_rfl) ?_
    refine wp_seq ?_
    rcases if_split H0 with ⟨c48, H0⟩ | ⟨c48, H0⟩
    · refine reg [.bool true] [0, 10] [(0, .float .f64 b0), (10, .bool true)] [.is (decide (x1 < 0) = true)] hf47 (by kernel_rfl) ⟨(decide_eq_true c48), trivial⟩ fun a49 hf50 => ?_
      refine thenN ?_
      refine condT hf50 (by kernel_rfl) ?_
      refine reg [] [0] [(0, .float .f64 (Op.negFloat .f64 b0))] [] hf50 (by kernel_rfl) trivial fun a51 hf52 => ?_
      refine thenN ?_
      refine wp_seq ?_
      rcases ifb_split H0 with ⟨c53, H0⟩ | ⟨c53, H0⟩
      · refine reg [.bool true] [4] [(4, .bool true)] [.is ((FloatKind.f64.format.order (Op.negFloat .f64 b0) 9218868437227405311 == some .gt) = true)] hf52 (by kernel_rfl) ⟨(ftGt (FR.neg h0) (FR.lit (by kernel_rfl) (by kernel_rfl)) c53), trivial⟩ fun a54 hf55 => ?_
        refine thenN ?_
        refine wp_ret ?_
        have hm56 : Mem [] M w0 [] w0 := hm0.sel [] _ rfl (by kernel_rfl)
        obtain rfl := Option.some.inj H0
        refine ret [] [.bool true] [] hf55 (by kernel_rfl) trivial ?_
        exact ⟨_, rfl, rfl, hm56⟩
      · refine reg [.bool false] [4] [(4, .bool false)] [.is ((FloatKind.f64.format.order (Op.negFloat .f64 b0) 9218868437227405311 == some .gt) = false)] hf52 (by kernel_rfl) ⟨(ftGt (FR.neg h0) (FR.lit (by kernel_rfl) (by kernel_rfl)) c53), trivial⟩ fun a58 hf59 => ?_
        refine thenN ?_
        refine wp_ret ?_
        have hm60 : Mem [] M w0 [] w0 := hm0.sel [] _ rfl (by kernel_rfl)
        obtain rfl := Option.some.inj H0
        refine ret [] [.bool false] [] hf59 (by kernel_rfl) trivial ?_
        exact ⟨_, rfl, rfl, hm60⟩
    · refine reg [.bool false] [0, 10] [(0, .float .f64 b0), (10, .bool false)] [.is (decide (x1 < 0) = false)] hf47 (by kernel_rfl) ⟨(decide_eq_false c48), trivial⟩ fun a62 hf63 => ?_
      refine thenN ?_
      refine condF hf63 (by kernel_rfl) ?_
      refine wp_skip ?_
      refine thenN ?_
      refine wp_seq ?_
      rcases ifb_split H0 with ⟨c65, H0⟩ | ⟨c65, H0⟩
      · refine reg [.bool true] [4] [(4, .bool true)] [.is ((FloatKind.f64.format.order b0 9218868437227405311 == some .gt) = true)] hf63 (by kernel_rfl) ⟨(ftGt h0 (FR.lit (by kernel_rfl) (by kernel_rfl)) c65), trivial⟩ fun a66 hf67 => ?_
        refine thenN ?_
        refine wp_ret ?_
        have hm68 : Mem [] M w0 [] w0 := hm0.sel [] _ rfl (by kernel_rfl)
        obtain rfl := Option.some.inj H0
        refine ret [] [.bool true] [] hf67 (by kernel_rfl) trivial ?_
        exact ⟨_, rfl, rfl, hm68⟩
      · refine reg [.bool false] [4] [(4, .bool false)] [.is ((FloatKind.f64.format.order b0 9218868437227405311 == some .gt) = false)] hf63 (by kernel_rfl) ⟨(ftGt h0 (FR.lit (by kernel_rfl) (by kernel_rfl)) c65), trivial⟩ fun a70 hf71 => ?_
        refine thenN ?_
        refine wp_ret ?_
        have hm72 : Mem [] M w0 [] w0 := hm0.sel [] _ rfl (by kernel_rfl)
        obtain rfl := Option.some.inj H0
        refine ret [] [.bool false] [] hf71 (by kernel_rfl) trivial ?_
        exact ⟨_, rfl, rfl, hm72⟩

/-! ### backstitch/backstitchref1.Finite -/
noncomputable def ref1_Finite.l0 (x0 : Tensor) (s32 : Int) : Step Int (Out2 Int Bool) :=
  if s32 < (x0.Data.length : Int) then (if 0 ≤ s32 ∧ s32 < (x0.Data.length : Int) then (if (fne (rd x0.Data s32) (rd x0.Data s32)) = true then (.done (.ret false))
  else (bindS (math_IsInf.f (rd x0.Data s32) 0) fun r58 =>
  if r58 = true then (.done (.ret false))
  else (.next (w64 (s32 + 1)))))
  else .bad)
  else (.done (.go s32))
noncomputable def ref1_Finite.f (x0 : Tensor) : Option Bool :=
  (loop (ref1_Finite.l0 x0) 0).bind fun r33 =>
  r33.on (fun yr33 =>
  (ref1_TensorMay.f x0).bind fun r122 =>
  some r122) (fun y => some y)
set_option maxRecDepth 100000 in
set_option maxHeartbeats 4000000 in
theorem ref1_Finite.calls (M : List (Option Nat)) (w0 : World) (x0 : Tensor) (A0_0 : Option Addr) (n0_0 c0_0 : Nat) (e0_0 : n0_0 = x0.Shape.length) (A0_1 : Option Addr) (n0_1 c0_1 : Nat) (e0_1 : n0_1 = x0.Data.length) (hm0 : Mem [] M w0 [.sl (Kd.int .i64) A0_0 c0_0 x0.Shape, .sl Kd.float A0_1 c0_1 x0.Data] w0) (r : Bool) (H0 : ref1_Finite.f x0 = some r) :
    Calls Try.prog 43 [.agg #[.slice A0_0 n0_0 c0_0, .slice A0_1 n0_1 c0_1]].toArray w0 (fun x w' => ∃ v, x = .returned v ∧ v = .bool r ∧ Mem [] M w0 [] w') := by
  subst e0_0
  subst e0_1
  unfold ref1_Finite.f at H0
  refine enter (n := 32) Try.func43 rfl rfl (by kernel_rfl) fun a0 (hf0 : Fr 32 a0 [(0, .agg #[.slice A0_0 x0.Shape.length c0_0, .slice A0_1 x0.Data.length c0_1])]) => ?_
  refine wp_seq ?_
  refine inReg ?_
  refine listOf hf0 rfl (by kernel_rfl) (aNew (cs := [.slice A0_0 x0.Shape.length c0_0, .slice A0_1 x0.Data.length c0_1]) (T := 42) (d := 1) hf0 (by kernel_rfl) (by kernel_rfl) ?_)
  intro b21 w22 a23 hbb21 hx25 hg26 hf24
  have hm27 := hm0.box hbb21 hx25 hg26
  refine go 1 [] [1] [(1, .pointer (some ⟨b21, 0, none⟩))] [] hf24 (by kernel_rfl) trivial fun a28 hf29 => ?_
  refine endL rfl ?_
  refine thenN ?_
  refine wp_seq ?_
  refine wp_seq ?_
  refine reg [] [1, 3] [(1, .pointer (some ⟨b21, 0, none⟩)), (3, .int .i64 0)] [] hf29 (by kernel_rfl) trivial fun a30 hf31 => ?_
  refine thenN ?_
  obtain ⟨r33, hr33, H0⟩ := ob_split H0
  refine wpBlock (Mid := fun (a : Act) (w : World) => ∃ yr33 : Int, r33 = .go yr33 ∧ Fr 32 a [(1, .pointer (some ⟨b21, 0, none⟩)), (3, .int .i64 yr33)] ∧ Mem [] M w0 [.bx b21 [.slice A0_0 x0.Shape.length c0_0, .slice A0_1 x0.Data.length c0_1] 42, .sl (Kd.int .i64) A0_0 c0_0 x0.Shape, .sl Kd.float A0_1 c0_1 x0.Data] w) ?_ ?_
  · refine wpLoop (ref1_Finite.l0 x0) r33 (fun (s32 : Int) (a : Act) (w : World) => Fr 32 a [(1, .pointer (some ⟨b21, 0, none⟩)), (3, .int .i64 s32)] ∧ Mem [] M w0 [.bx b21 [.slice A0_0 x0.Shape.length c0_0, .slice A0_1 x0.Data.length c0_1] 42, .sl (Kd.int .i64) A0_0 c0_0 x0.Shape, .sl Kd.float A0_1 c0_1 x0.Data] w) 0 hr33 ⟨hf31.sel (l := [1, 3]) (by kernel_rfl), hm27.sel [0, 1, 2] _ rfl (by kernel_rfl)⟩ ?_
    rintro g34 s32 a35 w36 H1 ⟨hf37, hm38⟩
    unfold ref1_Finite.l0 at H1
    refine wp_seq ?_
    refine wp_seq ?_
    rcases ifS_split H1 with ⟨c39, H1⟩ | ⟨c39, H1⟩
    · refine reg [.slice A0_1 x0.Data.length c0_1, .bool true] [1, 3, 8] [(1, .pointer (some ⟨b21, 0, none⟩)), (3, .int .i64 s32), (8, .bool true)] [.cell ⟨b21, 1, none⟩ (.slice A0_1 x0.Data.length c0_1), .is (decide (s32 < (x0.Data.length : Int)) = true)] hf37 (by kernel_rfl) ⟨(hm38.cell 0 rfl rfl), (decide_eq_true c39), trivial⟩ fun a40 hf41 => ?_
      refine thenN ?_
      refine condT hf41 (by kernel_rfl) ?_
      refine wp_skip ?_
      refine thenN ?_
      refine wp_seq ?_
      refine wp_block ?_
      refine wp_seq ?_
      obtain ⟨g42, H1⟩ := ifS_guard H1
      rcases ifbS_split H1 with ⟨c43, H1⟩ | ⟨c43, H1⟩
      · have q44 := (hm38.slAt 2 rfl).float s32 g42.1 g42.2
        obtain ⟨b45, hb45, kb45⟩ := q44.2
        have q46 := (hm38.slAt 2 rfl).float s32 g42.1 g42.2
        obtain ⟨b47, hb47, kb47⟩ := q46.2
        refine regQ [.slice A0_1 x0.Data.length c0_1, .float .f64 b45, .slice A0_1 x0.Data.length c0_1, .float .f64 b47, .bool true] [1, 3, 29] [(1, .pointer (some ⟨b21, 0, none⟩)), (3, .int .i64 s32), (29, .bool true)] [.cell ⟨b21, 1, none⟩ (.slice A0_1 x0.Data.length c0_1), .is (Option.isSome A0_1 = true), .is (0 ≤ s32 ∧ s32 < (x0.Data.length : Int)), .cell ((ad A0_1).add ((s32).toNat * 1)) (.float .f64 b45), .cell ⟨b21, 1, none⟩ (.slice A0_1 x0.Data.length c0_1), .is (Option.isSome A0_1 = true), .is (0 ≤ s32 ∧ s32 < (x0.Data.length : Int)), .cell ((ad A0_1).add ((s32).toNat * 1)) (.float .f64 b47), .is ((FloatKind.f64.format.order b45 b47 != some .eq) = true)] (by kernel_rfl) (by kernel_rfl) hf41 (by kernel_rfl) ⟨(hm38.cell 0 rfl rfl), q44.1, g42, kb45, (hm38.cell 0 rfl rfl), q46.1, g42, kb47, (ftNe hb45 hb47 c43), trivial⟩ fun a48 w50 hf49 hg51 => ?_
        have hm52 := hm38.still hg51
        refine thenN ?_
        refine condT hf49 (by kernel_rfl) ?_
        refine wp_seq ?_
        refine reg [] [2] [(2, .bool false)] [] hf49 (by kernel_rfl) trivial fun a53 hf54 => ?_
        have hm55 := hm52.sel [] _ rfl (by kernel_rfl)
        refine thenN ?_
        refine wp_ret ?_
        refine blkR ?_
        refine thenR ?_
        refine thenR ?_
        refine .inr ⟨rfl, ?_⟩
        refine thenR ?_
        have hm56 : Mem [] M w0 [] w50 := hm55.sel [] _ rfl (by kernel_rfl)
        obtain rfl := Option.some.inj H1
        obtain rfl := Option.some.inj H0
        refine ret [] [.bool false] [] hf54 (by kernel_rfl) trivial ?_
        exact ⟨_, rfl, rfl, hm56⟩
      · obtain ⟨r58, hr58, H1⟩ := obS_split H1
        refine midReg (fun (a : Act) (w : World) => Fr 32 a [(1, .pointer (some ⟨b21, 0, none⟩)), (3, .int .i64 s32), (29, .bool r58)] ∧ Mem [] M w0 [.bx b21 [.slice A0_0 x0.Shape.length c0_0, .slice A0_1 x0.Data.length c0_1] 42, .sl (Kd.int .i64) A0_0 c0_0 x0.Shape, .sl Kd.float A0_1 c0_1 x0.Data] w) ?_ ?_
        · refine anyG [] (by kernel_rfl) fun w71 hg72 => ?_
          have hm73 := hm38.still hg72
          have q89 := (hm73.slAt 2 rfl).float s32 g42.1 g42.2
          obtain ⟨b90, hb90, kb90⟩ := q89.2
          have q91 := (hm73.slAt 2 rfl).float s32 g42.1 g42.2
          obtain ⟨b92, hb92, kb92⟩ := q91.2
          have q93 := (hm73.slAt 2 rfl).float s32 g42.1 g42.2
          obtain ⟨b94, hb94, kb94⟩ := q93.2
          refine quiet0 [0, 1, 2, 3, 4, 5, 6, 7, 8, 9, 10, 11, 12, 13, 14, 15, 16] [.slice A0_1 x0.Data.length c0_1, .float .f64 b90, .slice A0_1 x0.Data.length c0_1, .float .f64 b92, .bool false, .slice A0_1 x0.Data.length c0_1, .float .f64 b94] [1, 3, 22, 27] #[true, true, true, true, true, true, true, true, true, true, true, true, true, true, true, true, true, false, false] [(1, .pointer (some ⟨b21, 0, none⟩)), (3, .int .i64 s32), (22, .bool false), (27, .float .f64 b94)] [.cell ⟨b21, 1, none⟩ (.slice A0_1 x0.Data.length c0_1), .is (Option.isSome A0_1 = true), .is (0 ≤ s32 ∧ s32 < (x0.Data.length : Int)), .cell ((ad A0_1).add ((s32).toNat * 1)) (.float .f64 b90), .cell ⟨b21, 1, none⟩ (.slice A0_1 x0.Data.length c0_1), .is (Option.isSome A0_1 = true), .is (0 ≤ s32 ∧ s32 < (x0.Data.length : Int)), .cell ((ad A0_1).add ((s32).toNat * 1)) (.float .f64 b92), .is ((FloatKind.f64.format.order b90 b92 != some .eq) = false), .cell ⟨b21, 1, none⟩ (.slice A0_1 x0.Data.length c0_1), .is (Option.isSome A0_1 = true), .is (0 ≤ s32 ∧ s32 < (x0.Data.length : Int)), .cell ((ad A0_1).add ((s32).toNat * 1)) (.float .f64 b94)] 2 rfl (by kernel_rfl) (fun _ _ _ _ _ h => nomatch h.1) hf41 (by kernel_rfl) ⟨(hm73.cell 0 rfl rfl), q89.1, g42, kb90, (hm73.cell 0 rfl rfl), q91.1, g42, kb92, (ftNe hb90 hb92 c43), (hm73.cell 0 rfl rfl), q93.1, g42, kb94, trivial⟩ fun a95 hf96 => ?_
          refine all1 17 (by kernel_rfl) ?_
          refine opOf hf96 rfl (by kernel_rfl) (aCall (fid := 60) (args := [.float .f64 b94, .int .i64 0]) (d := 28) hf96 (by kernel_rfl) (by kernel_rfl) callable60 (math_IsInf.calls _ _ (rd x0.Data s32) b94 hb94 0 (hm73.give [] [] rfl rfl) r58 hr58) ?_)
          rintro _ w97 a98 ⟨rfl, hk100⟩ hf99
          refine ⟨.inr (Gr.still hk100.cum.none), ?_⟩
          have hm101 := hm73.still hk100.cum.none
          refine quiet0 [18] [] [1, 3, 29] #[true, true, true, true, true, true, true, true, true, true, true, true, true, true, true, true, true, true, true] [(1, .pointer (some ⟨b21, 0, none⟩)), (3, .int .i64 s32), (29, .bool r58)] [] 0 rfl (by kernel_rfl) (fun _ _ _ _ _ h => nomatch h.1) hf99 (by kernel_rfl) trivial fun a102 hf103 => ?_
          refine allDone (by kernel_rfl) ⟨rfl, hf103.sel (l := [1, 3, 29]) (by kernel_rfl), hm101.sel [0, 1, 2] _ rfl (by kernel_rfl)⟩
        rintro a104 w105 ⟨hf106, hm107⟩
        refine thenN ?_
        rcases ifbS_split H1 with ⟨c108, H1⟩ | ⟨c108, H1⟩
        · rw [c108] at hf106
          refine condT hf106 (by kernel_rfl) ?_
          refine wp_seq ?_
          refine reg [] [2] [(2, .bool false)] [] hf106 (by kernel_rfl) trivial fun a109 hf110 => ?_
          have hm111 := hm107.sel [] _ rfl (by kernel_rfl)
          refine thenN ?_
          refine wp_ret ?_
          refine blkR ?_
          refine thenR ?_
          refine thenR ?_
          refine .inr ⟨rfl, ?_⟩
          refine thenR ?_
          have hm112 : Mem [] M w0 [] w105 := hm111.sel [] _ rfl (by kernel_rfl)
          obtain rfl := Option.some.inj H1
          obtain rfl := Option.some.inj H0
          refine ret [] [.bool false] [] hf110 (by kernel_rfl) trivial ?_
          exact ⟨_, rfl, rfl, hm112⟩
        · rw [c108] at hf106
          refine condF hf106 (by kernel_rfl) ?_
          refine wp_skip ?_
          refine blkN ?_
          refine thenN ?_
          refine reg [] [1, 3] [(1, .pointer (some ⟨b21, 0, none⟩)), (3, .int .i64 (w64 (s32 + 1)))] [] hf106 (by kernel_rfl) trivial fun a114 hf115 => ?_
          exact ⟨(w64 (s32 + 1)), H1, hf115.sel (l := [1, 3]) (by kernel_rfl), hm107.sel [0, 1, 2] _ rfl (by kernel_rfl)⟩
    · refine reg [.slice A0_1 x0.Data.length c0_1, .bool false] [1, 3, 8] [(1, .pointer (some ⟨b21, 0, none⟩)), (3, .int .i64 s32), (8, .bool false)] [.cell ⟨b21, 1, none⟩ (.slice A0_1 x0.Data.length c0_1), .is (decide (s32 < (x0.Data.length : Int)) = false)] hf37 (by kernel_rfl) ⟨(hm38.cell 0 rfl rfl), (decide_eq_false c39), trivial⟩ fun a116 hf117 => ?_
      refine thenN ?_
      refine condF hf117 (by kernel_rfl) ?_
      refine wp_exit ?_
      refine thenE ?_
      refine thenE ?_
      obtain rfl := Option.some.inj H1
      exact .inl ⟨rfl, s32, rfl, hf117.sel (l := [1, 3]) (by kernel_rfl), hm38.sel [0, 1, 2] _ rfl (by kernel_rfl)⟩
  rintro a118 w119 ⟨yr33, rfl, hf120, hm121⟩
  refine thenN ?_
  refine wp_seq ?_
  obtain ⟨r122, hr122, H0⟩ := ob_split H0
  refine inReg ?_
  refine go 1 [.agg #[.slice A0_0 x0.Shape.length c0_0, .slice A0_1 x0.Data.length c0_1]] [30] [(30, .agg #[.slice A0_0 x0.Shape.length c0_0, .slice A0_1 x0.Data.length c0_1])] [.cell ⟨b21, 0, none⟩ (.slice A0_0 x0.Shape.length c0_0), .cell ⟨b21, 1, none⟩ (.slice A0_1 x0.Data.length c0_1)] hf120 (by kernel_rfl) ⟨(hm121.cell 0 rfl rfl), (hm121.cell 0 rfl rfl), trivial⟩ fun a123 hf124 => ?_
  refine listOf hf124 rfl (by kernel_rfl) (aCall (fid := 41) (args := [.agg #[.slice A0_0 x0.Shape.length c0_0, .slice A0_1 x0.Data.length c0_1]]) (d := 31) hf124 (by kernel_rfl) (by kernel_rfl) callable41 (ref1_TensorMay.calls _ _ x0 A0_0 x0.Shape.length c0_0 rfl A0_1 x0.Data.length c0_1 rfl (hm121.give [1, 2] [.sl (Kd.int .i64) A0_0 c0_0 x0.Shape, .sl Kd.float A0_1 c0_1 x0.Data] rfl rfl) r122 hr122) ?_)
  rintro _ w125 a126 ⟨rfl, hk128⟩ hf127
  have hm129 := hm121.still hk128.cum.none
  refine go 1 [] [2] [(2, .bool r122)] [] hf127 (by kernel_rfl) trivial fun a130 hf131 => ?_
  refine endL rfl ?_
  have hm132 := hm129.sel [] _ rfl (by kernel_rfl)
  refine thenN ?_
  refine wp_ret ?_
  have hm133 : Mem [] M w0 [] w125 := hm132.sel [] _ rfl (by kernel_rfl)
  obtain rfl := Option.some.inj H0
  refine ret [] [.bool r122] [] hf131 (by kernel_rfl) trivial ?_
  exact ⟨_, rfl, rfl, hm133⟩

/-! ### backstitch/backstitchlaw5.equal -/
noncomputable def law5_equal.l0 (x0 : Tensor) (x1 : Tensor) (s51 : Int) : Step Int (Out2 Int Bool) :=
  if s51 < (x0.Data.length : Int) then (if 0 ≤ s51 ∧ s51 < (x0.Data.length : Int) then (if 0 ≤ s51 ∧ s51 < (x1.Data.length : Int) then (if (fne (rd x0.Data s51) (rd x1.Data s51)) = true then (.done (.ret false))
  else (.next (w64 (s51 + 1))))
  else .bad)
  else .bad)
  else (.done (.go s51))
noncomputable def law5_equal.f (x0 : Tensor) (x1 : Tensor) : Option Bool :=
  (ref1_SameInts.f x0.Shape x1.Shape).bind fun r37 =>
  if r37 = true then (if (x0.Data.length : Int) = (x1.Data.length : Int) then ((loop (law5_equal.l0 x0 x1) 0).bind fun r52 =>
  r52.on (fun yr52 =>
  some true) (fun y => some y))
  else (some false))
  else (some false)
set_option maxRecDepth 100000 in
set_option maxHeartbeats 4000000 in
theorem law5_equal.calls (M : List (Option Nat)) (w0 : World) (x0 : Tensor) (A0_0 : Option Addr) (n0_0 c0_0 : Nat) (e0_0 : n0_0 = x0.Shape.length) (A0_1 : Option Addr) (n0_1 c0_1 : Nat) (e0_1 : n0_1 = x0.Data.length) (x1 : Tensor) (A1_0 : Option Addr) (n1_0 c1_0 : Nat) (e1_0 : n1_0 = x1.Shape.length) (A1_1 : Option Addr) (n1_1 c1_1 : Nat) (e1_1 : n1_1 = x1.Data.length) (hm0 : Mem [] M w0 [.sl (Kd.int .i64) A0_0 c0_0 x0.Shape, .sl Kd.float A0_1 c0_1 x0.Data, .sl (Kd.int .i64) A1_0 c1_0 x1.Shape, .sl Kd.float A1_1 c1_1 x1.Data] w0) (r : Bool) (H0 : law5_equal.f x0 x1 = some r) :
    Calls Try.prog 38 [.agg #[.slice A0_0 n0_0 c0_0, .slice A0_1 n0_1 c0_1], .agg #[.slice A1_0 n1_0 c1_0, .slice A1_1 n1_1 c1_1]].toArray w0 (fun x w' => ∃ v, x = .returned v ∧ v = .bool r ∧ Mem [] M w0 [] w') := by
  subst e0_0
  subst e0_1
  subst e1_0
  subst e1_1
  unfold law5_equal.f at H0
  refine enter (n := 39) Try.func38 rfl rfl (by kernel_rfl) fun a0 (hf0 : Fr 39 a0 [(0, .agg #[.slice A0_0 x0.Shape.length c0_0, .slice A0_1 x0.Data.length c0_1]), (1, .agg #[.slice A1_0 x1.Shape.length c1_0, .slice A1_1 x1.Data.length c1_1])]) => ?_
  refine wp_seq ?_
  refine inReg ?_
  refine listOf hf0 rfl (by kernel_rfl) (aNew (cs := [.slice A0_0 x0.Shape.length c0_0, .slice A0_1 x0.Data.length c0_1]) (T := 42) (d := 2) hf0 (by kernel_rfl) (by kernel_rfl) ?_)
  intro b21 w22 a23 hbb21 hx25 hg26 hf24
  have hm27 := hm0.box hbb21 hx25 hg26
  refine listOf hf24 rfl (by kernel_rfl) (aNew (cs := [.slice A1_0 x1.Shape.length c1_0, .slice A1_1 x1.Data.length c1_1]) (T := 42) (d := 3) hf24 (by kernel_rfl) (by kernel_rfl) ?_)
  intro b28 w29 a30 hbb28 hx32 hg33 hf31
  have hm34 := hm27.box hbb28 hx32 hg33
  refine go 1 [] [2, 3] [(2, .pointer (some ⟨b21, 0, none⟩)), (3, .pointer (some ⟨b28, 0, none⟩))] [] hf31 (by kernel_rfl) trivial fun a35 hf36 => ?_
  refine endL rfl ?_
  refine thenN ?_
  refine wp_seq ?_
  refine wp_seq ?_
  obtain ⟨r37, hr37, H0⟩ := ob_split H0
  rcases ifb_split H0 with ⟨c38, H0⟩ | ⟨c38, H0⟩
  · rcases if_split H0 with ⟨c39, H0⟩ | ⟨c39, H0⟩
    · refine inReg ?_
      refine go 4 [.slice A0_0 x0.Shape.length c0_0, .slice A1_0 x1.Shape.length c1_0] [2, 3, 7, 9] [(2, .pointer (some ⟨b21, 0, none⟩)), (3, .pointer (some ⟨b28, 0, none⟩)), (7, .slice A0_0 x0.Shape.length c0_0), (9, .slice A1_0 x1.Shape.length c1_0)] [.cell ⟨b21, 0, none⟩ (.slice A0_0 x0.Shape.length c0_0), .cell ⟨b28, 0, none⟩ (.slice A1_0 x1.Shape.length c1_0)] hf36 (by kernel_rfl) ⟨(hm34.cell 1 rfl rfl), (hm34.cell 0 rfl rfl), trivial⟩ fun a40 hf41 => ?_
      refine listOf hf41 rfl (by kernel_rfl) (aCall (fid := 18) (args := [.slice A0_0 x0.Shape.length c0_0, .slice A1_0 x1.Shape.length c1_0]) (d := 10) hf41 (by kernel_rfl) (by kernel_rfl) callable18 (ref1_SameInts.calls _ _ x0.Shape A0_0 x0.Shape.length c0_0 rfl x1.Shape A1_0 x1.Shape.length c1_0 rfl (hm34.give [2, 4] [.sl (Kd.int .i64) A0_0 c0_0 x0.Shape, .sl (Kd.int .i64) A1_0 c1_0 x1.Shape] rfl rfl) r37 hr37) ?_)
      rintro _ w42 a43 ⟨rfl, hk45⟩ hf44
      have hm46 := hm34.still hk45.cum.none
      rw [c38] at hf44
      refine go 10 [.slice A0_1 x0.Data.length c0_1, .slice A1_1 x1.Data.length c1_1, .bool false] [2, 3, 20] [(2, .pointer (some ⟨b21, 0, none⟩)), (3, .pointer (some ⟨b28, 0, none⟩)), (20, .bool false)] [.cell ⟨b21, 1, none⟩ (.slice A0_1 x0.Data.length c0_1), .cell ⟨b28, 1, none⟩ (.slice A1_1 x1.Data.length c1_1), .is ((((x0.Data.length : Int) : Int) != (x1.Data.length : Int)) = false)] hf44 (by kernel_rfl) ⟨(hm46.cell 1 rfl rfl), (hm46.cell 0 rfl rfl), (neF c39), trivial⟩ fun a47 hf48 => ?_
      refine endL rfl ?_
      refine thenN ?_
      refine condF hf48 (by kernel_rfl) ?_
      refine wp_skip ?_
      refine thenN ?_
      refine wp_seq ?_
      refine wp_seq ?_
      refine reg [] [2, 3, 5] [(2, .pointer (some ⟨b21, 0, none⟩)), (3, .pointer (some ⟨b28, 0, none⟩)), (5, .int .i64 0)] [] hf48 (by kernel_rfl) trivial fun a49 hf50 => ?_
      refine thenN ?_
      obtain ⟨r52, hr52, H0⟩ := ob_split H0
      refine wpBlock (Mid := fun (a : Act) (w : World) => ∃ yr52 : Int, r52 = .go yr52 ∧ Fr 39 a [(2, .pointer (some ⟨b21, 0, none⟩)), (3, .pointer (some ⟨b28, 0, none⟩)), (5, .int .i64 yr52)] ∧ Mem [] M w0 [.bx b28 [.slice A1_0 x1.Shape.length c1_0, .slice A1_1 x1.Data.length c1_1] 42, .bx b21 [.slice A0_0 x0.Shape.length c0_0, .slice A0_1 x0.Data.length c0_1] 42, .sl (Kd.int .i64) A0_0 c0_0 x0.Shape, .sl Kd.float A0_1 c0_1 x0.Data, .sl (Kd.int .i64) A1_0 c1_0 x1.Shape, .sl Kd.float A1_1 c1_1 x1.Data] w) ?_ ?_
      · refine wpLoop (law5_equal.l0 x0 x1) r52 (fun (s51 : Int) (a : Act) (w : World) => Fr 39 a [(2, .pointer (some ⟨b21, 0, none⟩)), (3, .pointer (some ⟨b28, 0, none⟩)), (5, .int .i64 s51)] ∧ Mem [] M w0 [.bx b28 [.slice A1_0 x1.Shape.length c1_0, .slice A1_1 x1.Data.length c1_1] 42, .bx b21 [.slice A0_0 x0.Shape.length c0_0, .slice A0_1 x0.Data.length c0_1] 42, .sl (Kd.int .i64) A0_0 c0_0 x0.Shape, .sl Kd.float A0_1 c0_1 x0.Data, .sl (Kd.int .i64) A1_0 c1_0 x1.Shape, .sl Kd.float A1_1 c1_1 x1.Data] w) 0 hr52 ⟨hf50.sel (l := [2, 3, 5]) (by kernel_rfl), hm46.sel [0, 1, 2, 3, 4, 5] _ rfl (by kernel_rfl)⟩ ?_
        rintro g53 s51 a54 w55 H1 ⟨hf56, hm57⟩
        unfold law5_equal.l0 at H1
        refine wp_seq ?_
        refine wp_seq ?_
        rcases ifS_split H1 with ⟨c58, H1⟩ | ⟨c58, H1⟩
        · refine reg [.slice A0_1 x0.Data.length c0_1, .bool true] [2, 3, 5, 25] [(2, .pointer (some ⟨b21, 0, none⟩)), (3, .pointer (some ⟨b28, 0, none⟩)), (5, .int .i64 s51), (25, .bool true)] [.cell ⟨b21, 1, none⟩ (.slice A0_1 x0.Data.length c0_1), .is (decide (s51 < (x0.Data.length : Int)) = true)] hf56 (by kernel_rfl) ⟨(hm57.cell 1 rfl rfl), (decide_eq_true c58), trivial⟩ fun a59 hf60 => ?_
          refine thenN ?_
          refine condT hf60 (by kernel_rfl) ?_
          refine wp_skip ?_
          refine thenN ?_
          refine wp_seq ?_
          refine wp_block ?_
          refine wp_seq ?_
          obtain ⟨g61, H1⟩ := ifS_guard H1
          obtain ⟨g62, H1⟩ := ifS_guard H1
          rcases ifbS_split H1 with ⟨c63, H1⟩ | ⟨c63, H1⟩
          · have q65 := (hm57.slAt 3 rfl).float s51 g61.1 g61.2
            obtain ⟨b66, hb66, kb66⟩ := q65.2
            have q67 := (hm57.slAt 5 rfl).float s51 g62.1 g62.2
            obtain ⟨b68, hb68, kb68⟩ := q67.2
            refine regQ [.slice A0_1 x0.Data.length c0_1, .float .f64 b66, .slice A1_1 x1.Data.length c1_1, .float .f64 b68, .bool true] [2, 3, 5, 38] [(2, .pointer (some ⟨b21, 0, none⟩)), (3, .pointer (some ⟨b28, 0, none⟩)), (5, .int .i64 s51), (38, .bool true)] [.cell ⟨b21, 1, none⟩ (.slice A0_1 x0.Data.length c0_1), .is (Option.isSome A0_1 = true), .is (0 ≤ s51 ∧ s51 < (x0.Data.length : Int)), .cell ((ad A0_1).add ((s51).toNat * 1)) (.float .f64 b66), .cell ⟨b28, 1, none⟩ (.slice A1_1 x1.Data.length c1_1), .is (Option.isSome A1_1 = true), .is (0 ≤ s51 ∧ s51 < (x1.Data.length : Int)), .cell ((ad A1_1).add ((s51).toNat * 1)) (.float .f64 b68), .is ((FloatKind.f64.format.order b66 b68 != some .eq) = true)] (by kernel_rfl) (by kernel_rfl) hf60 (by kernel_rfl) ⟨(hm57.cell 1 rfl rfl), q65.1, g61, kb66, (hm57.cell 0 rfl rfl), q67.1, g62, kb68, (ftNe hb66 hb68 c63), trivial⟩ fun a69 w71 hf70 hg72 => ?_
            have hm73 := hm57.still hg72
            refine thenN ?_
            refine condT hf70 (by kernel_rfl) ?_
            refine wp_seq ?_
            refine reg [] [4] [(4, .bool false)] [] hf70 (by kernel_rfl) trivial fun a74 hf75 => ?_
            have hm76 := hm73.sel [] _ rfl (by kernel_rfl)
            refine thenN ?_
            refine wp_ret ?_
            refine blkR ?_
            refine thenR ?_
            refine thenR ?_
            refine .inr ⟨rfl, ?_⟩
            refine thenR ?_
            have hm77 : Mem [] M w0 [] w71 := hm76.sel [] _ rfl (by kernel_rfl)
            obtain rfl := Option.some.inj H1
            obtain rfl := Option.some.inj H0
            refine ret [] [.bool false] [] hf75 (by kernel_rfl) trivial ?_
            exact ⟨_, rfl, rfl, hm77⟩
          · have q79 := (hm57.slAt 3 rfl).float s51 g61.1 g61.2
            obtain ⟨b80, hb80, kb80⟩ := q79.2
            have q81 := (hm57.slAt 5 rfl).float s51 g62.1 g62.2
            obtain ⟨b82, hb82, kb82⟩ := q81.2
            refine regQ [.slice A0_1 x0.Data.length c0_1, .float .f64 b80, .slice A1_1 x1.Data.length c1_1, .float .f64 b82, .bool false] [2, 3, 5, 38] [(2, .pointer (some ⟨b21, 0, none⟩)), (3, .pointer (some ⟨b28, 0, none⟩)), (5, .int .i64 s51), (38, .bool false)] [.cell ⟨b21, 1, none⟩ (.slice A0_1 x0.Data.length c0_1), .is (Option.isSome A0_1 = true), .is (0 ≤ s51 ∧ s51 < (x0.Data.length : Int)), .cell ((ad A0_1).add ((s51).toNat * 1)) (.float .f64 b80), .cell ⟨b28, 1, none⟩ (.slice A1_1 x1.Data.length c1_1), .is (Option.isSome A1_1 = true), .is (0 ≤ s51 ∧ s51 < (x1.Data.length : Int)), .cell ((ad A1_1).add ((s51).toNat * 1)) (.float .f64 b82), .is ((FloatKind.f64.format.order b80 b82 != some .eq) = false)] (by kernel_rfl) (by kernel_rfl) hf60 (by kernel_rfl) ⟨(hm57.cell 1 rfl rfl), q79.1, g61, kb80, (hm57.cell 0 rfl rfl), q81.1, g62, kb82, (ftNe hb80 hb82 c63), trivial⟩ fun a83 w85 hf84 hg86 => ?_
            have hm87 := hm57.still hg86
            refine thenN ?_
            refine condF hf84 (by kernel_rfl) ?_
            refine wp_skip ?_
            refine blkN ?_
            refine thenN ?_
            refine reg [] [2, 3, 5] [(2, .pointer (some ⟨b21, 0, none⟩)), (3, .pointer (some ⟨b28, 0, none⟩)), (5, .int .i64 (w64 (s51 + 1)))] [] hf84 (by kernel_rfl) trivial fun a88 hf89 => ?_
            exact ⟨(w64 (s51 + 1)), H1, hf89.sel (l := [2, 3, 5]) (by kernel_rfl), hm87.sel [0, 1, 2, 3, 4, 5] _ rfl (by kernel_rfl)⟩
        · refine reg [.slice A0_1 x0.Data.length c0_1, .bool false] [2, 3, 5, 25] [(2, .pointer (some ⟨b21, 0, none⟩)), (3, .pointer (some ⟨b28, 0, none⟩)), (5, .int .i64 s51), (25, .bool false)] [.cell ⟨b21, 1, none⟩ (.slice A0_1 x0.Data.length c0_1), .is (decide (s51 < (x0.Data.length : Int)) = false)] hf56 (by kernel_rfl) ⟨(hm57.cell 1 rfl rfl), (decide_eq_false c58), trivial⟩ fun a90 hf91 => ?_
          refine thenN ?_
          refine condF hf91 (by kernel_rfl) ?_
          refine wp_exit ?_
          refine thenE ?_
          refine thenE ?_
          obtain rfl := Option.some.inj H1
          exact .inl ⟨rfl, s51, rfl, hf91.sel (l := [2, 3, 5]) (by kernel_rfl), hm57.sel [0, 1, 2, 3, 4, 5] _ rfl (by kernel_rfl)⟩
      rintro a92 w93 ⟨yr52, rfl, hf94, hm95⟩
      refine thenN ?_
      refine wp_seq ?_
      refine reg [] [4] [(4, .bool true)] [] hf94 (by kernel_rfl) trivial fun a96 hf97 => ?_
      have hm98 := hm95.sel [] _ rfl (by kernel_rfl)
      refine thenN ?_
      refine wp_ret ?_
      have hm99 : Mem [] M w0 [] w93 := hm98.sel [] _ rfl (by kernel_rfl)
      obtain rfl := Option.some.inj H0
      refine ret [] [.bool true] [] hf97 (by kernel_rfl) trivial ?_
      exact ⟨_, rfl, rfl, hm99⟩
    · refine inReg ?_
      refine go 4 [.slice A0_0 x0.Shape.length c0_0, .slice A1_0 x1.Shape.length c1_0] [2, 3, 7, 9] [(2, .pointer (some ⟨b21, 0, none⟩)), (3, .pointer (some ⟨b28, 0, none⟩)), (7, .slice A0_0 x0.Shape.length c0_0), (9, .slice A1_0 x1.Shape.length c1_0)] [.cell ⟨b21, 0, none⟩ (.slice A0_0 x0.Shape.length c0_0), .cell ⟨b28, 0, none⟩ (.slice A1_0 x1.Shape.length c1_0)] hf36 (by kernel_rfl) ⟨(hm34.cell 1 rfl rfl), (hm34.cell 0 rfl rfl), trivial⟩ fun a101 hf102 => ?_
      refine listOf hf102 rfl (by kernel_rfl) (aCall (fid := 18) (args := [.slice A0_0 x0.Shape.length c0_0, .slice A1_0 x1.Shape.length c1_0]) (d := 10) hf102 (by kernel_rfl) (by kernel_rfl) callable18 (ref1_SameInts.calls _ _ x0.Shape A0_0 x0.Shape.length c0_0 rfl x1.Shape A1_0 x1.Shape.length c1_0 rfl (hm34.give [2, 4] [.sl (Kd.int .i64) A0_0 c0_0 x0.Shape, .sl (Kd.int .i64) A1_0 c1_0 x1.Shape] rfl rfl) r37 hr37) ?_)
      rintro _ w103 a104 ⟨rfl, hk106⟩ hf105
      have hm107 := hm34.still hk106.cum.none
      rw [c38] at hf105
      refine go 10 [.slice A0_1 x0.Data.length c0_1, .slice A1_1 x1.Data.length c1_1, .bool true] [2, 3, 20] [(2, .pointer (some ⟨b21, 0, none⟩)), (3, .pointer (some ⟨b28, 0, none⟩)), (20, .bool true)] [.cell ⟨b21, 1, none⟩ (.slice A0_1 x0.Data.length c0_1), .cell ⟨b28, 1, none⟩ (.slice A1_1 x1.Data.length c1_1), .is ((((x0.Data.length : Int) : Int) != (x1.Data.length : Int)) = true)] hf105 (by kernel_rfl) ⟨(hm107.cell 1 rfl rfl), (hm107.cell 0 rfl rfl), (neT c39), trivial⟩ fun a108 hf109 => ?_
      refine endL rfl ?_
      refine thenN ?_
      refine condT hf109 (by kernel_rfl) ?_
      refine wp_seq ?_
      refine reg [] [4] [(4, .bool false)] [] hf109 (by kernel_rfl) trivial fun a110 hf111 => ?_
      have hm112 := hm107.sel [] _ rfl (by kernel_rfl)
      refine thenN ?_
      refine wp_ret ?_
      refine thenR ?_
      have hm113 : Mem [] M w0 [] w103 := hm112.sel [] _ rfl (by kernel_rfl)
      obtain rfl := Option.some.inj H0
      refine ret [] [.bool false] [] hf111 (by kernel_rfl) trivial ?_
      exact ⟨_, rfl, rfl, hm113⟩
  · refine inReg ?_
    refine go 4 [.slice A0_0 x0.Shape.length c0_0, .slice A1_0 x1.Shape.length c1_0] [2, 3, 7, 9] [(2, .pointer (some ⟨b21, 0, none⟩)), (3, .pointer (some ⟨b28, 0, none⟩)), (7, .slice A0_0 x0.Shape.length c0_0), (9, .slice A1_0 x1.Shape.length c1_0)] [.cell ⟨b21, 0, none⟩ (.slice A0_0 x0.Shape.length c0_0), .cell ⟨b28, 0, none⟩ (.slice A1_0 x1.Shape.length c1_0)] hf36 (by kernel_rfl) ⟨(hm34.cell 1 rfl rfl), (hm34.cell 0 rfl rfl), trivial⟩ fun a115 hf116 => ?_
    refine listOf hf116 rfl (by kernel_rfl) (aCall (fid := 18) (args := [.slice A0_0 x0.Shape.length c0_0, .slice A1_0 x1.Shape.length c1_0]) (d := 10) hf116 (by kernel_rfl) (by kernel_rfl) callable18 (ref1_SameInts.calls _ _ x0.Shape A0_0 x0.Shape.length c0_0 rfl x1.Shape A1_0 x1.Shape.length c1_0 rfl (hm34.give [2, 4] [.sl (Kd.int .i64) A0_0 c0_0 x0.Shape, .sl (Kd.int .i64) A1_0 c1_0 x1.Shape] rfl rfl) r37 hr37) ?_)
    rintro _ w117 a118 ⟨rfl, hk120⟩ hf119
    have hm121 := hm34.still hk120.cum.none
    rw [c38] at hf119
    refine go 10 [] [2, 3, 20] [(2, .pointer (some ⟨b21, 0, none⟩)), (3, .pointer (some ⟨b28, 0, none⟩)), (20, .bool true)] [] hf119 (by kernel_rfl) trivial fun a122 hf123 => ?_
    refine endL rfl ?_
    refine thenN ?_
    refine condT hf123 (by kernel_rfl) ?_
    refine wp_seq ?_
    refine reg [] [4] [(4, .bool false)] [] hf123 (by kernel_rfl) trivial fun a124 hf125 => ?_
    have hm126 := hm121.sel [] _ rfl (by kernel_rfl)
    refine thenN ?_
    refine wp_ret ?_
    refine thenR ?_
    have hm127 : Mem [] M w0 [] w117 := hm126.sel [] _ rfl (by kernel_rfl)
    obtain rfl := Option.some.inj H0
    refine ret [] [.bool false] [] hf125 (by kernel_rfl) trivial ?_
    exact ⟨_, rfl, rfl, hm127⟩

/-! ### backstitch/backstitchlaw5.matrixOf -/
noncomputable def law5_matrixOf.l0 (x0 : Int) (x1 : Int) (x3 : Int) (x2 : (List Int)) (s56 : (Int × (List Nat))) : Step (Int × (List Nat)) (Int × (List Nat)) :=
  if s56.1 < (w64 (x0 * x1)) then (if (w64 (x3 + s56.1)) < (x2.length : Int) then (if 0 ≤ (w64 (x3 + s56.1)) ∧ (w64 (x3 + s56.1)) < (x2.length : Int) then (if s56.2.length + 1 ≤ 549755813888 then (.next ((w64 (s56.1 + 1)), (s56.2 ++ ([(ofInt (rd x2 (w64 (x3 + s56.1))))] : List Nat))))
  else .bad)
  else .bad)
  else (if s56.2.length + 1 ≤ 549755813888 then (.next ((w64 (s56.1 + 1)), (s56.2 ++ ([0] : List Nat))))
  else .bad))
  else (.done (s56.1, s56.2))
noncomputable def law5_matrixOf.f (x0 : Int) (x1 : Int) (x2 : (List Int)) (x3 : Int) : Option Tensor :=
  (loop (law5_matrixOf.l0 x0 x1 x3 x2) (0, ([] : (List Nat)))).bind fun r59 =>
  some (⟨([x0, x1] : List Int), r59.2⟩ : Tensor)
set_option maxRecDepth 100000 in
set_option maxHeartbeats 4000000 in
theorem law5_matrixOf.calls (M : List (Option Nat)) (w0 : World) (x0 : Int) (x1 : Int) (x2 : (List Int)) (A2 : Option Addr) (n2 c2 : Nat) (e2 : n2 = x2.length) (x3 : Int) (hm0 : Mem [] M w0 [.sl (Kd.int .i8) A2 c2 x2] w0) (r : Tensor) (H0 : law5_matrixOf.f x0 x1 x2 x3 = some r) :
    Calls Try.prog 36 [.int .i64 x0, .int .i64 x1, .slice A2 n2 c2, .int .i64 x3].toArray w0 (fun x w' => ∃ v, x = .returned v ∧ ∃ Ar0_0 cr0_0 Ar0_1 cr0_1, v = .agg #[.slice Ar0_0 r.Shape.length cr0_0, .slice Ar0_1 r.Data.length cr0_1] ∧ Mem [] M w0 [.ow (Kd.int .i64) 3 Ar0_0 cr0_0 r.Shape, .ow Kd.float 47 Ar0_1 cr0_1 r.Data] w') := by
  subst e2
  unfold law5_matrixOf.f at H0
  refine enter (n := 43) Try.func36 rfl rfl (by kernel_rfl) fun a0 (hf0 : Fr 43 a0 [(0, .int .i64 x0), (1, .int .i64 x1), (2, .slice A2 x2.length c2), (3, .int .i64 x3)]) => ?_
  refine wp_seq ?_
  refine inReg ?_
  refine listOf hf0 rfl (by kernel_rfl) (aNew (cs := [.slice none 0 0, .slice none 0 0]) (T := 42) (d := 8) hf0 (by kernel_rfl) (by kernel_rfl) ?_)
  intro b21 w22 a23 hbb21 hx25 hg26 hf24
  have hm27 := hm0.box hbb21 hx25 hg26
  refine endL rfl ?_
  refine thenN ?_
  refine wp_seq ?_
  refine inReg ?_
  refine go 2 [] [0, 1, 2, 3, 8, 12, 13] [(0, .int .i64 x0), (1, .int .i64 x1), (2, .slice A2 x2.length c2), (3, .int .i64 x3), (8, .pointer (some ⟨b21, 0, none⟩)), (12, .int .i64 x0), (13, .int .i64 x1)] [] hf24 (by kernel_rfl) trivial fun a28 hf29 => ?_
  refine listOf hf29 rfl (by kernel_rfl) (aLit (cs := [.int .i64 x0, .int .i64 x1]) (E := 3) (len := 2) (d := 14) hf29 (by kernel_rfl) (by kernel_rfl) ?_)
  intro b30 w31 a32 hbb30 hx34 hg35 hf33
  have hm36 : Mem [] M w0 [.ow (Kd.int .i64) 3 (some ⟨b30, 0, none⟩) 2 ([x0, x1] : List Int), .bx b21 [.slice none 0 0, .slice none 0 0] 42, .sl (Kd.int .i8) A2 c2 x2] w31 := Mem.litOwn (kd := (Kd.int .i64)) (xs := ([x0, x1] : List Int)) hm27 hbb30 hx34 hg35 (Els.append (Els.one (kd := (Kd.int .i64)) (us := [.int .i64 x0]) (x := x0) rfl) (Els.one (kd := (Kd.int .i64)) (us := [.int .i64 x1]) (x := x1) rfl)) (by simp [maxLen])
  refine go 1 [] [0, 1, 2, 3, 8, 15] [(0, .int .i64 x0), (1, .int .i64 x1), (2, .slice A2 x2.length c2), (3, .int .i64 x3), (8, .pointer (some ⟨b21, 0, none⟩)), (15, .agg #[.slice (some ⟨b30, 0, none⟩) 2 2, .slice none 0 0])] [] hf33 (by kernel_rfl) trivial fun a37 hf38 => ?_
  refine listOf hf38 rfl (by kernel_rfl) (aNew (cs := [.slice none 0 0, .slice none 0 0]) (T := 42) (d := 9) hf38 (by kernel_rfl) (by kernel_rfl) ?_)
  intro b39 w40 a41 hbb39 hx43 hg44 hf42
  have hm45 := hm36.box hbb39 hx43 hg44
  refine listOf hf42 rfl (by kernel_rfl) (aStoreB (b := b39) (j := 0) (T := 42) (cs := [.slice none 0 0, .slice none 0 0]) (us := [.slice (some ⟨b30, 0, none⟩) 2 2, .slice none 0 0]) (cs' := [.slice (some ⟨b30, 0, none⟩) 2 2, .slice none 0 0]) hf42 (by kernel_rfl) (hm45.bxAt 0 rfl) (by kernel_rfl) (by kernel_rfl) (by kernel_rfl) ?_)
  intro w46 hx47 hg48
  have hm49 := hm45.setBox 0 _ rfl rfl hx47 hg48
  refine endL rfl ?_
  refine thenN ?_
  refine wp_seq ?_
  refine wp_seq ?_
  refine reg [] [0, 1, 2, 3, 8, 9, 10] [(0, .int .i64 x0), (1, .int .i64 x1), (2, .slice A2 x2.length c2), (3, .int .i64 x3), (8, .pointer (some ⟨b21, 0, none⟩)), (9, .pointer (some ⟨b39, 0, none⟩)), (10, .int .i64 0)] [] hf42 (by kernel_rfl) trivial fun a50 hf51 => ?_
  refine thenN ?_
  have hm53 : Mem [] M w0 [.ow Kd.float 47 none 0 ([] : (List Nat)), .bx b39 [.slice (some ⟨b30, 0, none⟩) 2 2, .slice none 0 0] 42, .ow (Kd.int .i64) 3 (some ⟨b30, 0, none⟩) 2 ([x0, x1] : List Int), .bx b21 [.slice none 0 0, .slice none 0 0] 42, .sl (Kd.int .i8) A2 c2 x2] w46 := hm49.nilOw Kd.float 47
  obtain ⟨r59, hr59, H0⟩ := ob_split H0
  refine wpBlock (Mid := fun (a : Act) (w : World) => ∃ (A57 : Option Addr) (c58 : Nat), Fr 43 a [(0, .int .i64 x0), (1, .int .i64 x1), (2, .slice A2 x2.length c2), (3, .int .i64 x3), (8, .pointer (some ⟨b21, 0, none⟩)), (9, .pointer (some ⟨b39, 0, none⟩)), (10, .int .i64 r59.1)] ∧ Mem [] M w0 [.ow Kd.float 47 A57 c58 r59.2, .bx b39 [.slice (some ⟨b30, 0, none⟩) 2 2, .slice A57 r59.2.length c58] 42, .ow (Kd.int .i64) 3 (some ⟨b30, 0, none⟩) 2 ([x0, x1] : List Int), .bx b21 [.slice none 0 0, .slice none 0 0] 42, .sl (Kd.int .i8) A2 c2 x2] w) ?_ ?_
  · refine wpLoop (law5_matrixOf.l0 x0 x1 x3 x2) r59 (fun (s56 : (Int × (List Nat))) (a : Act) (w : World) => ∃ (A57 : Option Addr) (c58 : Nat), Fr 43 a [(0, .int .i64 x0), (1, .int .i64 x1), (2, .slice A2 x2.length c2), (3, .int .i64 x3), (8, .pointer (some ⟨b21, 0, none⟩)), (9, .pointer (some ⟨b39, 0, none⟩)), (10, .int .i64 s56.1)] ∧ Mem [] M w0 [.ow Kd.float 47 A57 c58 s56.2, .bx b39 [.slice (some ⟨b30, 0, none⟩) 2 2, .slice A57 s56.2.length c58] 42, .ow (Kd.int .i64) 3 (some ⟨b30, 0, none⟩) 2 ([x0, x1] : List Int), .bx b21 [.slice none 0 0, .slice none 0 0] 42, .sl (Kd.int .i8) A2 c2 x2] w) (0, ([] : (List Nat))) hr59 ⟨none, 0, hf51.sel (l := [0, 1, 2, 3, 8, 9, 10]) (by kernel_rfl), hm53.sel [0, 1, 2, 3, 4] _ rfl (by kernel_rfl)⟩ ?_
    rintro g60 s56 a61 w62 H1 ⟨A57, c58, hf63, hm65⟩
    unfold law5_matrixOf.l0 at H1
    refine wp_seq ?_
    refine wp_seq ?_
    rcases ifS_split H1 with ⟨c66, H1⟩ | ⟨c66, H1⟩
    · refine reg [.bool true] [0, 1, 2, 3, 8, 9, 10, 20] [(0, .int .i64 x0), (1, .int .i64 x1), (2, .slice A2 x2.length c2), (3, .int .i64 x3), (8, .pointer (some ⟨b21, 0, none⟩)), (9, .pointer (some ⟨b39, 0, none⟩)), (10, .int .i64 s56.1), (20, .bool true)] [.is (decide (s56.1 < (w64 (x0 * x1))) = true)] hf63 (by kernel_rfl) ⟨(decide_eq_true c66), trivial⟩ fun a67 hf68 => ?_
      refine thenN ?_
      refine condT hf68 (by kernel_rfl) ?_
      refine wp_skip ?_
      refine thenN ?_
      refine wp_seq ?_
      refine wp_block ?_
      refine wp_seq ?_
      refine reg [] [0, 1, 2, 3, 8, 9, 10, 11] [(0, .int .i64 x0), (1, .int .i64 x1), (2, .slice A2 x2.length c2), (3, .int .i64 x3), (8, .pointer (some ⟨b21, 0, none⟩)), (9, .pointer (some ⟨b39, 0, none⟩)), (10, .int .i64 s56.1), (11, .float .f64 0)] [] hf68 (by kernel_rfl) trivial fun a69 hf70 => ?_
      refine thenN ?_
      refine wp_seq ?_
      refine wp_seq ?_
      rcases ifS_split H1 with ⟨c71, H1⟩ | ⟨c71, H1⟩
      · refine reg [.bool true] [0, 1, 2, 3, 8, 9, 10, 11, 28] [(0, .int .i64 x0), (1, .int .i64 x1), (2, .slice A2 x2.length c2), (3, .int .i64 x3), (8, .pointer (some ⟨b21, 0, none⟩)), (9, .pointer (some ⟨b39, 0, none⟩)), (10, .int .i64 s56.1), (11, .float .f64 0), (28, .bool true)] [.is (decide ((w64 (x3 + s56.1)) < (x2.length : Int)) = true)] hf70 (by kernel_rfl) ⟨(decide_eq_true c71), trivial⟩ fun a72 hf73 => ?_
        refine thenN ?_
        refine condT hf73 (by kernel_rfl) ?_
        obtain ⟨g74, H1⟩ := ifS_guard H1
        have q75 := (hm65.slAt 4 rfl).int (w64 (x3 + s56.1)) g74.1 g74.2
        refine reg [.int .i8 (rd x2 (w64 (x3 + s56.1)))] [0, 1, 2, 3, 8, 9, 10, 11] [(0, .int .i64 x0), (1, .int .i64 x1), (2, .slice A2 x2.length c2), (3, .int .i64 x3), (8, .pointer (some ⟨b21, 0, none⟩)), (9, .pointer (some ⟨b39, 0, none⟩)), (10, .int .i64 s56.1), (11, .float .f64 (FloatKind.f64.nearest (rd x2 (w64 (x3 + s56.1)))))] [.is (Option.isSome A2 = true), .is (0 ≤ (w64 (x3 + s56.1)) ∧ (w64 (x3 + s56.1)) < (x2.length : Int)), .cell ((ad A2).add (((w64 (x3 + s56.1))).toNat * 1)) (.int .i8 (rd x2 (w64 (x3 + s56.1))))] hf73 (by kernel_rfl) ⟨q75.1, g74, q75.2, trivial⟩ fun a76 hf77 => ?_
        refine thenN ?_
        obtain ⟨g78, H1⟩ := ifS_guard H1
        refine inReg ?_
        refine go 3 [.slice A57 s56.2.length c58] [0, 1, 2, 3, 8, 9, 10, 37, 38] [(0, .int .i64 x0), (1, .int .i64 x1), (2, .slice A2 x2.length c2), (3, .int .i64 x3), (8, .pointer (some ⟨b21, 0, none⟩)), (9, .pointer (some ⟨b39, 0, none⟩)), (10, .int .i64 s56.1), (37, .slice A57 s56.2.length c58), (38, .float .f64 (FloatKind.f64.nearest (rd x2 (w64 (x3 + s56.1)))))] [.cell ⟨b39, 1, none⟩ (.slice A57 s56.2.length c58)] hf77 (by kernel_rfl) ⟨(hm65.cell 1 rfl rfl), trivial⟩ fun a79 hf80 => ?_
        refine listOf hf80 rfl (by kernel_rfl) (aLit (cs := [.float .f64 (FloatKind.f64.nearest (rd x2 (w64 (x3 + s56.1))))]) (E := 47) (len := 1) (d := 39) hf80 (by kernel_rfl) (by kernel_rfl) ?_)
        intro b81 w82 a83 hbb81 hx85 hg86 hf84
        have hm65s := hm65.still hg86
        have hm87 : Mem [] M w0 [.sl Kd.float (some ⟨b81, 0, none⟩) 1 ([(ofInt (rd x2 (w64 (x3 + s56.1))))] : List Nat), .ow Kd.float 47 A57 c58 s56.2, .bx b39 [.slice (some ⟨b30, 0, none⟩) 2 2, .slice A57 s56.2.length c58] 42, .ow (Kd.int .i64) 3 (some ⟨b30, 0, none⟩) 2 ([x0, x1] : List Int), .bx b21 [.slice none 0 0, .slice none 0 0] 42, .sl (Kd.int .i8) A2 c2 x2] w82 := Mem.lit (kd := Kd.float) (xs := ([(ofInt (rd x2 (w64 (x3 + s56.1))))] : List Nat)) hm65 hbb81 hx85 hg86 (Els.one (kd := Kd.float) (us := [.float .f64 (FloatKind.f64.nearest (rd x2 (w64 (x3 + s56.1))))]) (x := (ofInt (rd x2 (w64 (x3 + s56.1))))) ⟨_, rfl, (FR.ofInt (rd x2 (w64 (x3 + s56.1))))⟩)
        have e96 : s56.2.length = s56.2.length := rfl
        have e97 : 1 = ([(ofInt (rd x2 (w64 (x3 + s56.1))))] : List Nat).length := rfl
        refine listOf hf84 rfl (by kernel_rfl) (aApp (kd := Kd.float) (base := 0) (E := 47) (A := A57) (B := (some ⟨b81, 0, none⟩)) (c := c58) (c2 := 1) (xs := s56.2) (ys := ([(ofInt (rd x2 (w64 (x3 + s56.1))))] : List Nat)) (k := s56.2.length) (m := 1) (sz := 1) (d := 40) hf84 (by kernel_rfl) e96 e97 (by kernel_rfl) rfl (by kernel_rfl) (hm87.at 1 rfl) (hm87.at2 1 0 rfl rfl).2 (hm87.cpAt 0 rfl) (Nat.zero_le _) (by have := g78; omega) ?_)
        intro A88 c89 w90 a91 ho93 hg94 hr95 hf92
        have hm98 : Mem [] M w0 [.sl Kd.float (some ⟨b81, 0, none⟩) 1 ([(ofInt (rd x2 (w64 (x3 + s56.1))))] : List Nat), .ow Kd.float 47 A88 c89 (s56.2 ++ ([(ofInt (rd x2 (w64 (x3 + s56.1))))] : List Nat)), .bx b39 [.slice (some ⟨b30, 0, none⟩) 2 2, .slice A57 s56.2.length c58] 42, .ow (Kd.int .i64) 3 (some ⟨b30, 0, none⟩) 2 ([x0, x1] : List Int), .bx b21 [.slice none 0 0, .slice none 0 0] 42, .sl (Kd.int .i8) A2 c2 x2] w90 := hm87.setOwn 1 _ rfl rfl ho93 hg94 hr95
        refine go 1 [] [0, 1, 2, 3, 8, 9, 10, 40, 41] [(0, .int .i64 x0), (1, .int .i64 x1), (2, .slice A2 x2.length c2), (3, .int .i64 x3), (8, .pointer (some ⟨b21, 0, none⟩)), (9, .pointer (some ⟨b39, 0, none⟩)), (10, .int .i64 s56.1), (40, .slice A88 ((s56.2 ++ ([(ofInt (rd x2 (w64 (x3 + s56.1))))] : List Nat)).length) c89), (41, .pointer (some ⟨b39, 1, none⟩))] [] hf92 (by kernel_rfl) trivial fun a99 hf100 => ?_
        refine listOf hf100 rfl (by kernel_rfl) (aStoreB (b := b39) (j := 1) (T := 42) (cs := [.slice (some ⟨b30, 0, none⟩) 2 2, .slice A57 s56.2.length c58]) (us := [.slice A88 ((s56.2 ++ ([(ofInt (rd x2 (w64 (x3 + s56.1))))] : List Nat)).length) c89]) (cs' := [.slice (some ⟨b30, 0, none⟩) 2 2, .slice A88 ((s56.2 ++ ([(ofInt (rd x2 (w64 (x3 + s56.1))))] : List Nat)).length) c89]) hf100 (by kernel_rfl) (hm98.bxAt 2 rfl) (by kernel_rfl) (by kernel_rfl) (by kernel_rfl) ?_)
        intro w101 hx102 hg103
        have hm104 := hm98.setBox 2 _ rfl rfl hx102 hg103
        refine endL rfl ?_
        have hm105 := hm104.sel [1, 2, 3, 4, 5] _ rfl (by kernel_rfl)
        refine blkN ?_
        refine thenN ?_
        refine reg [] [0, 1, 2, 3, 8, 9, 10] [(0, .int .i64 x0), (1, .int .i64 x1), (2, .slice A2 x2.length c2), (3, .int .i64 x3), (8, .pointer (some ⟨b21, 0, none⟩)), (9, .pointer (some ⟨b39, 0, none⟩)), (10, .int .i64 (w64 (s56.1 + 1)))] [] hf100 (by kernel_rfl) trivial fun a106 hf107 => ?_
        exact ⟨((w64 (s56.1 + 1)), (s56.2 ++ ([(ofInt (rd x2 (w64 (x3 + s56.1))))] : List Nat))), H1, A88, c89, hf107.sel (l := [0, 1, 2, 3, 8, 9, 10]) (by kernel_rfl), hm105.sel [0, 1, 2, 3, 4] _ rfl (by kernel_rfl)⟩
      · refine reg [.bool false] [0, 1, 2, 3, 8, 9, 10, 11, 28] [(0, .int .i64 x0), (1, .int .i64 x1), (2, .slice A2 x2.length c2), (3, .int .i64 x3), (8, .pointer (some ⟨b21, 0, none⟩)), (9, .pointer (some ⟨b39, 0, none⟩)), (10, .int .i64 s56.1), (11, .float .f64 0), (28, .bool false)] [.is (decide ((w64 (x3 + s56.1)) < (x2.length : Int)) = false)] hf70 (by kernel_rfl) ⟨(decide_eq_false c71), trivial⟩ fun a108 hf109 => ?_
        refine thenN ?_
        refine condF hf109 (by kernel_rfl) ?_
        refine wp_skip ?_
        refine thenN ?_
        obtain ⟨g110, H1⟩ := ifS_guard H1
        refine inReg ?_
        refine go 3 [.slice A57 s56.2.length c58] [0, 1, 2, 3, 8, 9, 10, 37, 38] [(0, .int .i64 x0), (1, .int .i64 x1), (2, .slice A2 x2.length c2), (3, .int .i64 x3), (8, .pointer (some ⟨b21, 0, none⟩)), (9, .pointer (some ⟨b39, 0, none⟩)), (10, .int .i64 s56.1), (37, .slice A57 s56.2.length c58), (38, .float .f64 0)] [.cell ⟨b39, 1, none⟩ (.slice A57 s56.2.length c58)] hf109 (by kernel_rfl) ⟨(hm65.cell 1 rfl rfl), trivial⟩ fun a111 hf112 => ?_
        refine listOf hf112 rfl (by kernel_rfl) (aLit (cs := [.float .f64 0]) (E := 47) (len := 1) (d := 39) hf112 (by kernel_rfl) (by kernel_rfl) ?_)
        intro b113 w114 a115 hbb113 hx117 hg118 hf116
        have hm65s := hm65.still hg118
        have hm119 : Mem [] M w0 [.sl Kd.float (some ⟨b113, 0, none⟩) 1 ([0] : List Nat), .ow Kd.float 47 A57 c58 s56.2, .bx b39 [.slice (some ⟨b30, 0, none⟩) 2 2, .slice A57 s56.2.length c58] 42, .ow (Kd.int .i64) 3 (some ⟨b30, 0, none⟩) 2 ([x0, x1] : List Int), .bx b21 [.slice none 0 0, .slice none 0 0] 42, .sl (Kd.int .i8) A2 c2 x2] w114 := Mem.lit (kd := Kd.float) (xs := ([0] : List Nat)) hm65 hbb113 hx117 hg118 (Els.one (kd := Kd.float) (us := [.float .f64 0]) (x := 0) ⟨_, rfl, (FR.lit (by kernel_rfl) (by kernel_rfl))⟩)
        have e128 : s56.2.length = s56.2.length := rfl
        have e129 : 1 = ([0] : List Nat).length := rfl
        refine listOf hf116 rfl (by kernel_rfl) (aApp (kd := Kd.float) (base := 0) (E := 47) (A := A57) (B := (some ⟨b113, 0, none⟩)) (c := c58) (c2 := 1) (xs := s56.2) (ys := ([0] : List Nat)) (k := s56.2.length) (m := 1) (sz := 1) (d := 40) hf116 (by kernel_rfl) e128 e129 (by kernel_rfl) rfl (by kernel_rfl) (hm119.at 1 rfl) (hm119.at2 1 0 rfl rfl).2 (hm119.cpAt 0 rfl) (Nat.zero_le _) (by have := g110; omega) ?_)
        intro A120 c121 w122 a123 ho125 hg126 hr127 hf124
        have hm130 : Mem [] M w0 [.sl Kd.float (some ⟨b113, 0, none⟩) 1 ([0] : List Nat), .ow Kd.float 47 A120 c121 (s56.2 ++ ([0] : List Nat)), .bx b39 [.slice (some ⟨b30, 0, none⟩) 2 2, .slice A57 s56.2.length c58] 42, .ow (Kd.int .i64) 3 (some ⟨b30, 0, none⟩) 2 ([x0, x1] : List Int), .bx b21 [.slice none 0 0, .slice none 0 0] 42, .sl (Kd.int .i8) A2 c2 x2] w122 := hm119.setOwn 1 _ rfl rfl ho125 hg126 hr127
        refine go 1 [] [0, 1, 2, 3, 8, 9, 10, 40, 41] [(0, .int .i64 x0), (1, .int .i64 x1), (2, .slice A2 x2.length c2), (3, .int .i64 x3), (8, .pointer (some ⟨b21, 0, none⟩)), (9, .pointer (some ⟨b39, 0, none⟩)), (10, .int .i64 s56.1), (40, .slice A120 ((s56.2 ++ ([0] : List Nat)).length) c121), (41, .pointer (some ⟨b39, 1, none⟩))] [] hf124 (by kernel_rfl) trivial fun a131 hf132 => ?_
        refine listOf hf132 rfl (by kernel_rfl) (aStoreB (b := b39) (j := 1) (T := 42) (cs := [.slice (some ⟨b30, 0, none⟩) 2 2, .slice A57 s56.2.length c58]) (us := [.slice A120 ((s56.2 ++ ([0] : List Nat)).length) c121]) (cs' := [.slice (some ⟨b30, 0, none⟩) 2 2, .slice A120 ((s56.2 ++ ([0] : List Nat)).length) c121]) hf132 (by kernel_rfl) (hm130.bxAt 2 rfl) (by kernel_rfl) (by kernel_rfl) (by kernel_rfl) ?_)
        intro w133 hx134 hg135
        have hm136 := hm130.setBox 2 _ rfl rfl hx134 hg135
        refine endL rfl ?_
        have hm137 := hm136.sel [1, 2, 3, 4, 5] _ rfl (by kernel_rfl)
        refine blkN ?_
        refine thenN ?_
        refine reg [] [0, 1, 2, 3, 8, 9, 10] [(0, .int .i64 x0), (1, .int .i64 x1), (2, .slice A2 x2.length c2), (3, .int .i64 x3), (8, .pointer (some ⟨b21, 0, none⟩)), (9, .pointer (some ⟨b39, 0, none⟩)), (10, .int .i64 (w64 (s56.1 + 1)))] [] hf132 (by kernel_rfl) trivial fun a138 hf139 => ?_
        exact ⟨((w64 (s56.1 + 1)), (s56.2 ++ ([0] : List Nat))), H1, A120, c121, hf139.sel (l := [0, 1, 2, 3, 8, 9, 10]) (by kernel_rfl), hm137.sel [0, 1, 2, 3, 4] _ rfl (by kernel_rfl)⟩
    · refine reg [.bool false] [0, 1, 2, 3, 8, 9, 10, 20] [(0, .int .i64 x0), (1, .int .i64 x1), (2, .slice A2 x2.length c2), (3, .int .i64 x3), (8, .pointer (some ⟨b21, 0, none⟩)), (9, .pointer (some ⟨b39, 0, none⟩)), (10, .int .i64 s56.1), (20, .bool false)] [.is (decide (s56.1 < (w64 (x0 * x1))) = false)] hf63 (by kernel_rfl) ⟨(decide_eq_false c66), trivial⟩ fun a140 hf141 => ?_
      refine thenN ?_
      refine condF hf141 (by kernel_rfl) ?_
      refine wp_exit ?_
      refine thenE ?_
      refine thenE ?_
      obtain rfl := Option.some.inj H1
      exact .inl ⟨rfl, A57, c58, hf141.sel (l := [0, 1, 2, 3, 8, 9, 10]) (by kernel_rfl), hm65.sel [0, 1, 2, 3, 4] _ rfl (by kernel_rfl)⟩
  rintro a142 w143 ⟨A57, c58, hf144, hm145⟩
  refine thenN ?_
  refine wp_seq ?_
  refine inReg ?_
  refine go 1 [.agg #[.slice (some ⟨b30, 0, none⟩) 2 2, .slice A57 r59.2.length c58]] [8, 42] [(8, .pointer (some ⟨b21, 0, none⟩)), (42, .agg #[.slice (some ⟨b30, 0, none⟩) 2 2, .slice A57 r59.2.length c58])] [.cell ⟨b39, 0, none⟩ (.slice (some ⟨b30, 0, none⟩) 2 2), .cell ⟨b39, 1, none⟩ (.slice A57 r59.2.length c58)] hf144 (by kernel_rfl) ⟨(hm145.cell 1 rfl rfl), (hm145.cell 1 rfl rfl), trivial⟩ fun a146 hf147 => ?_
  refine listOf hf147 rfl (by kernel_rfl) (aStoreB (b := b21) (j := 0) (T := 42) (cs := [.slice none 0 0, .slice none 0 0]) (us := [.slice (some ⟨b30, 0, none⟩) 2 2, .slice A57 r59.2.length c58]) (cs' := [.slice (some ⟨b30, 0, none⟩) 2 2, .slice A57 r59.2.length c58]) hf147 (by kernel_rfl) (hm145.bxAt 3 rfl) (by kernel_rfl) (by kernel_rfl) (by kernel_rfl) ?_)
  intro w148 hx149 hg150
  have hm151 := hm145.setBox 3 _ rfl rfl hx149 hg150
  refine endL rfl ?_
  have hm152 := hm151.sel [0, 2, 3] _ rfl (by kernel_rfl)
  refine thenN ?_
  refine wp_ret ?_
  have hm153 : Mem [] M w0 [.ow (Kd.int .i64) 3 (some ⟨b30, 0, none⟩) 2 ([x0, x1] : List Int), .ow Kd.float 47 A57 c58 r59.2] w148 := hm152.sel [1, 0] _ rfl (by kernel_rfl)
  obtain rfl := Option.some.inj H0
  refine ret [.agg #[.slice (some ⟨b30, 0, none⟩) 2 2, .slice A57 r59.2.length c58]] [.agg #[.slice (some ⟨b30, 0, none⟩) 2 2, .slice A57 r59.2.length c58]] [.cell ⟨b21, 0, none⟩ (.slice (some ⟨b30, 0, none⟩) 2 2), .cell ⟨b21, 1, none⟩ (.slice A57 r59.2.length c58)] hf147 (by kernel_rfl) ⟨(hm152.cell 2 rfl rfl), (hm152.cell 2 rfl rfl), trivial⟩ ?_
  exact ⟨_, rfl, (some ⟨b30, 0, none⟩), 2, A57, c58, rfl, hm153⟩
end Go.Proofs.Ytkcgiolledmbnaa
