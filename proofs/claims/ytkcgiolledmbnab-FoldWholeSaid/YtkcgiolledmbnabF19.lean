/- Printed by gen.py. -/
import Derived.Test.YtkcgiolledmbnabF16
import Derived.Test.YtkcgiolledmbnabF2
import Derived.Test.YtkcgiolledmbnabF7
namespace Go.Proofs.Ytkcgiolledmbnab
open Go Go.RowKit
set_option linter.unusedSimpArgs false
set_option linter.unusedVariables false
set_option linter.unnecessarySimpa false
/-! ### backstitch/backstitchref1.Finite -/
noncomputable def ref1_Finite.l0 (x0 : Tensor) (s32 : Int) : Step Int (Out2 Int Bool) :=
  if s32 < (x0.Data.length : Int) then (if 0 ≤ s32 ∧ s32 < (x0.Data.length : Int) then (if (fne (rd x0.Data s32) (rd x0.Data s32)) = true then (.done (.ret false))
  else (bindS (math_IsInf.f (rd x0.Data s32) 0) fun r58 =>
  if r58 = true then (.done (.ret false))
  else (.next (w64 (s32 + 1)))))
  else .bad)
  else (.done (.go s32))
noncomputable def ref1_Finite.f (x0 : Tensor) : Option Bool :=
  (loop (ref1_Finite.l0 x0) 0).bind fun r33 =>
  r33.on (fun yr33 =>
  (ref1_TensorMay.f x0).bind fun r122 =>
  some r122) (fun y => some y)
set_option maxRecDepth 100000 in
set_option maxHeartbeats 4000000 in
theorem ref1_Finite.calls (M : List (Option Nat)) (w0 : World) (x0 : Tensor) (A0_0 : Option Addr) (n0_0 c0_0 : Nat) (e0_0 : n0_0 = x0.Shape.length) (A0_1 : Option Addr) (n0_1 c0_1 : Nat) (e0_1 : n0_1 = x0.Data.length) (hm0 : Mem [] M w0 [.sl (Kd.int .i64) A0_0 c0_0 x0.Shape, .sl Kd.float A0_1 c0_1 x0.Data] w0) (r : Bool) (H0 : ref1_Finite.f x0 = some r) :
    Calls Try.prog 41 [.agg #[.slice A0_0 n0_0 c0_0, .slice A0_1 n0_1 c0_1]].toArray w0 (fun x w' => ∃ v, x = .returned v ∧ v = .bool r ∧ Mem [] M w0 [] w') := by
  subst e0_0
  subst e0_1
  unfold ref1_Finite.f at H0
  refine enter (n := 32) Try.func41 rfl rfl (by kernel_rfl) fun a0 (hf0 : Fr 32 a0 [(0, .agg #[.slice A0_0 x0.Shape.length c0_0, .slice A0_1 x0.Data.length c0_1])]) => ?_
  refine wp_seq ?_
  refine inReg ?_
  refine listOf hf0 rfl (by kernel_rfl) (aNew (cs := [.slice A0_0 x0.Shape.length c0_0, .slice A0_1 x0.Data.length c0_1]) (T := 28) (d := 1) hf0 (by kernel_rfl) (by kernel_rfl) ?_)
  intro b21 w22 a23 hbb21 hx25 hg26 hf24
  have hm27 := hm0.box hbb21 hx25 hg26
  refine go 1 [] [1] [(1, .pointer (some ⟨b21, 0, none⟩))] [] hf24 (by kernel_rfl) trivial fun a28 hf29 => ?_
  refine endL rfl ?_
  refine thenN ?_
  refine wp_seq ?_
  refine wp_seq ?_
  refine reg [] [1, 3] [(1, .pointer (some ⟨b21, 0, none⟩)), (3, .int .i64 0)] [] hf29 (by kernel_rfl) trivial fun a30 hf31 => ?_
  refine thenN ?_
  obtain ⟨r33, hr33, H0⟩ := ob_split H0
  refine wpBlock (Mid := fun (a : Act) (w : World) => ∃ yr33 : Int, r33 = .go yr33 ∧ Fr 32 a [(1, .pointer (some ⟨b21, 0, none⟩)), (3, .int .i64 yr33)] ∧ Mem [] M w0 [.bx b21 [.slice A0_0 x0.Shape.length c0_0, .slice A0_1 x0.Data.length c0_1] 28, .sl (Kd.int .i64) A0_0 c0_0 x0.Shape, .sl Kd.float A0_1 c0_1 x0.Data] w) ?_ ?_
  · refine wpLoop (ref1_Finite.l0 x0) r33 (fun (s32 : Int) (a : Act) (w : World) => Fr 32 a [(1, .pointer (some ⟨b21, 0, none⟩)), (3, .int .i64 s32)] ∧ Mem [] M w0 [.bx b21 [.slice A0_0 x0.Shape.length c0_0, .slice A0_1 x0.Data.length c0_1] 28, .sl (Kd.int .i64) A0_0 c0_0 x0.Shape, .sl Kd.float A0_1 c0_1 x0.Data] w) 0 hr33 ⟨hf31.sel (l := [1, 3]) (by kernel_rfl), hm27.sel [0, 1, 2] _ rfl (by kernel_rfl)⟩ ?_
    rintro g34 s32 a35 w36 H1 ⟨hf37, hm38⟩
    unfold ref1_Finite.l0 at H1
    refine wp_seq ?_
    refine wp_seq ?_
    rcases ifS_split H1 with ⟨c39, H1⟩ | ⟨c39, H1⟩
    · refine reg [.slice A0_1 x0.Data.length c0_1, .bool true] [1, 3, 8] [(1, .pointer (some ⟨b21, 0, none⟩)), (3, .int .i64 s32), (8, .bool true)] [.cell ⟨b21, 1, none⟩ (.slice A0_1 x0.Data.length c0_1), .is (decide (s32 < (x0.Data.length : Int)) = true)] hf37 (by kernel_rfl) ⟨(hm38.cell 0 rfl rfl), (decide_eq_true c39), trivial⟩ fun a40 hf41 => ?_
      refine thenN ?_
      refine condT hf41 (by kernel_rfl) ?_
      refine wp_skip ?_
      refine thenN ?_
      refine wp_seq ?_
      refine wp_block ?_
      refine wp_seq ?_
      obtain ⟨g42, H1⟩ := ifS_guard H1
      rcases ifbS_split H1 with ⟨c43, H1⟩ | ⟨c43, H1⟩
      · have q44 := (hm38.slAt 2 rfl).float s32 g42.1 g42.2
        obtain ⟨b45, hb45, kb45⟩ := q44.2
        have q46 := (hm38.slAt 2 rfl).float s32 g42.1 g42.2
        obtain ⟨b47, hb47, kb47⟩ := q46.2
        refine regQ [.slice A0_1 x0.Data.length c0_1, .float .f64 b45, .slice A0_1 x0.Data.length c0_1, .float .f64 b47, .bool true] [1, 3, 29] [(1, .pointer (some ⟨b21, 0, none⟩)), (3, .int .i64 s32), (29, .bool true)] [.cell ⟨b21, 1, none⟩ (.slice A0_1 x0.Data.length c0_1), .is (Option.isSome A0_1 = true), .is (0 ≤ s32 ∧ s32 < (x0.Data.length : Int)), .cell ((ad A0_1).add ((s32).toNat * 1)) (.float .f64 b45), .cell ⟨b21, 1, none⟩ (.slice A0_1 x0.Data.length c0_1), .is (Option.isSome A0_1 = true), .is (0 ≤ s32 ∧ s32 < (x0.Data.length : Int)), .cell ((ad A0_1).add ((s32).toNat * 1)) (.float .f64 b47), .is ((FloatKind.f64.format.order b45 b47 != some .eq) = true)] (by kernel_rfl) (by kernel_rfl) hf41 (by kernel_rfl) ⟨(hm38.cell 0 rfl rfl), q44.1, g42, kb45, (hm38.cell 0 rfl rfl), q46.1, g42, kb47, (ftNe hb45 hb47 c43), trivial⟩ fun a48 w50 hf49 hg51 => ?_
        have hm52 := hm38.still hg51
        refine thenN ?_
        refine condT hf49 (by kernel_rfl) ?_
        refine wp_seq ?_
        refine reg [] [2] [(2, .bool false)] [] hf49 (by kernel_rfl) trivial fun a53 hf54 => ?_
        have hm55 := hm52.sel [] _ rfl (by kernel_rfl)
        refine thenN ?_
        refine wp_ret ?_
        refine blkR ?_
        refine thenR ?_
        refine thenR ?_
        refine .inr ⟨rfl, ?_⟩
        refine thenR ?_
        have hm56 : Mem [] M w0 [] w50 := hm55.sel [] _ rfl (by kernel_rfl)
        obtain rfl := Option.some.inj H1
        obtain rfl := Option.some.inj H0
        refine ret [] [.bool false] [] hf54 (by kernel_rfl) trivial ?_
        exact ⟨_, rfl, rfl, hm56⟩
      · obtain ⟨r58, hr58, H1⟩ := obS_split H1
        refine midReg (fun (a : Act) (w : World) => Fr 32 a [(1, .pointer (some ⟨b21, 0, none⟩)), (3, .int .i64 s32), (29, .bool r58)] ∧ Mem [] M w0 [.bx b21 [.slice A0_0 x0.Shape.length c0_0, .slice A0_1 x0.Data.length c0_1] 28, .sl (Kd.int .i64) A0_0 c0_0 x0.Shape, .sl Kd.float A0_1 c0_1 x0.Data] w) ?_ ?_
        · refine anyG [] (by kernel_rfl) fun w71 hg72 => ?_
          have hm73 := hm38.still hg72
          have q89 := (hm73.slAt 2 rfl).float s32 g42.1 g42.2
          obtain ⟨b90, hb90, kb90⟩ := q89.2
          have q91 := (hm73.slAt 2 rfl).float s32 g42.1 g42.2
          obtain ⟨b92, hb92, kb92⟩ := q91.2
          have q93 := (hm73.slAt 2 rfl).float s32 g42.1 g42.2
          obtain ⟨b94, hb94, kb94⟩ := q93.2
          refine quiet0 [0, 1, 2, 3, 4, 5, 6, 7, 8, 9, 10, 11, 12, 13, 14, 15, 16] [.slice A0_1 x0.Data.length c0_1, .float .f64 b90, .slice A0_1 x0.Data.length c0_1, .float .f64 b92, .bool false, .slice A0_1 x0.Data.length c0_1, .float .f64 b94] [1, 3, 22, 27] #[true, true, true, true, true, true, true, true, true, true, true, true, true, true, true, true, true, false, false] [(1, .pointer (some ⟨b21, 0, none⟩)), (3, .int .i64 s32), (22, .bool false), (27, .float .f64 b94)] [.cell ⟨b21, 1, none⟩ (.slice A0_1 x0.Data.length c0_1), .is (Option.isSome A0_1 = true), .is (0 ≤ s32 ∧ s32 < (x0.Data.length : Int)), .cell ((ad A0_1).add ((s32).toNat * 1)) (.float .f64 b90), .cell ⟨b21, 1, none⟩ (.slice A0_1 x0.Data.length c0_1), .is (Option.isSome A0_1 = true), .is (0 ≤ s32 ∧ s32 < (x0.Data.length : Int)), .cell ((ad A0_1).add ((s32).toNat * 1)) (.float .f64 b92), .is ((FloatKind.f64.format.order b90 b92 != some .eq) = false), .cell ⟨b21, 1, none⟩ (.slice A0_1 x0.Data.length c0_1), .is (Option.isSome A0_1 = true), .is (0 ≤ s32 ∧ s32 < (x0.Data.length : Int)), .cell ((ad A0_1).add ((s32).toNat * 1)) (.float .f64 b94)] 2 rfl (by kernel_rfl) (fun _ _ _ _ _ h => nomatch h.1) hf41 (by kernel_rfl) ⟨(hm73.cell 0 rfl rfl), q89.1, g42, kb90, (hm73.cell 0 rfl rfl), q91.1, g42, kb92, (ftNe hb90 hb92 c43), (hm73.cell 0 rfl rfl), q93.1, g42, kb94, trivial⟩ fun a95 hf96 => ?_
          refine all1 17 (by kernel_rfl) ?_
          refine opOf hf96 rfl (by kernel_rfl) (aCall (fid := 69) (args := [.float .f64 b94, .int .i64 0]) (d := 28) hf96 (by kernel_rfl) (by kernel_rfl) callable69 (math_IsInf.calls _ _ (rd x0.Data s32) b94 hb94 0 (hm73.give [] [] rfl rfl) r58 hr58) ?_)
          rintro _ w97 a98 ⟨rfl, hk100⟩ hf99
          refine ⟨.inr (Gr.still hk100.cum.none), ?_⟩
          have hm101 := hm73.still hk100.cum.none
          refine quiet0 [18] [] [1, 3, 29] #[true, true, true, true, true, true, true, true, true, true, true, true, true, true, true, true, true, true, true] [(1, .pointer (some ⟨b21, 0, none⟩)), (3, .int .i64 s32), (29, .bool r58)] [] 0 rfl (by kernel_rfl) (fun _ _ _ _ _ h => nomatch h.1) hf99 (by kernel_rfl) trivial fun a102 hf103 => ?_
          refine allDone (by kernel_rfl) ⟨rfl, hf103.sel (l := [1, 3, 29]) (by kernel_rfl), hm101.sel [0, 1, 2] _ rfl (by kernel_rfl)⟩
        rintro a104 w105 ⟨hf106, hm107⟩
        refine thenN ?_
        rcases ifbS_split H1 with ⟨c108, H1⟩ | ⟨c108, H1⟩
        · rw [c108] at hf106
          refine condT hf106 (by kernel_rfl) ?_
          refine wp_seq ?_
          refine reg [] [2] [(2, .bool false)] [] hf106 (by kernel_rfl) trivial fun a109 hf110 => ?_
          have hm111 := hm107.sel [] _ rfl (by kernel_rfl)
          refine thenN ?_
          refine wp_ret ?_
          refine blkR ?_
          refine thenR ?_
          refine thenR ?_
          refine .inr ⟨rfl, ?_⟩
          refine thenR ?_
          have hm112 : Mem [] M w0 [] w105 := hm111.sel [] _ rfl (by kernel_rfl)
          obtain rfl := Option.some.inj H1
          obtain rfl := Option.some.inj H0
          refine ret [] [.bool false] [] hf110 (by kernel_rfl) trivial ?_
          exact ⟨_, rfl, rfl, hm112⟩
        · rw [c108] at hf106
          refine condF hf106 (by kernel_rfl) ?_
          refine wp_skip ?_
          refine blkN ?_
          refine thenN ?_
          refine reg [] [1, 3] [(1, .pointer (some ⟨b21, 0, none⟩)), (3, .int .i64 (w64 (s32 + 1)))] [] hf106 (by kernel_rfl) trivial fun a114 hf115 => ?_
          exact ⟨(w64 (s32 + 1)), H1, hf115.sel (l := [1, 3]) (by kernel_rfl), hm107.sel [0, 1, 2] _ rfl (by kernel_rfl)⟩
    · refine reg [.slice A0_1 x0.Data.length c0_1, .bool false] [1, 3, 8] [(1, .pointer (some ⟨b21, 0, none⟩)), (3, .int .i64 s32), (8, .bool false)] [.cell ⟨b21, 1, none⟩ (.slice A0_1 x0.Data.length c0_1), .is (decide (s32 < (x0.Data.length : Int)) = false)] hf37 (by kernel_rfl) ⟨(hm38.cell 0 rfl rfl), (decide_eq_false c39), trivial⟩ fun a116 hf117 => ?_
      refine thenN ?_
      refine condF hf117 (by kernel_rfl) ?_
      refine wp_exit ?_
      refine thenE ?_
      refine thenE ?_
      obtain rfl := Option.some.inj H1
      exact .inl ⟨rfl, s32, rfl, hf117.sel (l := [1, 3]) (by kernel_rfl), hm38.sel [0, 1, 2] _ rfl (by kernel_rfl)⟩
  rintro a118 w119 ⟨yr33, rfl, hf120, hm121⟩
  refine thenN ?_
  refine wp_seq ?_
  obtain ⟨r122, hr122, H0⟩ := ob_split H0
  refine inReg ?_
  refine go 1 [.agg #[.slice A0_0 x0.Shape.length c0_0, .slice A0_1 x0.Data.length c0_1]] [30] [(30, .agg #[.slice A0_0 x0.Shape.length c0_0, .slice A0_1 x0.Data.length c0_1])] [.cell ⟨b21, 0, none⟩ (.slice A0_0 x0.Shape.length c0_0), .cell ⟨b21, 1, none⟩ (.slice A0_1 x0.Data.length c0_1)] hf120 (by kernel_rfl) ⟨(hm121.cell 0 rfl rfl), (hm121.cell 0 rfl rfl), trivial⟩ fun a123 hf124 => ?_
  refine listOf hf124 rfl (by kernel_rfl) (aCall (fid := 32) (args := [.agg #[.slice A0_0 x0.Shape.length c0_0, .slice A0_1 x0.Data.length c0_1]]) (d := 31) hf124 (by kernel_rfl) (by kernel_rfl) callable32 (ref1_TensorMay.calls _ _ x0 A0_0 x0.Shape.length c0_0 rfl A0_1 x0.Data.length c0_1 rfl (hm121.give [1, 2] [.sl (Kd.int .i64) A0_0 c0_0 x0.Shape, .sl Kd.float A0_1 c0_1 x0.Data] rfl rfl) r122 hr122) ?_)
  rintro _ w125 a126 ⟨rfl, hk128⟩ hf127
  have hm129 := hm121.still hk128.cum.none
  refine go 1 [] [2] [(2, .bool r122)] [] hf127 (by kernel_rfl) trivial fun a130 hf131 => ?_
  refine endL rfl ?_
  have hm132 := hm129.sel [] _ rfl (by kernel_rfl)
  refine thenN ?_
  refine wp_ret ?_
  have hm133 : Mem [] M w0 [] w125 := hm132.sel [] _ rfl (by kernel_rfl)
  obtain rfl := Option.some.inj H0
  refine ret [] [.bool r122] [] hf131 (by kernel_rfl) trivial ?_
  exact ⟨_, rfl, rfl, hm133⟩

/-! ### backstitch/tensor.Map -/
noncomputable def tensor_Map_nil.f (x0 : Tensor) : Option Tensor :=
  (tensor_May.f x0).bind fun r35 =>
  if r35 = true then (some (⟨([] : (List Int)), ([] : (List Nat))⟩ : Tensor))
  else (some (⟨([] : (List Int)), ([] : (List Nat))⟩ : Tensor))
set_option maxRecDepth 100000 in
set_option maxHeartbeats 4000000 in
theorem tensor_Map_nil.calls (M : List (Option Nat)) (w0 : World) (x0 : Tensor) (A0_0 : Option Addr) (n0_0 c0_0 : Nat) (e0_0 : n0_0 = x0.Shape.length) (A0_1 : Option Addr) (n0_1 c0_1 : Nat) (e0_1 : n0_1 = x0.Data.length) (hm0 : Mem [] M w0 [.sl (Kd.int .i64) A0_0 c0_0 x0.Shape, .sl Kd.float A0_1 c0_1 x0.Data] w0) (r : Tensor) (H0 : tensor_Map_nil.f x0 = some r) :
    Calls Try.prog 36 [.agg #[.slice A0_0 n0_0 c0_0, .slice A0_1 n0_1 c0_1], .nilFunc].toArray w0 (fun x w' => ∃ v, x = .returned v ∧ ∃ Ar0_0 cr0_0 Ar0_1 cr0_1, v = .agg #[.slice Ar0_0 r.Shape.length cr0_0, .slice Ar0_1 r.Data.length cr0_1] ∧ Mem [] M w0 [.sl (Kd.int .i64) Ar0_0 cr0_0 r.Shape, .sl Kd.float Ar0_1 cr0_1 r.Data] w') := by
  subst e0_0
  subst e0_1
  unfold tensor_Map_nil.f at H0
  refine enter (n := 35) Try.func36 rfl rfl (by kernel_rfl) fun a0 (hf0 : Fr 35 a0 [(0, .agg #[.slice A0_0 x0.Shape.length c0_0, .slice A0_1 x0.Data.length c0_1]), (1, .nilFunc)]) => ?_
  refine wp_seq ?_
  refine inReg ?_
  refine listOf hf0 rfl (by kernel_rfl) (aNew (cs := [.slice A0_0 x0.Shape.length c0_0, .slice A0_1 x0.Data.length c0_1]) (T := 28) (d := 2) hf0 (by kernel_rfl) (by kernel_rfl) ?_)
  intro b21 w22 a23 hbb21 hx25 hg26 hf24
  have hm27 := hm0.box hbb21 hx25 hg26
  refine listOf hf24 rfl (by kernel_rfl) (aNew (cs := [.slice none 0 0, .slice none 0 0]) (T := 28) (d := 4) hf24 (by kernel_rfl) (by kernel_rfl) ?_)
  intro b28 w29 a30 hbb28 hx32 hg33 hf31
  have hm34 := hm27.box hbb28 hx32 hg33
  refine endL rfl ?_
  refine thenN ?_
  refine wp_seq ?_
  refine wp_seq ?_
  obtain ⟨r35, hr35, H0⟩ := ob_split H0
  rcases ifb_split H0 with ⟨c36, H0⟩ | ⟨c36, H0⟩
  · refine inReg ?_
    refine go 1 [.agg #[.slice A0_0 x0.Shape.length c0_0, .slice A0_1 x0.Data.length c0_1]] [1, 2, 4, 8] [(1, .nilFunc), (2, .pointer (some ⟨b21, 0, none⟩)), (4, .pointer (some ⟨b28, 0, none⟩)), (8, .agg #[.slice A0_0 x0.Shape.length c0_0, .slice A0_1 x0.Data.length c0_1])] [.cell ⟨b21, 0, none⟩ (.slice A0_0 x0.Shape.length c0_0), .cell ⟨b21, 1, none⟩ (.slice A0_1 x0.Data.length c0_1)] hf31 (by kernel_rfl) ⟨(hm34.cell 1 rfl rfl), (hm34.cell 1 rfl rfl), trivial⟩ fun a37 hf38 => ?_
    refine listOf hf38 rfl (by kernel_rfl) (aCall (fid := 38) (args := [.agg #[.slice A0_0 x0.Shape.length c0_0, .slice A0_1 x0.Data.length c0_1]]) (d := 9) hf38 (by kernel_rfl) (by kernel_rfl) callable38 (tensor_May.calls _ _ x0 A0_0 x0.Shape.length c0_0 rfl A0_1 x0.Data.length c0_1 rfl (hm34.give [2, 3] [.sl (Kd.int .i64) A0_0 c0_0 x0.Shape, .sl Kd.float A0_1 c0_1 x0.Data] rfl rfl) r35 hr35) ?_)
    rintro _ w39 a40 ⟨rfl, hk42⟩ hf41
    have hm43 := hm34.still hk42.cum.none
    rw [c36] at hf41
    refine go 5 [] [1, 2, 4, 14] [(1, .nilFunc), (2, .pointer (some ⟨b21, 0, none⟩)), (4, .pointer (some ⟨b28, 0, none⟩)), (14, .bool true)] [] hf41 (by kernel_rfl) trivial fun a44 hf45 => ?_
    refine endL rfl ?_
    refine thenN ?_
    refine condT hf45 (by kernel_rfl) ?_
    refine wp_seq ?_
    refine inReg ?_
    refine go 1 [] [4, 15] [(4, .pointer (some ⟨b28, 0, none⟩)), (15, .agg #[.slice none 0 0, .slice none 0 0])] [] hf45 (by kernel_rfl) trivial fun a46 hf47 => ?_
    refine listOf hf47 rfl (by kernel_rfl) (aStoreB (b := b28) (j := 0) (T := 28) (cs := [.slice none 0 0, .slice none 0 0]) (us := [.slice none 0 0, .slice none 0 0]) (cs' := [.slice none 0 0, .slice none 0 0]) hf47 (by kernel_rfl) (hm43.bxAt 0 rfl) (by kernel_rfl) (by kernel_rfl) (by kernel_rfl) ?_)
    intro w48 hx49 hg50
    have hm51 := hm43.setBox 0 _ rfl rfl hx49 hg50
    refine endL rfl ?_
    have hm52 := hm51.sel [0] _ rfl (by kernel_rfl)
    refine thenN ?_
    refine wp_ret ?_
    refine thenR ?_
    have hm53 : Mem [] M w0 [.sl (Kd.int .i64) none 0 ([] : (List Int)), .bx b28 [.slice none 0 0, .slice none 0 0] 28] w48 := hm52.nilSl (Kd.int .i64)
    have hm54 : Mem [] M w0 [.sl Kd.float none 0 ([] : (List Nat)), .sl (Kd.int .i64) none 0 ([] : (List Int)), .bx b28 [.slice none 0 0, .slice none 0 0] 28] w48 := hm53.nilSl Kd.float
    have hm55 : Mem [] M w0 [.sl (Kd.int .i64) none 0 ([] : (List Int)), .sl Kd.float none 0 ([] : (List Nat))] w48 := hm54.sel [1, 0] _ rfl (by kernel_rfl)
    obtain rfl := Option.some.inj H0
    refine ret [.agg #[.slice none 0 0, .slice none 0 0]] [.agg #[.slice none 0 0, .slice none 0 0]] [.cell ⟨b28, 0, none⟩ (.slice none 0 0), .cell ⟨b28, 1, none⟩ (.slice none 0 0)] hf47 (by kernel_rfl) ⟨(hm52.cell 0 rfl rfl), (hm52.cell 0 rfl rfl), trivial⟩ ?_
    exact ⟨_, rfl, none, 0, none, 0, rfl, hm55⟩
  · refine inReg ?_
    refine go 1 [.agg #[.slice A0_0 x0.Shape.length c0_0, .slice A0_1 x0.Data.length c0_1]] [1, 2, 4, 8] [(1, .nilFunc), (2, .pointer (some ⟨b21, 0, none⟩)), (4, .pointer (some ⟨b28, 0, none⟩)), (8, .agg #[.slice A0_0 x0.Shape.length c0_0, .slice A0_1 x0.Data.length c0_1])] [.cell ⟨b21, 0, none⟩ (.slice A0_0 x0.Shape.length c0_0), .cell ⟨b21, 1, none⟩ (.slice A0_1 x0.Data.length c0_1)] hf31 (by kernel_rfl) ⟨(hm34.cell 1 rfl rfl), (hm34.cell 1 rfl rfl), trivial⟩ fun a57 hf58 => ?_
    refine listOf hf58 rfl (by kernel_rfl) (aCall (fid := 38) (args := [.agg #[.slice A0_0 x0.Shape.length c0_0, .slice A0_1 x0.Data.length c0_1]]) (d := 9) hf58 (by kernel_rfl) (by kernel_rfl) callable38 (tensor_May.calls _ _ x0 A0_0 x0.Shape.length c0_0 rfl A0_1 x0.Data.length c0_1 rfl (hm34.give [2, 3] [.sl (Kd.int .i64) A0_0 c0_0 x0.Shape, .sl Kd.float A0_1 c0_1 x0.Data] rfl rfl) r35 hr35) ?_)
    rintro _ w59 a60 ⟨rfl, hk62⟩ hf61
    have hm63 := hm34.still hk62.cum.none
    rw [c36] at hf61
    refine go 5 [] [1, 2, 4, 14] [(1, .nilFunc), (2, .pointer (some ⟨b21, 0, none⟩)), (4, .pointer (some ⟨b28, 0, none⟩)), (14, .bool true)] [] hf61 (by kernel_rfl) trivial fun a65 hf66 => ?_
    refine endL rfl ?_
    refine thenN ?_
    refine condT hf66 (by kernel_rfl) ?_
    refine wp_seq ?_
    refine inReg ?_
    refine go 1 [] [4, 15] [(4, .pointer (some ⟨b28, 0, none⟩)), (15, .agg #[.slice none 0 0, .slice none 0 0])] [] hf66 (by kernel_rfl) trivial fun a67 hf68 => ?_
    refine listOf hf68 rfl (by kernel_rfl) (aStoreB (b := b28) (j := 0) (T := 28) (cs := [.slice none 0 0, .slice none 0 0]) (us := [.slice none 0 0, .slice none 0 0]) (cs' := [.slice none 0 0, .slice none 0 0]) hf68 (by kernel_rfl) (hm63.bxAt 0 rfl) (by kernel_rfl) (by kernel_rfl) (by kernel_rfl) ?_)
    intro w69 hx70 hg71
    have hm72 := hm63.setBox 0 _ rfl rfl hx70 hg71
    refine endL rfl ?_
    have hm73 := hm72.sel [0] _ rfl (by kernel_rfl)
    refine thenN ?_
    refine wp_ret ?_
    refine thenR ?_
    have hm74 : Mem [] M w0 [.sl (Kd.int .i64) none 0 ([] : (List Int)), .bx b28 [.slice none 0 0, .slice none 0 0] 28] w69 := hm73.nilSl (Kd.int .i64)
    have hm75 : Mem [] M w0 [.sl Kd.float none 0 ([] : (List Nat)), .sl (Kd.int .i64) none 0 ([] : (List Int)), .bx b28 [.slice none 0 0, .slice none 0 0] 28] w69 := hm74.nilSl Kd.float
    have hm76 : Mem [] M w0 [.sl (Kd.int .i64) none 0 ([] : (List Int)), .sl Kd.float none 0 ([] : (List Nat))] w69 := hm75.sel [1, 0] _ rfl (by kernel_rfl)
    obtain rfl := Option.some.inj H0
    refine ret [.agg #[.slice none 0 0, .slice none 0 0]] [.agg #[.slice none 0 0, .slice none 0 0]] [.cell ⟨b28, 0, none⟩ (.slice none 0 0), .cell ⟨b28, 1, none⟩ (.slice none 0 0)] hf68 (by kernel_rfl) ⟨(hm73.cell 0 rfl rfl), (hm73.cell 0 rfl rfl), trivial⟩ ?_
    exact ⟨_, rfl, none, 0, none, 0, rfl, hm76⟩

/-! ### math.Inf -/
noncomputable def math_Inf.f (x0 : Int) : Option Nat :=
  if 0 ≤ x0 then (some 9218868437227405312)
  else (some 18442240474082181120)
set_option maxRecDepth 100000 in
set_option maxHeartbeats 4000000 in
theorem math_Inf.calls (M : List (Option Nat)) (w0 : World) (x0 : Int) (hm0 : Mem [] M w0 [] w0) (r : Nat) (H0 : math_Inf.f x0 = some r) :
    Calls Try.prog 42 [.int .i64 x0].toArray w0 (fun x w' => ∃ v, x = .returned v ∧ ∃ br0, v = .float .f64 br0 ∧ FR br0 r ∧ Mem [] M w0 [] w') := by
  unfold math_Inf.f at H0
  refine enter (n := 8) Try.func42 rfl rfl (by kernel_rfl) fun a0 (hf0 : Fr 8 a0 [(0, .int .i64 x0)]) => ?_
  refine wp_seq ?_
  refine reg [] [0] [(0, .int .i64 x0)] [] hf0 (by kernel_rfl) trivial fun a21 hf22 => ?_
  refine thenN ?_
  refine wp_seq ?_
  refine reg [] [0] [(0, .int .i64 x0)] [] hf22 (by kernel_rfl) trivial fun a23 hf24 => ?_
  refine thenN ?_
  refine wp_seq ?_
  refine wp_seq ?_
  rcases if_split H0 with ⟨c25, H0⟩ | ⟨c25, H0⟩
  · refine reg [.bool true] [5] [(5, .bool true)] [.is (decide (0 ≤ x0) = true)] hf24 (by kernel_rfl) ⟨(decide_eq_true c25), trivial⟩ fun a26 hf27 => ?_
    refine thenN ?_
    refine condT hf27 (by kernel_rfl) ?_
    refine reg [] [3] [(3, .int .u64 9218868437227405312)] [] hf27 (by kernel_rfl) trivial fun a28 hf29 => ?_
    refine thenN ?_
    refine wp_seq ?_
    refine inReg ?_
    refine go 1 [] [6] [(6, .int .u64 9218868437227405312)] [] hf29 (by kernel_rfl) trivial fun a30 hf31 => ?_
    refine listOf hf31 rfl (by kernel_rfl) (aExtern (fid := 63) (args := [.int .u64 9218868437227405312]) (d := 7) (R := fun v w' => v = .float .f64 9218868437227405312 ∧ w0 = w') hf31 (by kernel_rfl) (by kernel_rfl) ⟨_, Try.func63, rfl, rfl, by kernel_rfl, rfl⟩ ⟨_, _, run_frombits 9218868437227405312, rfl, rfl⟩ ?_)
    rintro _ _ a33 ⟨rfl, rfl⟩ hf34
    have h35 : FR 9218868437227405312 9218868437227405312 := (FR.lit (by kernel_rfl) (by kernel_rfl))
    refine go 1 [] [2] [(2, .float .f64 9218868437227405312)] [] hf34 (by kernel_rfl) trivial fun a36 hf37 => ?_
    refine endL rfl ?_
    refine thenN ?_
    refine wp_ret ?_
    have hm38 : Mem [] M w0 [] w0 := hm0.sel [] _ rfl (by kernel_rfl)
    obtain rfl := Option.some.inj H0
    refine ret [] [.float .f64 9218868437227405312] [] hf37 (by kernel_rfl) trivial ?_
    exact ⟨_, rfl, 9218868437227405312, rfl, h35, hm38⟩
  · refine reg [.bool false] [5] [(5, .bool false)] [.is (decide (0 ≤ x0) = false)] hf24 (by kernel_rfl) ⟨(decide_eq_false c25), trivial⟩ fun a40 hf41 => ?_
    refine thenN ?_
    refine condF hf41 (by kernel_rfl) ?_
    refine reg [] [3] [(3, .int .u64 18442240474082181120)] [] hf41 (by kernel_rfl) trivial fun a42 hf43 => ?_
    refine thenN ?_
    refine wp_seq ?_
    refine inReg ?_
    refine go 1 [] [6] [(6, .int .u64 18442240474082181120)] [] hf43 (by kernel_rfl) trivial fun a44 hf45 => ?_
    refine listOf hf45 rfl (by kernel_rfl) (aExtern (fid := 63) (args := [.int .u64 18442240474082181120]) (d := 7) (R := fun v w' => v = .float .f64 18442240474082181120 ∧ w0 = w') hf45 (by kernel_rfl) (by kernel_rfl) ⟨_, Try.func63, rfl, rfl, by kernel_rfl, rfl⟩ ⟨_, _, run_frombits 18442240474082181120, rfl, rfl⟩ ?_)
    rintro _ _ a47 ⟨rfl, rfl⟩ hf48
    have h49 : FR 18442240474082181120 18442240474082181120 := (FR.lit (by kernel_rfl) (by kernel_rfl))
    refine go 1 [] [2] [(2, .float .f64 18442240474082181120)] [] hf48 (by kernel_rfl) trivial fun a50 hf51 => ?_
    refine endL rfl ?_
    refine thenN ?_
    refine wp_ret ?_
    have hm52 : Mem [] M w0 [] w0 := hm0.sel [] _ rfl (by kernel_rfl)
    obtain rfl := Option.some.inj H0
    refine ret [] [.float .f64 18442240474082181120] [] hf51 (by kernel_rfl) trivial ?_
    exact ⟨_, rfl, 18442240474082181120, rfl, h49, hm52⟩

/-! ### backstitch/kernel.two -/
set_option maxRecDepth 100000 in
set_option maxHeartbeats 4000000 in
theorem kernel_two.calls0 (M : List (Option Nat)) (w0 : World) (x0 : Int) (hm0 : Mem [] M w0 [] w0) (k0 : x0 = 4) :
    Calls Try.prog 70 [.int .i64 x0].toArray w0 (fun x w' => ∃ v, x = .returned v ∧ v = .func (.func 86) #[] #[] ∧ Mem [] M w0 [] w') := by
  refine enter (n := 12) Try.func70 rfl rfl (by kernel_rfl) fun a0 (hf0 : Fr 12 a0 [(0, .int .i64 x0)]) => ?_
  refine wp_seq ?_
  refine reg [] [0] [(0, .int .i64 x0)] [] hf0 (by kernel_rfl) trivial fun a21 hf22 => ?_
  refine thenN ?_
  refine wp_seq ?_
  refine wp_seq ?_
  refine reg [] [3] [(3, .int .i64 x0)] [] hf22 (by kernel_rfl) trivial fun a23 hf24 => ?_
  refine thenN ?_
  refine wp_block ?_
  refine wp_seq ?_
  refine reg [.bool true] [3, 4] [(3, .int .i64 x0), (4, .bool true)] [.is (((x0 : Int) == 4) = true)] hf24 (by kernel_rfl) ⟨(eqT k0), trivial⟩ fun a25 hf26 => ?_
  refine thenN ?_
  refine condT hf26 (by kernel_rfl) ?_
  refine wp_seq ?_
  refine reg [] [2] [(2, .func (.func 86) #[] #[])] [] hf26 (by kernel_rfl) trivial fun a27 hf28 => ?_
  refine thenN ?_
  refine wp_ret ?_
  refine blkR ?_
  refine thenR ?_
  have hm29 : Mem [] M w0 [] w0 := hm0.sel [] _ rfl (by kernel_rfl)
  refine ret [] [.func (.func 86) #[] #[]] [] hf28 (by kernel_rfl) trivial ?_
  exact ⟨_, rfl, rfl, hm29⟩
set_option maxRecDepth 100000 in
set_option maxHeartbeats 4000000 in
theorem kernel_two.calls1 (M : List (Option Nat)) (w0 : World) (x0 : Int) (hm0 : Mem [] M w0 [] w0) (k0 : ¬ (x0 = 4)) (k1 : x0 = 5) :
    Calls Try.prog 70 [.int .i64 x0].toArray w0 (fun x w' => ∃ v, x = .returned v ∧ v = .func (.func 87) #[] #[] ∧ Mem [] M w0 [] w') := by
  refine enter (n := 12) Try.func70 rfl rfl (by kernel_rfl) fun a0 (hf0 : Fr 12 a0 [(0, .int .i64 x0)]) => ?_
  refine wp_seq ?_
  refine reg [] [0] [(0, .int .i64 x0)] [] hf0 (by kernel_rfl) trivial fun a21 hf22 => ?_
  refine thenN ?_
  refine wp_seq ?_
  refine wp_seq ?_
  refine reg [] [3] [(3, .int .i64 x0)] [] hf22 (by kernel_rfl) trivial fun a23 hf24 => ?_
  refine thenN ?_
  refine wp_block ?_
  refine wp_seq ?_
  refine reg [.bool false] [3, 4] [(3, .int .i64 x0), (4, .bool false)] [.is (((x0 : Int) == 4) = false)] hf24 (by kernel_rfl) ⟨(eqF k0), trivial⟩ fun a25 hf26 => ?_
  refine thenN ?_
  refine condF hf26 (by kernel_rfl) ?_
  refine wp_seq ?_
  refine reg [.bool true] [3, 6] [(3, .int .i64 x0), (6, .bool true)] [.is (((x0 : Int) == 5) = true)] hf26 (by kernel_rfl) ⟨(eqT k1), trivial⟩ fun a27 hf28 => ?_
  refine thenN ?_
  refine condT hf28 (by kernel_rfl) ?_
  refine wp_seq ?_
  refine reg [] [2] [(2, .func (.func 87) #[] #[])] [] hf28 (by kernel_rfl) trivial fun a29 hf30 => ?_
  refine thenN ?_
  refine wp_ret ?_
  refine blkR ?_
  refine thenR ?_
  have hm31 : Mem [] M w0 [] w0 := hm0.sel [] _ rfl (by kernel_rfl)
  refine ret [] [.func (.func 87) #[] #[]] [] hf30 (by kernel_rfl) trivial ?_
  exact ⟨_, rfl, rfl, hm31⟩
set_option maxRecDepth 100000 in
set_option maxHeartbeats 4000000 in
theorem kernel_two.calls2 (M : List (Option Nat)) (w0 : World) (x0 : Int) (hm0 : Mem [] M w0 [] w0) (k0 : ¬ (x0 = 4)) (k1 : ¬ (x0 = 5)) (k2 : x0 = 6) :
    Calls Try.prog 70 [.int .i64 x0].toArray w0 (fun x w' => ∃ v, x = .returned v ∧ v = .func (.func 88) #[] #[] ∧ Mem [] M w0 [] w') := by
  refine enter (n := 12) Try.func70 rfl rfl (by kernel_rfl) fun a0 (hf0 : Fr 12 a0 [(0, .int .i64 x0)]) => ?_
  refine wp_seq ?_
  refine reg [] [0] [(0, .int .i64 x0)] [] hf0 (by kernel_rfl) trivial fun a21 hf22 => ?_
  refine thenN ?_
  refine wp_seq ?_
  refine wp_seq ?_
  refine reg [] [3] [(3, .int .i64 x0)] [] hf22 (by kernel_rfl) trivial fun a23 hf24 => ?_
  refine thenN ?_
  refine wp_block ?_
  refine wp_seq ?_
  refine reg [.bool false] [3, 4] [(3, .int .i64 x0), (4, .bool false)] [.is (((x0 : Int) == 4) = false)] hf24 (by kernel_rfl) ⟨(eqF k0), trivial⟩ fun a25 hf26 => ?_
  refine thenN ?_
  refine condF hf26 (by kernel_rfl) ?_
  refine wp_seq ?_
  refine reg [.bool false] [3, 6] [(3, .int .i64 x0), (6, .bool false)] [.is (((x0 : Int) == 5) = false)] hf26 (by kernel_rfl) ⟨(eqF k1), trivial⟩ fun a27 hf28 => ?_
  refine thenN ?_
  refine condF hf28 (by kernel_rfl) ?_
  refine wp_seq ?_
  refine reg [.bool true] [3, 8] [(3, .int .i64 x0), (8, .bool true)] [.is (((x0 : Int) == 6) = true)] hf28 (by kernel_rfl) ⟨(eqT k2), trivial⟩ fun a29 hf30 => ?_
  refine thenN ?_
  refine condT hf30 (by kernel_rfl) ?_
  refine wp_seq ?_
  refine reg [] [2] [(2, .func (.func 88) #[] #[])] [] hf30 (by kernel_rfl) trivial fun a31 hf32 => ?_
  refine thenN ?_
  refine wp_ret ?_
  refine blkR ?_
  refine thenR ?_
  have hm33 : Mem [] M w0 [] w0 := hm0.sel [] _ rfl (by kernel_rfl)
  refine ret [] [.func (.func 88) #[] #[]] [] hf32 (by kernel_rfl) trivial ?_
  exact ⟨_, rfl, rfl, hm33⟩
set_option maxRecDepth 100000 in
set_option maxHeartbeats 4000000 in
theorem kernel_two.calls3 (M : List (Option Nat)) (w0 : World) (x0 : Int) (hm0 : Mem [] M w0 [] w0) (k0 : ¬ (x0 = 4)) (k1 : ¬ (x0 = 5)) (k2 : ¬ (x0 = 6)) (k3 : x0 = 7) :
    Calls Try.prog 70 [.int .i64 x0].toArray w0 (fun x w' => ∃ v, x = .returned v ∧ v = .func (.func 89) #[] #[] ∧ Mem [] M w0 [] w') := by
  refine enter (n := 12) Try.func70 rfl rfl (by kernel_rfl) fun a0 (hf0 : Fr 12 a0 [(0, .int .i64 x0)]) => ?_
  refine wp_seq ?_
  refine reg [] [0] [(0, .int .i64 x0)] [] hf0 (by kernel_rfl) trivial fun a21 hf22 => ?_
  refine thenN ?_
  refine wp_seq ?_
  refine wp_seq ?_
  refine reg [] [3] [(3, .int .i64 x0)] [] hf22 (by kernel_rfl) trivial fun a23 hf24 => ?_
  refine thenN ?_
  refine wp_block ?_
  refine wp_seq ?_
  refine reg [.bool false] [3, 4] [(3, .int .i64 x0), (4, .bool false)] [.is (((x0 : Int) == 4) = false)] hf24 (by kernel_rfl) ⟨(eqF k0), trivial⟩ fun a25 hf26 => ?_
  refine thenN ?_
  refine condF hf26 (by kernel_rfl) ?_
  refine wp_seq ?_
  refine reg [.bool false] [3, 6] [(3, .int .i64 x0), (6, .bool false)] [.is (((x0 : Int) == 5) = false)] hf26 (by kernel_rfl) ⟨(eqF k1), trivial⟩ fun a27 hf28 => ?_
  refine thenN ?_
  refine condF hf28 (by kernel_rfl) ?_
  refine wp_seq ?_
  refine reg [.bool false] [3, 8] [(3, .int .i64 x0), (8, .bool false)] [.is (((x0 : Int) == 6) = false)] hf28 (by kernel_rfl) ⟨(eqF k2), trivial⟩ fun a29 hf30 => ?_
  refine thenN ?_
  refine condF hf30 (by kernel_rfl) ?_
  refine wp_seq ?_
  refine reg [.bool true] [10] [(10, .bool true)] [.is (((x0 : Int) == 7) = true)] hf30 (by kernel_rfl) ⟨(eqT k3), trivial⟩ fun a31 hf32 => ?_
  refine thenN ?_
  refine condT hf32 (by kernel_rfl) ?_
  refine wp_seq ?_
  refine reg [] [2] [(2, .func (.func 89) #[] #[])] [] hf32 (by kernel_rfl) trivial fun a33 hf34 => ?_
  refine thenN ?_
  refine wp_ret ?_
  refine blkR ?_
  refine thenR ?_
  have hm35 : Mem [] M w0 [] w0 := hm0.sel [] _ rfl (by kernel_rfl)
  refine ret [] [.func (.func 89) #[] #[]] [] hf34 (by kernel_rfl) trivial ?_
  exact ⟨_, rfl, rfl, hm35⟩
set_option maxRecDepth 100000 in
set_option maxHeartbeats 4000000 in
theorem kernel_two.calls4 (M : List (Option Nat)) (w0 : World) (x0 : Int) (hm0 : Mem [] M w0 [] w0) (k0 : ¬ (x0 = 4)) (k1 : ¬ (x0 = 5)) (k2 : ¬ (x0 = 6)) (k3 : ¬ (x0 = 7)) :
    Calls Try.prog 70 [.int .i64 x0].toArray w0 (fun x w' => ∃ v, x = .returned v ∧ v = .nilFunc ∧ Mem [] M w0 [] w') := by
  refine enter (n := 12) Try.func70 rfl rfl (by kernel_rfl) fun a0 (hf0 : Fr 12 a0 [(0, .int .i64 x0)]) => ?_
  refine wp_seq ?_
  refine reg [] [0] [(0, .int .i64 x0)] [] hf0 (by kernel_rfl) trivial fun a21 hf22 => ?_
  refine thenN ?_
  refine wp_seq ?_
  refine wp_seq ?_
  refine reg [] [3] [(3, .int .i64 x0)] [] hf22 (by kernel_rfl) trivial fun a23 hf24 => ?_
  refine thenN ?_
  refine wp_block ?_
  refine wp_seq ?_
  refine reg [.bool false] [3, 4] [(3, .int .i64 x0), (4, .bool false)] [.is (((x0 : Int) == 4) = false)] hf24 (by kernel_rfl) ⟨(eqF k0), trivial⟩ fun a25 hf26 => ?_
  refine thenN ?_
  refine condF hf26 (by kernel_rfl) ?_
  refine wp_seq ?_
  refine reg [.bool false] [3, 6] [(3, .int .i64 x0), (6, .bool false)] [.is (((x0 : Int) == 5) = false)] hf26 (by kernel_rfl) ⟨(eqF k1), trivial⟩ fun a27 hf28 => ?_
  refine thenN ?_
  refine condF hf28 (by kernel_rfl) ?_
  refine wp_seq ?_
  refine reg [.bool false] [3, 8] [(3, .int .i64 x0), (8, .bool false)] [.is (((x0 : Int) == 6) = false)] hf28 (by kernel_rfl) ⟨(eqF k2), trivial⟩ fun a29 hf30 => ?_
  refine thenN ?_
  refine condF hf30 (by kernel_rfl) ?_
  refine wp_seq ?_
  refine reg [.bool false] [10] [(10, .bool false)] [.is (((x0 : Int) == 7) = false)] hf30 (by kernel_rfl) ⟨(eqF k3), trivial⟩ fun a31 hf32 => ?_
  refine thenN ?_
  refine condF hf32 (by kernel_rfl) ?_
  refine wp_skip ?_
  refine blkN ?_
  refine thenN ?_
  refine wp_seq ?_
  refine reg [] [2] [(2, .nilFunc)] [] hf32 (by kernel_rfl) trivial fun a33 hf34 => ?_
  refine thenN ?_
  refine wp_ret ?_
  have hm35 : Mem [] M w0 [] w0 := hm0.sel [] _ rfl (by kernel_rfl)
  refine ret [] [.nilFunc] [] hf34 (by kernel_rfl) trivial ?_
  exact ⟨_, rfl, rfl, hm35⟩

/-! ### backstitch/shape.number -/
noncomputable def shape_number.f (x0 : (List Int)) (x1 : Int) : Option Int :=
  if (x0.length : Int) ≤ x1 then (some 1)
  else (if 0 ≤ (w64 ((w64 ((x0.length : Int) - 1)) - x1)) ∧ (w64 ((w64 ((x0.length : Int) - 1)) - x1)) < (x0.length : Int) then (some (rd x0 (w64 ((w64 ((x0.length : Int) - 1)) - x1))))
  else none)
set_option maxRecDepth 100000 in
set_option maxHeartbeats 4000000 in
theorem shape_number.calls (M : List (Option Nat)) (w0 : World) (x0 : (List Int)) (A0 : Option Addr) (n0 c0 : Nat) (e0 : n0 = x0.length) (x1 : Int) (hm0 : Mem [] M w0 [.sl (Kd.int .i64) A0 c0 x0] w0) (r : Int) (H0 : shape_number.f x0 x1 = some r) :
    Calls Try.prog 90 [.slice A0 n0 c0, .int .i64 x1].toArray w0 (fun x w' => ∃ v, x = .returned v ∧ v = .int .i64 r ∧ Mem [] M w0 [] w') := by
  subst e0
  unfold shape_number.f at H0
  refine enter (n := 17) Try.func90 rfl rfl (by kernel_rfl) fun a0 (hf0 : Fr 17 a0 [(0, .slice A0 x0.length c0), (1, .int .i64 x1)]) => ?_
  refine wp_seq ?_
  refine reg [] [0, 1] [(0, .slice A0 x0.length c0), (1, .int .i64 x1)] [] hf0 (by kernel_rfl) trivial fun a21 hf22 => ?_
  refine thenN ?_
  refine wp_seq ?_
  refine wp_seq ?_
  rcases if_split H0 with ⟨c23, H0⟩ | ⟨c23, H0⟩
  · refine reg [.bool true] [0, 1, 8] [(0, .slice A0 x0.length c0), (1, .int .i64 x1), (8, .bool true)] [.is (decide ((x0.length : Int) ≤ x1) = true)] hf22 (by kernel_rfl) ⟨(decide_eq_true c23), trivial⟩ fun a24 hf25 => ?_
    refine thenN ?_
    refine condT hf25 (by kernel_rfl) ?_
    refine wp_seq ?_
    refine reg [] [4] [(4, .int .i64 1)] [] hf25 (by kernel_rfl) trivial fun a26 hf27 => ?_
    have hm28 := hm0.sel [] _ rfl (by kernel_rfl)
    refine thenN ?_
    refine wp_ret ?_
    refine thenR ?_
    have hm29 : Mem [] M w0 [] w0 := hm28.sel [] _ rfl (by kernel_rfl)
    obtain rfl := Option.some.inj H0
    refine ret [] [.int .i64 1] [] hf27 (by kernel_rfl) trivial ?_
    exact ⟨_, rfl, rfl, hm29⟩
  · refine reg [.bool false] [0, 1, 8] [(0, .slice A0 x0.length c0), (1, .int .i64 x1), (8, .bool false)] [.is (decide ((x0.length : Int) ≤ x1) = false)] hf22 (by kernel_rfl) ⟨(decide_eq_false c23), trivial⟩ fun a31 hf32 => ?_
    refine thenN ?_
    refine condF hf32 (by kernel_rfl) ?_
    refine wp_skip ?_
    refine thenN ?_
    refine wp_seq ?_
    obtain ⟨g33, H0⟩ := if_guard H0
    have q34 := (hm0.slAt 0 rfl).int (w64 ((w64 ((x0.length : Int) - 1)) - x1)) g33.1 g33.2
    refine reg [.int .i64 (rd x0 (w64 ((w64 ((x0.length : Int) - 1)) - x1)))] [4] [(4, .int .i64 (rd x0 (w64 ((w64 ((x0.length : Int) - 1)) - x1))))] [.is (Option.isSome A0 = true), .is (0 ≤ (w64 ((w64 ((x0.length : Int) - 1)) - x1)) ∧ (w64 ((w64 ((x0.length : Int) - 1)) - x1)) < (x0.length : Int)), .cell ((ad A0).add (((w64 ((w64 ((x0.length : Int) - 1)) - x1))).toNat * 1)) (.int .i64 (rd x0 (w64 ((w64 ((x0.length : Int) - 1)) - x1))))] hf32 (by kernel_rfl) ⟨q34.1, g33, q34.2, trivial⟩ fun a35 hf36 => ?_
    have hm37 := hm0.sel [] _ rfl (by kernel_rfl)
    refine thenN ?_
    refine wp_ret ?_
    have hm38 : Mem [] M w0 [] w0 := hm37.sel [] _ rfl (by kernel_rfl)
    obtain rfl := Option.some.inj H0
    refine ret [] [.int .i64 (rd x0 (w64 ((w64 ((x0.length : Int) - 1)) - x1)))] [] hf36 (by kernel_rfl) trivial ?_
    exact ⟨_, rfl, rfl, hm38⟩
end Go.Proofs.Ytkcgiolledmbnab
