/- Printed by gen.py. -/
import Derived.Test.YtkdhahdfkonilaaDoorF7
namespace Go.Proofs.YtkdhahdfkonilaaDoor
open Go Go.RowKit
set_option linter.unusedSimpArgs false
set_option linter.unusedVariables false
set_option linter.unnecessarySimpa false
/-! ### backstitch/backstitchref19.Number -/
noncomputable def ref19_Number.l0  (s46 : (Int × Int × (List Int))) : Step (Int × Int × (List Int)) (Int × Int × (List Int)) :=
  if 0 ≤ s46.2.1 then (if 0 ≤ (bits .and .u64 s46.1 15) ∧ (bits .and .u64 s46.1 15) < (([48, 49, 50, 51, 52, 53, 54, 55, 56, 57, 97, 98, 99, 100, 101, 102] : List UInt8).length : Int) then (if 0 ≤ s46.2.1 ∧ s46.2.1 < (s46.2.2.length : Int) then (.next ((Int.fdiv s46.1 (2 ^ 4)), (w64 (s46.2.1 - 1)), (put s46.2.2 s46.2.1 (chr ([48, 49, 50, 51, 52, 53, 54, 55, 56, 57, 97, 98, 99, 100, 101, 102] : List UInt8) (bits .and .u64 s46.1 15)))))
  else .bad)
  else .bad)
  else (.done (s46.1, s46.2.1, s46.2.2))
noncomputable def ref19_Number.f (x0 : Nat) : Option (List UInt8) :=
  (ref1_Bits.f x0).bind fun r23 =>
  (loop (ref19_Number.l0) (r23, 15, (List.replicate (16 : Int).toNat (0 : Int)))).bind fun r47 =>
  some (bytesOf r47.2.2)
set_option maxRecDepth 100000 in
set_option maxHeartbeats 4000000 in
theorem ref19_Number.calls (M : List (Option Nat)) (w0 : World) (x0 : Nat) (b0 : Nat) (h0 : FR b0 x0) (hm0 : Mem [] M w0 [] w0) (r : (List UInt8)) (H0 : ref19_Number.f x0 = some r) :
    Calls Tryd.prog 19 [.float .f64 b0].toArray w0 (fun x w' => ∃ v, x = .returned v ∧ v = .string (bs r) ∧ Mem [] M w0 [] w') := by
  unfold ref19_Number.f at H0
  refine enter (n := 23) Tryd.func19 rfl rfl (by kernel_rfl) fun a0 (hf0 : Fr 23 a0 [(0, .float .f64 b0)]) => ?_
  refine wp_seq ?_
  refine reg [] [0] [(0, .float .f64 b0)] [] hf0 (by kernel_rfl) trivial fun a21 hf22 => ?_
  refine thenN ?_
  refine wp_seq ?_
  obtain ⟨r23, hr23, H0⟩ := ob_split H0
  refine inReg ?_
  refine go 1 [] [6] [(6, .float .f64 b0)] [] hf22 (by kernel_rfl) trivial fun a24 hf25 => ?_
  refine listOf hf25 rfl (by kernel_rfl) (aCall (fid := 35) (args := [.float .f64 b0]) (d := 7) hf25 (by kernel_rfl) (by kernel_rfl) callable35 (ref1_Bits.calls _ _ x0 b0 h0 (hm0.give [] [] rfl rfl) r23 hr23) ?_)
  rintro _ w26 a27 ⟨rfl, hk29⟩ hf28
  have hm30 := hm0.still hk29.cum.none
  refine go 1 [] [3] [(3, .int .u64 r23)] [] hf28 (by kernel_rfl) trivial fun a31 hf32 => ?_
  refine endL rfl ?_
  refine thenN ?_
  refine wp_seq ?_
  refine inReg ?_
  refine listOf hf32 rfl (by kernel_rfl) (aMake (kd := (Kd.int .u8)) (x := 0) (E := 5) (L := 16) (z := [.int .u8 0]) (sz := 1) (d := 8) hf32 (by kernel_rfl) (by kernel_rfl) rfl (fun _ _ => rfl) (by decide) (by decide) ?_)
  intro A33 c34 w35 a36 ho38 hb40 hg39 hf37
  have hm41 : Mem [] M w0 [.ow (Kd.int .u8) 5 A33 c34 (List.replicate (16 : Int).toNat (0 : Int))] w35 := hm30.own (ho38 _) hg39
  refine go 1 [] [3, 4] [(3, .int .u64 r23), (4, .slice A33 ((List.replicate (16 : Int).toNat (0 : Int)).length) c34)] [] hf37 (by kernel_rfl) trivial fun a42 hf43 => ?_
  refine endL rfl ?_
  refine thenN ?_
  refine wp_seq ?_
  refine wp_seq ?_
  refine reg [] [3, 4, 5] [(3, .int .u64 r23), (4, .slice A33 ((List.replicate (16 : Int).toNat (0 : Int)).length) c34), (5, .int .i64 15)] [] hf43 (by kernel_rfl) trivial fun a44 hf45 => ?_
  refine thenN ?_
  obtain ⟨r47, hr47, H0⟩ := ob_split H0
  refine wpBlock (Mid := fun (a : Act) (w : World) => Fr 23 a [(3, .int .u64 r47.1), (4, .slice A33 r47.2.2.length c34), (5, .int .i64 r47.2.1)] ∧ Mem [] M w0 [.ow (Kd.int .u8) 5 A33 c34 r47.2.2] w) ?_ ?_
  · refine wpLoop (ref19_Number.l0) r47 (fun (s46 : (Int × Int × (List Int))) (a : Act) (w : World) => Fr 23 a [(3, .int .u64 s46.1), (4, .slice A33 s46.2.2.length c34), (5, .int .i64 s46.2.1)] ∧ Mem [] M w0 [.ow (Kd.int .u8) 5 A33 c34 s46.2.2] w) (r23, 15, (List.replicate (16 : Int).toNat (0 : Int))) hr47 ⟨hf45.sel (l := [3, 4, 5]) (by kernel_rfl), hm41.sel [0] _ rfl (by kernel_rfl)⟩ ?_
    rintro g48 s46 a49 w50 H1 ⟨hf51, hm52⟩
    unfold ref19_Number.l0 at H1
    refine wp_seq ?_
    refine wp_seq ?_
    rcases ifS_split H1 with ⟨c53, H1⟩ | ⟨c53, H1⟩
    rotate_left
    · refine reg [.bool false] [3, 4, 5, 10] [(3, .int .u64 s46.1), (4, .slice A33 s46.2.2.length c34), (5, .int .i64 s46.2.1), (10, .bool false)] [.is (decide (0 ≤ s46.2.1) = false)] hf51 (by kernel_rfl) ⟨(decide_eq_false c53), trivial⟩ fun a72 hf73 => ?_
      refine thenN ?_
      refine condF hf73 (by kernel_rfl) ?_
      refine wp_exit ?_
      refine thenE ?_
      refine thenE ?_
      obtain rfl := Option.some.inj H1
      exact .inl ⟨rfl, hf73.sel (l := [3, 4, 5]) (by kernel_rfl), hm52.sel [0] _ rfl (by kernel_rfl)⟩
    refine reg [.bool true] [3, 4, 5, 10] [(3, .int .u64 s46.1), (4, .slice A33 s46.2.2.length c34), (5, .int .i64 s46.2.1), (10, .bool true)] [.is (decide (0 ≤ s46.2.1) = true)] hf51 (by kernel_rfl) ⟨(decide_eq_true c53), trivial⟩ fun a54 hf55 => ?_
    refine thenN ?_
    refine condT hf55 (by kernel_rfl) ?_
    refine wp_skip ?_
    refine thenN ?_
    refine wp_seq ?_
    refine wp_block ?_
    refine wp_seq ?_
    obtain ⟨g56, H1⟩ := ifS_guard H1
    obtain ⟨g57, H1⟩ := ifS_guard H1
    have q58 := (hm52.owAt 0 rfl).int s46.2.1 g57.1 g57.2
    refine inReg ?_
    refine go 6 [.int .u8 (chr ([48, 49, 50, 51, 52, 53, 54, 55, 56, 57, 97, 98, 99, 100, 101, 102] : List UInt8) (bits .and .u64 s46.1 15))] [3, 4, 5, 17, 18] [(3, .int .u64 s46.1), (4, .slice A33 s46.2.2.length c34), (5, .int .i64 s46.2.1), (17, .int .u8 (chr ([48, 49, 50, 51, 52, 53, 54, 55, 56, 57, 97, 98, 99, 100, 101, 102] : List UInt8) (bits .and .u64 s46.1 15))), (18, .pointer (some ((ad A33).add ((s46.2.1).toNat * 1))))] [.is (0 ≤ (bits .and .u64 s46.1 15) ∧ (bits .and .u64 s46.1 15) < (([48, 49, 50, 51, 52, 53, 54, 55, 56, 57, 97, 98, 99, 100, 101, 102] : List UInt8).length : Int)), .is ((((bs ([48, 49, 50, 51, 52, 53, 54, 55, 56, 57, 97, 98, 99, 100, 101, 102] : List UInt8))[((bits .and .u64 s46.1 15)).toNat]?).getD 0).toNat = (chr ([48, 49, 50, 51, 52, 53, 54, 55, 56, 57, 97, 98, 99, 100, 101, 102] : List UInt8) (bits .and .u64 s46.1 15))), .is (Option.isSome A33 = true), .is (0 ≤ s46.2.1 ∧ s46.2.1 < (s46.2.2.length : Int))] hf55 (by kernel_rfl) ⟨g56, (chr_eq ([48, 49, 50, 51, 52, 53, 54, 55, 56, 57, 97, 98, 99, 100, 101, 102] : List UInt8) (bits .and .u64 s46.1 15)), q58.1, g57, trivial⟩ fun a59 hf60 => ?_
    refine listOf hf60 rfl (by kernel_rfl) (aStoreO (kd := (Kd.int .u8)) (base := 0) (E := 5) (A := A33) (c := c34) (xs := s46.2.2) (i := s46.2.1) (x := (chr ([48, 49, 50, 51, 52, 53, 54, 55, 56, 57, 97, 98, 99, 100, 101, 102] : List UInt8) (bits .and .u64 s46.1 15))) (us := [.int .u8 (chr ([48, 49, 50, 51, 52, 53, 54, 55, 56, 57, 97, 98, 99, 100, 101, 102] : List UInt8) (bits .and .u64 s46.1 15))]) (sz := 1) hf60 (by kernel_rfl) rfl (by kernel_rfl) (hm52.at 0 rfl) rfl g57.1 g57.2 ?_)
    intro w61 hx62 hg63
    have hm65 := hm52.setOwn 0 _ rfl rfl hx62 hg63 (.inl rfl)
    refine endL rfl ?_
    refine thenN ?_
    refine reg [] [3, 4, 5] [(3, .int .u64 (Int.fdiv s46.1 (2 ^ 4))), (4, .slice A33 s46.2.2.length c34), (5, .int .i64 s46.2.1)] [] hf60 (by kernel_rfl) trivial fun a66 hf67 => ?_
    refine blkN ?_
    refine thenN ?_
    refine reg [] [3, 4, 5] [(3, .int .u64 (Int.fdiv s46.1 (2 ^ 4))), (4, .slice A33 s46.2.2.length c34), (5, .int .i64 (w64 (s46.2.1 - 1)))] [] hf67 (by kernel_rfl) trivial fun a68 hf69 => ?_
    have hf70 : Fr 23 a68 [(3, .int .u64 (Int.fdiv s46.1 (2 ^ 4))), (4, .slice A33 s46.2.2.length c34), (5, .int .i64 (w64 (s46.2.1 - 1)))] := hf69.sel (l := [3, 4, 5]) (by kernel_rfl)
    have hm71 : Mem [] M w0 [.ow (Kd.int .u8) 5 A33 c34 (put s46.2.2 s46.2.1 (chr ([48, 49, 50, 51, 52, 53, 54, 55, 56, 57, 97, 98, 99, 100, 101, 102] : List UInt8) (bits .and .u64 s46.1 15)))] w61 := hm65.sel [0] _ rfl (by kernel_rfl)
    exact ⟨((Int.fdiv s46.1 (2 ^ 4)), (w64 (s46.2.1 - 1)), (put s46.2.2 s46.2.1 (chr ([48, 49, 50, 51, 52, 53, 54, 55, 56, 57, 97, 98, 99, 100, 101, 102] : List UInt8) (bits .and .u64 s46.1 15)))), H1, (by simpa only [put_length, List.length_nil] using hf70), (by simpa only [put_length, List.length_nil] using hm71)⟩
  rintro a74 w75 ⟨hf76, hm77⟩
  refine thenN ?_
  refine wp_seq ?_
  refine inReg ?_
  refine go 1 [] [21] [(21, .slice A33 r47.2.2.length c34)] [] hf76 (by kernel_rfl) trivial fun a78 hf79 => ?_
  have hm80 := hm77.seal 0 _ rfl rfl
  refine listOf hf79 rfl (by kernel_rfl) (aStr (A := A33) (k := r47.2.2.length) (c := c34) (xs := r47.2.2) (d := 22) hf79 (by kernel_rfl) (by kernel_rfl) rfl (hm80.slAt 0 rfl) ?_)
  intro a81 hf82
  refine go 1 [] [2] [(2, .string (bs (bytesOf r47.2.2)))] [] hf82 (by kernel_rfl) trivial fun a83 hf84 => ?_
  refine endL rfl ?_
  have hm85 := hm80.sel [] _ rfl (by kernel_rfl)
  refine thenN ?_
  refine wp_ret ?_
  have hm86 : Mem [] M w0 [] w75 := hm85.sel [] _ rfl (by kernel_rfl)
  obtain rfl := Option.some.inj H0
  refine ret [] [.string (bs (bytesOf r47.2.2))] [] hf84 (by kernel_rfl) trivial ?_
  exact ⟨_, rfl, rfl, hm86⟩

/-! ### backstitch/backstitchref1.Same -/
noncomputable def ref1_Same.f (x0 : Nat) (x1 : Nat) : Option Bool :=
  (ref1_Bits.f x0).bind fun r23 =>
  (ref1_Bits.f x1).bind fun r24 =>
  if r23 = r24 then (some true)
  else (some false)
set_option maxRecDepth 100000 in
set_option maxHeartbeats 4000000 in
theorem ref1_Same.calls (M : List (Option Nat)) (w0 : World) (x0 : Nat) (b0 : Nat) (h0 : FR b0 x0) (x1 : Nat) (b1 : Nat) (h1 : FR b1 x1) (hm0 : Mem [] M w0 [] w0) (r : Bool) (H0 : ref1_Same.f x0 x1 = some r) :
    Calls Tryd.prog 20 [.float .f64 b0, .float .f64 b1].toArray w0 (fun x w' => ∃ v, x = .returned v ∧ v = .bool r ∧ Mem [] M w0 [] w') := by
  unfold ref1_Same.f at H0
  refine enter (n := 10) Tryd.func20 rfl rfl (by kernel_rfl) fun a0 (hf0 : Fr 10 a0 [(0, .float .f64 b0), (1, .float .f64 b1)]) => ?_
  refine wp_seq ?_
  refine reg [] [0, 1] [(0, .float .f64 b0), (1, .float .f64 b1)] [] hf0 (by kernel_rfl) trivial fun a21 hf22 => ?_
  refine thenN ?_
  refine wp_seq ?_
  obtain ⟨r23, hr23, H0⟩ := ob_split H0
  obtain ⟨r24, hr24, H0⟩ := ob_split H0
  rcases if_split H0 with ⟨c25, H0⟩ | ⟨c25, H0⟩
  · refine inReg ?_
    refine go 1 [] [1, 5] [(1, .float .f64 b1), (5, .float .f64 b0)] [] hf22 (by kernel_rfl) trivial fun a26 hf27 => ?_
    refine listOf hf27 rfl (by kernel_rfl) (aCall (fid := 35) (args := [.float .f64 b0]) (d := 6) hf27 (by kernel_rfl) (by kernel_rfl) callable35 (ref1_Bits.calls _ _ x0 b0 h0 (hm0.give [] [] rfl rfl) r23 hr23) ?_)
    rintro _ w28 a29 ⟨rfl, hk31⟩ hf30
    have hm32 := hm0.still hk31.cum.none
    refine go 1 [] [6, 7] [(6, .int .u64 r23), (7, .float .f64 b1)] [] hf30 (by kernel_rfl) trivial fun a33 hf34 => ?_
    refine listOf hf34 rfl (by kernel_rfl) (aCall (fid := 35) (args := [.float .f64 b1]) (d := 8) hf34 (by kernel_rfl) (by kernel_rfl) callable35 (ref1_Bits.calls _ _ x1 b1 h1 (hm32.give [] [] rfl rfl) r24 hr24) ?_)
    rintro _ w35 a36 ⟨rfl, hk38⟩ hf37
    have hm39 := hm32.still hk38.cum.none
    refine go 2 [.bool true] [4] [(4, .bool true)] [.is (((r23 : Int) == r24) = true)] hf37 (by kernel_rfl) ⟨(eqT c25), trivial⟩ fun a40 hf41 => ?_
    refine endL rfl ?_
    refine thenN ?_
    refine wp_ret ?_
    have hm42 : Mem [] M w0 [] w35 := hm39.sel [] _ rfl (by kernel_rfl)
    obtain rfl := Option.some.inj H0
    refine ret [] [.bool true] [] hf41 (by kernel_rfl) trivial ?_
    exact ⟨_, rfl, rfl, hm42⟩
  refine inReg ?_
  refine go 1 [] [1, 5] [(1, .float .f64 b1), (5, .float .f64 b0)] [] hf22 (by kernel_rfl) trivial fun a44 hf45 => ?_
  refine listOf hf45 rfl (by kernel_rfl) (aCall (fid := 35) (args := [.float .f64 b0]) (d := 6) hf45 (by kernel_rfl) (by kernel_rfl) callable35 (ref1_Bits.calls _ _ x0 b0 h0 (hm0.give [] [] rfl rfl) r23 hr23) ?_)
  rintro _ w46 a47 ⟨rfl, hk49⟩ hf48
  have hm50 := hm0.still hk49.cum.none
  refine go 1 [] [6, 7] [(6, .int .u64 r23), (7, .float .f64 b1)] [] hf48 (by kernel_rfl) trivial fun a51 hf52 => ?_
  refine listOf hf52 rfl (by kernel_rfl) (aCall (fid := 35) (args := [.float .f64 b1]) (d := 8) hf52 (by kernel_rfl) (by kernel_rfl) callable35 (ref1_Bits.calls _ _ x1 b1 h1 (hm50.give [] [] rfl rfl) r24 hr24) ?_)
  rintro _ w53 a54 ⟨rfl, hk56⟩ hf55
  have hm57 := hm50.still hk56.cum.none
  refine go 2 [.bool false] [4] [(4, .bool false)] [.is (((r23 : Int) == r24) = false)] hf55 (by kernel_rfl) ⟨(eqF c25), trivial⟩ fun a58 hf59 => ?_
  refine endL rfl ?_
  refine thenN ?_
  refine wp_ret ?_
  have hm60 : Mem [] M w0 [] w53 := hm57.sel [] _ rfl (by kernel_rfl)
  obtain rfl := Option.some.inj H0
  refine ret [] [.bool false] [] hf59 (by kernel_rfl) trivial ?_
  exact ⟨_, rfl, rfl, hm60⟩

/-! ### backstitch/backstitchlaw3.Small -/
noncomputable def law3_Small.f (x0 : Tensor) : Option Bool :=
  if (x0.Shape.length : Int) ≤ 40 then (if (x0.Data.length : Int) ≤ 8192 then (some true)
  else (some false))
  else (some false)
set_option maxRecDepth 100000 in
set_option maxHeartbeats 4000000 in
theorem law3_Small.calls (M : List (Option Nat)) (w0 : World) (x0 : Tensor) (A0_0 : Option Addr) (n0_0 c0_0 : Nat) (e0_0 : n0_0 = x0.Shape.length) (A0_1 : Option Addr) (n0_1 c0_1 : Nat) (e0_1 : n0_1 = x0.Data.length) (hm0 : Mem [] M w0 [.sl (Kd.int .i64) A0_0 c0_0 x0.Shape, .sl Kd.float A0_1 c0_1 x0.Data] w0) (r : Bool) (H0 : law3_Small.f x0 = some r) :
    Calls Tryd.prog 21 [.agg #[.slice A0_0 n0_0 c0_0, .slice A0_1 n0_1 c0_1]].toArray w0 (fun x w' => ∃ v, x = .returned v ∧ v = .bool r ∧ Mem [] M w0 [] w') := by
  subst e0_0
  subst e0_1
  unfold law3_Small.f at H0
  refine enter (n := 13) Tryd.func21 rfl rfl (by kernel_rfl) fun a0 (hf0 : Fr 13 a0 [(0, .agg #[.slice A0_0 x0.Shape.length c0_0, .slice A0_1 x0.Data.length c0_1])]) => ?_
  refine wp_seq ?_
  refine inReg ?_
  refine listOf hf0 rfl (by kernel_rfl) (aNew (cs := [.slice A0_0 x0.Shape.length c0_0, .slice A0_1 x0.Data.length c0_1]) (T := 46) (d := 1) hf0 (by kernel_rfl) (by kernel_rfl) ?_)
  intro b21 w22 a23 hbb21 hx25 hg26 hf24
  have hm27 := hm0.box hbb21 hx25 hg26
  refine go 1 [] [1] [(1, .pointer (some ⟨b21, 0, none⟩))] [] hf24 (by kernel_rfl) trivial fun a28 hf29 => ?_
  refine endL rfl ?_
  refine thenN ?_
  refine wp_seq ?_
  rcases if_split H0 with ⟨c30, H0⟩ | ⟨c30, H0⟩
  rotate_left
  · refine reg [.slice A0_0 x0.Shape.length c0_0, .bool false] [2] [(2, .bool false)] [.cell ⟨b21, 0, none⟩ (.slice A0_0 x0.Shape.length c0_0), .is (decide ((x0.Shape.length : Int) ≤ 40) = false)] hf29 (by kernel_rfl) ⟨(hm27.cell 0 rfl rfl), (decide_eq_false c30), trivial⟩ fun a42 hf43 => ?_
    have hm44 := hm27.sel [] _ rfl (by kernel_rfl)
    refine thenN ?_
    refine wp_ret ?_
    have hm45 : Mem [] M w0 [] w22 := hm44.sel [] _ rfl (by kernel_rfl)
    obtain rfl := Option.some.inj H0
    refine ret [] [.bool false] [] hf43 (by kernel_rfl) trivial ?_
    exact ⟨_, rfl, rfl, hm45⟩
  rcases if_split H0 with ⟨c31, H0⟩ | ⟨c31, H0⟩
  · refine reg [.slice A0_0 x0.Shape.length c0_0, .bool true, .slice A0_1 x0.Data.length c0_1, .bool true] [2] [(2, .bool true)] [.cell ⟨b21, 0, none⟩ (.slice A0_0 x0.Shape.length c0_0), .is (decide ((x0.Shape.length : Int) ≤ 40) = true), .cell ⟨b21, 1, none⟩ (.slice A0_1 x0.Data.length c0_1), .is (decide ((x0.Data.length : Int) ≤ 8192) = true)] hf29 (by kernel_rfl) ⟨(hm27.cell 0 rfl rfl), (decide_eq_true c30), (hm27.cell 0 rfl rfl), (decide_eq_true c31), trivial⟩ fun a32 hf33 => ?_
    have hm34 := hm27.sel [] _ rfl (by kernel_rfl)
    refine thenN ?_
    refine wp_ret ?_
    have hm35 : Mem [] M w0 [] w22 := hm34.sel [] _ rfl (by kernel_rfl)
    obtain rfl := Option.some.inj H0
    refine ret [] [.bool true] [] hf33 (by kernel_rfl) trivial ?_
    exact ⟨_, rfl, rfl, hm35⟩
  refine reg [.slice A0_0 x0.Shape.length c0_0, .bool true, .slice A0_1 x0.Data.length c0_1, .bool false] [2] [(2, .bool false)] [.cell ⟨b21, 0, none⟩ (.slice A0_0 x0.Shape.length c0_0), .is (decide ((x0.Shape.length : Int) ≤ 40) = true), .cell ⟨b21, 1, none⟩ (.slice A0_1 x0.Data.length c0_1), .is (decide ((x0.Data.length : Int) ≤ 8192) = false)] hf29 (by kernel_rfl) ⟨(hm27.cell 0 rfl rfl), (decide_eq_true c30), (hm27.cell 0 rfl rfl), (decide_eq_false c31), trivial⟩ fun a37 hf38 => ?_
  have hm39 := hm27.sel [] _ rfl (by kernel_rfl)
  refine thenN ?_
  refine wp_ret ?_
  have hm40 : Mem [] M w0 [] w22 := hm39.sel [] _ rfl (by kernel_rfl)
  obtain rfl := Option.some.inj H0
  refine ret [] [.bool false] [] hf38 (by kernel_rfl) trivial ?_
  exact ⟨_, rfl, rfl, hm40⟩

/-! ### backstitch/backstitchlaw10.Small -/
noncomputable def law10_Small.l1 (x0 : (List Graph)) (s27 : (Int × Int)) (s50 : (Int × Int)) : Step (Int × Int) (Out2 (Int × Int) Bool) :=
  if s50.2 < ((((rd x0 s27.2).L).length : Nat) : Int) then (if s50.1 ≤ 4000 then (if 0 ≤ s50.2 ∧ s50.2 < ((((rd x0 s27.2).L).length : Nat) : Int) then (if 40 < (((((rd ((rd x0 s27.2).L) s50.2).Val).Shape).length : Nat) : Int) then (.done (.ret false))
  else (bindS (law3_Small.f (⟨(((rd ((rd x0 s27.2).L) s50.2).Val).Shape), (((rd ((rd x0 s27.2).L) s50.2).Val).Data)⟩ : Tensor)) fun r122 =>
  if r122 = true then (.next ((w64 ((w64 ((w64 ((w64 (s50.1 + ((((rd ((rd x0 s27.2).L) s50.2).In).length : Nat) : Int))) + ((((rd ((rd x0 s27.2).L) s50.2).To).length : Nat) : Int))) + ((((rd ((rd x0 s27.2).L) s50.2).Hooks).length : Nat) : Int))) + (w64 (Int.tdiv (((((rd ((rd x0 s27.2).L) s50.2).Val).Data).length : Nat) : Int) 16)))), (w64 (s50.2 + 1))))
  else (.done (.ret false))))
  else .bad)
  else (.done (.go (s50.1, s50.2))))
  else (.done (.go (s50.1, s50.2)))
noncomputable def law10_Small.l0 (x0 : (List Graph)) (s27 : (Int × Int)) : Step (Int × Int) (Out2 (Int × Int) Bool) :=
  if s27.2 < (x0.length : Int) then (if 0 ≤ s27.2 ∧ s27.2 < (x0.length : Int) then (bindS (loop (law10_Small.l1 x0 s27) ((w64 (s27.1 + ((((rd x0 s27.2).L).length : Nat) : Int))), 0)) fun r51 =>
  r51.on (fun yr51 =>
  .next (yr51.1, (w64 (s27.2 + 1)))) (fun y => .done (.ret y)))
  else .bad)
  else (.done (.go (s27.1, s27.2)))
noncomputable def law10_Small.f (x0 : (List Graph)) : Option Bool :=
  (loop (law10_Small.l0 x0) (0, 0)).bind fun r28 =>
  r28.on (fun yr28 =>
  if (x0.length : Int) ≤ 40 then (if yr28.1 ≤ 4000 then (some true)
  else (some false))
  else (some false)) (fun y => some y)
set_option maxRecDepth 100000 in
set_option maxHeartbeats 4000000 in
theorem law10_Small.calls (M : List (Option Nat)) (w0 : World) (x0 : (List Graph)) (A0 : Option Addr) (n0 c0 : Nat) (e0 : n0 = x0.length) (hm0 : Mem [] M w0 [.sl kGraph A0 c0 x0] w0) (r : Bool) (H0 : law10_Small.f x0 = some r) :
    Calls Tryd.prog 10 [.slice A0 n0 c0].toArray w0 (fun x w' => ∃ v, x = .returned v ∧ v = .bool r ∧ Mem [] M w0 [] w') := by
  subst e0
  unfold law10_Small.f at H0
  refine enter (n := 80) Tryd.func10 rfl rfl (by kernel_rfl) fun a0 (hf0 : Fr 80 a0 [(0, .slice A0 x0.length c0)]) => ?_
  refine wp_seq ?_
  refine reg [] [0] [(0, .slice A0 x0.length c0)] [] hf0 (by kernel_rfl) trivial fun a21 hf22 => ?_
  refine thenN ?_
  refine wp_seq ?_
  refine reg [] [0, 3] [(0, .slice A0 x0.length c0), (3, .int .i64 0)] [] hf22 (by kernel_rfl) trivial fun a23 hf24 => ?_
  refine thenN ?_
  refine wp_seq ?_
  refine wp_seq ?_
  refine reg [] [0, 3, 4] [(0, .slice A0 x0.length c0), (3, .int .i64 0), (4, .int .i64 0)] [] hf24 (by kernel_rfl) trivial fun a25 hf26 => ?_
  refine thenN ?_
  obtain ⟨r28, hr28, H0⟩ := ob_split H0
  refine wpBlock (Mid := fun (a : Act) (w : World) => ∃ yr28 : (Int × Int), r28 = .go yr28 ∧ Fr 80 a [(0, .slice A0 x0.length c0), (3, .int .i64 yr28.1), (4, .int .i64 yr28.2)] ∧ Mem [] M w0 [.sl kGraph A0 c0 x0] w) ?_ ?_
  · refine wpLoop (law10_Small.l0 x0) r28 (fun (s27 : (Int × Int)) (a : Act) (w : World) => Fr 80 a [(0, .slice A0 x0.length c0), (3, .int .i64 s27.1), (4, .int .i64 s27.2)] ∧ Mem [] M w0 [.sl kGraph A0 c0 x0] w) (0, 0) hr28 ⟨hf26.sel (l := [0, 3, 4]) (by kernel_rfl), hm0.sel [0] _ rfl (by kernel_rfl)⟩ ?_
    rintro g29 s27 a30 w31 H1 ⟨hf32, hm33⟩
    unfold law10_Small.l0 at H1
    refine wp_seq ?_
    refine wp_seq ?_
    rcases ifS_split H1 with ⟨c34, H1⟩ | ⟨c34, H1⟩
    rotate_left
    · refine reg [.bool false] [0, 3, 4, 10] [(0, .slice A0 x0.length c0), (3, .int .i64 s27.1), (4, .int .i64 s27.2), (10, .bool false)] [.is (decide (s27.2 < (x0.length : Int)) = false)] hf32 (by kernel_rfl) ⟨(decide_eq_false c34), trivial⟩ fun a177 hf178 => ?_
      refine thenN ?_
      refine condF hf178 (by kernel_rfl) ?_
      refine wp_exit ?_
      refine thenE ?_
      refine thenE ?_
      obtain rfl := Option.some.inj H1
      exact .inl ⟨rfl, (s27.1, s27.2), rfl, hf178.sel (l := [0, 3, 4]) (by kernel_rfl), hm33.sel [0] _ rfl (by kernel_rfl)⟩
    refine reg [.bool true] [0, 3, 4, 10] [(0, .slice A0 x0.length c0), (3, .int .i64 s27.1), (4, .int .i64 s27.2), (10, .bool true)] [.is (decide (s27.2 < (x0.length : Int)) = true)] hf32 (by kernel_rfl) ⟨(decide_eq_true c34), trivial⟩ fun a35 hf36 => ?_
    refine thenN ?_
    refine condT hf36 (by kernel_rfl) ?_
    refine wp_skip ?_
    refine thenN ?_
    refine wp_seq ?_
    refine wp_block ?_
    refine wp_seq ?_
    obtain ⟨g37, H1⟩ := ifS_guard H1
    have q38 := (hm33.slAt 0 rfl).get s27.2 g37.1 g37.2
    obtain ⟨us39, hr40, hc41⟩ := q38.2
    obtain ⟨A42, c43, rfl, ⟨pA42, sA42⟩⟩ := kGraph.open hr40
    have hm44 := hm33.elem pA42 sA42
    refine reg [.slice A42 (((rd x0 s27.2).L).length) c43] [0, 3, 4] [(0, .slice A0 x0.length c0), (3, .int .i64 (w64 (s27.1 + ((((rd x0 s27.2).L).length : Nat) : Int)))), (4, .int .i64 s27.2)] [.is (Option.isSome A0 = true), .is (0 ≤ s27.2 ∧ s27.2 < (x0.length : Int)), .cell ((ad A0).add ((s27.2).toNat * 1)) (.slice A42 (((rd x0 s27.2).L).length) c43)] hf36 (by kernel_rfl) ⟨q38.1, g37, (hc41 0 _ rfl), trivial⟩ fun a45 hf46 => ?_
    have hm47 := hm44.sel [1] _ rfl (by kernel_rfl)
    refine thenN ?_
    refine wp_seq ?_
    refine reg [] [0, 3, 4, 5] [(0, .slice A0 x0.length c0), (3, .int .i64 (w64 (s27.1 + ((((rd x0 s27.2).L).length : Nat) : Int)))), (4, .int .i64 s27.2), (5, .int .i64 0)] [] hf46 (by kernel_rfl) trivial fun a48 hf49 => ?_
    refine thenN ?_
    obtain ⟨r51, hr51, H1⟩ := obS_split H1
    refine wpBlock (Mid := fun (a : Act) (w : World) => ∃ yr51 : (Int × Int), r51 = .go yr51 ∧ Fr 80 a [(0, .slice A0 x0.length c0), (3, .int .i64 yr51.1), (4, .int .i64 s27.2), (5, .int .i64 yr51.2)] ∧ Mem [] M w0 [.sl kGraph A0 c0 x0] w) ?_ ?_
    · refine wpLoop (law10_Small.l1 x0 s27) r51 (fun (s50 : (Int × Int)) (a : Act) (w : World) => Fr 80 a [(0, .slice A0 x0.length c0), (3, .int .i64 s50.1), (4, .int .i64 s27.2), (5, .int .i64 s50.2)] ∧ Mem [] M w0 [.sl kGraph A0 c0 x0] w) ((w64 (s27.1 + ((((rd x0 s27.2).L).length : Nat) : Int))), 0) hr51 ⟨hf49.sel (l := [0, 3, 4, 5]) (by kernel_rfl), hm47.sel [0] _ rfl (by kernel_rfl)⟩ ?_
      rintro g52 s50 a53 w54 H2 ⟨hf55, hm56⟩
      unfold law10_Small.l1 at H2
      refine wp_seq ?_
      refine wp_seq ?_
      rcases ifS_split H2 with ⟨c57, H2⟩ | ⟨c57, H2⟩
      rotate_left
      · have q161 := (hm56.slAt 0 rfl).get s27.2 g37.1 g37.2
        obtain ⟨us162, hr163, hc164⟩ := q161.2
        obtain ⟨A165, c166, rfl, ⟨pA165, sA165⟩⟩ := kGraph.open hr163
        have hm167 := hm56.elem pA165 sA165
        refine reg [.slice A165 (((rd x0 s27.2).L).length) c166, .bool false] [0, 3, 4, 5, 32] [(0, .slice A0 x0.length c0), (3, .int .i64 s50.1), (4, .int .i64 s27.2), (5, .int .i64 s50.2), (32, .bool false)] [.is (Option.isSome A0 = true), .is (0 ≤ s27.2 ∧ s27.2 < (x0.length : Int)), .cell ((ad A0).add ((s27.2).toNat * 1)) (.slice A165 (((rd x0 s27.2).L).length) c166), .is (decide (s50.2 < ((((rd x0 s27.2).L).length : Nat) : Int)) = false)] hf55 (by kernel_rfl) ⟨q161.1, g37, (hc164 0 _ rfl), (decide_eq_false c57), trivial⟩ fun a168 hf169 => ?_
        have hm170 := hm167.sel [1] _ rfl (by kernel_rfl)
        refine thenN ?_
        refine condF hf169 (by kernel_rfl) ?_
        refine wp_exit ?_
        refine thenE ?_
        refine thenE ?_
        obtain rfl := Option.some.inj H2
        exact .inl ⟨rfl, (s50.1, s50.2), rfl, hf169.sel (l := [0, 3, 4, 5]) (by kernel_rfl), hm170.sel [0] _ rfl (by kernel_rfl)⟩
      rcases ifS_split H2 with ⟨c58, H2⟩ | ⟨c58, H2⟩
      rotate_left
      · have q151 := (hm56.slAt 0 rfl).get s27.2 g37.1 g37.2
        obtain ⟨us152, hr153, hc154⟩ := q151.2
        obtain ⟨A155, c156, rfl, ⟨pA155, sA155⟩⟩ := kGraph.open hr153
        have hm157 := hm56.elem pA155 sA155
        refine reg [.slice A155 (((rd x0 s27.2).L).length) c156, .bool true, .bool false] [0, 3, 4, 5, 32] [(0, .slice A0 x0.length c0), (3, .int .i64 s50.1), (4, .int .i64 s27.2), (5, .int .i64 s50.2), (32, .bool false)] [.is (Option.isSome A0 = true), .is (0 ≤ s27.2 ∧ s27.2 < (x0.length : Int)), .cell ((ad A0).add ((s27.2).toNat * 1)) (.slice A155 (((rd x0 s27.2).L).length) c156), .is (decide (s50.2 < ((((rd x0 s27.2).L).length : Nat) : Int)) = true), .is (decide (s50.1 ≤ 4000) = false)] hf55 (by kernel_rfl) ⟨q151.1, g37, (hc154 0 _ rfl), (decide_eq_true c57), (decide_eq_false c58), trivial⟩ fun a158 hf159 => ?_
        have hm160 := hm157.sel [1] _ rfl (by kernel_rfl)
        refine thenN ?_
        refine condF hf159 (by kernel_rfl) ?_
        refine wp_exit ?_
        refine thenE ?_
        refine thenE ?_
        obtain rfl := Option.some.inj H2
        exact .inl ⟨rfl, (s50.1, s50.2), rfl, hf159.sel (l := [0, 3, 4, 5]) (by kernel_rfl), hm160.sel [0] _ rfl (by kernel_rfl)⟩
      have q59 := (hm56.slAt 0 rfl).get s27.2 g37.1 g37.2
      obtain ⟨us60, hr61, hc62⟩ := q59.2
      obtain ⟨A63, c65, rfl, ⟨pA63, sA63⟩⟩ := kGraph.open hr61
      have hm66 := hm56.elem pA63 sA63
      refine reg [.slice A63 (((rd x0 s27.2).L).length) c65, .bool true, .bool true] [0, 3, 4, 5, 32] [(0, .slice A0 x0.length c0), (3, .int .i64 s50.1), (4, .int .i64 s27.2), (5, .int .i64 s50.2), (32, .bool true)] [.is (Option.isSome A0 = true), .is (0 ≤ s27.2 ∧ s27.2 < (x0.length : Int)), .cell ((ad A0).add ((s27.2).toNat * 1)) (.slice A63 (((rd x0 s27.2).L).length) c65), .is (decide (s50.2 < ((((rd x0 s27.2).L).length : Nat) : Int)) = true), .is (decide (s50.1 ≤ 4000) = true)] hf55 (by kernel_rfl) ⟨q59.1, g37, (hc62 0 _ rfl), (decide_eq_true c57), (decide_eq_true c58), trivial⟩ fun a67 hf68 => ?_
      have hm69 := hm66.sel [1] _ rfl (by kernel_rfl)
      refine thenN ?_
      refine condT hf68 (by kernel_rfl) ?_
      refine wp_skip ?_
      refine thenN ?_
      refine wp_seq ?_
      refine wp_block ?_
      refine wp_seq ?_
      obtain ⟨g70, H2⟩ := ifS_guard H2
      have q71 := (hm69.slAt 0 rfl).get s27.2 g37.1 g37.2
      obtain ⟨us72, hr73, hc74⟩ := q71.2
      obtain ⟨A75, c76, rfl, ⟨pA75, sA75⟩⟩ := kGraph.open hr73
      have hm77 := hm69.elem pA75 sA75
      have q78 := (hm77.slAt 0 rfl).get s50.2 g70.1 g70.2
      obtain ⟨us79, hr80, hc81⟩ := q78.2
      obtain ⟨A82, c83, A84, c85, A86, c87, A88, c89, A90, c91, rfl, ⟨pA82, sA82⟩, ⟨pA84, sA84⟩, ⟨pA86, sA86⟩, ⟨pA88, sA88⟩, ⟨pA90, sA90⟩⟩ := kNode.open hr80
      have hm92 := hm77.elem pA82 sA82
      have hm93 := hm92.elem pA84 sA84
      have hm94 := hm93.elem pA86 sA86
      have hm95 := hm94.elem pA88 sA88
      have hm96 := hm95.elem pA90 sA90
      refine inReg ?_
      refine go 8 [.slice A75 (((rd x0 s27.2).L).length) c76, .agg #[.int .i64 ((rd ((rd x0 s27.2).L) s50.2).Op), .slice A82 (((rd ((rd x0 s27.2).L) s50.2).In).length) c83, .slice A84 (((rd ((rd x0 s27.2).L) s50.2).To).length) c85, .int .i64 ((rd ((rd x0 s27.2).L) s50.2).No), .slice A86 ((((rd ((rd x0 s27.2).L) s50.2).Val).Shape).length) c87, .slice A88 ((((rd ((rd x0 s27.2).L) s50.2).Val).Data).length) c89, .slice A90 (((rd ((rd x0 s27.2).L) s50.2).Hooks).length) c91]] [0, 3, 4, 5, 42] [(0, .slice A0 x0.length c0), (3, .int .i64 s50.1), (4, .int .i64 s27.2), (5, .int .i64 s50.2), (42, .agg #[.int .i64 ((rd ((rd x0 s27.2).L) s50.2).Op), .slice A82 (((rd ((rd x0 s27.2).L) s50.2).In).length) c83, .slice A84 (((rd ((rd x0 s27.2).L) s50.2).To).length) c85, .int .i64 ((rd ((rd x0 s27.2).L) s50.2).No), .slice A86 ((((rd ((rd x0 s27.2).L) s50.2).Val).Shape).length) c87, .slice A88 ((((rd ((rd x0 s27.2).L) s50.2).Val).Data).length) c89, .slice A90 (((rd ((rd x0 s27.2).L) s50.2).Hooks).length) c91])] [.is (Option.isSome A0 = true), .is (0 ≤ s27.2 ∧ s27.2 < (x0.length : Int)), .cell ((ad A0).add ((s27.2).toNat * 1)) (.slice A75 (((rd x0 s27.2).L).length) c76), .is (Option.isSome A75 = true), .is (0 ≤ s50.2 ∧ s50.2 < ((((rd x0 s27.2).L).length : Nat) : Int)), .cell ((ad A75).add ((s50.2).toNat * 7)) (.int .i64 ((rd ((rd x0 s27.2).L) s50.2).Op)), .cell (((ad A75).add ((s50.2).toNat * 7)).add 1) (.slice A82 (((rd ((rd x0 s27.2).L) s50.2).In).length) c83), .cell (((ad A75).add ((s50.2).toNat * 7)).add 2) (.slice A84 (((rd ((rd x0 s27.2).L) s50.2).To).length) c85), .cell (((ad A75).add ((s50.2).toNat * 7)).add 3) (.int .i64 ((rd ((rd x0 s27.2).L) s50.2).No)), .cell (((ad A75).add ((s50.2).toNat * 7)).add 4) (.slice A86 ((((rd ((rd x0 s27.2).L) s50.2).Val).Shape).length) c87), .cell (((ad A75).add ((s50.2).toNat * 7)).add 5) (.slice A88 ((((rd ((rd x0 s27.2).L) s50.2).Val).Data).length) c89), .cell (((ad A75).add ((s50.2).toNat * 7)).add 6) (.slice A90 (((rd ((rd x0 s27.2).L) s50.2).Hooks).length) c91)] hf68 (by kernel_rfl) ⟨q71.1, g37, (hc74 0 _ rfl), q78.1, g70, (hc81 0 _ rfl), (hc81 1 _ rfl), (hc81 2 _ rfl), (hc81 3 _ rfl), (hc81 4 _ rfl), (hc81 5 _ rfl), (hc81 6 _ rfl), trivial⟩ fun a97 hf98 => ?_
      refine listOf hf98 rfl (by kernel_rfl) (aNew (cs := [.int .i64 0, .slice none 0 0, .slice none 0 0, .int .i64 0, .slice none 0 0, .slice none 0 0, .slice none 0 0]) (T := 49) (d := 6) hf98 (by kernel_rfl) (by kernel_rfl) ?_)
      intro b99 w100 a101 hbb99 hx103 hg104 hf102
      have hm105 := hm96.box hbb99 hx103 hg104
      refine listOf hf102 rfl (by kernel_rfl) (aStoreB (b := b99) (j := 0) (T := 49) (cs := [.int .i64 0, .slice none 0 0, .slice none 0 0, .int .i64 0, .slice none 0 0, .slice none 0 0, .slice none 0 0]) (us := [.int .i64 ((rd ((rd x0 s27.2).L) s50.2).Op), .slice A82 (((rd ((rd x0 s27.2).L) s50.2).In).length) c83, .slice A84 (((rd ((rd x0 s27.2).L) s50.2).To).length) c85, .int .i64 ((rd ((rd x0 s27.2).L) s50.2).No), .slice A86 ((((rd ((rd x0 s27.2).L) s50.2).Val).Shape).length) c87, .slice A88 ((((rd ((rd x0 s27.2).L) s50.2).Val).Data).length) c89, .slice A90 (((rd ((rd x0 s27.2).L) s50.2).Hooks).length) c91]) (cs' := [.int .i64 ((rd ((rd x0 s27.2).L) s50.2).Op), .slice A82 (((rd ((rd x0 s27.2).L) s50.2).In).length) c83, .slice A84 (((rd ((rd x0 s27.2).L) s50.2).To).length) c85, .int .i64 ((rd ((rd x0 s27.2).L) s50.2).No), .slice A86 ((((rd ((rd x0 s27.2).L) s50.2).Val).Shape).length) c87, .slice A88 ((((rd ((rd x0 s27.2).L) s50.2).Val).Data).length) c89, .slice A90 (((rd ((rd x0 s27.2).L) s50.2).Hooks).length) c91]) hf102 (by kernel_rfl) (hm105.bxAt 0 rfl) (by kernel_rfl) (by kernel_rfl) (by kernel_rfl) ?_)
      intro w106 hx107 hg108
      have hm109 := hm105.setBox 0 _ rfl rfl hx107 hg108
      refine endL rfl ?_
      have hm110 := hm109.sel [0, 1, 2, 3, 4, 5, 7] _ rfl (by kernel_rfl)
      refine thenN ?_
      refine wp_seq ?_
      refine reg [.slice A82 (((rd ((rd x0 s27.2).L) s50.2).In).length) c83, .slice A84 (((rd ((rd x0 s27.2).L) s50.2).To).length) c85, .slice A90 (((rd ((rd x0 s27.2).L) s50.2).Hooks).length) c91, .slice A88 ((((rd ((rd x0 s27.2).L) s50.2).Val).Data).length) c89] [0, 3, 4, 5, 6] [(0, .slice A0 x0.length c0), (3, .int .i64 (w64 ((w64 ((w64 ((w64 (s50.1 + ((((rd ((rd x0 s27.2).L) s50.2).In).length : Nat) : Int))) + ((((rd ((rd x0 s27.2).L) s50.2).To).length : Nat) : Int))) + ((((rd ((rd x0 s27.2).L) s50.2).Hooks).length : Nat) : Int))) + (w64 (Int.tdiv (((((rd ((rd x0 s27.2).L) s50.2).Val).Data).length : Nat) : Int) 16))))), (4, .int .i64 s27.2), (5, .int .i64 s50.2), (6, .pointer (some ⟨b99, 0, none⟩))] [.cell ⟨b99, 1, none⟩ (.slice A82 (((rd ((rd x0 s27.2).L) s50.2).In).length) c83), .cell ⟨b99, 2, none⟩ (.slice A84 (((rd ((rd x0 s27.2).L) s50.2).To).length) c85), .cell ⟨b99, 6, none⟩ (.slice A90 (((rd ((rd x0 s27.2).L) s50.2).Hooks).length) c91), .cell ⟨b99, 5, none⟩ (.slice A88 ((((rd ((rd x0 s27.2).L) s50.2).Val).Data).length) c89), .is ((16 : Int) ≠ 0)] hf102 (by kernel_rfl) ⟨(hm110.cell 0 rfl rfl), (hm110.cell 0 rfl rfl), (hm110.cell 0 rfl rfl), (hm110.cell 0 rfl rfl), (okIs (by decide)), trivial⟩ fun a111 hf112 => ?_
      refine thenN ?_
      refine wp_seq ?_
      rcases ifS_split H2 with ⟨c113, H2⟩ | ⟨c113, H2⟩
      · refine reg [.slice A86 ((((rd ((rd x0 s27.2).L) s50.2).Val).Shape).length) c87, .bool true] [0, 3, 4, 5, 72] [(0, .slice A0 x0.length c0), (3, .int .i64 (w64 ((w64 ((w64 ((w64 (s50.1 + ((((rd ((rd x0 s27.2).L) s50.2).In).length : Nat) : Int))) + ((((rd ((rd x0 s27.2).L) s50.2).To).length : Nat) : Int))) + ((((rd ((rd x0 s27.2).L) s50.2).Hooks).length : Nat) : Int))) + (w64 (Int.tdiv (((((rd ((rd x0 s27.2).L) s50.2).Val).Data).length : Nat) : Int) 16))))), (4, .int .i64 s27.2), (5, .int .i64 s50.2), (72, .bool true)] [.cell ⟨b99, 4, none⟩ (.slice A86 ((((rd ((rd x0 s27.2).L) s50.2).Val).Shape).length) c87), .is (decide (40 < (((((rd ((rd x0 s27.2).L) s50.2).Val).Shape).length : Nat) : Int)) = true)] hf112 (by kernel_rfl) ⟨(hm110.cell 0 rfl rfl), (decide_eq_true c113), trivial⟩ fun a114 hf115 => ?_
        have hm116 := hm110.sel [6] _ rfl (by kernel_rfl)
        refine thenN ?_
        refine condT hf115 (by kernel_rfl) ?_
        refine wp_seq ?_
        refine reg [] [2] [(2, .bool false)] [] hf115 (by kernel_rfl) trivial fun a117 hf118 => ?_
        have hm119 := hm116.sel [] _ rfl (by kernel_rfl)
        refine thenN ?_
        refine wp_ret ?_
        refine blkR ?_
        refine thenR ?_
        refine thenR ?_
        refine .inr ⟨rfl, ?_⟩
        refine blkR ?_
        refine thenR ?_
        refine thenR ?_
        refine .inr ⟨rfl, ?_⟩
        refine thenR ?_
        have hm120 : Mem [] M w0 [] w106 := hm119.sel [] _ rfl (by kernel_rfl)
        obtain rfl := Option.some.inj H2
        obtain rfl := Option.some.inj H1
        obtain rfl := Option.some.inj H0
        refine ret [] [.bool false] [] hf118 (by kernel_rfl) trivial ?_
        exact ⟨_, rfl, rfl, hm120⟩
      obtain ⟨r122, hr122, H2⟩ := obS_split H2
      rcases ifbS_split H2 with ⟨c123, H2⟩ | ⟨c123, H2⟩
      · refine inReg ?_
        refine go 8 [.slice A86 ((((rd ((rd x0 s27.2).L) s50.2).Val).Shape).length) c87, .bool false, .agg #[.slice A86 ((((rd ((rd x0 s27.2).L) s50.2).Val).Shape).length) c87, .slice A88 ((((rd ((rd x0 s27.2).L) s50.2).Val).Data).length) c89]] [0, 3, 4, 5, 67, 69] [(0, .slice A0 x0.length c0), (3, .int .i64 (w64 ((w64 ((w64 ((w64 (s50.1 + ((((rd ((rd x0 s27.2).L) s50.2).In).length : Nat) : Int))) + ((((rd ((rd x0 s27.2).L) s50.2).To).length : Nat) : Int))) + ((((rd ((rd x0 s27.2).L) s50.2).Hooks).length : Nat) : Int))) + (w64 (Int.tdiv (((((rd ((rd x0 s27.2).L) s50.2).Val).Data).length : Nat) : Int) 16))))), (4, .int .i64 s27.2), (5, .int .i64 s50.2), (67, .bool false), (69, .agg #[.slice A86 ((((rd ((rd x0 s27.2).L) s50.2).Val).Shape).length) c87, .slice A88 ((((rd ((rd x0 s27.2).L) s50.2).Val).Data).length) c89])] [.cell ⟨b99, 4, none⟩ (.slice A86 ((((rd ((rd x0 s27.2).L) s50.2).Val).Shape).length) c87), .is (decide (40 < (((((rd ((rd x0 s27.2).L) s50.2).Val).Shape).length : Nat) : Int)) = false), .cell ⟨b99, 4, none⟩ (.slice A86 ((((rd ((rd x0 s27.2).L) s50.2).Val).Shape).length) c87), .cell ⟨b99, 5, none⟩ (.slice A88 ((((rd ((rd x0 s27.2).L) s50.2).Val).Data).length) c89)] hf112 (by kernel_rfl) ⟨(hm110.cell 0 rfl rfl), (decide_eq_false c113), (hm110.cell 0 rfl rfl), (hm110.cell 0 rfl rfl), trivial⟩ fun a124 hf125 => ?_
        refine listOf hf125 rfl (by kernel_rfl) (aCall (fid := 21) (args := [.agg #[.slice A86 ((((rd ((rd x0 s27.2).L) s50.2).Val).Shape).length) c87, .slice A88 ((((rd ((rd x0 s27.2).L) s50.2).Val).Data).length) c89]]) (d := 70) hf125 (by kernel_rfl) (by kernel_rfl) callable21 (law3_Small.calls _ _ (⟨(((rd ((rd x0 s27.2).L) s50.2).Val).Shape), (((rd ((rd x0 s27.2).L) s50.2).Val).Data)⟩ : Tensor) A86 ((((rd ((rd x0 s27.2).L) s50.2).Val).Shape).length) c87 rfl A88 ((((rd ((rd x0 s27.2).L) s50.2).Val).Data).length) c89 rfl (hm110.give [3, 2] [.sl (Kd.int .i64) A86 c87 (((rd ((rd x0 s27.2).L) s50.2).Val).Shape), .sl Kd.float A88 c89 (((rd ((rd x0 s27.2).L) s50.2).Val).Data)] rfl rfl) r122 hr122) ?_)
        rintro _ w126 a127 ⟨rfl, hk129⟩ hf128
        have hm130 := hm110.still hk129.cum.none
        rw [c123] at hf128
        refine go 2 [] [0, 3, 4, 5, 72] [(0, .slice A0 x0.length c0), (3, .int .i64 (w64 ((w64 ((w64 ((w64 (s50.1 + ((((rd ((rd x0 s27.2).L) s50.2).In).length : Nat) : Int))) + ((((rd ((rd x0 s27.2).L) s50.2).To).length : Nat) : Int))) + ((((rd ((rd x0 s27.2).L) s50.2).Hooks).length : Nat) : Int))) + (w64 (Int.tdiv (((((rd ((rd x0 s27.2).L) s50.2).Val).Data).length : Nat) : Int) 16))))), (4, .int .i64 s27.2), (5, .int .i64 s50.2), (72, .bool false)] [] hf128 (by kernel_rfl) trivial fun a131 hf132 => ?_
        refine endL rfl ?_
        have hm133 := hm130.sel [6] _ rfl (by kernel_rfl)
        refine thenN ?_
        refine condF hf132 (by kernel_rfl) ?_
        refine wp_skip ?_
        refine blkN ?_
        refine thenN ?_
        refine reg [] [0, 3, 4, 5] [(0, .slice A0 x0.length c0), (3, .int .i64 (w64 ((w64 ((w64 ((w64 (s50.1 + ((((rd ((rd x0 s27.2).L) s50.2).In).length : Nat) : Int))) + ((((rd ((rd x0 s27.2).L) s50.2).To).length : Nat) : Int))) + ((((rd ((rd x0 s27.2).L) s50.2).Hooks).length : Nat) : Int))) + (w64 (Int.tdiv (((((rd ((rd x0 s27.2).L) s50.2).Val).Data).length : Nat) : Int) 16))))), (4, .int .i64 s27.2), (5, .int .i64 (w64 (s50.2 + 1)))] [] hf132 (by kernel_rfl) trivial fun a134 hf135 => ?_
        exact ⟨((w64 ((w64 ((w64 ((w64 (s50.1 + ((((rd ((rd x0 s27.2).L) s50.2).In).length : Nat) : Int))) + ((((rd ((rd x0 s27.2).L) s50.2).To).length : Nat) : Int))) + ((((rd ((rd x0 s27.2).L) s50.2).Hooks).length : Nat) : Int))) + (w64 (Int.tdiv (((((rd ((rd x0 s27.2).L) s50.2).Val).Data).length : Nat) : Int) 16)))), (w64 (s50.2 + 1))), H2, hf135.sel (l := [0, 3, 4, 5]) (by kernel_rfl), hm133.sel [0] _ rfl (by kernel_rfl)⟩
      refine inReg ?_
      refine go 8 [.slice A86 ((((rd ((rd x0 s27.2).L) s50.2).Val).Shape).length) c87, .bool false, .agg #[.slice A86 ((((rd ((rd x0 s27.2).L) s50.2).Val).Shape).length) c87, .slice A88 ((((rd ((rd x0 s27.2).L) s50.2).Val).Data).length) c89]] [0, 3, 4, 5, 67, 69] [(0, .slice A0 x0.length c0), (3, .int .i64 (w64 ((w64 ((w64 ((w64 (s50.1 + ((((rd ((rd x0 s27.2).L) s50.2).In).length : Nat) : Int))) + ((((rd ((rd x0 s27.2).L) s50.2).To).length : Nat) : Int))) + ((((rd ((rd x0 s27.2).L) s50.2).Hooks).length : Nat) : Int))) + (w64 (Int.tdiv (((((rd ((rd x0 s27.2).L) s50.2).Val).Data).length : Nat) : Int) 16))))), (4, .int .i64 s27.2), (5, .int .i64 s50.2), (67, .bool false), (69, .agg #[.slice A86 ((((rd ((rd x0 s27.2).L) s50.2).Val).Shape).length) c87, .slice A88 ((((rd ((rd x0 s27.2).L) s50.2).Val).Data).length) c89])] [.cell ⟨b99, 4, none⟩ (.slice A86 ((((rd ((rd x0 s27.2).L) s50.2).Val).Shape).length) c87), .is (decide (40 < (((((rd ((rd x0 s27.2).L) s50.2).Val).Shape).length : Nat) : Int)) = false), .cell ⟨b99, 4, none⟩ (.slice A86 ((((rd ((rd x0 s27.2).L) s50.2).Val).Shape).length) c87), .cell ⟨b99, 5, none⟩ (.slice A88 ((((rd ((rd x0 s27.2).L) s50.2).Val).Data).length) c89)] hf112 (by kernel_rfl) ⟨(hm110.cell 0 rfl rfl), (decide_eq_false c113), (hm110.cell 0 rfl rfl), (hm110.cell 0 rfl rfl), trivial⟩ fun a136 hf137 => ?_
      refine listOf hf137 rfl (by kernel_rfl) (aCall (fid := 21) (args := [.agg #[.slice A86 ((((rd ((rd x0 s27.2).L) s50.2).Val).Shape).length) c87, .slice A88 ((((rd ((rd x0 s27.2).L) s50.2).Val).Data).length) c89]]) (d := 70) hf137 (by kernel_rfl) (by kernel_rfl) callable21 (law3_Small.calls _ _ (⟨(((rd ((rd x0 s27.2).L) s50.2).Val).Shape), (((rd ((rd x0 s27.2).L) s50.2).Val).Data)⟩ : Tensor) A86 ((((rd ((rd x0 s27.2).L) s50.2).Val).Shape).length) c87 rfl A88 ((((rd ((rd x0 s27.2).L) s50.2).Val).Data).length) c89 rfl (hm110.give [3, 2] [.sl (Kd.int .i64) A86 c87 (((rd ((rd x0 s27.2).L) s50.2).Val).Shape), .sl Kd.float A88 c89 (((rd ((rd x0 s27.2).L) s50.2).Val).Data)] rfl rfl) r122 hr122) ?_)
      rintro _ w138 a139 ⟨rfl, hk141⟩ hf140
      have hm142 := hm110.still hk141.cum.none
      rw [c123] at hf140
      refine go 2 [] [0, 3, 4, 5, 72] [(0, .slice A0 x0.length c0), (3, .int .i64 (w64 ((w64 ((w64 ((w64 (s50.1 + ((((rd ((rd x0 s27.2).L) s50.2).In).length : Nat) : Int))) + ((((rd ((rd x0 s27.2).L) s50.2).To).length : Nat) : Int))) + ((((rd ((rd x0 s27.2).L) s50.2).Hooks).length : Nat) : Int))) + (w64 (Int.tdiv (((((rd ((rd x0 s27.2).L) s50.2).Val).Data).length : Nat) : Int) 16))))), (4, .int .i64 s27.2), (5, .int .i64 s50.2), (72, .bool true)] [] hf140 (by kernel_rfl) trivial fun a143 hf144 => ?_
      refine endL rfl ?_
      have hm145 := hm142.sel [6] _ rfl (by kernel_rfl)
      refine thenN ?_
      refine condT hf144 (by kernel_rfl) ?_
      refine wp_seq ?_
      refine reg [] [2] [(2, .bool false)] [] hf144 (by kernel_rfl) trivial fun a146 hf147 => ?_
      have hm148 := hm145.sel [] _ rfl (by kernel_rfl)
      refine thenN ?_
      refine wp_ret ?_
      refine blkR ?_
      refine thenR ?_
      refine thenR ?_
      refine .inr ⟨rfl, ?_⟩
      refine blkR ?_
      refine thenR ?_
      refine thenR ?_
      refine .inr ⟨rfl, ?_⟩
      refine thenR ?_
      have hm149 : Mem [] M w0 [] w138 := hm148.sel [] _ rfl (by kernel_rfl)
      obtain rfl := Option.some.inj H2
      obtain rfl := Option.some.inj H1
      obtain rfl := Option.some.inj H0
      refine ret [] [.bool false] [] hf147 (by kernel_rfl) trivial ?_
      exact ⟨_, rfl, rfl, hm149⟩
    rintro a171 w172 ⟨yr51, rfl, hf173, hm174⟩
    refine blkN ?_
    refine thenN ?_
    refine reg [] [0, 3, 4] [(0, .slice A0 x0.length c0), (3, .int .i64 yr51.1), (4, .int .i64 (w64 (s27.2 + 1)))] [] hf173 (by kernel_rfl) trivial fun a175 hf176 => ?_
    exact ⟨(yr51.1, (w64 (s27.2 + 1))), H1, hf176.sel (l := [0, 3, 4]) (by kernel_rfl), hm174.sel [0] _ rfl (by kernel_rfl)⟩
  rintro a179 w180 ⟨yr28, rfl, hf181, hm182⟩
  refine thenN ?_
  refine wp_seq ?_
  rcases if_split H0 with ⟨c183, H0⟩ | ⟨c183, H0⟩
  rotate_left
  · refine reg [.bool false] [2] [(2, .bool false)] [.is (decide ((x0.length : Int) ≤ 40) = false)] hf181 (by kernel_rfl) ⟨(decide_eq_false c183), trivial⟩ fun a195 hf196 => ?_
    have hm197 := hm182.sel [] _ rfl (by kernel_rfl)
    refine thenN ?_
    refine wp_ret ?_
    have hm198 : Mem [] M w0 [] w180 := hm197.sel [] _ rfl (by kernel_rfl)
    obtain rfl := Option.some.inj H0
    refine ret [] [.bool false] [] hf196 (by kernel_rfl) trivial ?_
    exact ⟨_, rfl, rfl, hm198⟩
  rcases if_split H0 with ⟨c184, H0⟩ | ⟨c184, H0⟩
  · refine reg [.bool true, .bool true] [2] [(2, .bool true)] [.is (decide ((x0.length : Int) ≤ 40) = true), .is (decide (yr28.1 ≤ 4000) = true)] hf181 (by kernel_rfl) ⟨(decide_eq_true c183), (decide_eq_true c184), trivial⟩ fun a185 hf186 => ?_
    have hm187 := hm182.sel [] _ rfl (by kernel_rfl)
    refine thenN ?_
    refine wp_ret ?_
    have hm188 : Mem [] M w0 [] w180 := hm187.sel [] _ rfl (by kernel_rfl)
    obtain rfl := Option.some.inj H0
    refine ret [] [.bool true] [] hf186 (by kernel_rfl) trivial ?_
    exact ⟨_, rfl, rfl, hm188⟩
  refine reg [.bool true, .bool false] [2] [(2, .bool false)] [.is (decide ((x0.length : Int) ≤ 40) = true), .is (decide (yr28.1 ≤ 4000) = false)] hf181 (by kernel_rfl) ⟨(decide_eq_true c183), (decide_eq_false c184), trivial⟩ fun a190 hf191 => ?_
  have hm192 := hm182.sel [] _ rfl (by kernel_rfl)
  refine thenN ?_
  refine wp_ret ?_
  have hm193 : Mem [] M w0 [] w180 := hm192.sel [] _ rfl (by kernel_rfl)
  obtain rfl := Option.some.inj H0
  refine ret [] [.bool false] [] hf191 (by kernel_rfl) trivial ?_
  exact ⟨_, rfl, rfl, hm193⟩
end Go.Proofs.YtkdhahdfkonilaaDoor
