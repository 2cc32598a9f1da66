/- Printed by gen.py. -/
import Derived.Test.YtkdhahdfkonilaaDoorF7
namespace Go.Proofs.YtkdhahdfkonilaaDoor
open Go Go.RowKit
set_option linter.unusedSimpArgs false
set_option linter.unusedVariables false
set_option linter.unnecessarySimpa false
/-! ### backstitch/backstitchref19.Number -/
noncomputable def ref19_Number.l0  (s46 : (Int × Int × (List Int))) : Step (Int × Int × (List Int)) (Int × Int × (List Int)) :=
  if 0 ≤ s46.2.1 then (if 0 ≤ (bits .and .u64 s46.1 15) ∧ (bits .and .u64 s46.1 15) < (([48, 49, 50, 51, 52, 53, 54, 55, 56, 57, 97, 98, 99, 100, 101, 102] : List UInt8).length : Int) then (if 0 ≤ s46.2.1 ∧ s46.2.1 < (s46.2.2.length : Int) then (.next ((Int.fdiv s46.1 (2 ^ 4)), (w64 (s46.2.1 - 1)), (put s46.2.2 s46.2.1 (chr ([48, 49, 50, 51, 52, 53, 54, 55, 56, 57, 97, 98, 99, 100, 101, 102] : List UInt8) (bits .and .u64 s46.1 15)))))
  else .bad)
  else .bad)
  else (.done (s46.1, s46.2.1, s46.2.2))
noncomputable def ref19_Number.f (x0 : Nat) : Option (List UInt8) :=
  (ref1_Bits.f x0).bind fun r23 =>
  (loop (ref19_Number.l0) (r23, 15, (List.replicate (16 : Int).toNat (0 : Int)))).bind fun r47 =>
  some (bytesOf r47.2.2)
set_option maxRecDepth 100000 in
set_option maxHeartbeats 4000000 in
theorem ref19_Number.calls (M : List (Option Nat)) (w0 : World) (x0 : Nat) (b0 : Nat) (h0 : FR b0 x0) (hm0 : Mem [] M w0 [] w0) (r : (List UInt8)) (H0 : ref19_Number.f x0 = some r) :
    Calls Tryd.prog 19 [.float .f64 b0].toArray w0 (fun x w' => ∃ v, x = .returned v ∧ v = .string (bs r) ∧ Mem [] M w0 [] w') := by
  unfold ref19_Number.f at H0
  refine enter (n := 23) Tryd.func19 rfl rfl (by kernel_rfl) fun a0 (hf0 : Fr 23 a0 [(0, .float .f64 b0)]) => ?_
  refine wp_seq ?_
  refine reg [] [0] [(0, .float .f64 b0)] [] hf0 (by kernel_rfl) trivial fun a21 hf22 => ?_
  refine thenN ?_
  refine wp_seq ?_
  obtain ⟨r23, hr23, H0⟩ := ob_split H0
  refine inReg ?_
  refine go 1 [] [6] [(6, .float .f64 b0)] [] hf22 (by kernel_rfl) trivial fun a24 hf25 => ?_
  refine listOf hf25 rfl (by kernel_rfl) (aCall (fid := 35) (args := [.float .f64 b0]) (d := 7) hf25 (by kernel_rfl) (by kernel_rfl) callable35 (ref1_Bits.calls _ _ x0 b0 h0 (hm0.give [] [] rfl rfl) r23 hr23) ?_)
  rintro _ w26 a27 ⟨rfl, hk29⟩ hf28
  have hm30 := hm0.still hk29.cum.none
  refine go 1 [] [3] [(3, .int .u64 r23)] [] hf28 (by kernel_rfl) trivial fun a31 hf32 => ?_
  refine endL rfl ?_
  refine thenN ?_
  refine wp_seq ?_
  refine inReg ?_
  refine listOf hf32 rfl (by kernel_rfl) (aMake (kd := (Kd.int .u8)) (x := 0) (E := 5) (L := 16) (z := [.int .u8 0]) (sz := 1) (d := 8) hf32 (by kernel_rfl) (by kernel_rfl) rfl (fun _ _ => rfl) (by decide) (by decide) ?_)
  intro A33 c34 w35 a36 ho38 hb40 hg39 hf37
  have hm41 : Mem [] M w0 [.ow (Kd.int .u8) 5 A33 c34 (List.replicate (16 : Int).toNat (0 : Int))] w35 := hm30.own (ho38 _) hg39
  refine go 1 [] [3, 4] [(3, .int .u64 r23), (4, .slice A33 ((List.replicate (16 : Int).toNat (0 : Int)).length) c34)] [] hf37 (by kernel_rfl) trivial fun a42 hf43 => ?_
  refine endL rfl ?_
  refine thenN ?_
  refine wp_seq ?_
  refine wp_seq ?_
  refine reg [] [3, 4, 5] [(3, .int .u64 r23), (4, .slice A33 ((List.replicate (16 : Int).toNat (0 : Int)).length) c34), (5, .int .i64 15)] [] hf43 (by kernel_rfl) trivial fun a44 hf45 => ?_
  refine thenN ?_
  obtain ⟨r47, hr47, H0⟩ := ob_split H0
  refine wpBlock (Mid := fun (a : Act) (w : World) => Fr 23 a [(3, .int .u64 r47.1), (4, .slice A33 r47.2.2.length c34), (5, .int .i64 r47.2.1)] ∧ Mem [] M w0 [.ow (Kd.int .u8) 5 A33 c34 r47.2.2] w) ?_ ?_
  · refine wpLoop (ref19_Number.l0) r47 (fun (s46 : (Int × Int × (List Int))) (a : Act) (w : World) => Fr 23 a [(3, .int .u64 s46.1), (4, .slice A33 s46.2.2.length c34), (5, .int .i64 s46.2.1)] ∧ Mem [] M w0 [.ow (Kd.int .u8) 5 A33 c34 s46.2.2] w) (r23, 15, (List.replicate (16 : Int).toNat (0 : Int))) hr47 ⟨hf45.sel (l := [3, 4, 5]) (by kernel_rfl), hm41.sel [0] _ rfl (by kernel_rfl)⟩ ?_
    rintro g48 s46 a49 w50 H1 ⟨hf51, hm52⟩
    unfold ref19_Number.l0 at H1
    refine wp_seq ?_
    refine wp_seq ?_
    rcases ifS_split H1 with ⟨c53, H1⟩ | ⟨c53, H1⟩
    rotate_left
    · refine reg [.bool false] [3, 4, 5, 10] [(3, .int .u64 s46.1), (4, .slice A33 s46.2.2.length c34), (5, .int .i64 s46.2.1), (10, .bool false)] [.is (decide (0 ≤ s46.2.1) = false)] hf51 (by kernel_rfl) ⟨(decide_eq_false c53), trivial⟩ fun a72 hf73 => ?_
      refine thenN ?_
      refine condF hf73 (by kernel_rfl) ?_
      refine wp_exit ?_
      refine thenE ?_
      refine thenE ?_
      obtain rfl := Option.some.inj H1
      exact .inl ⟨rfl, hf73.sel (l := [3, 4, 5]) (by kernel_rfl), hm52.sel [0] _ rfl (by kernel_rfl)⟩
    refine reg [.bool true] [3, 4, 5, 10] [(3, .int .u64 s46.1), (4, .slice A33 s46.2.2.length c34), (5, .int .i64 s46.2.1), (10, .bool true)] [.is (decide (0 ≤ s46.2.1) = true)] hf51 (by kernel_rfl) ⟨(decide_eq_true c53), trivial⟩ fun a54 hf55 => ?_
    refine thenN ?_
    refine condT hf55 (by kernel_rfl) ?_
    refine wp_skip ?_
    refine thenN ?_
    refine wp_seq ?_
    refine wp_block ?_
    refine wp_seq ?_
    obtain ⟨g56, H1⟩ := ifS_guard H1
    obtain ⟨g57, H1⟩ := ifS_guard H1
    have q58 := (hm52.owAt 0 rfl).int s46.2.1 g57.1 g57.2
    refine inReg ?_
    refine go 6 [.int .u8 (chr ([48, 49, 50, 51, 52, 53, 54, 55, 56, 57, 97, 98, 99, 100, 101, 102] : List UInt8) (bits .and .u64 s46.1 15))] [3, 4, 5, 17, 18] [(3, .int .u64 s46.1), (4, .slice A33 s46.2.2.length c34), (5, .int .i64 s46.2.1), (17, .int .u8 (chr ([48, 49, 50, 51, 52, 53, 54, 55, 56, 57, 97, 98, 99, 100, 101, 102] : List UInt8) (bits .and .u64 s46.1 15))), (18, .pointer (some ((ad A33).add ((s46.2.1).toNat * 1))))] [.is (0 ≤ (bits .and .u64 s46.1 15) ∧ (bits .and .u64 s46.1 15) < (([48, 49, 50, 51, 52, 53, 54, 55, 56, 57, 97, 98, 99, 100, 101, 102] : List UInt8).length : Int)), .is ((((bs ([48, 49, 50, 51, 52, 53, 54, 55, 56, 57, 97, 98, 99, 100, 101, 102] : List UInt8))[((bits .and .u64 s46.1 15)).toNat]?).getD 0).toNat = (chr ([48, 49, 50, 51, 52, 53, 54, 55, 56, 57, 97, 98, 99, 100, 101, 102] : List UInt8) (bits .and .u64 s46.1 15))), .is (Option.isSome A33 = true), .is (0 ≤ s46.2.1 ∧ s46.2.1 < (s46.2.2.length : Int))] hf55 (by kernel_rfl) ⟨g56, (chr_eq ([48, 49, 50, 51, 52, 53, 54, 55, 56, 57, 97, 98, 99, 100, 101, 102] : List UInt8) (bits .and .u64 s46.1 15)), q58.1, g57, trivial⟩ fun a59 hf60 => ?_
    refine listOf hf60 rfl (by kernel_rfl) (aStoreO (kd := (Kd.int .u8)) (base := 0) (E := 5) (A := A33) (c := c34) (xs := s46.2.2) (i := s46.2.1) (x := (chr ([48, 49, 50, 51, 52, 53, 54, 55, 56, 57, 97, 98, 99, 100, 101, 102] : List UInt8) (bits .and .u64 s46.1 15))) (us := [.int .u8 (chr ([48, 49, 50, 51, 52, 53, 54, 55, 56, 57, 97, 98, 99, 100, 101, 102] : List UInt8) (bits .and .u64 s46.1 15))]) (sz := 1) hf60 (by kernel_rfl) rfl (by kernel_rfl) (hm52.at 0 rfl) rfl g57.1 g57.2 ?_)
    intro w61 hx62 hg63
    have hm65 := hm52.setOwn 0 _ rfl rfl hx62 hg63 (.inl rfl)
    refine endL rfl ?_
    refine thenN ?_
    refine reg [] [3, 4, 5] [(3, .int .u64 (Int.fdiv s46.1 (2 ^ 4))), (4, .slice A33 s46.2.2.length c34), (5, .int .i64 s46.2.1)] [] hf60 (by kernel_rfl) trivial fun a66 hf67 => ?_
    refine blkN ?_
    refine thenN ?_
    refine reg [] [3, 4, 5] [(3, .int .u64 (Int.fdiv s46.1 (2 ^ 4))), (4, .slice A33 s46.2.2.length c34), (5, .int .i64 (w64 (s46.2.1 - 1)))] [] hf67 (by kernel_rfl) trivial fun a68 hf69 => ?_
    have hf70 : Fr 23 a68 [(3, .int .u64 (Int.fdiv s46.1 (2 ^ 4))), (4, .slice A33 s46.2.2.length c34), (5, .int .i64 (w64 (s46.2.1 - 1)))] := hf69.sel (l := [3, 4, 5]) (by kernel_rfl)
    have hm71 : Mem [] M w0 [.ow (Kd.int .u8) 5 A33 c34 (put s46.2.2 s46.2.1 (chr ([48, 49, 50, 51, 52, 53, 54, 55, 56, 57, 97, 98, 99, 100, 101, 102] : List UInt8) (bits .and .u64 s46.1 15)))] w61 := hm65.sel [0] _ rfl (by kernel_rfl)
    exact ⟨((Int.fdiv s46.1 (2 ^ 4)), (w64 (s46.2.1 - 1)), (put s46.2.2 s46.2.1 (chr ([48, 49, 50, 51, 52, 53, 54, 55, 56, 57, 97, 98, 99, 100, 101, 102] : List UInt8) (bits .and .u64 s46.1 15)))), H1, (by simpa only [put_length, List.length_nil] using hf70), (by simpa only [put_length, List.length_nil] using hm71)⟩
  rintro a74 w75 ⟨hf76, hm77⟩
  refine thenN ?_
  refine wp_seq ?_
  refine inReg ?_
  refine go 1 [] [21] [(21, .slice A33 r47.2.2.length c34)] [] hf76 (by kernel_rfl) trivial fun a78 hf79 => ?_
  have hm80 := hm77.seal 0 _ rfl rfl
  refine listOf hf79 rfl (by kernel_rfl) (aStr (A := A33) (k := r47.2.2.length) (c := c34) (xs := r47.2.2) (d := 22) hf79 (by kernel_rfl) (by kernel_rfl) rfl (hm80.slAt 0 rfl) ?_)
  intro a81 hf82
  refine go 1 [] [2] [(2, .string (bs (bytesOf r47.2.2)))] [] hf82 (by kernel_rfl) trivial fun a83 hf84 => ?_
  refine endL rfl ?_
  have hm85 := hm80.sel [] _ rfl (by kernel_rfl)
  refine thenN ?_
  refine wp_ret ?_
  have hm86 : Mem [] M w0 [] w75 := hm85.sel [] _ rfl (by kernel_rfl)
  obtain rfl := Option.some.inj H0
  refine ret [] [.string (bs (bytesOf r47.2.2))] [] hf84 (by kernel_rfl) trivial ?_
  exact ⟨_, rfl, rfl, hm86⟩

/-! ### backstitch/backstitchref1.Same -/
noncomputable def ref1_Same.f (x0 : Nat) (x1 : Nat) : Option Bool :=
  (ref1_Bits.f x0).bind fun r23 =>
  (ref1_Bits.f x1).bind fun r24 =>
  if r23 = r24 then (some true)
  else (some false)
set_option maxRecDepth 100000 in
set_option maxHeartbeats 4000000 in
theorem ref1_Same.calls (M : List (Option Nat)) (w0 : World) (x0 : Nat) (b0 : Nat) (h0 : FR b0 x0) (x1 : Nat) (b1 : Nat) (h1 : FR b1 x1) (hm0 : Mem [] M w0 [] w0) (r : Bool) (H0 : ref1_Same.f x0 x1 = some r) :
    Calls Tryd.prog 20 [.float .f64 b0, .float .f64 b1].toArray w0 (fun x w' => ∃ v, x = .returned v ∧ v = .bool r ∧ Mem [] M w0 [] w') := by
  unfold ref1_Same.f at H0
  refine enter (n := 10) Tryd.func20 rfl rfl (by kernel_rfl) fun a0 (hf0 : Fr 10 a0 [(0, .float .f64 b0), (1, .float .f64 b1)]) => ?_
  refine wp_seq ?_
  refine reg [] [0, 1] [(0, .float .f64 b0), (1, .float .f64 b1)] [] hf0 (by kernel_rfl) trivial fun a21 hf22 => ?_
  refine thenN ?_
  refine wp_seq ?_
  obtain ⟨r23, hr23, H0⟩ := ob_split H0
  obtain ⟨r24, hr24, H0⟩ := ob_split H0
  rcases if_split H0 with ⟨c25, H0⟩ | ⟨c25, H0⟩
  · refine inReg ?_
    refine go 1 [] [1, 5] [(1, .float .f64 b1), (5, .float .f64 b0)] [] hf22 (by kernel_rfl) trivial fun a26 hf27 => ?_
    refine listOf hf27 rfl (by kernel_rfl) (aCall (fid := 35) (args := [.float .f64 b0]) (d := 6) hf27 (by kernel_rfl) (by kernel_rfl) callable35 (ref1_Bits.calls _ _ x0 b0 h0 (hm0.give [] [] rfl rfl) r23 hr23) ?_)
    rintro _ w28 a29 ⟨rfl, hk31⟩ hf30
    have hm32 := hm0.still hk31.cum.none
    refine go 1 [] [6, 7] [(6, .int .u64 r23), (7, .float .f64 b1)] [] hf30 (by kernel_rfl) trivial fun a33 hf34 => ?_
    refine listOf hf34 rfl (by kernel_rfl) (aCall (fid := 35) (args := [.float .f64 b1]) (d := 8) hf34 (by kernel_rfl) (by kernel_rfl) callable35 (ref1_Bits.calls _ _ x1 b1 h1 (hm32.give [] [] rfl rfl) r24 hr24) ?_)
    rintro _ w35 a36 ⟨rfl, hk38⟩ hf37
    have hm39 := hm32.still hk38.cum.none
    refine go 2 [.bool true] [4] [(4, .bool true)] [.is (((r23 : Int) == r24) = true)] hf37 (by kernel_rfl) ⟨(eqT c25), trivial⟩ fun a40 hf41 => ?_
    refine endL rfl ?_
    refine thenN ?_
    refine wp_ret ?_
    have hm42 : Mem [] M w0 [] w35 := hm39.sel [] _ rfl (by kernel_rfl)
    obtain rfl := Option.some.inj H0
    refine ret [] [.bool true] [] hf41 (by kernel_rfl) trivial ?_
    exact ⟨_, rfl, rfl, hm42⟩
  refine inReg ?_
  refine go 1 [] [1, 5] [(1, .float .f64 b1), (5, .float .f64 b0)] [] hf22 (by kernel_rfl) trivial fun a44 hf45 => ?_
  refine listOf hf45 rfl (by kernel_rfl) (aCall (fid := 35) (args := [.float .f64 b0]) (d := 6) hf45 (by kernel_rfl) (by kernel_rfl) callable35 (ref1_Bits.calls _ _ x0 b0 h0 (hm0.give [] [] rfl rfl) r23 hr23) ?_)
  rintro _ w46 a47 ⟨rfl, hk49⟩ hf48
  have hm50 := hm0.still hk49.cum.none
  refine go 1 [] [6, 7] [(6, .int .u64 r23), (7, .float .f64 b1)] [] hf48 (by kernel_rfl) trivial fun a51 hf52 => ?_
  refine listOf hf52 rfl (by kernel_rfl) (aCall (fid := 35) (args := [.float .f64 b1]) (d := 8) hf52 (by kernel_rfl) (by kernel_rfl) callable35 (ref1_Bits.calls _ _ x1 b1 h1 (hm50.give [] [] rfl rfl) r24 hr24) ?_)
  rintro _ w53 a54 ⟨rfl, hk56⟩ hf55
  have hm57 := hm50.still hk56.cum.none
  refine go 2 [.bool false] [4] [(4, .bool false)] [.is (((r23 : Int) == r24) = false)] hf55 (by kernel_rfl) ⟨(eqF c25), trivial⟩ fun a58 hf59 => ?_
  refine endL rfl ?_
  refine thenN ?_
  refine wp_ret ?_
  have hm60 : Mem [] M w0 [] w53 := hm57.sel [] _ rfl (by kernel_rfl)
  obtain rfl := Option.some.inj H0
  refine ret [] [.bool false] [] hf59 (by kernel_rfl) trivial ?_
  exact ⟨_, rfl, rfl, hm60⟩
end Go.Proofs.YtkdhahdfkonilaaDoor
