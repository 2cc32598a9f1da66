/- Printed by gen.py. -/
import Derived.Test.YtkdhahdfkonilaaDoorF2
import Derived.Test.YtkdhahdfkonilaaDoorF6
import Derived.Test.YtkdhahdfkonilaaDoorF7
namespace Go.Proofs.YtkdhahdfkonilaaDoor
open Go Go.RowKit
set_option linter.unusedSimpArgs false
set_option linter.unusedVariables false
set_option linter.unnecessarySimpa false
/-! ### backstitch/backstitchlaw24.ScriptKnown -/
noncomputable def law24_ScriptKnown.l0  (s225 : Int) : Step Int (Out2 Int Bool) :=
  if s225 < (17 : Int) then (if 0 ≤ s225 ∧ s225 < (17 : Int) then (bindS (script_Read.f (rd ([([97, 100, 100] : List UInt8), ([102, 111, 111, 10] : List UInt8), ([97, 100, 100, 32, 105, 58, 10] : List UInt8), ([97, 100, 100, 32, 105, 58, 48, 49, 10] : List UInt8), ([97, 100, 100, 32, 105, 58, 49, 50, 51, 52, 53, 54, 55, 56, 57, 48, 10] : List UInt8), ([97, 100, 100, 32, 32, 105, 58, 48, 10] : List UInt8), ([97, 100, 100, 32, 105, 58, 48, 32, 10] : List UInt8), ([97, 100, 100, 32, 116, 58, 49, 32, 105, 58, 48, 10] : List UInt8), ([108, 101, 97, 102, 32, 110, 58, 48, 10] : List UInt8), ([108, 101, 97, 102, 32, 118, 58, 51, 102, 102, 10] : List UInt8), ([108, 101, 97, 102, 32, 118, 58, 55, 102, 102, 56, 48, 48, 48, 48, 48, 48, 48, 48, 48, 48, 48, 48, 10] : List UInt8), ([108, 101, 97, 102, 32, 104, 58, 49, 10] : List UInt8), ([108, 101, 97, 102, 32, 104, 58, 44, 51, 102, 102, 48, 48, 48, 48, 48, 48, 48, 48, 48, 48, 48, 48, 48, 10] : List UInt8), ([10] : List UInt8), ([108, 101, 97, 102, 32, 110, 58, 49, 32, 110, 58, 50, 10] : List UInt8), ([76, 101, 97, 102, 10] : List UInt8), ([108, 101, 97, 102, 32, 113, 58, 49, 10] : List UInt8)] : List (List UInt8)) s225)) fun r236 =>
  if r236.2 = 14 then (.next (w64 (s225 + 1)))
  else (.done (.ret false)))
  else .bad)
  else (.done (.go s225))
noncomputable def law24_ScriptKnown.l1  (s287 : ((List UInt8) × Int)) : Step ((List UInt8) × Int) ((List UInt8) × Int) :=
  if s287.2 ≤ 256 then (if s287.1.length + ([108, 101, 97, 102, 10] : List UInt8).length ≤ 9223372036854775807 then (.next ((s287.1 ++ ([108, 101, 97, 102, 10] : List UInt8)), (w64 (s287.2 + 1))))
  else .bad)
  else (.done (s287.1, s287.2))
noncomputable def law24_ScriptKnown.f  : Option Bool :=
  (law24_awake.f).bind fun r23 =>
  if r23 = true then ((script_Read.f ([112, 97, 114, 97, 109, 10, 108, 101, 97, 102, 32, 110, 58, 51, 32, 104, 58, 49, 44, 52, 48, 48, 48, 48, 48, 48, 48, 48, 48, 48, 48, 48, 48, 48, 48, 10, 99, 111, 110, 115, 116, 32, 115, 58, 50, 32, 118, 58, 51, 102, 102, 48, 48, 48, 48, 48, 48, 48, 48, 48, 48, 48, 48, 48, 32, 118, 58, 55, 102, 102, 56, 48, 48, 48, 48, 48, 48, 48, 48, 48, 48, 48, 49, 10, 98, 114, 111, 97, 100, 99, 97, 115, 116, 32, 105, 58, 48, 32, 116, 58, 50, 32, 116, 58, 50, 10, 99, 97, 108, 108, 32, 105, 58, 51, 32, 110, 58, 49, 10] : List UInt8)).bind fun r34 =>
  if r34.2 = 0 then (if (r34.1.L.length : Int) = 5 then (if (0 : Int) ≤ 1 ∧ 1 < (r34.1.L.length : Int) then (if (rd r34.1.L 1).No = 3 then (if (0 : Int) ≤ 0 ∧ 0 < ((((rd r34.1.L 1).Hooks).length : Nat) : Int) then (if (fne ((rd ((rd r34.1.L 1).Hooks) 0).X) 4611686018427387904) = true then (some false)
  else (if (0 : Int) ≤ 2 ∧ 2 < (r34.1.L.length : Int) then (if (((((rd r34.1.L 2).Val).Data).length : Nat) : Int) = 2 then (if (0 : Int) ≤ 4 ∧ 4 < (r34.1.L.length : Int) then (if (rd r34.1.L 4).No = 1 then ((script_Text.f r34.1).bind fun r121 =>
  if r121 = ([112, 97, 114, 97, 109, 10, 108, 101, 97, 102, 32, 110, 58, 51, 32, 104, 58, 49, 44, 52, 48, 48, 48, 48, 48, 48, 48, 48, 48, 48, 48, 48, 48, 48, 48, 10, 99, 111, 110, 115, 116, 32, 115, 58, 50, 32, 118, 58, 51, 102, 102, 48, 48, 48, 48, 48, 48, 48, 48, 48, 48, 48, 48, 48, 32, 118, 58, 55, 102, 102, 56, 48, 48, 48, 48, 48, 48, 48, 48, 48, 48, 48, 49, 10, 98, 114, 111, 97, 100, 99, 97, 115, 116, 32, 105, 58, 48, 32, 116, 58, 50, 32, 116, 58, 50, 10, 99, 97, 108, 108, 32, 105, 58, 51, 32, 110, 58, 49, 10] : List UInt8) then ((loop (law24_ScriptKnown.l0) 0).bind fun r226 =>
  r226.on (fun yr226 =>
  (loop (law24_ScriptKnown.l1) (([] : List UInt8), 0)).bind fun r288 =>
  (script_Read.f r288.1).bind fun r308 =>
  if 0 ≤ (5 : Int) ∧ (5 : Int) ≤ (r288.1.length : Int) then ((script_Read.f (slc r288.1 (5 : Int) (r288.1.length : Int))).bind fun r336 =>
  (script_Read.f ([] : List UInt8)).bind fun r362 =>
  if r308.2 = 13 then (if r336.2 = 0 then (if (r336.1.L.length : Int) = 256 then (if r362.2 = 0 then (if (r362.1.L.length : Int) = 0 then ((script_Number.f 13835058055282163712).bind fun r391 =>
  if r391 = ([99, 48, 48, 48, 48, 48, 48, 48, 48, 48, 48, 48, 48, 48, 48, 48] : List UInt8) then ((script_Text.f (⟨([(⟨0, ([] : (List Int)), ([] : (List Int)), 0, (⟨([] : (List Int)), ([] : (List Nat))⟩ : Tensor), ([] : (List Hook))⟩ : Node)] : List Node)⟩ : Graph)).bind fun r393 =>
  if r393 = ([] : List UInt8) then (some true)
  else (some false))
  else (some false))
  else (some false))
  else (some false))
  else (some false))
  else (some false))
  else (some false))
  else none) (fun y => some y))
  else (some false))
  else (some false))
  else none)
  else (some false))
  else none))
  else none)
  else (some false))
  else none)
  else (some false))
  else (some false))
  else (some false)
set_option maxRecDepth 100000 in
set_option maxHeartbeats 4000000 in
theorem law24_ScriptKnown.calls (M : List (Option Nat)) (w0 : World)  (hm0 : Mem [] M w0 [] w0) (r : Bool) (H0 : law24_ScriptKnown.f = some r) (hG : Glob [] w0) :
    Calls Tryd.prog 6 [].toArray w0 (fun x w' => ∃ v, x = .returned v ∧ v = .bool r ∧ Mem [] M w0 [] w') := by
  unfold law24_ScriptKnown.f at H0
  refine enter (n := 145) Tryd.func6 rfl rfl (by kernel_rfl) fun a0 (hf0 : Fr 145 a0 []) => ?_
  refine wp_seq ?_
  refine reg [] [] [] [] hf0 (by kernel_rfl) trivial fun a21 hf22 => ?_
  refine thenN ?_
  refine wp_seq ?_
  refine wp_seq ?_
  obtain ⟨r23, hr23, H0⟩ := ob_split H0
  rcases ifb_split H0 with ⟨c24, H0⟩ | ⟨c24, H0⟩
  rotate_left
  · refine inReg ?_
    refine listOf hf22 rfl (by kernel_rfl) (aCall (fid := 9) (args := []) (d := 16) hf22 (by kernel_rfl) (by kernel_rfl) callable9 (law24_awake.calls _ _  (hm0.give [] [] rfl rfl) r23 hr23 (hG.at hm0)) ?_)
    rintro _ w780 a781 ⟨rfl, hk783⟩ hf782
    have hm784 := hm0.still hk783.cum.none
    rw [c24] at hf782
    refine go 1 [] [17] [(17, .bool true)] [] hf782 (by kernel_rfl) trivial fun a785 hf786 => ?_
    refine endL rfl ?_
    refine thenN ?_
    refine condT hf786 (by kernel_rfl) ?_
    refine wp_seq ?_
    refine reg [] [0] [(0, .bool false)] [] hf786 (by kernel_rfl) trivial fun a787 hf788 => ?_
    refine thenN ?_
    refine wp_ret ?_
    refine thenR ?_
    have hm789 : Mem [] M w0 [] w780 := hm784.sel [] _ rfl (by kernel_rfl)
    obtain rfl := Option.some.inj H0
    refine ret [] [.bool false] [] hf788 (by kernel_rfl) trivial ?_
    exact ⟨_, rfl, rfl, hm789⟩
  refine inReg ?_
  refine listOf hf22 rfl (by kernel_rfl) (aCall (fid := 9) (args := []) (d := 16) hf22 (by kernel_rfl) (by kernel_rfl) callable9 (law24_awake.calls _ _  (hm0.give [] [] rfl rfl) r23 hr23 (hG.at hm0)) ?_)
  rintro _ w25 a26 ⟨rfl, hk28⟩ hf27
  have hm29 := hm0.still hk28.cum.none
  rw [c24] at hf27
  refine go 1 [] [17] [(17, .bool false)] [] hf27 (by kernel_rfl) trivial fun a30 hf31 => ?_
  refine endL rfl ?_
  refine thenN ?_
  refine condF hf31 (by kernel_rfl) ?_
  refine wp_skip ?_
  refine thenN ?_
  refine wp_seq ?_
  refine reg [] [1] [(1, .string (bs ([112, 97, 114, 97, 109, 10, 108, 101, 97, 102, 32, 110, 58, 51, 32, 104, 58, 49, 44, 52, 48, 48, 48, 48, 48, 48, 48, 48, 48, 48, 48, 48, 48, 48, 48, 10, 99, 111, 110, 115, 116, 32, 115, 58, 50, 32, 118, 58, 51, 102, 102, 48, 48, 48, 48, 48, 48, 48, 48, 48, 48, 48, 48, 48, 32, 118, 58, 55, 102, 102, 56, 48, 48, 48, 48, 48, 48, 48, 48, 48, 48, 48, 49, 10, 98, 114, 111, 97, 100, 99, 97, 115, 116, 32, 105, 58, 48, 32, 116, 58, 50, 32, 116, 58, 50, 10, 99, 97, 108, 108, 32, 105, 58, 51, 32, 110, 58, 49, 10] : List UInt8)))] [] hf31 (by kernel_rfl) trivial fun a32 hf33 => ?_
  refine thenN ?_
  refine wp_seq ?_
  obtain ⟨r34, hr34, H0⟩ := ob_split H0
  refine inReg ?_
  refine go 1 [] [1, 19] [(1, .string (bs ([112, 97, 114, 97, 109, 10, 108, 101, 97, 102, 32, 110, 58, 51, 32, 104, 58, 49, 44, 52, 48, 48, 48, 48, 48, 48, 48, 48, 48, 48, 48, 48, 48, 48, 48, 10, 99, 111, 110, 115, 116, 32, 115, 58, 50, 32, 118, 58, 51, 102, 102, 48, 48, 48, 48, 48, 48, 48, 48, 48, 48, 48, 48, 48, 32, 118, 58, 55, 102, 102, 56, 48, 48, 48, 48, 48, 48, 48, 48, 48, 48, 48, 49, 10, 98, 114, 111, 97, 100, 99, 97, 115, 116, 32, 105, 58, 48, 32, 116, 58, 50, 32, 116, 58, 50, 10, 99, 97, 108, 108, 32, 105, 58, 51, 32, 110, 58, 49, 10] : List UInt8))), (19, .string (bs ([112, 97, 114, 97, 109, 10, 108, 101, 97, 102, 32, 110, 58, 51, 32, 104, 58, 49, 44, 52, 48, 48, 48, 48, 48, 48, 48, 48, 48, 48, 48, 48, 48, 48, 48, 10, 99, 111, 110, 115, 116, 32, 115, 58, 50, 32, 118, 58, 51, 102, 102, 48, 48, 48, 48, 48, 48, 48, 48, 48, 48, 48, 48, 48, 32, 118, 58, 55, 102, 102, 56, 48, 48, 48, 48, 48, 48, 48, 48, 48, 48, 48, 49, 10, 98, 114, 111, 97, 100, 99, 97, 115, 116, 32, 105, 58, 48, 32, 116, 58, 50, 32, 116, 58, 50, 10, 99, 97, 108, 108, 32, 105, 58, 51, 32, 110, 58, 49, 10] : List UInt8)))] [] hf33 (by kernel_rfl) trivial fun a35 hf36 => ?_
  refine listOf hf36 rfl (by kernel_rfl) (aCall (fid := 13) (args := [.string (bs ([112, 97, 114, 97, 109, 10, 108, 101, 97, 102, 32, 110, 58, 51, 32, 104, 58, 49, 44, 52, 48, 48, 48, 48, 48, 48, 48, 48, 48, 48, 48, 48, 48, 48, 48, 10, 99, 111, 110, 115, 116, 32, 115, 58, 50, 32, 118, 58, 51, 102, 102, 48, 48, 48, 48, 48, 48, 48, 48, 48, 48, 48, 48, 48, 32, 118, 58, 55, 102, 102, 56, 48, 48, 48, 48, 48, 48, 48, 48, 48, 48, 48, 49, 10, 98, 114, 111, 97, 100, 99, 97, 115, 116, 32, 105, 58, 48, 32, 116, 58, 50, 32, 116, 58, 50, 10, 99, 97, 108, 108, 32, 105, 58, 51, 32, 110, 58, 49, 10] : List UInt8))]) (d := 20) hf36 (by kernel_rfl) (by kernel_rfl) callable13 (script_Read.calls _ _ ([112, 97, 114, 97, 109, 10, 108, 101, 97, 102, 32, 110, 58, 51, 32, 104, 58, 49, 44, 52, 48, 48, 48, 48, 48, 48, 48, 48, 48, 48, 48, 48, 48, 48, 48, 10, 99, 111, 110, 115, 116, 32, 115, 58, 50, 32, 118, 58, 51, 102, 102, 48, 48, 48, 48, 48, 48, 48, 48, 48, 48, 48, 48, 48, 32, 118, 58, 55, 102, 102, 56, 48, 48, 48, 48, 48, 48, 48, 48, 48, 48, 48, 49, 10, 98, 114, 111, 97, 100, 99, 97, 115, 116, 32, 105, 58, 48, 32, 116, 58, 50, 32, 116, 58, 50, 10, 99, 97, 108, 108, 32, 105, 58, 51, 32, 110, 58, 49, 10] : List UInt8) (hm29.give [] [] rfl rfl) r34 hr34 (hG.at hm29)) ?_)
  rintro _ w39 a40 ⟨A37, c38, rfl, hk42⟩ hf41
  have hm43 := hm29.back hk42
  have hm44 := hm43.seal 0 _ rfl rfl
  refine go 3 [] [1, 21, 22] [(1, .string (bs ([112, 97, 114, 97, 109, 10, 108, 101, 97, 102, 32, 110, 58, 51, 32, 104, 58, 49, 44, 52, 48, 48, 48, 48, 48, 48, 48, 48, 48, 48, 48, 48, 48, 48, 48, 10, 99, 111, 110, 115, 116, 32, 115, 58, 50, 32, 118, 58, 51, 102, 102, 48, 48, 48, 48, 48, 48, 48, 48, 48, 48, 48, 48, 48, 32, 118, 58, 55, 102, 102, 56, 48, 48, 48, 48, 48, 48, 48, 48, 48, 48, 48, 49, 10, 98, 114, 111, 97, 100, 99, 97, 115, 116, 32, 105, 58, 48, 32, 116, 58, 50, 32, 116, 58, 50, 10, 99, 97, 108, 108, 32, 105, 58, 51, 32, 110, 58, 49, 10] : List UInt8))), (21, .agg #[.slice A37 r34.1.L.length c38]), (22, .int .i64 r34.2)] [] hf41 (by kernel_rfl) trivial fun a45 hf46 => ?_
  refine listOf hf46 rfl (by kernel_rfl) (aNew (cs := [.slice none 0 0]) (T := 24) (d := 2) hf46 (by kernel_rfl) (by kernel_rfl) ?_)
  intro b47 w48 a49 hbb47 hx51 hg52 hf50
  have hm53 := hm44.box hbb47 hx51 hg52
  refine listOf hf50 rfl (by kernel_rfl) (aStoreB (b := b47) (j := 0) (T := 24) (cs := [.slice none 0 0]) (us := [.slice A37 r34.1.L.length c38]) (cs' := [.slice A37 r34.1.L.length c38]) hf50 (by kernel_rfl) (hm53.bxAt 0 rfl) (by kernel_rfl) (by kernel_rfl) (by kernel_rfl) ?_)
  intro w54 hx55 hg56
  have hm57 := hm53.setBox 0 _ rfl rfl hx55 hg56
  refine go 1 [] [1, 2, 3] [(1, .string (bs ([112, 97, 114, 97, 109, 10, 108, 101, 97, 102, 32, 110, 58, 51, 32, 104, 58, 49, 44, 52, 48, 48, 48, 48, 48, 48, 48, 48, 48, 48, 48, 48, 48, 48, 48, 10, 99, 111, 110, 115, 116, 32, 115, 58, 50, 32, 118, 58, 51, 102, 102, 48, 48, 48, 48, 48, 48, 48, 48, 48, 48, 48, 48, 48, 32, 118, 58, 55, 102, 102, 56, 48, 48, 48, 48, 48, 48, 48, 48, 48, 48, 48, 49, 10, 98, 114, 111, 97, 100, 99, 97, 115, 116, 32, 105, 58, 48, 32, 116, 58, 50, 32, 116, 58, 50, 10, 99, 97, 108, 108, 32, 105, 58, 51, 32, 110, 58, 49, 10] : List UInt8))), (2, .pointer (some ⟨b47, 0, none⟩)), (3, .int .i64 r34.2)] [] hf50 (by kernel_rfl) trivial fun a58 hf59 => ?_
  refine endL rfl ?_
  refine thenN ?_
  refine wp_seq ?_
  refine wp_seq ?_
  rcases if_split H0 with ⟨c60, H0⟩ | ⟨c60, H0⟩
  rotate_left
  · refine reg [.bool true] [73] [(73, .bool true)] [.is (((r34.2 : Int) != 0) = true)] hf59 (by kernel_rfl) ⟨(neT c60), trivial⟩ fun a773 hf774 => ?_
    have hm775 := hm57.sel [] _ rfl (by kernel_rfl)
    refine thenN ?_
    refine condT hf774 (by kernel_rfl) ?_
    refine wp_seq ?_
    refine reg [] [0] [(0, .bool false)] [] hf774 (by kernel_rfl) trivial fun a776 hf777 => ?_
    refine thenN ?_
    refine wp_ret ?_
    refine thenR ?_
    have hm778 : Mem [] M w0 [] w54 := hm775.sel [] _ rfl (by kernel_rfl)
    obtain rfl := Option.some.inj H0
    refine ret [] [.bool false] [] hf777 (by kernel_rfl) trivial ?_
    exact ⟨_, rfl, rfl, hm778⟩
  rcases if_split H0 with ⟨c61, H0⟩ | ⟨c61, H0⟩
  rotate_left
  · refine reg [.bool false, .slice A37 r34.1.L.length c38, .bool true] [73] [(73, .bool true)] [.is (((r34.2 : Int) != 0) = false), .cell ⟨b47, 0, none⟩ (.slice A37 r34.1.L.length c38), .is ((((r34.1.L.length : Int) : Int) != 5) = true)] hf59 (by kernel_rfl) ⟨(neF c60), (hm57.cell 0 rfl rfl), (neT c61), trivial⟩ fun a766 hf767 => ?_
    have hm768 := hm57.sel [] _ rfl (by kernel_rfl)
    refine thenN ?_
    refine condT hf767 (by kernel_rfl) ?_
    refine wp_seq ?_
    refine reg [] [0] [(0, .bool false)] [] hf767 (by kernel_rfl) trivial fun a769 hf770 => ?_
    refine thenN ?_
    refine wp_ret ?_
    refine thenR ?_
    have hm771 : Mem [] M w0 [] w54 := hm768.sel [] _ rfl (by kernel_rfl)
    obtain rfl := Option.some.inj H0
    refine ret [] [.bool false] [] hf770 (by kernel_rfl) trivial ?_
    exact ⟨_, rfl, rfl, hm771⟩
  obtain ⟨g62, H0⟩ := if_guard H0
  rcases if_split H0 with ⟨c63, H0⟩ | ⟨c63, H0⟩
  rotate_left
  · have q740 := (hm57.slAt 1 rfl).get 1 g62.1 g62.2
    obtain ⟨us741, hr742, hc743⟩ := q740.2
    obtain ⟨A744, c745, A746, c747, A748, c749, A750, c751, A752, c753, rfl, ⟨pA744, sA744⟩, ⟨pA746, sA746⟩, ⟨pA748, sA748⟩, ⟨pA750, sA750⟩, ⟨pA752, sA752⟩⟩ := kNode.open hr742
    have hm754 := hm57.elem pA744 sA744
    have hm755 := hm754.elem pA746 sA746
    have hm756 := hm755.elem pA748 sA748
    have hm757 := hm756.elem pA750 sA750
    have hm758 := hm757.elem pA752 sA752
    refine reg [.bool false, .slice A37 r34.1.L.length c38, .bool false, .slice A37 r34.1.L.length c38, .int .i64 ((rd r34.1.L 1).No), .bool true] [73] [(73, .bool true)] [.is (((r34.2 : Int) != 0) = false), .cell ⟨b47, 0, none⟩ (.slice A37 r34.1.L.length c38), .is ((((r34.1.L.length : Int) : Int) != 5) = false), .cell ⟨b47, 0, none⟩ (.slice A37 r34.1.L.length c38), .is (Option.isSome A37 = true), .is ((0 : Int) ≤ 1 ∧ 1 < (r34.1.L.length : Int)), .cell (((ad A37).add ((1 : Int).toNat * 7)).add 3) (.int .i64 ((rd r34.1.L 1).No)), .is ((((rd r34.1.L 1).No : Int) != 3) = true)] hf59 (by kernel_rfl) ⟨(neF c60), (hm57.cell 0 rfl rfl), (neF c61), (hm57.cell 0 rfl rfl), q740.1, g62, (hc743 3 _ rfl), (neT c63), trivial⟩ fun a759 hf760 => ?_
    have hm761 := hm758.sel [] _ rfl (by kernel_rfl)
    refine thenN ?_
    refine condT hf760 (by kernel_rfl) ?_
    refine wp_seq ?_
    refine reg [] [0] [(0, .bool false)] [] hf760 (by kernel_rfl) trivial fun a762 hf763 => ?_
    refine thenN ?_
    refine wp_ret ?_
    refine thenR ?_
    have hm764 : Mem [] M w0 [] w54 := hm761.sel [] _ rfl (by kernel_rfl)
    obtain rfl := Option.some.inj H0
    refine ret [] [.bool false] [] hf763 (by kernel_rfl) trivial ?_
    exact ⟨_, rfl, rfl, hm764⟩
  obtain ⟨g65, H0⟩ := if_guard H0
  rcases ifb_split H0 with ⟨c66, H0⟩ | ⟨c66, H0⟩
  · have q67 := (hm57.slAt 1 rfl).get 1 g62.1 g62.2
    obtain ⟨us68, hr69, hc70⟩ := q67.2
    obtain ⟨A71, c72, A73, c74, A75, c76, A77, c78, A79, c80, rfl, ⟨pA71, sA71⟩, ⟨pA73, sA73⟩, ⟨pA75, sA75⟩, ⟨pA77, sA77⟩, ⟨pA79, sA79⟩⟩ := kNode.open hr69
    have hm81 := hm57.elem pA71 sA71
    have hm82 := hm81.elem pA73 sA73
    have hm83 := hm82.elem pA75 sA75
    have hm84 := hm83.elem pA77 sA77
    have hm85 := hm84.elem pA79 sA79
    have q86 := (hm85.slAt 6 rfl).get 1 g62.1 g62.2
    obtain ⟨us87, hr88, hc89⟩ := q86.2
    obtain ⟨A90, c91, A92, c93, A94, c95, A96, c97, A98, c99, rfl, ⟨pA90, sA90⟩, ⟨pA92, sA92⟩, ⟨pA94, sA94⟩, ⟨pA96, sA96⟩, ⟨pA98, sA98⟩⟩ := kNode.open hr88
    have hm100 := hm85.elem pA90 sA90
    have hm101 := hm100.elem pA92 sA92
    have hm102 := hm101.elem pA94 sA94
    have hm103 := hm102.elem pA96 sA96
    have hm104 := hm103.elem pA98 sA98
    have q105 := (hm104.slAt 0 rfl).get 0 g65.1 g65.2
    obtain ⟨us106, hr107, hc108⟩ := q105.2
    obtain ⟨b109, rfl, hb109⟩ := kHook.open hr107
    refine reg [.bool false, .slice A37 r34.1.L.length c38, .bool false, .slice A37 r34.1.L.length c38, .int .i64 ((rd r34.1.L 1).No), .bool false, .slice A37 r34.1.L.length c38, .slice A98 (((rd r34.1.L 1).Hooks).length) c99, .float .f64 b109, .bool true] [73] [(73, .bool true)] [.is (((r34.2 : Int) != 0) = false), .cell ⟨b47, 0, none⟩ (.slice A37 r34.1.L.length c38), .is ((((r34.1.L.length : Int) : Int) != 5) = false), .cell ⟨b47, 0, none⟩ (.slice A37 r34.1.L.length c38), .is (Option.isSome A37 = true), .is ((0 : Int) ≤ 1 ∧ 1 < (r34.1.L.length : Int)), .cell (((ad A37).add ((1 : Int).toNat * 7)).add 3) (.int .i64 ((rd r34.1.L 1).No)), .is ((((rd r34.1.L 1).No : Int) != 3) = false), .cell ⟨b47, 0, none⟩ (.slice A37 r34.1.L.length c38), .is (Option.isSome A37 = true), .is ((0 : Int) ≤ 1 ∧ 1 < (r34.1.L.length : Int)), .cell (((ad A37).add ((1 : Int).toNat * 7)).add 6) (.slice A98 (((rd r34.1.L 1).Hooks).length) c99), .is (Option.isSome A98 = true), .is ((0 : Int) ≤ 0 ∧ 0 < ((((rd r34.1.L 1).Hooks).length : Nat) : Int)), .cell (((ad A98).add ((0 : Int).toNat * 2)).add 1) (.float .f64 b109), .is ((FloatKind.f64.format.order b109 4611686018427387904 != some .eq) = true)] hf59 (by kernel_rfl) ⟨(neF c60), (hm57.cell 0 rfl rfl), (neF c61), (hm57.cell 0 rfl rfl), q67.1, g62, (hc70 3 _ rfl), (neF c63), (hm85.cell 5 rfl rfl), q86.1, g62, (hc89 6 _ rfl), q105.1, g65, (hc108 1 _ rfl), (ftNe hb109 (FR.lit (by kernel_rfl) (by kernel_rfl)) c66), trivial⟩ fun a110 hf111 => ?_
    have hm112 := hm104.sel [] _ rfl (by kernel_rfl)
    refine thenN ?_
    refine condT hf111 (by kernel_rfl) ?_
    refine wp_seq ?_
    refine reg [] [0] [(0, .bool false)] [] hf111 (by kernel_rfl) trivial fun a113 hf114 => ?_
    refine thenN ?_
    refine wp_ret ?_
    refine thenR ?_
    have hm115 : Mem [] M w0 [] w54 := hm112.sel [] _ rfl (by kernel_rfl)
    obtain rfl := Option.some.inj H0
    refine ret [] [.bool false] [] hf114 (by kernel_rfl) trivial ?_
    exact ⟨_, rfl, rfl, hm115⟩
  obtain ⟨g117, H0⟩ := if_guard H0
  rcases if_split H0 with ⟨c118, H0⟩ | ⟨c118, H0⟩
  rotate_left
  · have q671 := (hm57.slAt 1 rfl).get 1 g62.1 g62.2
    obtain ⟨us672, hr673, hc674⟩ := q671.2
    obtain ⟨A675, c676, A677, c678, A679, c680, A681, c682, A683, c684, rfl, ⟨pA675, sA675⟩, ⟨pA677, sA677⟩, ⟨pA679, sA679⟩, ⟨pA681, sA681⟩, ⟨pA683, sA683⟩⟩ := kNode.open hr673
    have hm685 := hm57.elem pA675 sA675
    have hm686 := hm685.elem pA677 sA677
    have hm687 := hm686.elem pA679 sA679
    have hm688 := hm687.elem pA681 sA681
    have hm689 := hm688.elem pA683 sA683
    have q690 := (hm689.slAt 6 rfl).get 1 g62.1 g62.2
    obtain ⟨us691, hr692, hc693⟩ := q690.2
    obtain ⟨A694, c695, A696, c697, A698, c699, A700, c701, A702, c703, rfl, ⟨pA694, sA694⟩, ⟨pA696, sA696⟩, ⟨pA698, sA698⟩, ⟨pA700, sA700⟩, ⟨pA702, sA702⟩⟩ := kNode.open hr692
    have hm704 := hm689.elem pA694 sA694
    have hm705 := hm704.elem pA696 sA696
    have hm706 := hm705.elem pA698 sA698
    have hm707 := hm706.elem pA700 sA700
    have hm708 := hm707.elem pA702 sA702
    have q709 := (hm708.slAt 0 rfl).get 0 g65.1 g65.2
    obtain ⟨us710, hr711, hc712⟩ := q709.2
    obtain ⟨b713, rfl, hb713⟩ := kHook.open hr711
    have q714 := (hm708.slAt 11 rfl).get 2 g117.1 g117.2
    obtain ⟨us715, hr716, hc717⟩ := q714.2
    obtain ⟨A718, c719, A720, c721, A722, c723, A724, c725, A726, c727, rfl, ⟨pA718, sA718⟩, ⟨pA720, sA720⟩, ⟨pA722, sA722⟩, ⟨pA724, sA724⟩, ⟨pA726, sA726⟩⟩ := kNode.open hr716
    have hm728 := hm708.elem pA718 sA718
    have hm729 := hm728.elem pA720 sA720
    have hm730 := hm729.elem pA722 sA722
    have hm731 := hm730.elem pA724 sA724
    have hm732 := hm731.elem pA726 sA726
    refine reg [.bool false, .slice A37 r34.1.L.length c38, .bool false, .slice A37 r34.1.L.length c38, .int .i64 ((rd r34.1.L 1).No), .bool false, .slice A37 r34.1.L.length c38, .slice A702 (((rd r34.1.L 1).Hooks).length) c703, .float .f64 b713, .bool false, .slice A37 r34.1.L.length c38, .slice A724 ((((rd r34.1.L 2).Val).Data).length) c725, .bool true] [73] [(73, .bool true)] [.is (((r34.2 : Int) != 0) = false), .cell ⟨b47, 0, none⟩ (.slice A37 r34.1.L.length c38), .is ((((r34.1.L.length : Int) : Int) != 5) = false), .cell ⟨b47, 0, none⟩ (.slice A37 r34.1.L.length c38), .is (Option.isSome A37 = true), .is ((0 : Int) ≤ 1 ∧ 1 < (r34.1.L.length : Int)), .cell (((ad A37).add ((1 : Int).toNat * 7)).add 3) (.int .i64 ((rd r34.1.L 1).No)), .is ((((rd r34.1.L 1).No : Int) != 3) = false), .cell ⟨b47, 0, none⟩ (.slice A37 r34.1.L.length c38), .is (Option.isSome A37 = true), .is ((0 : Int) ≤ 1 ∧ 1 < (r34.1.L.length : Int)), .cell (((ad A37).add ((1 : Int).toNat * 7)).add 6) (.slice A702 (((rd r34.1.L 1).Hooks).length) c703), .is (Option.isSome A702 = true), .is ((0 : Int) ≤ 0 ∧ 0 < ((((rd r34.1.L 1).Hooks).length : Nat) : Int)), .cell (((ad A702).add ((0 : Int).toNat * 2)).add 1) (.float .f64 b713), .is ((FloatKind.f64.format.order b713 4611686018427387904 != some .eq) = false), .cell ⟨b47, 0, none⟩ (.slice A37 r34.1.L.length c38), .is (Option.isSome A37 = true), .is ((0 : Int) ≤ 2 ∧ 2 < (r34.1.L.length : Int)), .cell (((ad A37).add ((2 : Int).toNat * 7)).add 5) (.slice A724 ((((rd r34.1.L 2).Val).Data).length) c725), .is ((((((((rd r34.1.L 2).Val).Data).length : Nat) : Int) : Int) != 2) = true)] hf59 (by kernel_rfl) ⟨(neF c60), (hm57.cell 0 rfl rfl), (neF c61), (hm57.cell 0 rfl rfl), q671.1, g62, (hc674 3 _ rfl), (neF c63), (hm689.cell 5 rfl rfl), q690.1, g62, (hc693 6 _ rfl), q709.1, g65, (hc712 1 _ rfl), (ftNe hb713 (FR.lit (by kernel_rfl) (by kernel_rfl)) c66), (hm708.cell 10 rfl rfl), q714.1, g117, (hc717 5 _ rfl), (neT c118), trivial⟩ fun a733 hf734 => ?_
    have hm735 := hm732.sel [] _ rfl (by kernel_rfl)
    refine thenN ?_
    refine condT hf734 (by kernel_rfl) ?_
    refine wp_seq ?_
    refine reg [] [0] [(0, .bool false)] [] hf734 (by kernel_rfl) trivial fun a736 hf737 => ?_
    refine thenN ?_
    refine wp_ret ?_
    refine thenR ?_
    have hm738 : Mem [] M w0 [] w54 := hm735.sel [] _ rfl (by kernel_rfl)
    obtain rfl := Option.some.inj H0
    refine ret [] [.bool false] [] hf737 (by kernel_rfl) trivial ?_
    exact ⟨_, rfl, rfl, hm738⟩
  obtain ⟨g119, H0⟩ := if_guard H0
  rcases if_split H0 with ⟨c120, H0⟩ | ⟨c120, H0⟩
  rotate_left
  · have q583 := (hm57.slAt 1 rfl).get 1 g62.1 g62.2
    obtain ⟨us584, hr585, hc586⟩ := q583.2
    obtain ⟨A587, c588, A589, c590, A591, c592, A593, c594, A595, c596, rfl, ⟨pA587, sA587⟩, ⟨pA589, sA589⟩, ⟨pA591, sA591⟩, ⟨pA593, sA593⟩, ⟨pA595, sA595⟩⟩ := kNode.open hr585
    have hm597 := hm57.elem pA587 sA587
    have hm598 := hm597.elem pA589 sA589
    have hm599 := hm598.elem pA591 sA591
    have hm600 := hm599.elem pA593 sA593
    have hm601 := hm600.elem pA595 sA595
    have q602 := (hm601.slAt 6 rfl).get 1 g62.1 g62.2
    obtain ⟨us603, hr604, hc605⟩ := q602.2
    obtain ⟨A606, c607, A608, c609, A610, c611, A612, c613, A614, c615, rfl, ⟨pA606, sA606⟩, ⟨pA608, sA608⟩, ⟨pA610, sA610⟩, ⟨pA612, sA612⟩, ⟨pA614, sA614⟩⟩ := kNode.open hr604
    have hm616 := hm601.elem pA606 sA606
    have hm617 := hm616.elem pA608 sA608
    have hm618 := hm617.elem pA610 sA610
    have hm619 := hm618.elem pA612 sA612
    have hm620 := hm619.elem pA614 sA614
    have q621 := (hm620.slAt 0 rfl).get 0 g65.1 g65.2
    obtain ⟨us622, hr623, hc624⟩ := q621.2
    obtain ⟨b625, rfl, hb625⟩ := kHook.open hr623
    have q626 := (hm620.slAt 11 rfl).get 2 g117.1 g117.2
    obtain ⟨us627, hr628, hc629⟩ := q626.2
    obtain ⟨A630, c631, A632, c633, A634, c635, A636, c637, A638, c639, rfl, ⟨pA630, sA630⟩, ⟨pA632, sA632⟩, ⟨pA634, sA634⟩, ⟨pA636, sA636⟩, ⟨pA638, sA638⟩⟩ := kNode.open hr628
    have hm640 := hm620.elem pA630 sA630
    have hm641 := hm640.elem pA632 sA632
    have hm642 := hm641.elem pA634 sA634
    have hm643 := hm642.elem pA636 sA636
    have hm644 := hm643.elem pA638 sA638
    have q645 := (hm644.slAt 16 rfl).get 4 g119.1 g119.2
    obtain ⟨us646, hr647, hc648⟩ := q645.2
    obtain ⟨A649, c650, A651, c652, A653, c654, A655, c656, A657, c658, rfl, ⟨pA649, sA649⟩, ⟨pA651, sA651⟩, ⟨pA653, sA653⟩, ⟨pA655, sA655⟩, ⟨pA657, sA657⟩⟩ := kNode.open hr647
    have hm659 := hm644.elem pA649 sA649
    have hm660 := hm659.elem pA651 sA651
    have hm661 := hm660.elem pA653 sA653
    have hm662 := hm661.elem pA655 sA655
    have hm663 := hm662.elem pA657 sA657
    refine reg [.bool false, .slice A37 r34.1.L.length c38, .bool false, .slice A37 r34.1.L.length c38, .int .i64 ((rd r34.1.L 1).No), .bool false, .slice A37 r34.1.L.length c38, .slice A614 (((rd r34.1.L 1).Hooks).length) c615, .float .f64 b625, .bool false, .slice A37 r34.1.L.length c38, .slice A636 ((((rd r34.1.L 2).Val).Data).length) c637, .bool false, .slice A37 r34.1.L.length c38, .int .i64 ((rd r34.1.L 4).No), .bool true] [73] [(73, .bool true)] [.is (((r34.2 : Int) != 0) = false), .cell ⟨b47, 0, none⟩ (.slice A37 r34.1.L.length c38), .is ((((r34.1.L.length : Int) : Int) != 5) = false), .cell ⟨b47, 0, none⟩ (.slice A37 r34.1.L.length c38), .is (Option.isSome A37 = true), .is ((0 : Int) ≤ 1 ∧ 1 < (r34.1.L.length : Int)), .cell (((ad A37).add ((1 : Int).toNat * 7)).add 3) (.int .i64 ((rd r34.1.L 1).No)), .is ((((rd r34.1.L 1).No : Int) != 3) = false), .cell ⟨b47, 0, none⟩ (.slice A37 r34.1.L.length c38), .is (Option.isSome A37 = true), .is ((0 : Int) ≤ 1 ∧ 1 < (r34.1.L.length : Int)), .cell (((ad A37).add ((1 : Int).toNat * 7)).add 6) (.slice A614 (((rd r34.1.L 1).Hooks).length) c615), .is (Option.isSome A614 = true), .is ((0 : Int) ≤ 0 ∧ 0 < ((((rd r34.1.L 1).Hooks).length : Nat) : Int)), .cell (((ad A614).add ((0 : Int).toNat * 2)).add 1) (.float .f64 b625), .is ((FloatKind.f64.format.order b625 4611686018427387904 != some .eq) = false), .cell ⟨b47, 0, none⟩ (.slice A37 r34.1.L.length c38), .is (Option.isSome A37 = true), .is ((0 : Int) ≤ 2 ∧ 2 < (r34.1.L.length : Int)), .cell (((ad A37).add ((2 : Int).toNat * 7)).add 5) (.slice A636 ((((rd r34.1.L 2).Val).Data).length) c637), .is ((((((((rd r34.1.L 2).Val).Data).length : Nat) : Int) : Int) != 2) = false), .cell ⟨b47, 0, none⟩ (.slice A37 r34.1.L.length c38), .is (Option.isSome A37 = true), .is ((0 : Int) ≤ 4 ∧ 4 < (r34.1.L.length : Int)), .cell (((ad A37).add ((4 : Int).toNat * 7)).add 3) (.int .i64 ((rd r34.1.L 4).No)), .is ((((rd r34.1.L 4).No : Int) != 1) = true)] hf59 (by kernel_rfl) ⟨(neF c60), (hm57.cell 0 rfl rfl), (neF c61), (hm57.cell 0 rfl rfl), q583.1, g62, (hc586 3 _ rfl), (neF c63), (hm601.cell 5 rfl rfl), q602.1, g62, (hc605 6 _ rfl), q621.1, g65, (hc624 1 _ rfl), (ftNe hb625 (FR.lit (by kernel_rfl) (by kernel_rfl)) c66), (hm620.cell 10 rfl rfl), q626.1, g117, (hc629 5 _ rfl), (neF c118), (hm644.cell 15 rfl rfl), q645.1, g119, (hc648 3 _ rfl), (neT c120), trivial⟩ fun a664 hf665 => ?_
    have hm666 := hm663.sel [] _ rfl (by kernel_rfl)
    refine thenN ?_
    refine condT hf665 (by kernel_rfl) ?_
    refine wp_seq ?_
    refine reg [] [0] [(0, .bool false)] [] hf665 (by kernel_rfl) trivial fun a667 hf668 => ?_
    refine thenN ?_
    refine wp_ret ?_
    refine thenR ?_
    have hm669 : Mem [] M w0 [] w54 := hm666.sel [] _ rfl (by kernel_rfl)
    obtain rfl := Option.some.inj H0
    refine ret [] [.bool false] [] hf668 (by kernel_rfl) trivial ?_
    exact ⟨_, rfl, rfl, hm669⟩
  obtain ⟨r121, hr121, H0⟩ := ob_split H0
  rcases if_split H0 with ⟨c122, H0⟩ | ⟨c122, H0⟩
  rotate_left
  · have q488 := (hm57.slAt 1 rfl).get 1 g62.1 g62.2
    obtain ⟨us489, hr490, hc491⟩ := q488.2
    obtain ⟨A492, c493, A494, c495, A496, c497, A498, c499, A500, c501, rfl, ⟨pA492, sA492⟩, ⟨pA494, sA494⟩, ⟨pA496, sA496⟩, ⟨pA498, sA498⟩, ⟨pA500, sA500⟩⟩ := kNode.open hr490
    have hm502 := hm57.elem pA492 sA492
    have hm503 := hm502.elem pA494 sA494
    have hm504 := hm503.elem pA496 sA496
    have hm505 := hm504.elem pA498 sA498
    have hm506 := hm505.elem pA500 sA500
    have q507 := (hm506.slAt 6 rfl).get 1 g62.1 g62.2
    obtain ⟨us508, hr509, hc510⟩ := q507.2
    obtain ⟨A511, c512, A513, c514, A515, c516, A517, c518, A519, c520, rfl, ⟨pA511, sA511⟩, ⟨pA513, sA513⟩, ⟨pA515, sA515⟩, ⟨pA517, sA517⟩, ⟨pA519, sA519⟩⟩ := kNode.open hr509
    have hm521 := hm506.elem pA511 sA511
    have hm522 := hm521.elem pA513 sA513
    have hm523 := hm522.elem pA515 sA515
    have hm524 := hm523.elem pA517 sA517
    have hm525 := hm524.elem pA519 sA519
    have q526 := (hm525.slAt 0 rfl).get 0 g65.1 g65.2
    obtain ⟨us527, hr528, hc529⟩ := q526.2
    obtain ⟨b530, rfl, hb530⟩ := kHook.open hr528
    have q531 := (hm525.slAt 11 rfl).get 2 g117.1 g117.2
    obtain ⟨us532, hr533, hc534⟩ := q531.2
    obtain ⟨A535, c536, A537, c538, A539, c540, A541, c542, A543, c544, rfl, ⟨pA535, sA535⟩, ⟨pA537, sA537⟩, ⟨pA539, sA539⟩, ⟨pA541, sA541⟩, ⟨pA543, sA543⟩⟩ := kNode.open hr533
    have hm545 := hm525.elem pA535 sA535
    have hm546 := hm545.elem pA537 sA537
    have hm547 := hm546.elem pA539 sA539
    have hm548 := hm547.elem pA541 sA541
    have hm549 := hm548.elem pA543 sA543
    have q550 := (hm549.slAt 16 rfl).get 4 g119.1 g119.2
    obtain ⟨us551, hr552, hc553⟩ := q550.2
    obtain ⟨A554, c555, A556, c557, A558, c559, A560, c561, A562, c563, rfl, ⟨pA554, sA554⟩, ⟨pA556, sA556⟩, ⟨pA558, sA558⟩, ⟨pA560, sA560⟩, ⟨pA562, sA562⟩⟩ := kNode.open hr552
    have hm564 := hm549.elem pA554 sA554
    have hm565 := hm564.elem pA556 sA556
    have hm566 := hm565.elem pA558 sA558
    have hm567 := hm566.elem pA560 sA560
    have hm568 := hm567.elem pA562 sA562
    refine inReg ?_
    refine go 47 [.bool false, .slice A37 r34.1.L.length c38, .bool false, .slice A37 r34.1.L.length c38, .int .i64 ((rd r34.1.L 1).No), .bool false, .slice A37 r34.1.L.length c38, .slice A519 (((rd r34.1.L 1).Hooks).length) c520, .float .f64 b530, .bool false, .slice A37 r34.1.L.length c38, .slice A541 ((((rd r34.1.L 2).Val).Data).length) c542, .bool false, .slice A37 r34.1.L.length c38, .int .i64 ((rd r34.1.L 4).No), .bool false, .agg #[.slice A37 r34.1.L.length c38]] [1, 68, 69] [(1, .string (bs ([112, 97, 114, 97, 109, 10, 108, 101, 97, 102, 32, 110, 58, 51, 32, 104, 58, 49, 44, 52, 48, 48, 48, 48, 48, 48, 48, 48, 48, 48, 48, 48, 48, 48, 48, 10, 99, 111, 110, 115, 116, 32, 115, 58, 50, 32, 118, 58, 51, 102, 102, 48, 48, 48, 48, 48, 48, 48, 48, 48, 48, 48, 48, 48, 32, 118, 58, 55, 102, 102, 56, 48, 48, 48, 48, 48, 48, 48, 48, 48, 48, 48, 49, 10, 98, 114, 111, 97, 100, 99, 97, 115, 116, 32, 105, 58, 48, 32, 116, 58, 50, 32, 116, 58, 50, 10, 99, 97, 108, 108, 32, 105, 58, 51, 32, 110, 58, 49, 10] : List UInt8))), (68, .bool false), (69, .agg #[.slice A37 r34.1.L.length c38])] [.is (((r34.2 : Int) != 0) = false), .cell ⟨b47, 0, none⟩ (.slice A37 r34.1.L.length c38), .is ((((r34.1.L.length : Int) : Int) != 5) = false), .cell ⟨b47, 0, none⟩ (.slice A37 r34.1.L.length c38), .is (Option.isSome A37 = true), .is ((0 : Int) ≤ 1 ∧ 1 < (r34.1.L.length : Int)), .cell (((ad A37).add ((1 : Int).toNat * 7)).add 3) (.int .i64 ((rd r34.1.L 1).No)), .is ((((rd r34.1.L 1).No : Int) != 3) = false), .cell ⟨b47, 0, none⟩ (.slice A37 r34.1.L.length c38), .is (Option.isSome A37 = true), .is ((0 : Int) ≤ 1 ∧ 1 < (r34.1.L.length : Int)), .cell (((ad A37).add ((1 : Int).toNat * 7)).add 6) (.slice A519 (((rd r34.1.L 1).Hooks).length) c520), .is (Option.isSome A519 = true), .is ((0 : Int) ≤ 0 ∧ 0 < ((((rd r34.1.L 1).Hooks).length : Nat) : Int)), .cell (((ad A519).add ((0 : Int).toNat * 2)).add 1) (.float .f64 b530), .is ((FloatKind.f64.format.order b530 4611686018427387904 != some .eq) = false), .cell ⟨b47, 0, none⟩ (.slice A37 r34.1.L.length c38), .is (Option.isSome A37 = true), .is ((0 : Int) ≤ 2 ∧ 2 < (r34.1.L.length : Int)), .cell (((ad A37).add ((2 : Int).toNat * 7)).add 5) (.slice A541 ((((rd r34.1.L 2).Val).Data).length) c542), .is ((((((((rd r34.1.L 2).Val).Data).length : Nat) : Int) : Int) != 2) = false), .cell ⟨b47, 0, none⟩ (.slice A37 r34.1.L.length c38), .is (Option.isSome A37 = true), .is ((0 : Int) ≤ 4 ∧ 4 < (r34.1.L.length : Int)), .cell (((ad A37).add ((4 : Int).toNat * 7)).add 3) (.int .i64 ((rd r34.1.L 4).No)), .is ((((rd r34.1.L 4).No : Int) != 1) = false), .cell ⟨b47, 0, none⟩ (.slice A37 r34.1.L.length c38)] hf59 (by kernel_rfl) ⟨(neF c60), (hm57.cell 0 rfl rfl), (neF c61), (hm57.cell 0 rfl rfl), q488.1, g62, (hc491 3 _ rfl), (neF c63), (hm506.cell 5 rfl rfl), q507.1, g62, (hc510 6 _ rfl), q526.1, g65, (hc529 1 _ rfl), (ftNe hb530 (FR.lit (by kernel_rfl) (by kernel_rfl)) c66), (hm525.cell 10 rfl rfl), q531.1, g117, (hc534 5 _ rfl), (neF c118), (hm549.cell 15 rfl rfl), q550.1, g119, (hc553 3 _ rfl), (neF c120), (hm568.cell 20 rfl rfl), trivial⟩ fun a569 hf570 => ?_
    refine listOf hf570 rfl (by kernel_rfl) (aCall (fid := 11) (args := [.agg #[.slice A37 r34.1.L.length c38]]) (d := 70) hf570 (by kernel_rfl) (by kernel_rfl) callable11 (script_Text.calls _ _ r34.1 A37 r34.1.L.length c38 rfl (hm568.give [21] [.sl kNode A37 c38 r34.1.L] rfl rfl) r121 hr121 (hG.at hm568)) ?_)
    rintro _ w571 a572 ⟨rfl, hk574⟩ hf573
    have hm575 := hm568.still hk574.cum.none
    refine go 3 [.bool true] [73] [(73, .bool true)] [.is ((!decide (bs r121 = bs ([112, 97, 114, 97, 109, 10, 108, 101, 97, 102, 32, 110, 58, 51, 32, 104, 58, 49, 44, 52, 48, 48, 48, 48, 48, 48, 48, 48, 48, 48, 48, 48, 48, 48, 48, 10, 99, 111, 110, 115, 116, 32, 115, 58, 50, 32, 118, 58, 51, 102, 102, 48, 48, 48, 48, 48, 48, 48, 48, 48, 48, 48, 48, 48, 32, 118, 58, 55, 102, 102, 56, 48, 48, 48, 48, 48, 48, 48, 48, 48, 48, 48, 49, 10, 98, 114, 111, 97, 100, 99, 97, 115, 116, 32, 105, 58, 48, 32, 116, 58, 50, 32, 116, 58, 50, 10, 99, 97, 108, 108, 32, 105, 58, 51, 32, 110, 58, 49, 10] : List UInt8))) = true)] hf573 (by kernel_rfl) ⟨(snT c122), trivial⟩ fun a576 hf577 => ?_
    refine endL rfl ?_
    have hm578 := hm575.sel [] _ rfl (by kernel_rfl)
    refine thenN ?_
    refine condT hf577 (by kernel_rfl) ?_
    refine wp_seq ?_
    refine reg [] [0] [(0, .bool false)] [] hf577 (by kernel_rfl) trivial fun a579 hf580 => ?_
    refine thenN ?_
    refine wp_ret ?_
    refine thenR ?_
    have hm581 : Mem [] M w0 [] w571 := hm578.sel [] _ rfl (by kernel_rfl)
    obtain rfl := Option.some.inj H0
    refine ret [] [.bool false] [] hf580 (by kernel_rfl) trivial ?_
    exact ⟨_, rfl, rfl, hm581⟩
  have q123 := (hm57.slAt 1 rfl).get 1 g62.1 g62.2
  obtain ⟨us124, hr125, hc126⟩ := q123.2
  obtain ⟨A127, c128, A129, c130, A131, c132, A133, c134, A135, c136, rfl, ⟨pA127, sA127⟩, ⟨pA129, sA129⟩, ⟨pA131, sA131⟩, ⟨pA133, sA133⟩, ⟨pA135, sA135⟩⟩ := kNode.open hr125
  have hm137 := hm57.elem pA127 sA127
  have hm138 := hm137.elem pA129 sA129
  have hm139 := hm138.elem pA131 sA131
  have hm140 := hm139.elem pA133 sA133
  have hm141 := hm140.elem pA135 sA135
  have q142 := (hm141.slAt 6 rfl).get 1 g62.1 g62.2
  obtain ⟨us143, hr144, hc145⟩ := q142.2
  obtain ⟨A146, c147, A148, c149, A150, c151, A152, c153, A154, c155, rfl, ⟨pA146, sA146⟩, ⟨pA148, sA148⟩, ⟨pA150, sA150⟩, ⟨pA152, sA152⟩, ⟨pA154, sA154⟩⟩ := kNode.open hr144
  have hm156 := hm141.elem pA146 sA146
  have hm157 := hm156.elem pA148 sA148
  have hm158 := hm157.elem pA150 sA150
  have hm159 := hm158.elem pA152 sA152
  have hm160 := hm159.elem pA154 sA154
  have q161 := (hm160.slAt 0 rfl).get 0 g65.1 g65.2
  obtain ⟨us162, hr163, hc164⟩ := q161.2
  obtain ⟨b165, rfl, hb165⟩ := kHook.open hr163
  have q166 := (hm160.slAt 11 rfl).get 2 g117.1 g117.2
  obtain ⟨us167, hr168, hc169⟩ := q166.2
  obtain ⟨A170, c171, A172, c173, A174, c175, A176, c177, A178, c179, rfl, ⟨pA170, sA170⟩, ⟨pA172, sA172⟩, ⟨pA174, sA174⟩, ⟨pA176, sA176⟩, ⟨pA178, sA178⟩⟩ := kNode.open hr168
  have hm180 := hm160.elem pA170 sA170
  have hm181 := hm180.elem pA172 sA172
  have hm182 := hm181.elem pA174 sA174
  have hm183 := hm182.elem pA176 sA176
  have hm184 := hm183.elem pA178 sA178
  have q185 := (hm184.slAt 16 rfl).get 4 g119.1 g119.2
  obtain ⟨us186, hr187, hc188⟩ := q185.2
  obtain ⟨A189, c190, A191, c192, A193, c194, A195, c196, A197, c198, rfl, ⟨pA189, sA189⟩, ⟨pA191, sA191⟩, ⟨pA193, sA193⟩, ⟨pA195, sA195⟩, ⟨pA197, sA197⟩⟩ := kNode.open hr187
  have hm199 := hm184.elem pA189 sA189
  have hm200 := hm199.elem pA191 sA191
  have hm201 := hm200.elem pA193 sA193
  have hm202 := hm201.elem pA195 sA195
  have hm203 := hm202.elem pA197 sA197
  refine inReg ?_
  refine go 47 [.bool false, .slice A37 r34.1.L.length c38, .bool false, .slice A37 r34.1.L.length c38, .int .i64 ((rd r34.1.L 1).No), .bool false, .slice A37 r34.1.L.length c38, .slice A154 (((rd r34.1.L 1).Hooks).length) c155, .float .f64 b165, .bool false, .slice A37 r34.1.L.length c38, .slice A176 ((((rd r34.1.L 2).Val).Data).length) c177, .bool false, .slice A37 r34.1.L.length c38, .int .i64 ((rd r34.1.L 4).No), .bool false, .agg #[.slice A37 r34.1.L.length c38]] [1, 68, 69] [(1, .string (bs ([112, 97, 114, 97, 109, 10, 108, 101, 97, 102, 32, 110, 58, 51, 32, 104, 58, 49, 44, 52, 48, 48, 48, 48, 48, 48, 48, 48, 48, 48, 48, 48, 48, 48, 48, 10, 99, 111, 110, 115, 116, 32, 115, 58, 50, 32, 118, 58, 51, 102, 102, 48, 48, 48, 48, 48, 48, 48, 48, 48, 48, 48, 48, 48, 32, 118, 58, 55, 102, 102, 56, 48, 48, 48, 48, 48, 48, 48, 48, 48, 48, 48, 49, 10, 98, 114, 111, 97, 100, 99, 97, 115, 116, 32, 105, 58, 48, 32, 116, 58, 50, 32, 116, 58, 50, 10, 99, 97, 108, 108, 32, 105, 58, 51, 32, 110, 58, 49, 10] : List UInt8))), (68, .bool false), (69, .agg #[.slice A37 r34.1.L.length c38])] [.is (((r34.2 : Int) != 0) = false), .cell ⟨b47, 0, none⟩ (.slice A37 r34.1.L.length c38), .is ((((r34.1.L.length : Int) : Int) != 5) = false), .cell ⟨b47, 0, none⟩ (.slice A37 r34.1.L.length c38), .is (Option.isSome A37 = true), .is ((0 : Int) ≤ 1 ∧ 1 < (r34.1.L.length : Int)), .cell (((ad A37).add ((1 : Int).toNat * 7)).add 3) (.int .i64 ((rd r34.1.L 1).No)), .is ((((rd r34.1.L 1).No : Int) != 3) = false), .cell ⟨b47, 0, none⟩ (.slice A37 r34.1.L.length c38), .is (Option.isSome A37 = true), .is ((0 : Int) ≤ 1 ∧ 1 < (r34.1.L.length : Int)), .cell (((ad A37).add ((1 : Int).toNat * 7)).add 6) (.slice A154 (((rd r34.1.L 1).Hooks).length) c155), .is (Option.isSome A154 = true), .is ((0 : Int) ≤ 0 ∧ 0 < ((((rd r34.1.L 1).Hooks).length : Nat) : Int)), .cell (((ad A154).add ((0 : Int).toNat * 2)).add 1) (.float .f64 b165), .is ((FloatKind.f64.format.order b165 4611686018427387904 != some .eq) = false), .cell ⟨b47, 0, none⟩ (.slice A37 r34.1.L.length c38), .is (Option.isSome A37 = true), .is ((0 : Int) ≤ 2 ∧ 2 < (r34.1.L.length : Int)), .cell (((ad A37).add ((2 : Int).toNat * 7)).add 5) (.slice A176 ((((rd r34.1.L 2).Val).Data).length) c177), .is ((((((((rd r34.1.L 2).Val).Data).length : Nat) : Int) : Int) != 2) = false), .cell ⟨b47, 0, none⟩ (.slice A37 r34.1.L.length c38), .is (Option.isSome A37 = true), .is ((0 : Int) ≤ 4 ∧ 4 < (r34.1.L.length : Int)), .cell (((ad A37).add ((4 : Int).toNat * 7)).add 3) (.int .i64 ((rd r34.1.L 4).No)), .is ((((rd r34.1.L 4).No : Int) != 1) = false), .cell ⟨b47, 0, none⟩ (.slice A37 r34.1.L.length c38)] hf59 (by kernel_rfl) ⟨(neF c60), (hm57.cell 0 rfl rfl), (neF c61), (hm57.cell 0 rfl rfl), q123.1, g62, (hc126 3 _ rfl), (neF c63), (hm141.cell 5 rfl rfl), q142.1, g62, (hc145 6 _ rfl), q161.1, g65, (hc164 1 _ rfl), (ftNe hb165 (FR.lit (by kernel_rfl) (by kernel_rfl)) c66), (hm160.cell 10 rfl rfl), q166.1, g117, (hc169 5 _ rfl), (neF c118), (hm184.cell 15 rfl rfl), q185.1, g119, (hc188 3 _ rfl), (neF c120), (hm203.cell 20 rfl rfl), trivial⟩ fun a204 hf205 => ?_
  refine listOf hf205 rfl (by kernel_rfl) (aCall (fid := 11) (args := [.agg #[.slice A37 r34.1.L.length c38]]) (d := 70) hf205 (by kernel_rfl) (by kernel_rfl) callable11 (script_Text.calls _ _ r34.1 A37 r34.1.L.length c38 rfl (hm203.give [21] [.sl kNode A37 c38 r34.1.L] rfl rfl) r121 hr121 (hG.at hm203)) ?_)
  rintro _ w206 a207 ⟨rfl, hk209⟩ hf208
  have hm210 := hm203.still hk209.cum.none
  refine go 3 [.bool false] [73] [(73, .bool false)] [.is ((!decide (bs r121 = bs ([112, 97, 114, 97, 109, 10, 108, 101, 97, 102, 32, 110, 58, 51, 32, 104, 58, 49, 44, 52, 48, 48, 48, 48, 48, 48, 48, 48, 48, 48, 48, 48, 48, 48, 48, 10, 99, 111, 110, 115, 116, 32, 115, 58, 50, 32, 118, 58, 51, 102, 102, 48, 48, 48, 48, 48, 48, 48, 48, 48, 48, 48, 48, 48, 32, 118, 58, 55, 102, 102, 56, 48, 48, 48, 48, 48, 48, 48, 48, 48, 48, 48, 49, 10, 98, 114, 111, 97, 100, 99, 97, 115, 116, 32, 105, 58, 48, 32, 116, 58, 50, 32, 116, 58, 50, 10, 99, 97, 108, 108, 32, 105, 58, 51, 32, 110, 58, 49, 10] : List UInt8))) = false)] hf208 (by kernel_rfl) ⟨(snF c122), trivial⟩ fun a211 hf212 => ?_
  refine endL rfl ?_
  have hm213 := hm210.sel [] _ rfl (by kernel_rfl)
  refine thenN ?_
  refine condF hf212 (by kernel_rfl) ?_
  refine wp_skip ?_
  refine thenN ?_
  refine wp_seq ?_
  refine inReg ?_
  refine listOf hf212 rfl (by kernel_rfl) (aLit (cs := [.string (bs ([97, 100, 100] : List UInt8)), .string (bs ([102, 111, 111, 10] : List UInt8)), .string (bs ([97, 100, 100, 32, 105, 58, 10] : List UInt8)), .string (bs ([97, 100, 100, 32, 105, 58, 48, 49, 10] : List UInt8)), .string (bs ([97, 100, 100, 32, 105, 58, 49, 50, 51, 52, 53, 54, 55, 56, 57, 48, 10] : List UInt8)), .string (bs ([97, 100, 100, 32, 32, 105, 58, 48, 10] : List UInt8)), .string (bs ([97, 100, 100, 32, 105, 58, 48, 32, 10] : List UInt8)), .string (bs ([97, 100, 100, 32, 116, 58, 49, 32, 105, 58, 48, 10] : List UInt8)), .string (bs ([108, 101, 97, 102, 32, 110, 58, 48, 10] : List UInt8)), .string (bs ([108, 101, 97, 102, 32, 118, 58, 51, 102, 102, 10] : List UInt8)), .string (bs ([108, 101, 97, 102, 32, 118, 58, 55, 102, 102, 56, 48, 48, 48, 48, 48, 48, 48, 48, 48, 48, 48, 48, 10] : List UInt8)), .string (bs ([108, 101, 97, 102, 32, 104, 58, 49, 10] : List UInt8)), .string (bs ([108, 101, 97, 102, 32, 104, 58, 44, 51, 102, 102, 48, 48, 48, 48, 48, 48, 48, 48, 48, 48, 48, 48, 48, 10] : List UInt8)), .string (bs ([10] : List UInt8)), .string (bs ([108, 101, 97, 102, 32, 110, 58, 49, 32, 110, 58, 50, 10] : List UInt8)), .string (bs ([76, 101, 97, 102, 10] : List UInt8)), .string (bs ([108, 101, 97, 102, 32, 113, 58, 49, 10] : List UInt8))]) (E := 9) (len := 17) (d := 74) hf212 (by kernel_rfl) (by kernel_rfl) ?_)
  intro b214 w215 a216 hbb214 hx218 hg219 hf217
  have hm213s := hm213.still hg219
  have hm220 := Mem.lit (kd := Kd.str) (xs := ([([97, 100, 100] : List UInt8), ([102, 111, 111, 10] : List UInt8), ([97, 100, 100, 32, 105, 58, 10] : List UInt8), ([97, 100, 100, 32, 105, 58, 48, 49, 10] : List UInt8), ([97, 100, 100, 32, 105, 58, 49, 50, 51, 52, 53, 54, 55, 56, 57, 48, 10] : List UInt8), ([97, 100, 100, 32, 32, 105, 58, 48, 10] : List UInt8), ([97, 100, 100, 32, 105, 58, 48, 32, 10] : List UInt8), ([97, 100, 100, 32, 116, 58, 49, 32, 105, 58, 48, 10] : List UInt8), ([108, 101, 97, 102, 32, 110, 58, 48, 10] : List UInt8), ([108, 101, 97, 102, 32, 118, 58, 51, 102, 102, 10] : List UInt8), ([108, 101, 97, 102, 32, 118, 58, 55, 102, 102, 56, 48, 48, 48, 48, 48, 48, 48, 48, 48, 48, 48, 48, 10] : List UInt8), ([108, 101, 97, 102, 32, 104, 58, 49, 10] : List UInt8), ([108, 101, 97, 102, 32, 104, 58, 44, 51, 102, 102, 48, 48, 48, 48, 48, 48, 48, 48, 48, 48, 48, 48, 48, 10] : List UInt8), ([10] : List UInt8), ([108, 101, 97, 102, 32, 110, 58, 49, 32, 110, 58, 50, 10] : List UInt8), ([76, 101, 97, 102, 10] : List UInt8), ([108, 101, 97, 102, 32, 113, 58, 49, 10] : List UInt8)] : List (List UInt8))) hm213 hbb214 hx218 hg219 (Els.append (Els.one (kd := Kd.str) (us := [.string (bs ([97, 100, 100] : List UInt8))]) (x := ([97, 100, 100] : List UInt8)) rfl) (Els.append (Els.one (kd := Kd.str) (us := [.string (bs ([102, 111, 111, 10] : List UInt8))]) (x := ([102, 111, 111, 10] : List UInt8)) rfl) (Els.append (Els.one (kd := Kd.str) (us := [.string (bs ([97, 100, 100, 32, 105, 58, 10] : List UInt8))]) (x := ([97, 100, 100, 32, 105, 58, 10] : List UInt8)) rfl) (Els.append (Els.one (kd := Kd.str) (us := [.string (bs ([97, 100, 100, 32, 105, 58, 48, 49, 10] : List UInt8))]) (x := ([97, 100, 100, 32, 105, 58, 48, 49, 10] : List UInt8)) rfl) (Els.append (Els.one (kd := Kd.str) (us := [.string (bs ([97, 100, 100, 32, 105, 58, 49, 50, 51, 52, 53, 54, 55, 56, 57, 48, 10] : List UInt8))]) (x := ([97, 100, 100, 32, 105, 58, 49, 50, 51, 52, 53, 54, 55, 56, 57, 48, 10] : List UInt8)) rfl) (Els.append (Els.one (kd := Kd.str) (us := [.string (bs ([97, 100, 100, 32, 32, 105, 58, 48, 10] : List UInt8))]) (x := ([97, 100, 100, 32, 32, 105, 58, 48, 10] : List UInt8)) rfl) (Els.append (Els.one (kd := Kd.str) (us := [.string (bs ([97, 100, 100, 32, 105, 58, 48, 32, 10] : List UInt8))]) (x := ([97, 100, 100, 32, 105, 58, 48, 32, 10] : List UInt8)) rfl) (Els.append (Els.one (kd := Kd.str) (us := [.string (bs ([97, 100, 100, 32, 116, 58, 49, 32, 105, 58, 48, 10] : List UInt8))]) (x := ([97, 100, 100, 32, 116, 58, 49, 32, 105, 58, 48, 10] : List UInt8)) rfl) (Els.append (Els.one (kd := Kd.str) (us := [.string (bs ([108, 101, 97, 102, 32, 110, 58, 48, 10] : List UInt8))]) (x := ([108, 101, 97, 102, 32, 110, 58, 48, 10] : List UInt8)) rfl) (Els.append (Els.one (kd := Kd.str) (us := [.string (bs ([108, 101, 97, 102, 32, 118, 58, 51, 102, 102, 10] : List UInt8))]) (x := ([108, 101, 97, 102, 32, 118, 58, 51, 102, 102, 10] : List UInt8)) rfl) (Els.append (Els.one (kd := Kd.str) (us := [.string (bs ([108, 101, 97, 102, 32, 118, 58, 55, 102, 102, 56, 48, 48, 48, 48, 48, 48, 48, 48, 48, 48, 48, 48, 10] : List UInt8))]) (x := ([108, 101, 97, 102, 32, 118, 58, 55, 102, 102, 56, 48, 48, 48, 48, 48, 48, 48, 48, 48, 48, 48, 48, 10] : List UInt8)) rfl) (Els.append (Els.one (kd := Kd.str) (us := [.string (bs ([108, 101, 97, 102, 32, 104, 58, 49, 10] : List UInt8))]) (x := ([108, 101, 97, 102, 32, 104, 58, 49, 10] : List UInt8)) rfl) (Els.append (Els.one (kd := Kd.str) (us := [.string (bs ([108, 101, 97, 102, 32, 104, 58, 44, 51, 102, 102, 48, 48, 48, 48, 48, 48, 48, 48, 48, 48, 48, 48, 48, 10] : List UInt8))]) (x := ([108, 101, 97, 102, 32, 104, 58, 44, 51, 102, 102, 48, 48, 48, 48, 48, 48, 48, 48, 48, 48, 48, 48, 48, 10] : List UInt8)) rfl) (Els.append (Els.one (kd := Kd.str) (us := [.string (bs ([10] : List UInt8))]) (x := ([10] : List UInt8)) rfl) (Els.append (Els.one (kd := Kd.str) (us := [.string (bs ([108, 101, 97, 102, 32, 110, 58, 49, 32, 110, 58, 50, 10] : List UInt8))]) (x := ([108, 101, 97, 102, 32, 110, 58, 49, 32, 110, 58, 50, 10] : List UInt8)) rfl) (Els.append (Els.one (kd := Kd.str) (us := [.string (bs ([76, 101, 97, 102, 10] : List UInt8))]) (x := ([76, 101, 97, 102, 10] : List UInt8)) rfl) (Els.one (kd := Kd.str) (us := [.string (bs ([108, 101, 97, 102, 32, 113, 58, 49, 10] : List UInt8))]) (x := ([108, 101, 97, 102, 32, 113, 58, 49, 10] : List UInt8)) rfl)))))))))))))))))
  refine go 1 [] [4] [(4, .slice (some ⟨b214, 0, none⟩) 17 17)] [] hf217 (by kernel_rfl) trivial fun a221 hf222 => ?_
  refine endL rfl ?_
  refine thenN ?_
  refine wp_seq ?_
  refine wp_seq ?_
  refine reg [] [4, 5] [(4, .slice (some ⟨b214, 0, none⟩) 17 17), (5, .int .i64 0)] [] hf222 (by kernel_rfl) trivial fun a223 hf224 => ?_
  refine thenN ?_
  obtain ⟨r226, hr226, H0⟩ := ob_split H0
  refine wpBlock (Mid := fun (a : Act) (w : World) => ∃ yr226 : Int, r226 = .go yr226 ∧ Fr 145 a [(4, .slice (some ⟨b214, 0, none⟩) 17 17), (5, .int .i64 yr226)] ∧ Mem [] M w0 [.sl Kd.str (some ⟨b214, 0, none⟩) 17 ([([97, 100, 100] : List UInt8), ([102, 111, 111, 10] : List UInt8), ([97, 100, 100, 32, 105, 58, 10] : List UInt8), ([97, 100, 100, 32, 105, 58, 48, 49, 10] : List UInt8), ([97, 100, 100, 32, 105, 58, 49, 50, 51, 52, 53, 54, 55, 56, 57, 48, 10] : List UInt8), ([97, 100, 100, 32, 32, 105, 58, 48, 10] : List UInt8), ([97, 100, 100, 32, 105, 58, 48, 32, 10] : List UInt8), ([97, 100, 100, 32, 116, 58, 49, 32, 105, 58, 48, 10] : List UInt8), ([108, 101, 97, 102, 32, 110, 58, 48, 10] : List UInt8), ([108, 101, 97, 102, 32, 118, 58, 51, 102, 102, 10] : List UInt8), ([108, 101, 97, 102, 32, 118, 58, 55, 102, 102, 56, 48, 48, 48, 48, 48, 48, 48, 48, 48, 48, 48, 48, 10] : List UInt8), ([108, 101, 97, 102, 32, 104, 58, 49, 10] : List UInt8), ([108, 101, 97, 102, 32, 104, 58, 44, 51, 102, 102, 48, 48, 48, 48, 48, 48, 48, 48, 48, 48, 48, 48, 48, 10] : List UInt8), ([10] : List UInt8), ([108, 101, 97, 102, 32, 110, 58, 49, 32, 110, 58, 50, 10] : List UInt8), ([76, 101, 97, 102, 10] : List UInt8), ([108, 101, 97, 102, 32, 113, 58, 49, 10] : List UInt8)] : List (List UInt8))] w) ?_ ?_
  · refine wpLoop (law24_ScriptKnown.l0) r226 (fun (s225 : Int) (a : Act) (w : World) => Fr 145 a [(4, .slice (some ⟨b214, 0, none⟩) 17 17), (5, .int .i64 s225)] ∧ Mem [] M w0 [.sl Kd.str (some ⟨b214, 0, none⟩) 17 ([([97, 100, 100] : List UInt8), ([102, 111, 111, 10] : List UInt8), ([97, 100, 100, 32, 105, 58, 10] : List UInt8), ([97, 100, 100, 32, 105, 58, 48, 49, 10] : List UInt8), ([97, 100, 100, 32, 105, 58, 49, 50, 51, 52, 53, 54, 55, 56, 57, 48, 10] : List UInt8), ([97, 100, 100, 32, 32, 105, 58, 48, 10] : List UInt8), ([97, 100, 100, 32, 105, 58, 48, 32, 10] : List UInt8), ([97, 100, 100, 32, 116, 58, 49, 32, 105, 58, 48, 10] : List UInt8), ([108, 101, 97, 102, 32, 110, 58, 48, 10] : List UInt8), ([108, 101, 97, 102, 32, 118, 58, 51, 102, 102, 10] : List UInt8), ([108, 101, 97, 102, 32, 118, 58, 55, 102, 102, 56, 48, 48, 48, 48, 48, 48, 48, 48, 48, 48, 48, 48, 10] : List UInt8), ([108, 101, 97, 102, 32, 104, 58, 49, 10] : List UInt8), ([108, 101, 97, 102, 32, 104, 58, 44, 51, 102, 102, 48, 48, 48, 48, 48, 48, 48, 48, 48, 48, 48, 48, 48, 10] : List UInt8), ([10] : List UInt8), ([108, 101, 97, 102, 32, 110, 58, 49, 32, 110, 58, 50, 10] : List UInt8), ([76, 101, 97, 102, 10] : List UInt8), ([108, 101, 97, 102, 32, 113, 58, 49, 10] : List UInt8)] : List (List UInt8))] w) 0 hr226 ⟨hf224.sel (l := [4, 5]) (by kernel_rfl), hm220.sel [0] _ rfl (by kernel_rfl)⟩ ?_
    rintro g227 s225 a228 w229 H1 ⟨hf230, hm231⟩
    unfold law24_ScriptKnown.l0 at H1
    refine wp_seq ?_
    refine wp_seq ?_
    rcases ifS_split H1 with ⟨c232, H1⟩ | ⟨c232, H1⟩
    rotate_left
    · refine reg [.bool false] [4, 5, 78] [(4, .slice (some ⟨b214, 0, none⟩) 17 17), (5, .int .i64 s225), (78, .bool false)] [.is (decide (s225 < (17 : Int)) = false)] hf230 (by kernel_rfl) ⟨(decide_eq_false c232), trivial⟩ fun a276 hf277 => ?_
      refine thenN ?_
      refine condF hf277 (by kernel_rfl) ?_
      refine wp_exit ?_
      refine thenE ?_
      refine thenE ?_
      obtain rfl := Option.some.inj H1
      exact .inl ⟨rfl, s225, rfl, hf277.sel (l := [4, 5]) (by kernel_rfl), hm231.sel [0] _ rfl (by kernel_rfl)⟩
    refine reg [.bool true] [4, 5, 78] [(4, .slice (some ⟨b214, 0, none⟩) 17 17), (5, .int .i64 s225), (78, .bool true)] [.is (decide (s225 < (17 : Int)) = true)] hf230 (by kernel_rfl) ⟨(decide_eq_true c232), trivial⟩ fun a233 hf234 => ?_
    refine thenN ?_
    refine condT hf234 (by kernel_rfl) ?_
    refine wp_skip ?_
    refine thenN ?_
    refine wp_seq ?_
    refine wp_block ?_
    refine wp_seq ?_
    obtain ⟨g235, H1⟩ := ifS_guard H1
    obtain ⟨r236, hr236, H1⟩ := obS_split H1
    have q237 := (hm231.slAt 0 rfl).str s225 g235.1 g235.2
    refine inReg ?_
    refine go 4 [.string (bs (rd ([([97, 100, 100] : List UInt8), ([102, 111, 111, 10] : List UInt8), ([97, 100, 100, 32, 105, 58, 10] : List UInt8), ([97, 100, 100, 32, 105, 58, 48, 49, 10] : List UInt8), ([97, 100, 100, 32, 105, 58, 49, 50, 51, 52, 53, 54, 55, 56, 57, 48, 10] : List UInt8), ([97, 100, 100, 32, 32, 105, 58, 48, 10] : List UInt8), ([97, 100, 100, 32, 105, 58, 48, 32, 10] : List UInt8), ([97, 100, 100, 32, 116, 58, 49, 32, 105, 58, 48, 10] : List UInt8), ([108, 101, 97, 102, 32, 110, 58, 48, 10] : List UInt8), ([108, 101, 97, 102, 32, 118, 58, 51, 102, 102, 10] : List UInt8), ([108, 101, 97, 102, 32, 118, 58, 55, 102, 102, 56, 48, 48, 48, 48, 48, 48, 48, 48, 48, 48, 48, 48, 10] : List UInt8), ([108, 101, 97, 102, 32, 104, 58, 49, 10] : List UInt8), ([108, 101, 97, 102, 32, 104, 58, 44, 51, 102, 102, 48, 48, 48, 48, 48, 48, 48, 48, 48, 48, 48, 48, 48, 10] : List UInt8), ([10] : List UInt8), ([108, 101, 97, 102, 32, 110, 58, 49, 32, 110, 58, 50, 10] : List UInt8), ([76, 101, 97, 102, 10] : List UInt8), ([108, 101, 97, 102, 32, 113, 58, 49, 10] : List UInt8)] : List (List UInt8)) s225))] [4, 5, 85] [(4, .slice (some ⟨b214, 0, none⟩) 17 17), (5, .int .i64 s225), (85, .string (bs (rd ([([97, 100, 100] : List UInt8), ([102, 111, 111, 10] : List UInt8), ([97, 100, 100, 32, 105, 58, 10] : List UInt8), ([97, 100, 100, 32, 105, 58, 48, 49, 10] : List UInt8), ([97, 100, 100, 32, 105, 58, 49, 50, 51, 52, 53, 54, 55, 56, 57, 48, 10] : List UInt8), ([97, 100, 100, 32, 32, 105, 58, 48, 10] : List UInt8), ([97, 100, 100, 32, 105, 58, 48, 32, 10] : List UInt8), ([97, 100, 100, 32, 116, 58, 49, 32, 105, 58, 48, 10] : List UInt8), ([108, 101, 97, 102, 32, 110, 58, 48, 10] : List UInt8), ([108, 101, 97, 102, 32, 118, 58, 51, 102, 102, 10] : List UInt8), ([108, 101, 97, 102, 32, 118, 58, 55, 102, 102, 56, 48, 48, 48, 48, 48, 48, 48, 48, 48, 48, 48, 48, 10] : List UInt8), ([108, 101, 97, 102, 32, 104, 58, 49, 10] : List UInt8), ([108, 101, 97, 102, 32, 104, 58, 44, 51, 102, 102, 48, 48, 48, 48, 48, 48, 48, 48, 48, 48, 48, 48, 48, 10] : List UInt8), ([10] : List UInt8), ([108, 101, 97, 102, 32, 110, 58, 49, 32, 110, 58, 50, 10] : List UInt8), ([76, 101, 97, 102, 10] : List UInt8), ([108, 101, 97, 102, 32, 113, 58, 49, 10] : List UInt8)] : List (List UInt8)) s225)))] [.is (Option.isSome ((some ⟨b214, 0, none⟩) : Option Addr) = true), .is (0 ≤ s225 ∧ s225 < (17 : Int)), .cell ((ad ((some ⟨b214, 0, none⟩))).add ((s225).toNat * 1)) (.string (bs (rd ([([97, 100, 100] : List UInt8), ([102, 111, 111, 10] : List UInt8), ([97, 100, 100, 32, 105, 58, 10] : List UInt8), ([97, 100, 100, 32, 105, 58, 48, 49, 10] : List UInt8), ([97, 100, 100, 32, 105, 58, 49, 50, 51, 52, 53, 54, 55, 56, 57, 48, 10] : List UInt8), ([97, 100, 100, 32, 32, 105, 58, 48, 10] : List UInt8), ([97, 100, 100, 32, 105, 58, 48, 32, 10] : List UInt8), ([97, 100, 100, 32, 116, 58, 49, 32, 105, 58, 48, 10] : List UInt8), ([108, 101, 97, 102, 32, 110, 58, 48, 10] : List UInt8), ([108, 101, 97, 102, 32, 118, 58, 51, 102, 102, 10] : List UInt8), ([108, 101, 97, 102, 32, 118, 58, 55, 102, 102, 56, 48, 48, 48, 48, 48, 48, 48, 48, 48, 48, 48, 48, 10] : List UInt8), ([108, 101, 97, 102, 32, 104, 58, 49, 10] : List UInt8), ([108, 101, 97, 102, 32, 104, 58, 44, 51, 102, 102, 48, 48, 48, 48, 48, 48, 48, 48, 48, 48, 48, 48, 48, 10] : List UInt8), ([10] : List UInt8), ([108, 101, 97, 102, 32, 110, 58, 49, 32, 110, 58, 50, 10] : List UInt8), ([76, 101, 97, 102, 10] : List UInt8), ([108, 101, 97, 102, 32, 113, 58, 49, 10] : List UInt8)] : List (List UInt8)) s225)))] hf234 (by kernel_rfl) ⟨q237.1, g235, q237.2, trivial⟩ fun a238 hf239 => ?_
    refine listOf hf239 rfl (by kernel_rfl) (aCall (fid := 13) (args := [.string (bs (rd ([([97, 100, 100] : List UInt8), ([102, 111, 111, 10] : List UInt8), ([97, 100, 100, 32, 105, 58, 10] : List UInt8), ([97, 100, 100, 32, 105, 58, 48, 49, 10] : List UInt8), ([97, 100, 100, 32, 105, 58, 49, 50, 51, 52, 53, 54, 55, 56, 57, 48, 10] : List UInt8), ([97, 100, 100, 32, 32, 105, 58, 48, 10] : List UInt8), ([97, 100, 100, 32, 105, 58, 48, 32, 10] : List UInt8), ([97, 100, 100, 32, 116, 58, 49, 32, 105, 58, 48, 10] : List UInt8), ([108, 101, 97, 102, 32, 110, 58, 48, 10] : List UInt8), ([108, 101, 97, 102, 32, 118, 58, 51, 102, 102, 10] : List UInt8), ([108, 101, 97, 102, 32, 118, 58, 55, 102, 102, 56, 48, 48, 48, 48, 48, 48, 48, 48, 48, 48, 48, 48, 10] : List UInt8), ([108, 101, 97, 102, 32, 104, 58, 49, 10] : List UInt8), ([108, 101, 97, 102, 32, 104, 58, 44, 51, 102, 102, 48, 48, 48, 48, 48, 48, 48, 48, 48, 48, 48, 48, 48, 10] : List UInt8), ([10] : List UInt8), ([108, 101, 97, 102, 32, 110, 58, 49, 32, 110, 58, 50, 10] : List UInt8), ([76, 101, 97, 102, 10] : List UInt8), ([108, 101, 97, 102, 32, 113, 58, 49, 10] : List UInt8)] : List (List UInt8)) s225))]) (d := 86) hf239 (by kernel_rfl) (by kernel_rfl) callable13 (script_Read.calls _ _ (rd ([([97, 100, 100] : List UInt8), ([102, 111, 111, 10] : List UInt8), ([97, 100, 100, 32, 105, 58, 10] : List UInt8), ([97, 100, 100, 32, 105, 58, 48, 49, 10] : List UInt8), ([97, 100, 100, 32, 105, 58, 49, 50, 51, 52, 53, 54, 55, 56, 57, 48, 10] : List UInt8), ([97, 100, 100, 32, 32, 105, 58, 48, 10] : List UInt8), ([97, 100, 100, 32, 105, 58, 48, 32, 10] : List UInt8), ([97, 100, 100, 32, 116, 58, 49, 32, 105, 58, 48, 10] : List UInt8), ([108, 101, 97, 102, 32, 110, 58, 48, 10] : List UInt8), ([108, 101, 97, 102, 32, 118, 58, 51, 102, 102, 10] : List UInt8), ([108, 101, 97, 102, 32, 118, 58, 55, 102, 102, 56, 48, 48, 48, 48, 48, 48, 48, 48, 48, 48, 48, 48, 10] : List UInt8), ([108, 101, 97, 102, 32, 104, 58, 49, 10] : List UInt8), ([108, 101, 97, 102, 32, 104, 58, 44, 51, 102, 102, 48, 48, 48, 48, 48, 48, 48, 48, 48, 48, 48, 48, 48, 10] : List UInt8), ([10] : List UInt8), ([108, 101, 97, 102, 32, 110, 58, 49, 32, 110, 58, 50, 10] : List UInt8), ([76, 101, 97, 102, 10] : List UInt8), ([108, 101, 97, 102, 32, 113, 58, 49, 10] : List UInt8)] : List (List UInt8)) s225) (hm231.give [] [] rfl rfl) r236 hr236 (hG.at hm231)) ?_)
    rintro _ w242 a243 ⟨A240, c241, rfl, hk245⟩ hf244
    have hm246 := hm231.back hk245
    have hm247 := hm246.seal 0 _ rfl rfl
    refine go 3 [] [4, 5, 87, 88] [(4, .slice (some ⟨b214, 0, none⟩) 17 17), (5, .int .i64 s225), (87, .agg #[.slice A240 r236.1.L.length c241]), (88, .int .i64 r236.2)] [] hf244 (by kernel_rfl) trivial fun a248 hf249 => ?_
    refine listOf hf249 rfl (by kernel_rfl) (aNew (cs := [.slice none 0 0]) (T := 24) (d := 6) hf249 (by kernel_rfl) (by kernel_rfl) ?_)
    intro b250 w251 a252 hbb250 hx254 hg255 hf253
    have hm256 := hm247.box hbb250 hx254 hg255
    refine listOf hf253 rfl (by kernel_rfl) (aStoreB (b := b250) (j := 0) (T := 24) (cs := [.slice none 0 0]) (us := [.slice A240 r236.1.L.length c241]) (cs' := [.slice A240 r236.1.L.length c241]) hf253 (by kernel_rfl) (hm256.bxAt 0 rfl) (by kernel_rfl) (by kernel_rfl) (by kernel_rfl) ?_)
    intro w257 hx258 hg259
    have hm260 := hm256.setBox 0 _ rfl rfl hx258 hg259
    refine go 1 [] [4, 5, 7] [(4, .slice (some ⟨b214, 0, none⟩) 17 17), (5, .int .i64 s225), (7, .int .i64 r236.2)] [] hf253 (by kernel_rfl) trivial fun a261 hf262 => ?_
    refine endL rfl ?_
    have hm263 := hm260.sel [2] _ rfl (by kernel_rfl)
    refine thenN ?_
    refine wp_seq ?_
    rcases ifS_split H1 with ⟨c264, H1⟩ | ⟨c264, H1⟩
    · refine reg [.bool false] [4, 5, 90] [(4, .slice (some ⟨b214, 0, none⟩) 17 17), (5, .int .i64 s225), (90, .bool false)] [.is (((r236.2 : Int) != 14) = false)] hf262 (by kernel_rfl) ⟨(neF c264), trivial⟩ fun a265 hf266 => ?_
      refine thenN ?_
      refine condF hf266 (by kernel_rfl) ?_
      refine wp_skip ?_
      refine blkN ?_
      refine thenN ?_
      refine reg [] [4, 5] [(4, .slice (some ⟨b214, 0, none⟩) 17 17), (5, .int .i64 (w64 (s225 + 1)))] [] hf266 (by kernel_rfl) trivial fun a267 hf268 => ?_
      exact ⟨(w64 (s225 + 1)), H1, hf268.sel (l := [4, 5]) (by kernel_rfl), hm263.sel [0] _ rfl (by kernel_rfl)⟩
    refine reg [.bool true] [4, 5, 90] [(4, .slice (some ⟨b214, 0, none⟩) 17 17), (5, .int .i64 s225), (90, .bool true)] [.is (((r236.2 : Int) != 14) = true)] hf262 (by kernel_rfl) ⟨(neT c264), trivial⟩ fun a269 hf270 => ?_
    refine thenN ?_
    refine condT hf270 (by kernel_rfl) ?_
    refine wp_seq ?_
    refine reg [] [0] [(0, .bool false)] [] hf270 (by kernel_rfl) trivial fun a271 hf272 => ?_
    have hm273 := hm263.sel [] _ rfl (by kernel_rfl)
    refine thenN ?_
    refine wp_ret ?_
    refine blkR ?_
    refine thenR ?_
    refine thenR ?_
    refine .inr ⟨rfl, ?_⟩
    refine thenR ?_
    have hm274 : Mem [] M w0 [] w257 := hm273.sel [] _ rfl (by kernel_rfl)
    obtain rfl := Option.some.inj H1
    obtain rfl := Option.some.inj H0
    refine ret [] [.bool false] [] hf272 (by kernel_rfl) trivial ?_
    exact ⟨_, rfl, rfl, hm274⟩
  rintro a278 w279 ⟨yr226, rfl, hf280, hm281⟩
  refine thenN ?_
  refine wp_seq ?_
  refine reg [] [8] [(8, .string (bs ([] : List UInt8)))] [] hf280 (by kernel_rfl) trivial fun a282 hf283 => ?_
  have hm284 := hm281.sel [] _ rfl (by kernel_rfl)
  refine thenN ?_
  refine wp_seq ?_
  refine wp_seq ?_
  refine reg [] [8, 9] [(8, .string (bs ([] : List UInt8))), (9, .int .i64 0)] [] hf283 (by kernel_rfl) trivial fun a285 hf286 => ?_
  refine thenN ?_
  obtain ⟨r288, hr288, H0⟩ := ob_split H0
  refine wpBlock (Mid := fun (a : Act) (w : World) => Fr 145 a [(8, .string (bs r288.1)), (9, .int .i64 r288.2)] ∧ Mem [] M w0 [] w) ?_ ?_
  · refine wpLoop (law24_ScriptKnown.l1) r288 (fun (s287 : ((List UInt8) × Int)) (a : Act) (w : World) => Fr 145 a [(8, .string (bs s287.1)), (9, .int .i64 s287.2)] ∧ Mem [] M w0 [] w) (([] : List UInt8), 0) hr288 ⟨hf286.sel (l := [8, 9]) (by kernel_rfl), hm284.sel [] _ rfl (by kernel_rfl)⟩ ?_
    rintro g289 s287 a290 w291 H1 ⟨hf292, hm293⟩
    unfold law24_ScriptKnown.l1 at H1
    refine wp_seq ?_
    refine wp_seq ?_
    rcases ifS_split H1 with ⟨c294, H1⟩ | ⟨c294, H1⟩
    rotate_left
    · refine reg [.bool false] [8, 9, 92] [(8, .string (bs s287.1)), (9, .int .i64 s287.2), (92, .bool false)] [.is (decide (s287.2 ≤ 256) = false)] hf292 (by kernel_rfl) ⟨(decide_eq_false c294), trivial⟩ fun a302 hf303 => ?_
      refine thenN ?_
      refine condF hf303 (by kernel_rfl) ?_
      refine wp_exit ?_
      refine thenE ?_
      refine thenE ?_
      obtain rfl := Option.some.inj H1
      exact .inl ⟨rfl, hf303.sel (l := [8, 9]) (by kernel_rfl), hm293.sel [] _ rfl (by kernel_rfl)⟩
    refine reg [.bool true] [8, 9, 92] [(8, .string (bs s287.1)), (9, .int .i64 s287.2), (92, .bool true)] [.is (decide (s287.2 ≤ 256) = true)] hf292 (by kernel_rfl) ⟨(decide_eq_true c294), trivial⟩ fun a295 hf296 => ?_
    refine thenN ?_
    refine condT hf296 (by kernel_rfl) ?_
    refine wp_skip ?_
    refine thenN ?_
    refine wp_seq ?_
    refine wp_block ?_
    obtain ⟨g297, H1⟩ := ifS_guard H1
    refine reg [.string (bs (s287.1 ++ ([108, 101, 97, 102, 10] : List UInt8)))] [8, 9] [(8, .string (bs (s287.1 ++ ([108, 101, 97, 102, 10] : List UInt8)))), (9, .int .i64 s287.2)] [.is (bs (s287.1 ++ ([108, 101, 97, 102, 10] : List UInt8)) = bs s287.1 ++ bs ([108, 101, 97, 102, 10] : List UInt8) ∧ (bs s287.1).size + (bs ([108, 101, 97, 102, 10] : List UInt8)).size ≤ 9223372036854775807)] hf296 (by kernel_rfl) ⟨(catOk g297), trivial⟩ fun a298 hf299 => ?_
    refine blkN ?_
    refine thenN ?_
    refine reg [] [8, 9] [(8, .string (bs (s287.1 ++ ([108, 101, 97, 102, 10] : List UInt8)))), (9, .int .i64 (w64 (s287.2 + 1)))] [] hf299 (by kernel_rfl) trivial fun a300 hf301 => ?_
    exact ⟨((s287.1 ++ ([108, 101, 97, 102, 10] : List UInt8)), (w64 (s287.2 + 1))), H1, hf301.sel (l := [8, 9]) (by kernel_rfl), hm293.sel [] _ rfl (by kernel_rfl)⟩
  rintro a304 w305 ⟨hf306, hm307⟩
  refine thenN ?_
  refine wp_seq ?_
  obtain ⟨r308, hr308, H0⟩ := ob_split H0
  refine inReg ?_
  refine go 1 [] [8, 98] [(8, .string (bs r288.1)), (98, .string (bs r288.1))] [] hf306 (by kernel_rfl) trivial fun a309 hf310 => ?_
  refine listOf hf310 rfl (by kernel_rfl) (aCall (fid := 13) (args := [.string (bs r288.1)]) (d := 99) hf310 (by kernel_rfl) (by kernel_rfl) callable13 (script_Read.calls _ _ r288.1 (hm307.give [] [] rfl rfl) r308 hr308 (hG.at hm307)) ?_)
  rintro _ w313 a314 ⟨A311, c312, rfl, hk316⟩ hf315
  have hm317 := hm307.back hk316
  have hm318 := hm317.seal 0 _ rfl rfl
  refine go 3 [] [8, 100, 101] [(8, .string (bs r288.1)), (100, .agg #[.slice A311 r308.1.L.length c312]), (101, .int .i64 r308.2)] [] hf315 (by kernel_rfl) trivial fun a319 hf320 => ?_
  refine listOf hf320 rfl (by kernel_rfl) (aNew (cs := [.slice none 0 0]) (T := 24) (d := 10) hf320 (by kernel_rfl) (by kernel_rfl) ?_)
  intro b321 w322 a323 hbb321 hx325 hg326 hf324
  have hm327 := hm318.box hbb321 hx325 hg326
  refine listOf hf324 rfl (by kernel_rfl) (aStoreB (b := b321) (j := 0) (T := 24) (cs := [.slice none 0 0]) (us := [.slice A311 r308.1.L.length c312]) (cs' := [.slice A311 r308.1.L.length c312]) hf324 (by kernel_rfl) (hm327.bxAt 0 rfl) (by kernel_rfl) (by kernel_rfl) (by kernel_rfl) ?_)
  intro w328 hx329 hg330
  have hm331 := hm327.setBox 0 _ rfl rfl hx329 hg330
  refine go 1 [] [8, 11] [(8, .string (bs r288.1)), (11, .int .i64 r308.2)] [] hf324 (by kernel_rfl) trivial fun a332 hf333 => ?_
  refine endL rfl ?_
  have hm334 := hm331.sel [] _ rfl (by kernel_rfl)
  refine thenN ?_
  refine wp_seq ?_
  obtain ⟨g335, H0⟩ := if_guard H0
  obtain ⟨r336, hr336, H0⟩ := ob_split H0
  refine inReg ?_
  refine go 2 [] [11, 104] [(11, .int .i64 r308.2), (104, .string (bs (slc r288.1 (5 : Int) (r288.1.length : Int))))] [.is (0 ≤ (5 : Int) ∧ (5 : Int) ≤ (r288.1.length : Int))] hf333 (by kernel_rfl) ⟨g335, trivial⟩ fun a337 hf338 => ?_
  refine listOf hf338 rfl (by kernel_rfl) (aCall (fid := 13) (args := [.string (bs (slc r288.1 (5 : Int) (r288.1.length : Int)))]) (d := 105) hf338 (by kernel_rfl) (by kernel_rfl) callable13 (script_Read.calls _ _ (slc r288.1 (5 : Int) (r288.1.length : Int)) (hm334.give [] [] rfl rfl) r336 hr336 (hG.at hm334)) ?_)
  rintro _ w341 a342 ⟨A339, c340, rfl, hk344⟩ hf343
  have hm345 := hm334.back hk344
  have hm346 := hm345.seal 0 _ rfl rfl
  refine go 3 [] [11, 106, 107] [(11, .int .i64 r308.2), (106, .agg #[.slice A339 r336.1.L.length c340]), (107, .int .i64 r336.2)] [] hf343 (by kernel_rfl) trivial fun a347 hf348 => ?_
  refine listOf hf348 rfl (by kernel_rfl) (aNew (cs := [.slice none 0 0]) (T := 24) (d := 12) hf348 (by kernel_rfl) (by kernel_rfl) ?_)
  intro b349 w350 a351 hbb349 hx353 hg354 hf352
  have hm355 := hm346.box hbb349 hx353 hg354
  refine listOf hf352 rfl (by kernel_rfl) (aStoreB (b := b349) (j := 0) (T := 24) (cs := [.slice none 0 0]) (us := [.slice A339 r336.1.L.length c340]) (cs' := [.slice A339 r336.1.L.length c340]) hf352 (by kernel_rfl) (hm355.bxAt 0 rfl) (by kernel_rfl) (by kernel_rfl) (by kernel_rfl) ?_)
  intro w356 hx357 hg358
  have hm359 := hm355.setBox 0 _ rfl rfl hx357 hg358
  refine go 1 [] [11, 12, 13] [(11, .int .i64 r308.2), (12, .pointer (some ⟨b349, 0, none⟩)), (13, .int .i64 r336.2)] [] hf352 (by kernel_rfl) trivial fun a360 hf361 => ?_
  refine endL rfl ?_
  refine thenN ?_
  refine wp_seq ?_
  obtain ⟨r362, hr362, H0⟩ := ob_split H0
  refine inReg ?_
  refine listOf hf361 rfl (by kernel_rfl) (aCall (fid := 13) (args := [.string (bs ([] : List UInt8))]) (d := 109) hf361 (by kernel_rfl) (by kernel_rfl) callable13 (script_Read.calls _ _ ([] : List UInt8) (hm359.give [] [] rfl rfl) r362 hr362 (hG.at hm359)) ?_)
  rintro _ w365 a366 ⟨A363, c364, rfl, hk368⟩ hf367
  have hm369 := hm359.back hk368
  have hm370 := hm369.seal 0 _ rfl rfl
  refine go 3 [] [11, 12, 13, 110, 111] [(11, .int .i64 r308.2), (12, .pointer (some ⟨b349, 0, none⟩)), (13, .int .i64 r336.2), (110, .agg #[.slice A363 r362.1.L.length c364]), (111, .int .i64 r362.2)] [] hf367 (by kernel_rfl) trivial fun a371 hf372 => ?_
  refine listOf hf372 rfl (by kernel_rfl) (aNew (cs := [.slice none 0 0]) (T := 24) (d := 14) hf372 (by kernel_rfl) (by kernel_rfl) ?_)
  intro b373 w374 a375 hbb373 hx377 hg378 hf376
  have hm379 := hm370.box hbb373 hx377 hg378
  refine listOf hf376 rfl (by kernel_rfl) (aStoreB (b := b373) (j := 0) (T := 24) (cs := [.slice none 0 0]) (us := [.slice A363 r362.1.L.length c364]) (cs' := [.slice A363 r362.1.L.length c364]) hf376 (by kernel_rfl) (hm379.bxAt 0 rfl) (by kernel_rfl) (by kernel_rfl) (by kernel_rfl) ?_)
  intro w380 hx381 hg382
  have hm383 := hm379.setBox 0 _ rfl rfl hx381 hg382
  refine go 1 [] [11, 12, 13, 14, 15] [(11, .int .i64 r308.2), (12, .pointer (some ⟨b349, 0, none⟩)), (13, .int .i64 r336.2), (14, .pointer (some ⟨b373, 0, none⟩)), (15, .int .i64 r362.2)] [] hf376 (by kernel_rfl) trivial fun a384 hf385 => ?_
  refine endL rfl ?_
  refine thenN ?_
  refine wp_seq ?_
  rcases if_split H0 with ⟨c386, H0⟩ | ⟨c386, H0⟩
  rotate_left
  · refine reg [.bool false] [0] [(0, .bool false)] [.is (((r308.2 : Int) == 13) = false)] hf385 (by kernel_rfl) ⟨(eqF c386), trivial⟩ fun a483 hf484 => ?_
    have hm485 := hm383.sel [] _ rfl (by kernel_rfl)
    refine thenN ?_
    refine wp_ret ?_
    have hm486 : Mem [] M w0 [] w380 := hm485.sel [] _ rfl (by kernel_rfl)
    obtain rfl := Option.some.inj H0
    refine ret [] [.bool false] [] hf484 (by kernel_rfl) trivial ?_
    exact ⟨_, rfl, rfl, hm486⟩
  rcases if_split H0 with ⟨c387, H0⟩ | ⟨c387, H0⟩
  rotate_left
  · refine reg [.bool true, .bool false] [0] [(0, .bool false)] [.is (((r308.2 : Int) == 13) = true), .is (((r336.2 : Int) == 0) = false)] hf385 (by kernel_rfl) ⟨(eqT c386), (eqF c387), trivial⟩ fun a478 hf479 => ?_
    have hm480 := hm383.sel [] _ rfl (by kernel_rfl)
    refine thenN ?_
    refine wp_ret ?_
    have hm481 : Mem [] M w0 [] w380 := hm480.sel [] _ rfl (by kernel_rfl)
    obtain rfl := Option.some.inj H0
    refine ret [] [.bool false] [] hf479 (by kernel_rfl) trivial ?_
    exact ⟨_, rfl, rfl, hm481⟩
  rcases if_split H0 with ⟨c388, H0⟩ | ⟨c388, H0⟩
  rotate_left
  · refine reg [.bool true, .bool true, .slice A339 r336.1.L.length c340, .bool false] [0] [(0, .bool false)] [.is (((r308.2 : Int) == 13) = true), .is (((r336.2 : Int) == 0) = true), .cell ⟨b349, 0, none⟩ (.slice A339 r336.1.L.length c340), .is ((((r336.1.L.length : Int) : Int) == 256) = false)] hf385 (by kernel_rfl) ⟨(eqT c386), (eqT c387), (hm383.cell 2 rfl rfl), (eqF c388), trivial⟩ fun a473 hf474 => ?_
    have hm475 := hm383.sel [] _ rfl (by kernel_rfl)
    refine thenN ?_
    refine wp_ret ?_
    have hm476 : Mem [] M w0 [] w380 := hm475.sel [] _ rfl (by kernel_rfl)
    obtain rfl := Option.some.inj H0
    refine ret [] [.bool false] [] hf474 (by kernel_rfl) trivial ?_
    exact ⟨_, rfl, rfl, hm476⟩
  rcases if_split H0 with ⟨c389, H0⟩ | ⟨c389, H0⟩
  rotate_left
  · refine reg [.bool true, .bool true, .slice A339 r336.1.L.length c340, .bool true, .bool false] [0] [(0, .bool false)] [.is (((r308.2 : Int) == 13) = true), .is (((r336.2 : Int) == 0) = true), .cell ⟨b349, 0, none⟩ (.slice A339 r336.1.L.length c340), .is ((((r336.1.L.length : Int) : Int) == 256) = true), .is (((r362.2 : Int) == 0) = false)] hf385 (by kernel_rfl) ⟨(eqT c386), (eqT c387), (hm383.cell 2 rfl rfl), (eqT c388), (eqF c389), trivial⟩ fun a468 hf469 => ?_
    have hm470 := hm383.sel [] _ rfl (by kernel_rfl)
    refine thenN ?_
    refine wp_ret ?_
    have hm471 : Mem [] M w0 [] w380 := hm470.sel [] _ rfl (by kernel_rfl)
    obtain rfl := Option.some.inj H0
    refine ret [] [.bool false] [] hf469 (by kernel_rfl) trivial ?_
    exact ⟨_, rfl, rfl, hm471⟩
  rcases if_split H0 with ⟨c390, H0⟩ | ⟨c390, H0⟩
  rotate_left
  · refine reg [.bool true, .bool true, .slice A339 r336.1.L.length c340, .bool true, .bool true, .slice A363 r362.1.L.length c364, .bool false] [0] [(0, .bool false)] [.is (((r308.2 : Int) == 13) = true), .is (((r336.2 : Int) == 0) = true), .cell ⟨b349, 0, none⟩ (.slice A339 r336.1.L.length c340), .is ((((r336.1.L.length : Int) : Int) == 256) = true), .is (((r362.2 : Int) == 0) = true), .cell ⟨b373, 0, none⟩ (.slice A363 r362.1.L.length c364), .is ((((r362.1.L.length : Int) : Int) == 0) = false)] hf385 (by kernel_rfl) ⟨(eqT c386), (eqT c387), (hm383.cell 2 rfl rfl), (eqT c388), (eqT c389), (hm383.cell 0 rfl rfl), (eqF c390), trivial⟩ fun a463 hf464 => ?_
    have hm465 := hm383.sel [] _ rfl (by kernel_rfl)
    refine thenN ?_
    refine wp_ret ?_
    have hm466 : Mem [] M w0 [] w380 := hm465.sel [] _ rfl (by kernel_rfl)
    obtain rfl := Option.some.inj H0
    refine ret [] [.bool false] [] hf464 (by kernel_rfl) trivial ?_
    exact ⟨_, rfl, rfl, hm466⟩
  obtain ⟨r391, hr391, H0⟩ := ob_split H0
  rcases if_split H0 with ⟨c392, H0⟩ | ⟨c392, H0⟩
  rotate_left
  · refine inReg ?_
    refine go 23 [.bool true, .bool true, .slice A339 r336.1.L.length c340, .bool true, .bool true, .slice A363 r362.1.L.length c364, .bool true] [134] [(134, .bool true)] [.is (((r308.2 : Int) == 13) = true), .is (((r336.2 : Int) == 0) = true), .cell ⟨b349, 0, none⟩ (.slice A339 r336.1.L.length c340), .is ((((r336.1.L.length : Int) : Int) == 256) = true), .is (((r362.2 : Int) == 0) = true), .cell ⟨b373, 0, none⟩ (.slice A363 r362.1.L.length c364), .is ((((r362.1.L.length : Int) : Int) == 0) = true)] hf385 (by kernel_rfl) ⟨(eqT c386), (eqT c387), (hm383.cell 2 rfl rfl), (eqT c388), (eqT c389), (hm383.cell 0 rfl rfl), (eqT c390), trivial⟩ fun a451 hf452 => ?_
    refine listOf hf452 rfl (by kernel_rfl) (aCall (fid := 15) (args := [.float .f64 13835058055282163712]) (d := 135) hf452 (by kernel_rfl) (by kernel_rfl) callable15 (script_Number.calls _ _ 13835058055282163712 13835058055282163712 ((FR.lit (by kernel_rfl) (by kernel_rfl))) (hm383.give [] [] rfl rfl) r391 hr391) ?_)
    rintro _ w453 a454 ⟨rfl, hk456⟩ hf455
    have hm457 := hm383.still hk456.cum.none
    refine go 10 [.bool false] [0] [(0, .bool false)] [.is ((decide (bs r391 = bs ([99, 48, 48, 48, 48, 48, 48, 48, 48, 48, 48, 48, 48, 48, 48, 48] : List UInt8))) = false)] hf455 (by kernel_rfl) ⟨(seF c392), trivial⟩ fun a458 hf459 => ?_
    refine endL rfl ?_
    have hm460 := hm457.sel [] _ rfl (by kernel_rfl)
    refine thenN ?_
    refine wp_ret ?_
    have hm461 : Mem [] M w0 [] w453 := hm460.sel [] _ rfl (by kernel_rfl)
    obtain rfl := Option.some.inj H0
    refine ret [] [.bool false] [] hf459 (by kernel_rfl) trivial ?_
    exact ⟨_, rfl, rfl, hm461⟩
  obtain ⟨r393, hr393, H0⟩ := ob_split H0
  rcases if_split H0 with ⟨c394, H0⟩ | ⟨c394, H0⟩
  · refine inReg ?_
    refine go 23 [.bool true, .bool true, .slice A339 r336.1.L.length c340, .bool true, .bool true, .slice A363 r362.1.L.length c364, .bool true] [134] [(134, .bool true)] [.is (((r308.2 : Int) == 13) = true), .is (((r336.2 : Int) == 0) = true), .cell ⟨b349, 0, none⟩ (.slice A339 r336.1.L.length c340), .is ((((r336.1.L.length : Int) : Int) == 256) = true), .is (((r362.2 : Int) == 0) = true), .cell ⟨b373, 0, none⟩ (.slice A363 r362.1.L.length c364), .is ((((r362.1.L.length : Int) : Int) == 0) = true)] hf385 (by kernel_rfl) ⟨(eqT c386), (eqT c387), (hm383.cell 2 rfl rfl), (eqT c388), (eqT c389), (hm383.cell 0 rfl rfl), (eqT c390), trivial⟩ fun a395 hf396 => ?_
    refine listOf hf396 rfl (by kernel_rfl) (aCall (fid := 15) (args := [.float .f64 13835058055282163712]) (d := 135) hf396 (by kernel_rfl) (by kernel_rfl) callable15 (script_Number.calls _ _ 13835058055282163712 13835058055282163712 ((FR.lit (by kernel_rfl) (by kernel_rfl))) (hm383.give [] [] rfl rfl) r391 hr391) ?_)
    rintro _ w397 a398 ⟨rfl, hk400⟩ hf399
    have hm401 := hm383.still hk400.cum.none
    refine go 4 [.bool true] [138, 139] [(138, .bool true), (139, .agg #[.int .i64 0, .slice none 0 0, .slice none 0 0, .int .i64 0, .slice none 0 0, .slice none 0 0, .slice none 0 0])] [.is ((decide (bs r391 = bs ([99, 48, 48, 48, 48, 48, 48, 48, 48, 48, 48, 48, 48, 48, 48, 48] : List UInt8))) = true)] hf399 (by kernel_rfl) ⟨(seT c392), trivial⟩ fun a402 hf403 => ?_
    refine listOf hf403 rfl (by kernel_rfl) (aLit (cs := [.int .i64 0, .slice none 0 0, .slice none 0 0, .int .i64 0, .slice none 0 0, .slice none 0 0, .slice none 0 0]) (E := 49) (len := 1) (d := 140) hf403 (by kernel_rfl) (by kernel_rfl) ?_)
    intro b404 w405 a406 hbb404 hx408 hg409 hf407
    have hm401s := hm401.still hg409
    have hm410 := Mem.lit (kd := kNode) (xs := ([(⟨0, ([] : (List Int)), ([] : (List Int)), 0, (⟨([] : (List Int)), ([] : (List Nat))⟩ : Tensor), ([] : (List Hook))⟩ : Node)] : List Node)) hm401 hbb404 hx408 hg409 (Els.one (kd := kNode) (us := [.int .i64 0, .slice none 0 0, .slice none 0 0, .int .i64 0, .slice none 0 0, .slice none 0 0, .slice none 0 0]) (x := (⟨0, ([] : (List Int)), ([] : (List Int)), 0, (⟨([] : (List Int)), ([] : (List Nat))⟩ : Tensor), ([] : (List Hook))⟩ : Node)) (kNode.mk (⟨0, ([] : (List Int)), ([] : (List Int)), 0, (⟨([] : (List Int)), ([] : (List Nat))⟩ : Tensor), ([] : (List Hook))⟩ : Node) ⟨⟨Nat.le_refl _, fun _ => rfl⟩, .inl rfl⟩ ⟨⟨Nat.le_refl _, fun _ => rfl⟩, .inl rfl⟩ ⟨⟨Nat.le_refl _, fun _ => rfl⟩, .inl rfl⟩ ⟨⟨Nat.le_refl _, fun _ => rfl⟩, .inl rfl⟩ ⟨⟨Nat.le_refl _, fun _ => rfl⟩, .inl rfl⟩))
    refine go 1 [] [138, 141] [(138, .bool true), (141, .agg #[.slice (some ⟨b404, 0, none⟩) 1 1])] [] hf407 (by kernel_rfl) trivial fun a411 hf412 => ?_
    refine listOf hf412 rfl (by kernel_rfl) (aCall (fid := 11) (args := [.agg #[.slice (some ⟨b404, 0, none⟩) 1 1]]) (d := 142) hf412 (by kernel_rfl) (by kernel_rfl) callable11 (script_Text.calls _ _ (⟨([(⟨0, ([] : (List Int)), ([] : (List Int)), 0, (⟨([] : (List Int)), ([] : (List Nat))⟩ : Tensor), ([] : (List Hook))⟩ : Node)] : List Node)⟩ : Graph) (some ⟨b404, 0, none⟩) 1 1 rfl (hm410.give [0] [.sl kNode (some ⟨b404, 0, none⟩) 1 ([(⟨0, ([] : (List Int)), ([] : (List Int)), 0, (⟨([] : (List Int)), ([] : (List Nat))⟩ : Tensor), ([] : (List Hook))⟩ : Node)] : List Node)] rfl rfl) r393 hr393 (hG.at hm410)) ?_)
    rintro _ w413 a414 ⟨rfl, hk416⟩ hf415
    have hm417 := hm410.still hk416.cum.none
    refine go 3 [.bool true] [0] [(0, .bool true)] [.is ((decide (bs r393 = bs ([] : List UInt8))) = true)] hf415 (by kernel_rfl) ⟨(seT c394), trivial⟩ fun a418 hf419 => ?_
    refine endL rfl ?_
    have hm420 := hm417.sel [] _ rfl (by kernel_rfl)
    refine thenN ?_
    refine wp_ret ?_
    have hm421 : Mem [] M w0 [] w413 := hm420.sel [] _ rfl (by kernel_rfl)
    obtain rfl := Option.some.inj H0
    refine ret [] [.bool true] [] hf419 (by kernel_rfl) trivial ?_
    exact ⟨_, rfl, rfl, hm421⟩
  refine inReg ?_
  refine go 23 [.bool true, .bool true, .slice A339 r336.1.L.length c340, .bool true, .bool true, .slice A363 r362.1.L.length c364, .bool true] [134] [(134, .bool true)] [.is (((r308.2 : Int) == 13) = true), .is (((r336.2 : Int) == 0) = true), .cell ⟨b349, 0, none⟩ (.slice A339 r336.1.L.length c340), .is ((((r336.1.L.length : Int) : Int) == 256) = true), .is (((r362.2 : Int) == 0) = true), .cell ⟨b373, 0, none⟩ (.slice A363 r362.1.L.length c364), .is ((((r362.1.L.length : Int) : Int) == 0) = true)] hf385 (by kernel_rfl) ⟨(eqT c386), (eqT c387), (hm383.cell 2 rfl rfl), (eqT c388), (eqT c389), (hm383.cell 0 rfl rfl), (eqT c390), trivial⟩ fun a423 hf424 => ?_
  refine listOf hf424 rfl (by kernel_rfl) (aCall (fid := 15) (args := [.float .f64 13835058055282163712]) (d := 135) hf424 (by kernel_rfl) (by kernel_rfl) callable15 (script_Number.calls _ _ 13835058055282163712 13835058055282163712 ((FR.lit (by kernel_rfl) (by kernel_rfl))) (hm383.give [] [] rfl rfl) r391 hr391) ?_)
  rintro _ w425 a426 ⟨rfl, hk428⟩ hf427
  have hm429 := hm383.still hk428.cum.none
  refine go 4 [.bool true] [138, 139] [(138, .bool true), (139, .agg #[.int .i64 0, .slice none 0 0, .slice none 0 0, .int .i64 0, .slice none 0 0, .slice none 0 0, .slice none 0 0])] [.is ((decide (bs r391 = bs ([99, 48, 48, 48, 48, 48, 48, 48, 48, 48, 48, 48, 48, 48, 48, 48] : List UInt8))) = true)] hf427 (by kernel_rfl) ⟨(seT c392), trivial⟩ fun a430 hf431 => ?_
  refine listOf hf431 rfl (by kernel_rfl) (aLit (cs := [.int .i64 0, .slice none 0 0, .slice none 0 0, .int .i64 0, .slice none 0 0, .slice none 0 0, .slice none 0 0]) (E := 49) (len := 1) (d := 140) hf431 (by kernel_rfl) (by kernel_rfl) ?_)
  intro b432 w433 a434 hbb432 hx436 hg437 hf435
  have hm429s := hm429.still hg437
  have hm438 := Mem.lit (kd := kNode) (xs := ([(⟨0, ([] : (List Int)), ([] : (List Int)), 0, (⟨([] : (List Int)), ([] : (List Nat))⟩ : Tensor), ([] : (List Hook))⟩ : Node)] : List Node)) hm429 hbb432 hx436 hg437 (Els.one (kd := kNode) (us := [.int .i64 0, .slice none 0 0, .slice none 0 0, .int .i64 0, .slice none 0 0, .slice none 0 0, .slice none 0 0]) (x := (⟨0, ([] : (List Int)), ([] : (List Int)), 0, (⟨([] : (List Int)), ([] : (List Nat))⟩ : Tensor), ([] : (List Hook))⟩ : Node)) (kNode.mk (⟨0, ([] : (List Int)), ([] : (List Int)), 0, (⟨([] : (List Int)), ([] : (List Nat))⟩ : Tensor), ([] : (List Hook))⟩ : Node) ⟨⟨Nat.le_refl _, fun _ => rfl⟩, .inl rfl⟩ ⟨⟨Nat.le_refl _, fun _ => rfl⟩, .inl rfl⟩ ⟨⟨Nat.le_refl _, fun _ => rfl⟩, .inl rfl⟩ ⟨⟨Nat.le_refl _, fun _ => rfl⟩, .inl rfl⟩ ⟨⟨Nat.le_refl _, fun _ => rfl⟩, .inl rfl⟩))
  refine go 1 [] [138, 141] [(138, .bool true), (141, .agg #[.slice (some ⟨b432, 0, none⟩) 1 1])] [] hf435 (by kernel_rfl) trivial fun a439 hf440 => ?_
  refine listOf hf440 rfl (by kernel_rfl) (aCall (fid := 11) (args := [.agg #[.slice (some ⟨b432, 0, none⟩) 1 1]]) (d := 142) hf440 (by kernel_rfl) (by kernel_rfl) callable11 (script_Text.calls _ _ (⟨([(⟨0, ([] : (List Int)), ([] : (List Int)), 0, (⟨([] : (List Int)), ([] : (List Nat))⟩ : Tensor), ([] : (List Hook))⟩ : Node)] : List Node)⟩ : Graph) (some ⟨b432, 0, none⟩) 1 1 rfl (hm438.give [0] [.sl kNode (some ⟨b432, 0, none⟩) 1 ([(⟨0, ([] : (List Int)), ([] : (List Int)), 0, (⟨([] : (List Int)), ([] : (List Nat))⟩ : Tensor), ([] : (List Hook))⟩ : Node)] : List Node)] rfl rfl) r393 hr393 (hG.at hm438)) ?_)
  rintro _ w441 a442 ⟨rfl, hk444⟩ hf443
  have hm445 := hm438.still hk444.cum.none
  refine go 3 [.bool false] [0] [(0, .bool false)] [.is ((decide (bs r393 = bs ([] : List UInt8))) = false)] hf443 (by kernel_rfl) ⟨(seF c394), trivial⟩ fun a446 hf447 => ?_
  refine endL rfl ?_
  have hm448 := hm445.sel [] _ rfl (by kernel_rfl)
  refine thenN ?_
  refine wp_ret ?_
  have hm449 : Mem [] M w0 [] w441 := hm448.sel [] _ rfl (by kernel_rfl)
  obtain rfl := Option.some.inj H0
  refine ret [] [.bool false] [] hf447 (by kernel_rfl) trivial ?_
  exact ⟨_, rfl, rfl, hm449⟩
end Go.Proofs.YtkdhahdfkonilaaDoor
