/- Printed by gen.py. -/
import Derived.Test.YtolhkamfpfjodaaF1
import Derived.Test.YtolhkamfpfjodaaF2
import Derived.Test.YtolhkamfpfjodaaF8
namespace Go.Proofs.Ytolhkamfpfjodaa
open Go Go.RowKit
set_option linter.unusedSimpArgs false
set_option linter.unusedVariables false
set_option linter.unnecessarySimpa false
/-! ### (*backstitch/shelf.Shelf).Zero -/
noncomputable def shelf_Shelf_Zero.f (x0 : Shelf) (x1 : Int) : Option ((List Tensor) × Int) :=
  (shelf_Shelf_there.f x0 x1).bind fun r23 =>
  if r23 = 0 then (if 0 ≤ x1 ∧ x1 < (x0.l.length : Int) then ((shelf_noughts.f (⟨((rd x0.l x1).Shape), ((rd x0.l x1).Data)⟩ : Tensor)).bind fun r37 =>
  if 0 ≤ x1 ∧ x1 < (x0.grads.length : Int) then (some ((put x0.grads x1 r37), 0))
  else none)
  else none)
  else (some (x0.grads, r23))
set_option maxRecDepth 100000 in
set_option maxHeartbeats 4000000 in
theorem shelf_Shelf_Zero.calls (B0 : List (Option Nat)) (M : List (Option Nat)) (w0 : World) (x0 : Shelf) (b0 : Nat) (A0_0 : Option Addr) (n0_0 c0_0 : Nat) (e0_0 : n0_0 = x0.l.length) (A0_1 : Option Addr) (n0_1 c0_1 : Nat) (e0_1 : n0_1 = x0.vers.length) (A0_2 : Option Addr) (n0_2 c0_2 : Nat) (e0_2 : n0_2 = x0.grads.length) (x1 : Int) (hm0 : Mem B0 M w0 [.bx b0 [.slice A0_0 n0_0 c0_0, .slice A0_1 n0_1 c0_1, .slice A0_2 n0_2 c0_2] 72, .ow kTensor 29 A0_0 c0_0 x0.l, .ow (Kd.int .i64) 3 A0_1 c0_1 x0.vers, .ow kTensor 29 A0_2 c0_2 x0.grads] w0) (r : ((List Tensor) × Int)) (H0 : shelf_Shelf_Zero.f x0 x1 = some r) :
    Calls Try.prog 12 [.pointer (some ⟨b0, 0, none⟩), .int .i64 x1].toArray w0 (fun x w' => ∃ v, x = .returned v ∧ ∃ Ap0_2 cp0_2, v = .int .i64 r.2 ∧ Mem B0 M w0 [.bx b0 [.slice A0_0 x0.l.length c0_0, .slice A0_1 x0.vers.length c0_1, .slice Ap0_2 r.1.length cp0_2] 72, .ow kTensor 29 A0_0 c0_0 x0.l, .ow (Kd.int .i64) 3 A0_1 c0_1 x0.vers, .ow kTensor 29 Ap0_2 cp0_2 r.1] w') := by
  subst e0_0
  subst e0_1
  subst e0_2
  unfold shelf_Shelf_Zero.f at H0
  refine enter (n := 26) Try.func12 rfl rfl (by kernel_rfl) fun a0 (hf0 : Fr 26 a0 [(0, .pointer (some ⟨b0, 0, none⟩)), (1, .int .i64 x1)]) => ?_
  refine wp_seq ?_
  refine reg [] [0, 1] [(0, .pointer (some ⟨b0, 0, none⟩)), (1, .int .i64 x1)] [] hf0 (by kernel_rfl) trivial fun a21 hf22 => ?_
  refine thenN ?_
  refine wp_seq ?_
  refine wp_seq ?_
  obtain ⟨r23, hr23, H0⟩ := ob_split H0
  refine inReg ?_
  refine go 2 [] [0, 1, 6, 7] [(0, .pointer (some ⟨b0, 0, none⟩)), (1, .int .i64 x1), (6, .pointer (some ⟨b0, 0, none⟩)), (7, .int .i64 x1)] [] hf22 (by kernel_rfl) trivial fun a24 hf25 => ?_
  refine listOf hf25 rfl (by kernel_rfl) (aCall (fid := 37) (args := [.pointer (some ⟨b0, 0, none⟩), .int .i64 x1]) (d := 8) hf25 (by kernel_rfl) (by kernel_rfl) callable37 (shelf_Shelf_there.calls _ _ _ x0 b0 A0_0 x0.l.length c0_0 rfl A0_1 x0.vers.length c0_1 rfl A0_2 x0.grads.length c0_2 rfl x1 (hm0.giveO [0, 1, 2, 3] [] [] [.bx b0 [.slice A0_0 x0.l.length c0_0, .slice A0_1 x0.vers.length c0_1, .slice A0_2 x0.grads.length c0_2] 72, .ow kTensor 29 A0_0 c0_0 x0.l, .ow (Kd.int .i64) 3 A0_1 c0_1 x0.vers, .ow kTensor 29 A0_2 c0_2 x0.grads] _ [] rfl rfl rfl (by kernel_rfl) rfl) r23 hr23) ?_)
  rintro _ w26 a27 ⟨rfl, hk29⟩ hf28
  have hm30 := hm0.backO [0, 1, 2, 3] [] _ _ rfl rfl (by kernel_rfl) hk29
  refine go 1 [] [0, 1, 5] [(0, .pointer (some ⟨b0, 0, none⟩)), (1, .int .i64 x1), (5, .int .i64 r23)] [] hf28 (by kernel_rfl) trivial fun a31 hf32 => ?_
  refine endL rfl ?_
  refine thenN ?_
  refine wp_seq ?_
  rcases if_split H0 with ⟨c33, H0⟩ | ⟨c33, H0⟩
  rotate_left
  · refine reg [.bool true] [0, 1, 5, 10] [(0, .pointer (some ⟨b0, 0, none⟩)), (1, .int .i64 x1), (5, .int .i64 r23), (10, .bool true)] [.is (((r23 : Int) != 0) = true)] hf32 (by kernel_rfl) ⟨(neT c33), trivial⟩ fun a166 hf167 => ?_
    refine thenN ?_
    refine condT hf167 (by kernel_rfl) ?_
    refine wp_seq ?_
    refine reg [] [4] [(4, .int .i64 r23)] [] hf167 (by kernel_rfl) trivial fun a168 hf169 => ?_
    refine thenN ?_
    refine wp_ret ?_
    refine thenR ?_
    have hm170 : Mem B0 M w0 [.bx b0 [.slice A0_0 x0.l.length c0_0, .slice A0_1 x0.vers.length c0_1, .slice A0_2 x0.grads.length c0_2] 72, .ow kTensor 29 A0_0 c0_0 x0.l, .ow (Kd.int .i64) 3 A0_1 c0_1 x0.vers, .ow kTensor 29 A0_2 c0_2 x0.grads] w26 := hm30.sel [0, 1, 2, 3] _ rfl (by kernel_rfl)
    obtain rfl := Option.some.inj H0
    refine ret [] [.int .i64 r23] [] hf169 (by kernel_rfl) trivial ?_
    exact ⟨_, rfl, A0_2, c0_2, rfl, hm170⟩
  refine reg [.bool false] [0, 1, 5, 10] [(0, .pointer (some ⟨b0, 0, none⟩)), (1, .int .i64 x1), (5, .int .i64 r23), (10, .bool false)] [.is (((r23 : Int) != 0) = false)] hf32 (by kernel_rfl) ⟨(neF c33), trivial⟩ fun a34 hf35 => ?_
  refine thenN ?_
  refine condF hf35 (by kernel_rfl) ?_
  refine wp_skip ?_
  refine thenN ?_
  refine wp_seq ?_
  obtain ⟨g36, H0⟩ := if_guard H0
  obtain ⟨r37, hr37, H0⟩ := ob_split H0
  obtain ⟨g38, H0⟩ := if_guard H0
  refine midReg (fun (a : Act) (w : World) => Fr 26 a [] ∧ Mem B0 M w0 [.bx b0 [.slice A0_0 x0.l.length c0_0, .slice A0_1 x0.vers.length c0_1, .slice A0_2 x0.grads.length c0_2] 72, .ow kTensor 29 A0_0 c0_0 x0.l, .ow (Kd.int .i64) 3 A0_1 c0_1 x0.vers, .ow kTensor 29 A0_2 c0_2 (put x0.grads x1 r37)] w) ?_ ?_
  · refine anyG [14] (by kernel_rfl) fun w76 hg77 => ?_
    have hm78 := hm30.still hg77
    have q118 := (hm78.owAt 1 rfl).cells x1 g36.1 g36.2
    obtain ⟨us119, hr120, hc121⟩ := q118.2
    obtain ⟨A122, c123, A124, c125, rfl, ⟨pA122, sA122⟩, ⟨pA124, sA124⟩⟩ := kTensor.open hr120
    have hm126 := hm78.elem pA122 sA122
    have hm127 := hm126.elem pA124 sA124
    refine quiet0 [0, 1, 2, 3, 4, 5, 6, 7, 8, 9, 10, 11] [.slice A0_2 x0.grads.length c0_2, .slice A0_0 x0.l.length c0_0, .agg #[.slice A122 (((rd x0.l x1).Shape).length) c123, .slice A124 (((rd x0.l x1).Data).length) c125]] [15, 16, 23] #[true, true, true, true, true, true, true, true, true, true, true, true, false, false, false] [(15, .slice A0_2 x0.grads.length c0_2), (16, .int .i64 x1), (23, .agg #[.slice A122 (((rd x0.l x1).Shape).length) c123, .slice A124 (((rd x0.l x1).Data).length) c125])] [.cell ⟨b0, 2, none⟩ (.slice A0_2 x0.grads.length c0_2), .cell ⟨b0, 0, none⟩ (.slice A0_0 x0.l.length c0_0), .is (Option.isSome A0_0 = true), .is (0 ≤ x1 ∧ x1 < (x0.l.length : Int)), .cell ((ad A0_0).add ((x1).toNat * 2)) (.slice A122 (((rd x0.l x1).Shape).length) c123), .cell (((ad A0_0).add ((x1).toNat * 2)).add 1) (.slice A124 (((rd x0.l x1).Data).length) c125)] 3 rfl (by kernel_rfl) (fun _ _ _ _ _ h => nomatch h.1) hf35 (by kernel_rfl) ⟨(hm78.cell 0 rfl rfl), (hm78.cell 0 rfl rfl), q118.1, g36, (hc121 0 _ rfl), (hc121 1 _ rfl), trivial⟩ fun a128 hf129 => ?_
    refine all1 12 (by kernel_rfl) ?_
    refine opOf hf129 rfl (by kernel_rfl) (aCall (fid := 34) (args := [.agg #[.slice A122 (((rd x0.l x1).Shape).length) c123, .slice A124 (((rd x0.l x1).Data).length) c125]]) (d := 24) hf129 (by kernel_rfl) (by kernel_rfl) callable34 (shelf_noughts.calls _ _ (⟨((rd x0.l x1).Shape), ((rd x0.l x1).Data)⟩ : Tensor) A122 (((rd x0.l x1).Shape).length) c123 rfl A124 (((rd x0.l x1).Data).length) c125 rfl (hm127.give [1, 0] [.sl (Kd.int .i64) A122 c123 ((rd x0.l x1).Shape), .sl Kd.float A124 c125 ((rd x0.l x1).Data)] rfl rfl) r37 hr37) ?_)
    rintro _ w134 a135 ⟨A130, c131, A132, c133, rfl, hk137⟩ hf136
    refine ⟨.inr (Gr.still hk137.cum.none), ?_⟩
    have hm138 := hm127.back hk137
    have hm139 := hm138.seal 0 _ rfl rfl
    have hm140 := hm139.seal 1 _ rfl rfl
    have q141 := (hm140.owAt 7 rfl).cells x1 g38.1 g38.2
    obtain ⟨us142, hr143, hc144⟩ := q141.2
    obtain ⟨A145, c146, A147, c148, rfl, ⟨pA145, sA145⟩, ⟨pA147, sA147⟩⟩ := kTensor.open hr143
    have hm149 := hm140.elem pA145 sA145
    have hm150 := hm149.elem pA147 sA147
    refine quiet0 [13] [] [24, 25] #[true, true, true, true, true, true, true, true, true, true, true, true, true, true, false] [(24, .agg #[.slice A130 r37.Shape.length c131, .slice A132 r37.Data.length c133]), (25, .pointer (some ((ad A0_2).add ((x1).toNat * 2))))] [.is (Option.isSome A0_2 = true), .is (0 ≤ x1 ∧ x1 < (x0.grads.length : Int))] 1 rfl (by kernel_rfl) (fun _ _ _ _ _ h => nomatch h.1) hf136 (by kernel_rfl) ⟨q141.1, g38, trivial⟩ fun a151 hf152 => ?_
    refine all1 14 (by kernel_rfl) ?_
    refine opOf hf152 rfl (by kernel_rfl) (aStoreO (kd := kTensor) (base := 0) (E := 29) (A := A0_2) (c := c0_2) (xs := x0.grads) (i := x1) (x := r37) (us := [.slice A130 r37.Shape.length c131, .slice A132 r37.Data.length c133]) (sz := 2) hf152 (by kernel_rfl) rfl (by kernel_rfl) (hm150.at 9 rfl) (kTensor.mk r37 ⟨hm150.cpAt 2 rfl, (hm150.at2 9 2 rfl rfl).2⟩ ⟨hm150.cpAt 3 rfl, (hm150.at2 9 3 rfl rfl).2⟩) g38.1 g38.2 ?_)
    intro w153 hx154 hg155
    refine ⟨.inl (by decide), ?_⟩
    have hm156 := hm150.setOwn 9 _ rfl rfl hx154 hg155 (.inl rfl)
    refine allDone (by kernel_rfl) ⟨rfl, hf152.sel (l := []) (by kernel_rfl), hm156.sel [6, 7, 8, 9] _ rfl (by kernel_rfl)⟩
  rintro a157 w158 ⟨hf159, hm160⟩
  refine thenN ?_
  refine wp_seq ?_
  refine reg [] [4] [(4, .int .i64 0)] [] hf159 (by kernel_rfl) trivial fun a161 hf162 => ?_
  refine thenN ?_
  refine wp_ret ?_
  have hm163 : Mem B0 M w0 [.bx b0 [.slice A0_0 x0.l.length c0_0, .slice A0_1 x0.vers.length c0_1, .slice A0_2 x0.grads.length c0_2] 72, .ow kTensor 29 A0_0 c0_0 x0.l, .ow (Kd.int .i64) 3 A0_1 c0_1 x0.vers, .ow kTensor 29 A0_2 c0_2 (put x0.grads x1 r37)] w158 := hm160.sel [0, 1, 2, 3] _ rfl (by kernel_rfl)
  have hm164 : Mem B0 M w0 [.bx b0 [.slice A0_0 x0.l.length c0_0, .slice A0_1 x0.vers.length c0_1, .slice A0_2 ((put x0.grads x1 r37).length) c0_2] 72, .ow kTensor 29 A0_0 c0_0 x0.l, .ow (Kd.int .i64) 3 A0_1 c0_1 x0.vers, .ow kTensor 29 A0_2 c0_2 (put x0.grads x1 r37)] w158 := by simpa only [put_length] using hm163
  obtain rfl := Option.some.inj H0
  refine ret [] [.int .i64 0] [] hf162 (by kernel_rfl) trivial ?_
  exact ⟨_, rfl, A0_2, c0_2, rfl, hm164⟩

/-! ### (*backstitch/shelf.Shelf).Get -/
noncomputable def shelf_Shelf_Get.f (x0 : Shelf) (x1 : Int) : Option (Tensor × Int × Int) :=
  (shelf_Shelf_there.f x0 x1).bind fun r30 =>
  if r30 = 0 then (if 0 ≤ x1 ∧ x1 < (x0.l.length : Int) then ((tensor_Copy.f (⟨((rd x0.l x1).Shape), ((rd x0.l x1).Data)⟩ : Tensor)).bind fun r44 =>
  if 0 ≤ x1 ∧ x1 < (x0.vers.length : Int) then (some (r44, (rd x0.vers x1), 0))
  else none)
  else none)
  else (some ((⟨([] : (List Int)), ([] : (List Nat))⟩ : Tensor), 0, r30))
set_option maxRecDepth 100000 in
set_option maxHeartbeats 4000000 in
theorem shelf_Shelf_Get.calls (B0 : List (Option Nat)) (M : List (Option Nat)) (w0 : World) (x0 : Shelf) (b0 : Nat) (A0_0 : Option Addr) (n0_0 c0_0 : Nat) (e0_0 : n0_0 = x0.l.length) (A0_1 : Option Addr) (n0_1 c0_1 : Nat) (e0_1 : n0_1 = x0.vers.length) (A0_2 : Option Addr) (n0_2 c0_2 : Nat) (e0_2 : n0_2 = x0.grads.length) (x1 : Int) (hm0 : Mem B0 M w0 [.bx b0 [.slice A0_0 n0_0 c0_0, .slice A0_1 n0_1 c0_1, .slice A0_2 n0_2 c0_2] 72, .ow kTensor 29 A0_0 c0_0 x0.l, .ow (Kd.int .i64) 3 A0_1 c0_1 x0.vers, .ow kTensor 29 A0_2 c0_2 x0.grads] w0) (r : (Tensor × Int × Int)) (H0 : shelf_Shelf_Get.f x0 x1 = some r) :
    Calls Try.prog 14 [.pointer (some ⟨b0, 0, none⟩), .int .i64 x1].toArray w0 (fun x w' => ∃ v, x = .returned v ∧ ∃ Ar0_0 cr0_0 Ar0_1 cr0_1, v = .tuple #[.agg #[.slice Ar0_0 r.1.Shape.length cr0_0, .slice Ar0_1 r.1.Data.length cr0_1], .int .i64 r.2.1, .int .i64 r.2.2] ∧ Mem B0 M w0 [.bx b0 [.slice A0_0 x0.l.length c0_0, .slice A0_1 x0.vers.length c0_1, .slice A0_2 x0.grads.length c0_2] 72, .ow kTensor 29 A0_0 c0_0 x0.l, .ow (Kd.int .i64) 3 A0_1 c0_1 x0.vers, .ow kTensor 29 A0_2 c0_2 x0.grads, .ow (Kd.int .i64) 3 Ar0_0 cr0_0 r.1.Shape, .ow Kd.float 26 Ar0_1 cr0_1 r.1.Data] w') := by
  subst e0_0
  subst e0_1
  subst e0_2
  unfold shelf_Shelf_Get.f at H0
  refine enter (n := 30) Try.func14 rfl rfl (by kernel_rfl) fun a0 (hf0 : Fr 30 a0 [(0, .pointer (some ⟨b0, 0, none⟩)), (1, .int .i64 x1)]) => ?_
  refine wp_seq ?_
  refine inReg ?_
  refine listOf hf0 rfl (by kernel_rfl) (aNew (cs := [.slice none 0 0, .slice none 0 0]) (T := 29) (d := 4) hf0 (by kernel_rfl) (by kernel_rfl) ?_)
  intro b21 w22 a23 hbb21 hx25 hg26 hf24
  have hm27 := hm0.box hbb21 hx25 hg26
  refine go 2 [] [0, 1, 4] [(0, .pointer (some ⟨b0, 0, none⟩)), (1, .int .i64 x1), (4, .pointer (some ⟨b21, 0, none⟩))] [] hf24 (by kernel_rfl) trivial fun a28 hf29 => ?_
  refine endL rfl ?_
  refine thenN ?_
  refine wp_seq ?_
  refine wp_seq ?_
  obtain ⟨r30, hr30, H0⟩ := ob_split H0
  refine inReg ?_
  refine go 2 [] [0, 1, 4, 8, 9] [(0, .pointer (some ⟨b0, 0, none⟩)), (1, .int .i64 x1), (4, .pointer (some ⟨b21, 0, none⟩)), (8, .pointer (some ⟨b0, 0, none⟩)), (9, .int .i64 x1)] [] hf29 (by kernel_rfl) trivial fun a31 hf32 => ?_
  refine listOf hf32 rfl (by kernel_rfl) (aCall (fid := 37) (args := [.pointer (some ⟨b0, 0, none⟩), .int .i64 x1]) (d := 10) hf32 (by kernel_rfl) (by kernel_rfl) callable37 (shelf_Shelf_there.calls _ _ _ x0 b0 A0_0 x0.l.length c0_0 rfl A0_1 x0.vers.length c0_1 rfl A0_2 x0.grads.length c0_2 rfl x1 (hm27.giveO [1, 2, 3, 4] [0] [] [.bx b0 [.slice A0_0 x0.l.length c0_0, .slice A0_1 x0.vers.length c0_1, .slice A0_2 x0.grads.length c0_2] 72, .ow kTensor 29 A0_0 c0_0 x0.l, .ow (Kd.int .i64) 3 A0_1 c0_1 x0.vers, .ow kTensor 29 A0_2 c0_2 x0.grads] _ [] rfl rfl rfl (by kernel_rfl) rfl) r30 hr30) ?_)
  rintro _ w33 a34 ⟨rfl, hk36⟩ hf35
  have hm37 := hm27.backO [1, 2, 3, 4] [0] _ _ rfl rfl (by kernel_rfl) hk36
  refine go 1 [] [0, 1, 4, 7] [(0, .pointer (some ⟨b0, 0, none⟩)), (1, .int .i64 x1), (4, .pointer (some ⟨b21, 0, none⟩)), (7, .int .i64 r30)] [] hf35 (by kernel_rfl) trivial fun a38 hf39 => ?_
  refine endL rfl ?_
  refine thenN ?_
  refine wp_seq ?_
  rcases if_split H0 with ⟨c40, H0⟩ | ⟨c40, H0⟩
  rotate_left
  · refine reg [.bool true] [0, 1, 4, 7, 12] [(0, .pointer (some ⟨b0, 0, none⟩)), (1, .int .i64 x1), (4, .pointer (some ⟨b21, 0, none⟩)), (7, .int .i64 r30), (12, .bool true)] [.is (((r30 : Int) != 0) = true)] hf39 (by kernel_rfl) ⟨(neT c40), trivial⟩ fun a277 hf278 => ?_
    refine thenN ?_
    refine condT hf278 (by kernel_rfl) ?_
    refine wp_seq ?_
    refine inReg ?_
    refine go 2 [] [4, 13, 14] [(4, .pointer (some ⟨b21, 0, none⟩)), (13, .agg #[.slice none 0 0, .slice none 0 0]), (14, .int .i64 r30)] [] hf278 (by kernel_rfl) trivial fun a279 hf280 => ?_
    refine listOf hf280 rfl (by kernel_rfl) (aStoreB (b := b21) (j := 0) (T := 29) (cs := [.slice none 0 0, .slice none 0 0]) (us := [.slice none 0 0, .slice none 0 0]) (cs' := [.slice none 0 0, .slice none 0 0]) hf280 (by kernel_rfl) (hm37.bxAt 4 rfl) (by kernel_rfl) (by kernel_rfl) (by kernel_rfl) ?_)
    intro w281 hx282 hg283
    have hm284 := hm37.setBox 4 _ rfl rfl hx282 hg283
    refine go 2 [] [4, 5, 6] [(4, .pointer (some ⟨b21, 0, none⟩)), (5, .int .i64 0), (6, .int .i64 r30)] [] hf280 (by kernel_rfl) trivial fun a285 hf286 => ?_
    refine endL rfl ?_
    refine thenN ?_
    refine wp_ret ?_
    refine thenR ?_
    have hm287 := hm284.nilOw (Kd.int .i64) 3
    have hm288 := hm287.nilOw Kd.float 26
    have hm289 : Mem B0 M w0 [.bx b0 [.slice A0_0 x0.l.length c0_0, .slice A0_1 x0.vers.length c0_1, .slice A0_2 x0.grads.length c0_2] 72, .ow kTensor 29 A0_0 c0_0 x0.l, .ow (Kd.int .i64) 3 A0_1 c0_1 x0.vers, .ow kTensor 29 A0_2 c0_2 x0.grads, .ow (Kd.int .i64) 3 none 0 ([] : (List Int)), .ow Kd.float 26 none 0 ([] : (List Nat))] w281 := hm288.sel [2, 3, 4, 5, 1, 0] _ rfl (by kernel_rfl)
    obtain rfl := Option.some.inj H0
    refine ret [.agg #[.slice none 0 0, .slice none 0 0]] [.agg #[.slice none 0 0, .slice none 0 0], .int .i64 0, .int .i64 r30] [.cell ⟨b21, 0, none⟩ (.slice none 0 0), .cell ⟨b21, 1, none⟩ (.slice none 0 0)] hf286 (by kernel_rfl) ⟨(hm284.cell 4 rfl rfl), (hm284.cell 4 rfl rfl), trivial⟩ ?_
    exact ⟨_, rfl, none, 0, none, 0, rfl, hm289⟩
  refine reg [.bool false] [0, 1, 4, 7, 12] [(0, .pointer (some ⟨b0, 0, none⟩)), (1, .int .i64 x1), (4, .pointer (some ⟨b21, 0, none⟩)), (7, .int .i64 r30), (12, .bool false)] [.is (((r30 : Int) != 0) = false)] hf39 (by kernel_rfl) ⟨(neF c40), trivial⟩ fun a41 hf42 => ?_
  refine thenN ?_
  refine condF hf42 (by kernel_rfl) ?_
  refine wp_skip ?_
  refine thenN ?_
  refine wp_seq ?_
  obtain ⟨g43, H0⟩ := if_guard H0
  obtain ⟨r44, hr44, H0⟩ := ob_split H0
  obtain ⟨g45, H0⟩ := if_guard H0
  refine midReg (fun (a : Act) (w : World) => ∃ (A56 : Option Addr) (c57 : Nat) (A58 : Option Addr) (c59 : Nat), Fr 30 a [(4, .pointer (some ⟨b21, 0, none⟩)), (5, .int .i64 (rd x0.vers x1)), (6, .int .i64 0)] ∧ Mem B0 M w0 [.ow (Kd.int .i64) 3 A56 c57 r44.Shape, .ow Kd.float 26 A58 c59 r44.Data, .bx b0 [.slice A0_0 x0.l.length c0_0, .slice A0_1 x0.vers.length c0_1, .slice A0_2 x0.grads.length c0_2] 72, .ow kTensor 29 A0_0 c0_0 x0.l, .ow (Kd.int .i64) 3 A0_1 c0_1 x0.vers, .ow kTensor 29 A0_2 c0_2 x0.grads, .bx b21 [.slice A56 r44.Shape.length c57, .slice A58 r44.Data.length c59] 29] w) ?_ ?_
  · refine anyG [15] (by kernel_rfl) fun w72 hg73 => ?_
    have hm74 := hm37.still hg73
    refine memoStep (R := fun (a : Act) (w : World) => ∃ (A87 : Option Addr) (c88 : Nat) (A89 : Option Addr) (c90 : Nat) (A81 : Option Addr) (c82 : Nat) (A79 : Option Addr) (c80 : Nat), Fr 30 a [(4, .pointer (some ⟨b21, 0, none⟩)), (22, .agg #[.slice A87 r44.Shape.length c88, .slice A89 r44.Data.length c90]), (28, .pointer (some ((ad A0_1).add ((x1).toNat * 1))))] ∧ Mem B0 M w0 [.ow (Kd.int .i64) 3 A87 c88 r44.Shape, .ow Kd.float 26 A89 c90 r44.Data, .sl Kd.float A81 c82 ((rd x0.l x1).Data), .sl (Kd.int .i64) A79 c80 ((rd x0.l x1).Shape), .bx b0 [.slice A0_0 x0.l.length c0_0, .slice A0_1 x0.vers.length c0_1, .slice A0_2 x0.grads.length c0_2] 72, .ow kTensor 29 A0_0 c0_0 x0.l, .ow (Kd.int .i64) 3 A0_1 c0_1 x0.vers, .ow kTensor 29 A0_2 c0_2 x0.grads, .bx b21 [.slice none 0 0, .slice none 0 0] 29] w) #[true, true, true, true, true, true, true, true, true, true, true, true, true, true, false, false, false, false] 4 ?_ fun L162 => ?_
    · rintro a163 w164 ⟨A87, c88, A89, c90, A81, c82, A79, c80, hf165, hm166⟩
      refine all2 14 15 (by kernel_rfl) ?_ ?_
      · have q167 := (hm166.owAt 6 rfl).int x1 g45.1 g45.2
        refine opOf hf165 rfl (by kernel_rfl) (aOne [.int .i64 (rd x0.vers x1)] (.int .i64 (rd x0.vers x1)) [.cell ((ad A0_1).add ((x1).toNat * 1)) (.int .i64 (rd x0.vers x1))] 29 hf165 (by kernel_rfl) rfl (by kernel_rfl) ⟨q167.2, trivial⟩ fun a168 hf169 => ?_)
        refine ⟨.inr (Gr.refl _ _), ?_⟩
        refine all1 15 (by kernel_rfl) ?_
        refine opOf hf169 rfl (by kernel_rfl) (aStoreB (b := b21) (j := 0) (T := 29) (cs := [.slice none 0 0, .slice none 0 0]) (us := [.slice A87 r44.Shape.length c88, .slice A89 r44.Data.length c90]) (cs' := [.slice A87 r44.Shape.length c88, .slice A89 r44.Data.length c90]) hf169 (by kernel_rfl) (hm166.bxAt 8 rfl) (by kernel_rfl) (by kernel_rfl) (by kernel_rfl) ?_)
        intro w170 hx171 hg172
        refine ⟨.inl (by decide), ?_⟩
        have hm173 := hm166.setBox 8 _ rfl rfl hx171 hg172
        refine quiet0 [16, 17] [] [4, 5, 6] #[true, true, true, true, true, true, true, true, true, true, true, true, true, true, true, true, true, true] [(4, .pointer (some ⟨b21, 0, none⟩)), (5, .int .i64 (rd x0.vers x1)), (6, .int .i64 0)] [] 0 rfl (by kernel_rfl) (fun _ _ _ _ _ h => nomatch h.1) hf169 (by kernel_rfl) trivial fun a174 hf175 => ?_
        refine allDone (by kernel_rfl) ⟨rfl, A87, c88, A89, c90, hf175.sel (l := [4, 5, 6]) (by kernel_rfl), hm173.sel [0, 1, 4, 5, 6, 7, 8] _ rfl (by kernel_rfl)⟩
      · refine opOf hf165 rfl (by kernel_rfl) (aStoreB (b := b21) (j := 0) (T := 29) (cs := [.slice none 0 0, .slice none 0 0]) (us := [.slice A87 r44.Shape.length c88, .slice A89 r44.Data.length c90]) (cs' := [.slice A87 r44.Shape.length c88, .slice A89 r44.Data.length c90]) hf165 (by kernel_rfl) (hm166.bxAt 8 rfl) (by kernel_rfl) (by kernel_rfl) (by kernel_rfl) ?_)
        intro w176 hx177 hg178
        refine ⟨.inl (by decide), ?_⟩
        have hm179 := hm166.setBox 8 _ rfl rfl hx177 hg178
        refine all1 14 (by kernel_rfl) ?_
        have q180 := (hm179.owAt 6 rfl).int x1 g45.1 g45.2
        refine opOf hf165 rfl (by kernel_rfl) (aOne [.int .i64 (rd x0.vers x1)] (.int .i64 (rd x0.vers x1)) [.cell ((ad A0_1).add ((x1).toNat * 1)) (.int .i64 (rd x0.vers x1))] 29 hf165 (by kernel_rfl) rfl (by kernel_rfl) ⟨q180.2, trivial⟩ fun a181 hf182 => ?_)
        refine ⟨.inr (Gr.refl _ _), ?_⟩
        refine quiet0 [16, 17] [] [4, 5, 6] #[true, true, true, true, true, true, true, true, true, true, true, true, true, true, true, true, true, true] [(4, .pointer (some ⟨b21, 0, none⟩)), (5, .int .i64 (rd x0.vers x1)), (6, .int .i64 0)] [] 0 rfl (by kernel_rfl) (fun _ _ _ _ _ h => nomatch h.1) hf182 (by kernel_rfl) trivial fun a183 hf184 => ?_
        refine allDone (by kernel_rfl) ⟨rfl, A87, c88, A89, c90, hf184.sel (l := [4, 5, 6]) (by kernel_rfl), hm179.sel [0, 1, 4, 5, 6, 7, 8] _ rfl (by kernel_rfl)⟩
    refine memoStep (R := fun (a : Act) (w : World) => ∃ (A79 : Option Addr) (c80 : Nat) (A81 : Option Addr) (c82 : Nat), Fr 30 a [(4, .pointer (some ⟨b21, 0, none⟩)), (21, .agg #[.slice A79 (((rd x0.l x1).Shape).length) c80, .slice A81 (((rd x0.l x1).Data).length) c82]), (28, .pointer (some ((ad A0_1).add ((x1).toNat * 1))))] ∧ Mem B0 M w0 [.sl Kd.float A81 c82 ((rd x0.l x1).Data), .sl (Kd.int .i64) A79 c80 ((rd x0.l x1).Shape), .bx b0 [.slice A0_0 x0.l.length c0_0, .slice A0_1 x0.vers.length c0_1, .slice A0_2 x0.grads.length c0_2] 72, .ow kTensor 29 A0_0 c0_0 x0.l, .ow (Kd.int .i64) 3 A0_1 c0_1 x0.vers, .ow kTensor 29 A0_2 c0_2 x0.grads, .bx b21 [.slice none 0 0, .slice none 0 0] 29] w) #[true, true, true, true, true, true, true, false, true, true, true, true, true, true, false, false, false, false] 5 ?_ fun L185 => ?_
    · rintro a186 w187 ⟨A79, c80, A81, c82, hf188, hm189⟩
      refine all2 7 14 (by kernel_rfl) ?_ ?_
      · refine opOf hf188 rfl (by kernel_rfl) (aCall (fid := 33) (args := [.agg #[.slice A79 (((rd x0.l x1).Shape).length) c80, .slice A81 (((rd x0.l x1).Data).length) c82]]) (d := 22) hf188 (by kernel_rfl) (by kernel_rfl) callable33 (tensor_Copy.calls _ _ (⟨((rd x0.l x1).Shape), ((rd x0.l x1).Data)⟩ : Tensor) A79 (((rd x0.l x1).Shape).length) c80 rfl A81 (((rd x0.l x1).Data).length) c82 rfl (hm189.give [1, 0] [.sl (Kd.int .i64) A79 c80 ((rd x0.l x1).Shape), .sl Kd.float A81 c82 ((rd x0.l x1).Data)] rfl rfl) r44 hr44) ?_)
        rintro _ w194 a195 ⟨A190, c191, A192, c193, rfl, hk197⟩ hf196
        refine ⟨.inr (Gr.still hk197.cum.none), ?_⟩
        have hm198 := hm189.back hk197
        exact L162 _ _ ⟨A190, c191, A192, c193, A81, c82, A79, c80, hf196.sel (l := [4, 22, 28]) (by kernel_rfl), hm198.sel [0, 1, 2, 3, 4, 5, 6, 7, 8] _ rfl (by kernel_rfl)⟩
      · have q199 := (hm189.owAt 4 rfl).int x1 g45.1 g45.2
        refine opOf hf188 rfl (by kernel_rfl) (aOne [.int .i64 (rd x0.vers x1)] (.int .i64 (rd x0.vers x1)) [.cell ((ad A0_1).add ((x1).toNat * 1)) (.int .i64 (rd x0.vers x1))] 29 hf188 (by kernel_rfl) rfl (by kernel_rfl) ⟨q199.2, trivial⟩ fun a200 hf201 => ?_)
        refine ⟨.inr (Gr.refl _ _), ?_⟩
        refine all1 7 (by kernel_rfl) ?_
        refine opOf hf201 rfl (by kernel_rfl) (aCall (fid := 33) (args := [.agg #[.slice A79 (((rd x0.l x1).Shape).length) c80, .slice A81 (((rd x0.l x1).Data).length) c82]]) (d := 22) hf201 (by kernel_rfl) (by kernel_rfl) callable33 (tensor_Copy.calls _ _ (⟨((rd x0.l x1).Shape), ((rd x0.l x1).Data)⟩ : Tensor) A79 (((rd x0.l x1).Shape).length) c80 rfl A81 (((rd x0.l x1).Data).length) c82 rfl (hm189.give [1, 0] [.sl (Kd.int .i64) A79 c80 ((rd x0.l x1).Shape), .sl Kd.float A81 c82 ((rd x0.l x1).Data)] rfl rfl) r44 hr44) ?_)
        rintro _ w206 a207 ⟨A202, c203, A204, c205, rfl, hk209⟩ hf208
        refine ⟨.inr (Gr.still hk209.cum.none), ?_⟩
        have hm210 := hm189.back hk209
        refine all1 15 (by kernel_rfl) ?_
        refine opOf hf208 rfl (by kernel_rfl) (aStoreB (b := b21) (j := 0) (T := 29) (cs := [.slice none 0 0, .slice none 0 0]) (us := [.slice A202 r44.Shape.length c203, .slice A204 r44.Data.length c205]) (cs' := [.slice A202 r44.Shape.length c203, .slice A204 r44.Data.length c205]) hf208 (by kernel_rfl) (hm210.bxAt 8 rfl) (by kernel_rfl) (by kernel_rfl) (by kernel_rfl) ?_)
        intro w211 hx212 hg213
        refine ⟨.inl (by decide), ?_⟩
        have hm214 := hm210.setBox 8 _ rfl rfl hx212 hg213
        refine quiet0 [16, 17] [] [4, 5, 6] #[true, true, true, true, true, true, true, true, true, true, true, true, true, true, true, true, true, true] [(4, .pointer (some ⟨b21, 0, none⟩)), (5, .int .i64 (rd x0.vers x1)), (6, .int .i64 0)] [] 0 rfl (by kernel_rfl) (fun _ _ _ _ _ h => nomatch h.1) hf208 (by kernel_rfl) trivial fun a215 hf216 => ?_
        refine allDone (by kernel_rfl) ⟨rfl, A202, c203, A204, c205, hf216.sel (l := [4, 5, 6]) (by kernel_rfl), hm214.sel [0, 1, 4, 5, 6, 7, 8] _ rfl (by kernel_rfl)⟩
    refine memoStep (R := fun (a : Act) (w : World) => ∃ (A79 : Option Addr) (c80 : Nat) (A81 : Option Addr) (c82 : Nat) (A87 : Option Addr) (c88 : Nat) (A89 : Option Addr) (c90 : Nat), Fr 30 a [(4, .pointer (some ⟨b21, 0, none⟩)), (21, .agg #[.slice A79 (((rd x0.l x1).Shape).length) c80, .slice A81 (((rd x0.l x1).Data).length) c82]), (22, .agg #[.slice A87 r44.Shape.length c88, .slice A89 r44.Data.length c90]), (25, .pointer (some ⟨b0, 1, none⟩)), (27, .int .i64 x1)] ∧ Mem B0 M w0 [.ow (Kd.int .i64) 3 A87 c88 r44.Shape, .ow Kd.float 26 A89 c90 r44.Data, .sl Kd.float A81 c82 ((rd x0.l x1).Data), .sl (Kd.int .i64) A79 c80 ((rd x0.l x1).Shape), .bx b0 [.slice A0_0 x0.l.length c0_0, .slice A0_1 x0.vers.length c0_1, .slice A0_2 x0.grads.length c0_2] 72, .ow kTensor 29 A0_0 c0_0 x0.l, .ow (Kd.int .i64) 3 A0_1 c0_1 x0.vers, .ow kTensor 29 A0_2 c0_2 x0.grads, .bx b21 [.slice none 0 0, .slice none 0 0] 29] w) #[true, true, true, true, true, true, true, true, true, true, true, false, true, false, false, false, false, false] 6 ?_ fun L217 => ?_
    · rintro a218 w219 ⟨A79, c80, A81, c82, A87, c88, A89, c90, hf220, hm221⟩
      refine all2 11 15 (by kernel_rfl) ?_ ?_
      · refine opOf hf220 rfl (by kernel_rfl) (aOne [.slice A0_1 x0.vers.length c0_1] (.slice A0_1 x0.vers.length c0_1) [.cell ⟨b0, 1, none⟩ (.slice A0_1 x0.vers.length c0_1)] 26 hf220 (by kernel_rfl) rfl (by kernel_rfl) ⟨(hm221.cell 4 rfl rfl), trivial⟩ fun a222 hf223 => ?_)
        refine ⟨.inr (Gr.refl _ _), ?_⟩
        have q224 := (hm221.owAt 6 rfl).int x1 g45.1 g45.2
        refine quiet0 [13] [] [4, 22, 28] #[true, true, true, true, true, true, true, true, true, true, true, true, true, true, false, false, false, false] [(4, .pointer (some ⟨b21, 0, none⟩)), (22, .agg #[.slice A87 r44.Shape.length c88, .slice A89 r44.Data.length c90]), (28, .pointer (some ((ad A0_1).add ((x1).toNat * 1))))] [.is (Option.isSome A0_1 = true), .is (0 ≤ x1 ∧ x1 < (x0.vers.length : Int))] 4 rfl (by kernel_rfl) (fun _ _ _ _ _ h => nomatch h.1) hf223 (by kernel_rfl) ⟨q224.1, g45, trivial⟩ fun a225 hf226 => ?_
        exact L162 _ _ ⟨A87, c88, A89, c90, A81, c82, A79, c80, hf226.sel (l := [4, 22, 28]) (by kernel_rfl), hm221.sel [0, 1, 2, 3, 4, 5, 6, 7, 8] _ rfl (by kernel_rfl)⟩
      · refine opOf hf220 rfl (by kernel_rfl) (aStoreB (b := b21) (j := 0) (T := 29) (cs := [.slice none 0 0, .slice none 0 0]) (us := [.slice A87 r44.Shape.length c88, .slice A89 r44.Data.length c90]) (cs' := [.slice A87 r44.Shape.length c88, .slice A89 r44.Data.length c90]) hf220 (by kernel_rfl) (hm221.bxAt 8 rfl) (by kernel_rfl) (by kernel_rfl) (by kernel_rfl) ?_)
        intro w227 hx228 hg229
        refine ⟨.inl (by decide), ?_⟩
        have hm230 := hm221.setBox 8 _ rfl rfl hx228 hg229
        refine all1 11 (by kernel_rfl) ?_
        refine opOf hf220 rfl (by kernel_rfl) (aOne [.slice A0_1 x0.vers.length c0_1] (.slice A0_1 x0.vers.length c0_1) [.cell ⟨b0, 1, none⟩ (.slice A0_1 x0.vers.length c0_1)] 26 hf220 (by kernel_rfl) rfl (by kernel_rfl) ⟨(hm230.cell 4 rfl rfl), trivial⟩ fun a231 hf232 => ?_)
        refine ⟨.inr (Gr.refl _ _), ?_⟩
        have q233 := (hm230.owAt 6 rfl).int x1 g45.1 g45.2
        refine quiet0 [13] [] [4, 28] #[true, true, true, true, true, true, true, true, true, true, true, true, true, true, false, true, false, false] [(4, .pointer (some ⟨b21, 0, none⟩)), (28, .pointer (some ((ad A0_1).add ((x1).toNat * 1))))] [.is (Option.isSome A0_1 = true), .is (0 ≤ x1 ∧ x1 < (x0.vers.length : Int))] 3 rfl (by kernel_rfl) (fun _ _ _ _ _ h => nomatch h.1) hf232 (by kernel_rfl) ⟨q233.1, g45, trivial⟩ fun a234 hf235 => ?_
        refine all1 14 (by kernel_rfl) ?_
        refine opOf hf235 rfl (by kernel_rfl) (aOne [.int .i64 (rd x0.vers x1)] (.int .i64 (rd x0.vers x1)) [.cell ((ad A0_1).add ((x1).toNat * 1)) (.int .i64 (rd x0.vers x1))] 29 hf235 (by kernel_rfl) rfl (by kernel_rfl) ⟨q233.2, trivial⟩ fun a236 hf237 => ?_)
        refine ⟨.inr (Gr.refl _ _), ?_⟩
        refine quiet0 [16, 17] [] [4, 5, 6] #[true, true, true, true, true, true, true, true, true, true, true, true, true, true, true, true, true, true] [(4, .pointer (some ⟨b21, 0, none⟩)), (5, .int .i64 (rd x0.vers x1)), (6, .int .i64 0)] [] 0 rfl (by kernel_rfl) (fun _ _ _ _ _ h => nomatch h.1) hf237 (by kernel_rfl) trivial fun a238 hf239 => ?_
        refine allDone (by kernel_rfl) ⟨rfl, A87, c88, A89, c90, hf239.sel (l := [4, 5, 6]) (by kernel_rfl), hm230.sel [0, 1, 4, 5, 6, 7, 8] _ rfl (by kernel_rfl)⟩
    refine memoStep (R := fun (a : Act) (w : World) => ∃ (A79 : Option Addr) (c80 : Nat) (A81 : Option Addr) (c82 : Nat), Fr 30 a [(4, .pointer (some ⟨b21, 0, none⟩)), (21, .agg #[.slice A79 (((rd x0.l x1).Shape).length) c80, .slice A81 (((rd x0.l x1).Data).length) c82]), (25, .pointer (some ⟨b0, 1, none⟩)), (27, .int .i64 x1)] ∧ Mem B0 M w0 [.sl Kd.float A81 c82 ((rd x0.l x1).Data), .sl (Kd.int .i64) A79 c80 ((rd x0.l x1).Shape), .bx b0 [.slice A0_0 x0.l.length c0_0, .slice A0_1 x0.vers.length c0_1, .slice A0_2 x0.grads.length c0_2] 72, .ow kTensor 29 A0_0 c0_0 x0.l, .ow (Kd.int .i64) 3 A0_1 c0_1 x0.vers, .ow kTensor 29 A0_2 c0_2 x0.grads, .bx b21 [.slice none 0 0, .slice none 0 0] 29] w) #[true, true, true, true, true, true, true, false, true, true, true, false, true, false, false, false, false, false] 7 ?_ fun L240 => ?_
    · rintro a241 w242 ⟨A79, c80, A81, c82, hf243, hm244⟩
      refine all2 7 11 (by kernel_rfl) ?_ ?_
      · refine opOf hf243 rfl (by kernel_rfl) (aCall (fid := 33) (args := [.agg #[.slice A79 (((rd x0.l x1).Shape).length) c80, .slice A81 (((rd x0.l x1).Data).length) c82]]) (d := 22) hf243 (by kernel_rfl) (by kernel_rfl) callable33 (tensor_Copy.calls _ _ (⟨((rd x0.l x1).Shape), ((rd x0.l x1).Data)⟩ : Tensor) A79 (((rd x0.l x1).Shape).length) c80 rfl A81 (((rd x0.l x1).Data).length) c82 rfl (hm244.give [1, 0] [.sl (Kd.int .i64) A79 c80 ((rd x0.l x1).Shape), .sl Kd.float A81 c82 ((rd x0.l x1).Data)] rfl rfl) r44 hr44) ?_)
        rintro _ w249 a250 ⟨A245, c246, A247, c248, rfl, hk252⟩ hf251
        refine ⟨.inr (Gr.still hk252.cum.none), ?_⟩
        have hm253 := hm244.back hk252
        exact L217 _ _ ⟨A79, c80, A81, c82, A245, c246, A247, c248, hf251.sel (l := [4, 21, 22, 25, 27]) (by kernel_rfl), hm253.sel [0, 1, 2, 3, 4, 5, 6, 7, 8] _ rfl (by kernel_rfl)⟩
      · refine opOf hf243 rfl (by kernel_rfl) (aOne [.slice A0_1 x0.vers.length c0_1] (.slice A0_1 x0.vers.length c0_1) [.cell ⟨b0, 1, none⟩ (.slice A0_1 x0.vers.length c0_1)] 26 hf243 (by kernel_rfl) rfl (by kernel_rfl) ⟨(hm244.cell 2 rfl rfl), trivial⟩ fun a254 hf255 => ?_)
        refine ⟨.inr (Gr.refl _ _), ?_⟩
        have q256 := (hm244.owAt 4 rfl).int x1 g45.1 g45.2
        refine quiet0 [13] [] [4, 21, 28] #[true, true, true, true, true, true, true, false, true, true, true, true, true, true, false, false, false, false] [(4, .pointer (some ⟨b21, 0, none⟩)), (21, .agg #[.slice A79 (((rd x0.l x1).Shape).length) c80, .slice A81 (((rd x0.l x1).Data).length) c82]), (28, .pointer (some ((ad A0_1).add ((x1).toNat * 1))))] [.is (Option.isSome A0_1 = true), .is (0 ≤ x1 ∧ x1 < (x0.vers.length : Int))] 5 rfl (by kernel_rfl) (fun _ _ _ _ _ h => nomatch h.1) hf255 (by kernel_rfl) ⟨q256.1, g45, trivial⟩ fun a257 hf258 => ?_
        exact L185 _ _ ⟨A79, c80, A81, c82, hf258.sel (l := [4, 21, 28]) (by kernel_rfl), hm244.sel [0, 1, 2, 3, 4, 5, 6] _ rfl (by kernel_rfl)⟩
    have q259 := (hm74.owAt 1 rfl).cells x1 g43.1 g43.2
    obtain ⟨us260, hr261, hc262⟩ := q259.2
    obtain ⟨A263, c264, A265, c266, rfl, ⟨pA263, sA263⟩, ⟨pA265, sA265⟩⟩ := kTensor.open hr261
    have hm267 := hm74.elem pA263 sA263
    have hm268 := hm267.elem pA265 sA265
    refine quiet0 [0, 1, 2, 3, 4, 5, 6, 8, 9, 10, 12] [.slice A0_0 x0.l.length c0_0, .agg #[.slice A263 (((rd x0.l x1).Shape).length) c264, .slice A265 (((rd x0.l x1).Data).length) c266]] [4, 21, 25, 27] #[true, true, true, true, true, true, true, false, true, true, true, false, true, false, false, false, false, false] [(4, .pointer (some ⟨b21, 0, none⟩)), (21, .agg #[.slice A263 (((rd x0.l x1).Shape).length) c264, .slice A265 (((rd x0.l x1).Data).length) c266]), (25, .pointer (some ⟨b0, 1, none⟩)), (27, .int .i64 x1)] [.cell ⟨b0, 0, none⟩ (.slice A0_0 x0.l.length c0_0), .is (Option.isSome A0_0 = true), .is (0 ≤ x1 ∧ x1 < (x0.l.length : Int)), .cell ((ad A0_0).add ((x1).toNat * 2)) (.slice A263 (((rd x0.l x1).Shape).length) c264), .cell (((ad A0_0).add ((x1).toNat * 2)).add 1) (.slice A265 (((rd x0.l x1).Data).length) c266)] 7 rfl (by kernel_rfl) (fun _ _ _ _ _ h => nomatch h.1) hf42 (by kernel_rfl) ⟨(hm74.cell 0 rfl rfl), q259.1, g43, (hc262 0 _ rfl), (hc262 1 _ rfl), trivial⟩ fun a269 hf270 => ?_
    exact L240 _ _ ⟨A263, c264, A265, c266, hf270.sel (l := [4, 21, 25, 27]) (by kernel_rfl), hm268.sel [0, 1, 2, 3, 4, 5, 6] _ rfl (by kernel_rfl)⟩
  rintro a271 w272 ⟨A56, c57, A58, c59, hf273, hm274⟩
  refine thenN ?_
  refine wp_ret ?_
  have hm275 : Mem B0 M w0 [.bx b0 [.slice A0_0 x0.l.length c0_0, .slice A0_1 x0.vers.length c0_1, .slice A0_2 x0.grads.length c0_2] 72, .ow kTensor 29 A0_0 c0_0 x0.l, .ow (Kd.int .i64) 3 A0_1 c0_1 x0.vers, .ow kTensor 29 A0_2 c0_2 x0.grads, .ow (Kd.int .i64) 3 A56 c57 r44.Shape, .ow Kd.float 26 A58 c59 r44.Data] w272 := hm274.sel [2, 3, 4, 5, 0, 1] _ rfl (by kernel_rfl)
  obtain rfl := Option.some.inj H0
  refine ret [.agg #[.slice A56 r44.Shape.length c57, .slice A58 r44.Data.length c59]] [.agg #[.slice A56 r44.Shape.length c57, .slice A58 r44.Data.length c59], .int .i64 (rd x0.vers x1), .int .i64 0] [.cell ⟨b21, 0, none⟩ (.slice A56 r44.Shape.length c57), .cell ⟨b21, 1, none⟩ (.slice A58 r44.Data.length c59)] hf273 (by kernel_rfl) ⟨(hm274.cell 6 rfl rfl), (hm274.cell 6 rfl rfl), trivial⟩ ?_
  exact ⟨_, rfl, A56, c57, A58, c59, rfl, hm275⟩
end Go.Proofs.Ytolhkamfpfjodaa
