/- Printed by gen.py. -/
import Derived.Test.YtkdhahdfkonilaaDoorF0
namespace Go.Proofs.YtkdhahdfkonilaaDoor
open Go Go.RowKit
set_option linter.unusedSimpArgs false
set_option linter.unusedVariables false
set_option linter.unnecessarySimpa false
/-! ### (*backstitch/script.writer).nums -/
noncomputable def script_writer_nums.l0 (x2 : (List Int)) (x1 : (List UInt8)) (s25 : (Int × Bool × (List (List UInt8)))) : Step (Int × Bool × (List (List UInt8))) (Int × Bool × (List (List UInt8))) :=
  if s25.1 < (x2.length : Int) then (if 0 ≤ s25.1 ∧ s25.1 < (x2.length : Int) then (if s25.2.1 = true then (bindS (strconv_Itoa.f (rd x2 s25.1)) fun r48 =>
  if x1.length + r48.length ≤ 9223372036854775807 then (if s25.2.2.length + 1 ≤ 549755813888 then (.next ((w64 (s25.1 + 1)), true, (s25.2.2 ++ ([(x1 ++ r48)] : List (List UInt8)))))
  else .bad)
  else .bad)
  else (if (rd x2 s25.1) < 0 then (bindS (strconv_Itoa.f (rd x2 s25.1)) fun r162 =>
  if x1.length + r162.length ≤ 9223372036854775807 then (if s25.2.2.length + 1 ≤ 549755813888 then (.next ((w64 (s25.1 + 1)), true, (s25.2.2 ++ ([(x1 ++ r162)] : List (List UInt8)))))
  else .bad)
  else .bad)
  else (if 999999999 < (rd x2 s25.1) then (bindS (strconv_Itoa.f (rd x2 s25.1)) fun r275 =>
  if x1.length + r275.length ≤ 9223372036854775807 then (if s25.2.2.length + 1 ≤ 549755813888 then (.next ((w64 (s25.1 + 1)), true, (s25.2.2 ++ ([(x1 ++ r275)] : List (List UInt8)))))
  else .bad)
  else .bad)
  else (bindS (strconv_Itoa.f (rd x2 s25.1)) fun r387 =>
  if x1.length + r387.length ≤ 9223372036854775807 then (if s25.2.2.length + 1 ≤ 549755813888 then (.next ((w64 (s25.1 + 1)), false, (s25.2.2 ++ ([(x1 ++ r387)] : List (List UInt8)))))
  else .bad)
  else .bad))))
  else .bad)
  else (.done (s25.1, s25.2.1, s25.2.2))
noncomputable def script_writer_nums.f (x0 : Writer) (x1 : (List UInt8)) (x2 : (List Int)) : Option ((List (List UInt8)) × Bool) :=
  (loop (script_writer_nums.l0 x2 x1) (0, x0.bad, x0.b)).bind fun r28 =>
  some (r28.2.2, r28.2.1)
set_option maxRecDepth 100000 in
set_option maxHeartbeats 4000000 in
theorem script_writer_nums.calls (B0 : List (Option Nat)) (M : List (Option Nat)) (w0 : World) (x0 : Writer) (b0 : Nat) (A0_0 : Option Addr) (n0_0 c0_0 : Nat) (e0_0 : n0_0 = x0.b.length) (x1 : (List UInt8)) (x2 : (List Int)) (A2 : Option Addr) (n2 c2 : Nat) (e2 : n2 = x2.length) (hm0 : Mem B0 M w0 [.bx b0 [.slice A0_0 n0_0 c0_0, .bool x0.bad] 62, .ow Kd.str 9 A0_0 c0_0 x0.b, .sl (Kd.int .i64) A2 c2 x2] w0) (r : ((List (List UInt8)) × Bool)) (H0 : script_writer_nums.f x0 x1 x2 = some r) (hG : Glob B0 w0) :
    Calls Tryd.prog 38 [.pointer (some ⟨b0, 0, none⟩), .string (bs x1), .slice A2 n2 c2].toArray w0 (fun x w' => ∃ v, x = .returned v ∧ ∃ Ap0_0 cp0_0, v = .tuple #[] ∧ Mem B0 M w0 [.bx b0 [.slice Ap0_0 r.1.length cp0_0, .bool r.2] 62, .ow Kd.str 9 Ap0_0 cp0_0 r.1] w') := by
  subst e0_0
  subst e2
  unfold script_writer_nums.f at H0
  refine enter (n := 43) Tryd.func38 rfl rfl (by kernel_rfl) fun a0 (hf0 : Fr 43 a0 [(0, .pointer (some ⟨b0, 0, none⟩)), (1, .string (bs x1)), (2, .slice A2 x2.length c2)]) => ?_
  refine wp_seq ?_
  refine reg [] [0, 1, 8, 9, 10] [(0, .pointer (some ⟨b0, 0, none⟩)), (1, .string (bs x1)), (8, .slice A2 x2.length c2), (9, .int .i64 (x2.length : Int)), (10, .int .i64 0)] [] hf0 (by kernel_rfl) trivial fun a21 hf22 => ?_
  refine thenN ?_
  obtain ⟨r28, hr28, H0⟩ := ob_split H0
  refine wpBlock (Mid := fun (a : Act) (w : World) => ∃ (A26 : Option Addr) (c27 : Nat), Fr 43 a [(0, .pointer (some ⟨b0, 0, none⟩)), (1, .string (bs x1)), (8, .slice A2 x2.length c2), (9, .int .i64 (x2.length : Int)), (10, .int .i64 r28.1)] ∧ Mem B0 M w0 [.bx b0 [.slice A26 r28.2.2.length c27, .bool r28.2.1] 62, .ow Kd.str 9 A26 c27 r28.2.2, .sl (Kd.int .i64) A2 c2 x2] w) ?_ ?_
  · refine wpLoop (script_writer_nums.l0 x2 x1) r28 (fun (s25 : (Int × Bool × (List (List UInt8)))) (a : Act) (w : World) => ∃ (A26 : Option Addr) (c27 : Nat), Fr 43 a [(0, .pointer (some ⟨b0, 0, none⟩)), (1, .string (bs x1)), (8, .slice A2 x2.length c2), (9, .int .i64 (x2.length : Int)), (10, .int .i64 s25.1)] ∧ Mem B0 M w0 [.bx b0 [.slice A26 s25.2.2.length c27, .bool s25.2.1] 62, .ow Kd.str 9 A26 c27 s25.2.2, .sl (Kd.int .i64) A2 c2 x2] w) (0, x0.bad, x0.b) hr28 ⟨A0_0, c0_0, hf22.sel (l := [0, 1, 8, 9, 10]) (by kernel_rfl), hm0.sel [0, 1, 2] _ rfl (by kernel_rfl)⟩ ?_
    rintro g29 s25 a30 w31 H1 ⟨A26, c27, hf32, hm33⟩
    unfold script_writer_nums.l0 at H1
    refine wp_seq ?_
    rcases ifS_split H1 with ⟨c34, H1⟩ | ⟨c34, H1⟩
    rotate_left
    · refine reg [.bool false] [0, 1, 8, 9, 10, 11] [(0, .pointer (some ⟨b0, 0, none⟩)), (1, .string (bs x1)), (8, .slice A2 x2.length c2), (9, .int .i64 (x2.length : Int)), (10, .int .i64 s25.1), (11, .bool false)] [.is (decide (s25.1 < (x2.length : Int)) = false)] hf32 (by kernel_rfl) ⟨(decide_eq_false c34), trivial⟩ fun a493 hf494 => ?_
      refine thenN ?_
      refine wp_seq ?_
      refine condF hf494 (by kernel_rfl) ?_
      refine wp_exit ?_
      refine thenE ?_
      refine thenE ?_
      obtain rfl := Option.some.inj H1
      exact .inl ⟨rfl, A26, c27, hf494.sel (l := [0, 1, 8, 9, 10]) (by kernel_rfl), hm33.sel [0, 1, 2] _ rfl (by kernel_rfl)⟩
    refine reg [.bool true] [0, 1, 8, 9, 10, 11] [(0, .pointer (some ⟨b0, 0, none⟩)), (1, .string (bs x1)), (8, .slice A2 x2.length c2), (9, .int .i64 (x2.length : Int)), (10, .int .i64 s25.1), (11, .bool true)] [.is (decide (s25.1 < (x2.length : Int)) = true)] hf32 (by kernel_rfl) ⟨(decide_eq_true c34), trivial⟩ fun a35 hf36 => ?_
    refine thenN ?_
    refine wp_seq ?_
    refine condT hf36 (by kernel_rfl) ?_
    refine wp_skip ?_
    refine thenN ?_
    refine wp_seq ?_
    refine wp_block ?_
    refine wp_seq ?_
    obtain ⟨g37, H1⟩ := ifS_guard H1
    have q38 := (hm33.slAt 2 rfl).int s25.1 g37.1 g37.2
    refine reg [.int .i64 (rd x2 s25.1)] [0, 1, 7, 8, 9, 10] [(0, .pointer (some ⟨b0, 0, none⟩)), (1, .string (bs x1)), (7, .int .i64 (rd x2 s25.1)), (8, .slice A2 x2.length c2), (9, .int .i64 (x2.length : Int)), (10, .int .i64 s25.1)] [.is (Option.isSome A2 = true), .is (0 ≤ s25.1 ∧ s25.1 < (x2.length : Int)), .cell ((ad A2).add ((s25.1).toNat * 1)) (.int .i64 (rd x2 s25.1))] hf36 (by kernel_rfl) ⟨q38.1, g37, q38.2, trivial⟩ fun a39 hf40 => ?_
    refine thenN ?_
    refine wp_seq ?_
    rcases ifbS_split H1 with ⟨c41, H1⟩ | ⟨c41, H1⟩
    · rw [c41] at hm33
      refine inReg ?_
      refine go 15 [.bool true] [0, 1, 7, 8, 9, 10, 26, 28] [(0, .pointer (some ⟨b0, 0, none⟩)), (1, .string (bs x1)), (7, .int .i64 (rd x2 s25.1)), (8, .slice A2 x2.length c2), (9, .int .i64 (x2.length : Int)), (10, .int .i64 s25.1), (26, .bool true), (28, .pointer (some ⟨b0, 1, none⟩))] [.cell ⟨b0, 1, none⟩ (.bool true)] hf40 (by kernel_rfl) ⟨(hm33.cell 0 rfl rfl), trivial⟩ fun a42 hf43 => ?_
      refine listOf hf43 rfl (by kernel_rfl) (aStoreB (b := b0) (j := 1) (T := 62) (cs := [.slice A26 s25.2.2.length c27, .bool true]) (us := [.bool true]) (cs' := [.slice A26 s25.2.2.length c27, .bool true]) hf43 (by kernel_rfl) (hm33.bxAt 0 rfl) (by kernel_rfl) (by kernel_rfl) (by kernel_rfl) ?_)
      intro w44 hx45 hg46
      have hm47 := hm33.setBox 0 _ rfl rfl hx45 hg46
      refine endL rfl ?_
      refine thenN ?_
      obtain ⟨r48, hr48, H1⟩ := obS_split H1
      obtain ⟨g49, H1⟩ := ifS_guard H1
      obtain ⟨g50, H1⟩ := ifS_guard H1
      refine midReg (fun (a : Act) (w : World) => ∃ (A63 : Option Addr) (c65 : Nat), Fr 43 a [(0, .pointer (some ⟨b0, 0, none⟩)), (1, .string (bs x1)), (8, .slice A2 x2.length c2), (9, .int .i64 (x2.length : Int)), (10, .int .i64 s25.1)] ∧ Mem B0 M w0 [.bx b0 [.slice A63 ((s25.2.2 ++ ([(x1 ++ r48)] : List (List UInt8))).length) c65, .bool true] 62, .ow Kd.str 9 A63 c65 (s25.2.2 ++ ([(x1 ++ r48)] : List (List UInt8))), .sl (Kd.int .i64) A2 c2 x2] w) ?_ ?_
      · refine anyG (K := [bk A26]) [13] (by kernel_rfl) fun w80 hg81 => ?_
        have hm82 := hm47.still hg81
        refine quiet0 [0, 1, 2, 3, 4, 5, 6] [.slice A26 s25.2.2.length c27] [0, 1, 8, 9, 10, 29, 33, 34, 35] #[true, true, true, true, true, true, true, false, false, false, false, false, false, false] [(0, .pointer (some ⟨b0, 0, none⟩)), (1, .string (bs x1)), (8, .slice A2 x2.length c2), (9, .int .i64 (x2.length : Int)), (10, .int .i64 s25.1), (29, .pointer (some ⟨b0, 0, none⟩)), (33, .slice A26 s25.2.2.length c27), (34, .string (bs x1)), (35, .int .i64 (rd x2 s25.1))] [.cell ⟨b0, 0, none⟩ (.slice A26 s25.2.2.length c27), .is (some (⟨b0, 0, none⟩ : Addr).block ∉ [bk A26])] 7 rfl (by kernel_rfl) (fun _ _ _ _ _ h => nomatch h.1) hf43 (by kernel_rfl) ⟨(hm82.cell 0 rfl rfl), (hm82.bxK 0 [1] _ rfl rfl rfl), trivial⟩ fun a116 hf117 => ?_
        refine all1 7 (by kernel_rfl) ?_
        refine opOf hf117 rfl (by kernel_rfl) (aCall (fid := 48) (args := [.int .i64 (rd x2 s25.1)]) (d := 36) hf117 (by kernel_rfl) (by kernel_rfl) callable48 (strconv_Itoa.calls _ _ (rd x2 s25.1) (hm82.give [] [] rfl rfl) r48 hr48 (hG.at hm82)) ?_)
        rintro _ w118 a119 ⟨rfl, hk121⟩ hf120
        refine ⟨.inr (Gr.still hk121.cum.none), ?_⟩
        have hm122 := hm82.still hk121.cum.none
        refine quiet0 [8] [.string (bs (x1 ++ r48))] [0, 1, 8, 9, 10, 29, 33, 37] #[true, true, true, true, true, true, true, true, true, false, false, false, false, false] [(0, .pointer (some ⟨b0, 0, none⟩)), (1, .string (bs x1)), (8, .slice A2 x2.length c2), (9, .int .i64 (x2.length : Int)), (10, .int .i64 s25.1), (29, .pointer (some ⟨b0, 0, none⟩)), (33, .slice A26 s25.2.2.length c27), (37, .string (bs (x1 ++ r48)))] [.is (bs (x1 ++ r48) = bs x1 ++ bs r48 ∧ (bs x1).size + (bs r48).size ≤ 9223372036854775807)] 5 rfl (by kernel_rfl) (fun _ _ _ _ _ h => nomatch h.1) hf120 (by kernel_rfl) ⟨(catOk g49), trivial⟩ fun a123 hf124 => ?_
        refine all1 9 (by kernel_rfl) ?_
        refine opOf hf124 rfl (by kernel_rfl) (aLit (cs := [.string (bs (x1 ++ r48))]) (E := 9) (len := 1) (d := 38) hf124 (by kernel_rfl) (by kernel_rfl) ?_)
        intro b125 w126 a127 hbb125 hx129 hg130 hf128
        refine ⟨.inr (Gr.still hg130), ?_⟩
        have hm122s := hm122.still hg130
        have hm131 := Mem.lit (kd := Kd.str) (xs := ([(x1 ++ r48)] : List (List UInt8))) hm122 hbb125 hx129 hg130 (Els.one (kd := Kd.str) (us := [.string (bs (x1 ++ r48))]) (x := (x1 ++ r48)) rfl)
        refine all1 10 (by kernel_rfl) ?_
        have e140 : s25.2.2.length = s25.2.2.length := rfl
        have e141 : 1 = ([(x1 ++ r48)] : List (List UInt8)).length := rfl
        refine opOf hf128 rfl (by kernel_rfl) (aApp (kd := Kd.str) (base := 0) (E := 9) (A := A26) (B := (some ⟨b125, 0, none⟩)) (c := c27) (c2 := 1) (xs := s25.2.2) (ys := ([(x1 ++ r48)] : List (List UInt8))) (k := s25.2.2.length) (m := 1) (sz := 1) (d := 39) hf128 (by kernel_rfl) e140 e141 (by kernel_rfl) rfl (by kernel_rfl) (hm131.at 2 rfl) (hm131.at2 2 0 rfl rfl).2 (hm131.cpAt 0 rfl) (Nat.zero_le _) (by have := g50; omega) ?_)
        intro A132 c133 w134 a135 ho137 hg138 hr139 hf136
        refine ⟨.inr (Gr.own hg138 (by simp)), ?_⟩
        have hm142 := hm131.setOwn 2 _ rfl rfl ho137 hg138 hr139
        refine quiet0 [11, 12] [] [0, 1, 8, 9, 10, 39, 41] #[true, true, true, true, true, true, true, true, true, true, true, true, true, false] [(0, .pointer (some ⟨b0, 0, none⟩)), (1, .string (bs x1)), (8, .slice A2 x2.length c2), (9, .int .i64 (x2.length : Int)), (10, .int .i64 s25.1), (39, .slice A132 ((s25.2.2 ++ ([(x1 ++ r48)] : List (List UInt8))).length) c133), (41, .pointer (some ⟨b0, 0, none⟩))] [] 1 rfl (by kernel_rfl) (fun _ _ _ _ _ h => nomatch h.1) hf136 (by kernel_rfl) trivial fun a143 hf144 => ?_
        refine all1 13 (by kernel_rfl) ?_
        refine opOf hf144 rfl (by kernel_rfl) (aStoreB (b := b0) (j := 0) (T := 62) (cs := [.slice A26 s25.2.2.length c27, .bool true]) (us := [.slice A132 ((s25.2.2 ++ ([(x1 ++ r48)] : List (List UInt8))).length) c133]) (cs' := [.slice A132 ((s25.2.2 ++ ([(x1 ++ r48)] : List (List UInt8))).length) c133, .bool true]) hf144 (by kernel_rfl) (hm142.bxAt 1 rfl) (by kernel_rfl) (by kernel_rfl) (by kernel_rfl) ?_)
        intro w145 hx146 hg147
        refine ⟨.inl (by decide), ?_⟩
        have hm148 := hm142.setBox 1 _ rfl rfl hx146 hg147
        refine allDone (by kernel_rfl) ⟨rfl, A132, c133, hf144.sel (l := [0, 1, 8, 9, 10]) (by kernel_rfl), hm148.sel [1, 2, 3] _ rfl (by kernel_rfl)⟩
      rintro a149 w150 ⟨A63, c65, hf151, hm152⟩
      refine blkN ?_
      refine thenN ?_
      refine reg [] [0, 1, 8, 9, 10] [(0, .pointer (some ⟨b0, 0, none⟩)), (1, .string (bs x1)), (8, .slice A2 x2.length c2), (9, .int .i64 (x2.length : Int)), (10, .int .i64 (w64 (s25.1 + 1)))] [] hf151 (by kernel_rfl) trivial fun a153 hf154 => ?_
      exact ⟨((w64 (s25.1 + 1)), true, (s25.2.2 ++ ([(x1 ++ r48)] : List (List UInt8)))), H1, A63, c65, hf154.sel (l := [0, 1, 8, 9, 10]) (by kernel_rfl), hm152.sel [0, 1, 2] _ rfl (by kernel_rfl)⟩
    rw [c41] at hm33
    rcases ifS_split H1 with ⟨c155, H1⟩ | ⟨c155, H1⟩
    · refine inReg ?_
      refine go 15 [.bool false, .bool true] [0, 1, 7, 8, 9, 10, 26, 28] [(0, .pointer (some ⟨b0, 0, none⟩)), (1, .string (bs x1)), (7, .int .i64 (rd x2 s25.1)), (8, .slice A2 x2.length c2), (9, .int .i64 (x2.length : Int)), (10, .int .i64 s25.1), (26, .bool true), (28, .pointer (some ⟨b0, 1, none⟩))] [.cell ⟨b0, 1, none⟩ (.bool false), .is (decide ((rd x2 s25.1) < 0) = true)] hf40 (by kernel_rfl) ⟨(hm33.cell 0 rfl rfl), (decide_eq_true c155), trivial⟩ fun a156 hf157 => ?_
      refine listOf hf157 rfl (by kernel_rfl) (aStoreB (b := b0) (j := 1) (T := 62) (cs := [.slice A26 s25.2.2.length c27, .bool false]) (us := [.bool true]) (cs' := [.slice A26 s25.2.2.length c27, .bool true]) hf157 (by kernel_rfl) (hm33.bxAt 0 rfl) (by kernel_rfl) (by kernel_rfl) (by kernel_rfl) ?_)
      intro w158 hx159 hg160
      have hm161 := hm33.setBox 0 _ rfl rfl hx159 hg160
      refine endL rfl ?_
      refine thenN ?_
      obtain ⟨r162, hr162, H1⟩ := obS_split H1
      obtain ⟨g163, H1⟩ := ifS_guard H1
      obtain ⟨g164, H1⟩ := ifS_guard H1
      refine midReg (fun (a : Act) (w : World) => ∃ (A177 : Option Addr) (c178 : Nat), Fr 43 a [(0, .pointer (some ⟨b0, 0, none⟩)), (1, .string (bs x1)), (8, .slice A2 x2.length c2), (9, .int .i64 (x2.length : Int)), (10, .int .i64 s25.1)] ∧ Mem B0 M w0 [.bx b0 [.slice A177 ((s25.2.2 ++ ([(x1 ++ r162)] : List (List UInt8))).length) c178, .bool true] 62, .ow Kd.str 9 A177 c178 (s25.2.2 ++ ([(x1 ++ r162)] : List (List UInt8))), .sl (Kd.int .i64) A2 c2 x2] w) ?_ ?_
      · refine anyG (K := [bk A26]) [13] (by kernel_rfl) fun w193 hg194 => ?_
        have hm195 := hm161.still hg194
        refine quiet0 [0, 1, 2, 3, 4, 5, 6] [.slice A26 s25.2.2.length c27] [0, 1, 8, 9, 10, 29, 33, 34, 35] #[true, true, true, true, true, true, true, false, false, false, false, false, false, false] [(0, .pointer (some ⟨b0, 0, none⟩)), (1, .string (bs x1)), (8, .slice A2 x2.length c2), (9, .int .i64 (x2.length : Int)), (10, .int .i64 s25.1), (29, .pointer (some ⟨b0, 0, none⟩)), (33, .slice A26 s25.2.2.length c27), (34, .string (bs x1)), (35, .int .i64 (rd x2 s25.1))] [.cell ⟨b0, 0, none⟩ (.slice A26 s25.2.2.length c27), .is (some (⟨b0, 0, none⟩ : Addr).block ∉ [bk A26])] 7 rfl (by kernel_rfl) (fun _ _ _ _ _ h => nomatch h.1) hf157 (by kernel_rfl) ⟨(hm195.cell 0 rfl rfl), (hm195.bxK 0 [1] _ rfl rfl rfl), trivial⟩ fun a229 hf230 => ?_
        refine all1 7 (by kernel_rfl) ?_
        refine opOf hf230 rfl (by kernel_rfl) (aCall (fid := 48) (args := [.int .i64 (rd x2 s25.1)]) (d := 36) hf230 (by kernel_rfl) (by kernel_rfl) callable48 (strconv_Itoa.calls _ _ (rd x2 s25.1) (hm195.give [] [] rfl rfl) r162 hr162 (hG.at hm195)) ?_)
        rintro _ w231 a232 ⟨rfl, hk234⟩ hf233
        refine ⟨.inr (Gr.still hk234.cum.none), ?_⟩
        have hm235 := hm195.still hk234.cum.none
        refine quiet0 [8] [.string (bs (x1 ++ r162))] [0, 1, 8, 9, 10, 29, 33, 37] #[true, true, true, true, true, true, true, true, true, false, false, false, false, false] [(0, .pointer (some ⟨b0, 0, none⟩)), (1, .string (bs x1)), (8, .slice A2 x2.length c2), (9, .int .i64 (x2.length : Int)), (10, .int .i64 s25.1), (29, .pointer (some ⟨b0, 0, none⟩)), (33, .slice A26 s25.2.2.length c27), (37, .string (bs (x1 ++ r162)))] [.is (bs (x1 ++ r162) = bs x1 ++ bs r162 ∧ (bs x1).size + (bs r162).size ≤ 9223372036854775807)] 5 rfl (by kernel_rfl) (fun _ _ _ _ _ h => nomatch h.1) hf233 (by kernel_rfl) ⟨(catOk g163), trivial⟩ fun a236 hf237 => ?_
        refine all1 9 (by kernel_rfl) ?_
        refine opOf hf237 rfl (by kernel_rfl) (aLit (cs := [.string (bs (x1 ++ r162))]) (E := 9) (len := 1) (d := 38) hf237 (by kernel_rfl) (by kernel_rfl) ?_)
        intro b238 w239 a240 hbb238 hx242 hg243 hf241
        refine ⟨.inr (Gr.still hg243), ?_⟩
        have hm235s := hm235.still hg243
        have hm244 := Mem.lit (kd := Kd.str) (xs := ([(x1 ++ r162)] : List (List UInt8))) hm235 hbb238 hx242 hg243 (Els.one (kd := Kd.str) (us := [.string (bs (x1 ++ r162))]) (x := (x1 ++ r162)) rfl)
        refine all1 10 (by kernel_rfl) ?_
        have e253 : s25.2.2.length = s25.2.2.length := rfl
        have e254 : 1 = ([(x1 ++ r162)] : List (List UInt8)).length := rfl
        refine opOf hf241 rfl (by kernel_rfl) (aApp (kd := Kd.str) (base := 0) (E := 9) (A := A26) (B := (some ⟨b238, 0, none⟩)) (c := c27) (c2 := 1) (xs := s25.2.2) (ys := ([(x1 ++ r162)] : List (List UInt8))) (k := s25.2.2.length) (m := 1) (sz := 1) (d := 39) hf241 (by kernel_rfl) e253 e254 (by kernel_rfl) rfl (by kernel_rfl) (hm244.at 2 rfl) (hm244.at2 2 0 rfl rfl).2 (hm244.cpAt 0 rfl) (Nat.zero_le _) (by have := g164; omega) ?_)
        intro A245 c246 w247 a248 ho250 hg251 hr252 hf249
        refine ⟨.inr (Gr.own hg251 (by simp)), ?_⟩
        have hm255 := hm244.setOwn 2 _ rfl rfl ho250 hg251 hr252
        refine quiet0 [11, 12] [] [0, 1, 8, 9, 10, 39, 41] #[true, true, true, true, true, true, true, true, true, true, true, true, true, false] [(0, .pointer (some ⟨b0, 0, none⟩)), (1, .string (bs x1)), (8, .slice A2 x2.length c2), (9, .int .i64 (x2.length : Int)), (10, .int .i64 s25.1), (39, .slice A245 ((s25.2.2 ++ ([(x1 ++ r162)] : List (List UInt8))).length) c246), (41, .pointer (some ⟨b0, 0, none⟩))] [] 1 rfl (by kernel_rfl) (fun _ _ _ _ _ h => nomatch h.1) hf249 (by kernel_rfl) trivial fun a256 hf257 => ?_
        refine all1 13 (by kernel_rfl) ?_
        refine opOf hf257 rfl (by kernel_rfl) (aStoreB (b := b0) (j := 0) (T := 62) (cs := [.slice A26 s25.2.2.length c27, .bool true]) (us := [.slice A245 ((s25.2.2 ++ ([(x1 ++ r162)] : List (List UInt8))).length) c246]) (cs' := [.slice A245 ((s25.2.2 ++ ([(x1 ++ r162)] : List (List UInt8))).length) c246, .bool true]) hf257 (by kernel_rfl) (hm255.bxAt 1 rfl) (by kernel_rfl) (by kernel_rfl) (by kernel_rfl) ?_)
        intro w258 hx259 hg260
        refine ⟨.inl (by decide), ?_⟩
        have hm261 := hm255.setBox 1 _ rfl rfl hx259 hg260
        refine allDone (by kernel_rfl) ⟨rfl, A245, c246, hf257.sel (l := [0, 1, 8, 9, 10]) (by kernel_rfl), hm261.sel [1, 2, 3] _ rfl (by kernel_rfl)⟩
      rintro a262 w263 ⟨A177, c178, hf264, hm265⟩
      refine blkN ?_
      refine thenN ?_
      refine reg [] [0, 1, 8, 9, 10] [(0, .pointer (some ⟨b0, 0, none⟩)), (1, .string (bs x1)), (8, .slice A2 x2.length c2), (9, .int .i64 (x2.length : Int)), (10, .int .i64 (w64 (s25.1 + 1)))] [] hf264 (by kernel_rfl) trivial fun a266 hf267 => ?_
      exact ⟨((w64 (s25.1 + 1)), true, (s25.2.2 ++ ([(x1 ++ r162)] : List (List UInt8)))), H1, A177, c178, hf267.sel (l := [0, 1, 8, 9, 10]) (by kernel_rfl), hm265.sel [0, 1, 2] _ rfl (by kernel_rfl)⟩
    rcases ifS_split H1 with ⟨c268, H1⟩ | ⟨c268, H1⟩
    · refine inReg ?_
      refine go 15 [.bool false, .bool false, .bool true] [0, 1, 7, 8, 9, 10, 26, 28] [(0, .pointer (some ⟨b0, 0, none⟩)), (1, .string (bs x1)), (7, .int .i64 (rd x2 s25.1)), (8, .slice A2 x2.length c2), (9, .int .i64 (x2.length : Int)), (10, .int .i64 s25.1), (26, .bool true), (28, .pointer (some ⟨b0, 1, none⟩))] [.cell ⟨b0, 1, none⟩ (.bool false), .is (decide ((rd x2 s25.1) < 0) = false), .is (decide (999999999 < (rd x2 s25.1)) = true)] hf40 (by kernel_rfl) ⟨(hm33.cell 0 rfl rfl), (decide_eq_false c155), (decide_eq_true c268), trivial⟩ fun a269 hf270 => ?_
      refine listOf hf270 rfl (by kernel_rfl) (aStoreB (b := b0) (j := 1) (T := 62) (cs := [.slice A26 s25.2.2.length c27, .bool false]) (us := [.bool true]) (cs' := [.slice A26 s25.2.2.length c27, .bool true]) hf270 (by kernel_rfl) (hm33.bxAt 0 rfl) (by kernel_rfl) (by kernel_rfl) (by kernel_rfl) ?_)
      intro w271 hx272 hg273
      have hm274 := hm33.setBox 0 _ rfl rfl hx272 hg273
      refine endL rfl ?_
      refine thenN ?_
      obtain ⟨r275, hr275, H1⟩ := obS_split H1
      obtain ⟨g276, H1⟩ := ifS_guard H1
      obtain ⟨g277, H1⟩ := ifS_guard H1
      refine midReg (fun (a : Act) (w : World) => ∃ (A290 : Option Addr) (c291 : Nat), Fr 43 a [(0, .pointer (some ⟨b0, 0, none⟩)), (1, .string (bs x1)), (8, .slice A2 x2.length c2), (9, .int .i64 (x2.length : Int)), (10, .int .i64 s25.1)] ∧ Mem B0 M w0 [.bx b0 [.slice A290 ((s25.2.2 ++ ([(x1 ++ r275)] : List (List UInt8))).length) c291, .bool true] 62, .ow Kd.str 9 A290 c291 (s25.2.2 ++ ([(x1 ++ r275)] : List (List UInt8))), .sl (Kd.int .i64) A2 c2 x2] w) ?_ ?_
      · refine anyG (K := [bk A26]) [13] (by kernel_rfl) fun w306 hg307 => ?_
        have hm308 := hm274.still hg307
        refine quiet0 [0, 1, 2, 3, 4, 5, 6] [.slice A26 s25.2.2.length c27] [0, 1, 8, 9, 10, 29, 33, 34, 35] #[true, true, true, true, true, true, true, false, false, false, false, false, false, false] [(0, .pointer (some ⟨b0, 0, none⟩)), (1, .string (bs x1)), (8, .slice A2 x2.length c2), (9, .int .i64 (x2.length : Int)), (10, .int .i64 s25.1), (29, .pointer (some ⟨b0, 0, none⟩)), (33, .slice A26 s25.2.2.length c27), (34, .string (bs x1)), (35, .int .i64 (rd x2 s25.1))] [.cell ⟨b0, 0, none⟩ (.slice A26 s25.2.2.length c27), .is (some (⟨b0, 0, none⟩ : Addr).block ∉ [bk A26])] 7 rfl (by kernel_rfl) (fun _ _ _ _ _ h => nomatch h.1) hf270 (by kernel_rfl) ⟨(hm308.cell 0 rfl rfl), (hm308.bxK 0 [1] _ rfl rfl rfl), trivial⟩ fun a342 hf343 => ?_
        refine all1 7 (by kernel_rfl) ?_
        refine opOf hf343 rfl (by kernel_rfl) (aCall (fid := 48) (args := [.int .i64 (rd x2 s25.1)]) (d := 36) hf343 (by kernel_rfl) (by kernel_rfl) callable48 (strconv_Itoa.calls _ _ (rd x2 s25.1) (hm308.give [] [] rfl rfl) r275 hr275 (hG.at hm308)) ?_)
        rintro _ w344 a345 ⟨rfl, hk347⟩ hf346
        refine ⟨.inr (Gr.still hk347.cum.none), ?_⟩
        have hm348 := hm308.still hk347.cum.none
        refine quiet0 [8] [.string (bs (x1 ++ r275))] [0, 1, 8, 9, 10, 29, 33, 37] #[true, true, true, true, true, true, true, true, true, false, false, false, false, false] [(0, .pointer (some ⟨b0, 0, none⟩)), (1, .string (bs x1)), (8, .slice A2 x2.length c2), (9, .int .i64 (x2.length : Int)), (10, .int .i64 s25.1), (29, .pointer (some ⟨b0, 0, none⟩)), (33, .slice A26 s25.2.2.length c27), (37, .string (bs (x1 ++ r275)))] [.is (bs (x1 ++ r275) = bs x1 ++ bs r275 ∧ (bs x1).size + (bs r275).size ≤ 9223372036854775807)] 5 rfl (by kernel_rfl) (fun _ _ _ _ _ h => nomatch h.1) hf346 (by kernel_rfl) ⟨(catOk g276), trivial⟩ fun a349 hf350 => ?_
        refine all1 9 (by kernel_rfl) ?_
        refine opOf hf350 rfl (by kernel_rfl) (aLit (cs := [.string (bs (x1 ++ r275))]) (E := 9) (len := 1) (d := 38) hf350 (by kernel_rfl) (by kernel_rfl) ?_)
        intro b351 w352 a353 hbb351 hx355 hg356 hf354
        refine ⟨.inr (Gr.still hg356), ?_⟩
        have hm348s := hm348.still hg356
        have hm357 := Mem.lit (kd := Kd.str) (xs := ([(x1 ++ r275)] : List (List UInt8))) hm348 hbb351 hx355 hg356 (Els.one (kd := Kd.str) (us := [.string (bs (x1 ++ r275))]) (x := (x1 ++ r275)) rfl)
        refine all1 10 (by kernel_rfl) ?_
        have e366 : s25.2.2.length = s25.2.2.length := rfl
        have e367 : 1 = ([(x1 ++ r275)] : List (List UInt8)).length := rfl
        refine opOf hf354 rfl (by kernel_rfl) (aApp (kd := Kd.str) (base := 0) (E := 9) (A := A26) (B := (some ⟨b351, 0, none⟩)) (c := c27) (c2 := 1) (xs := s25.2.2) (ys := ([(x1 ++ r275)] : List (List UInt8))) (k := s25.2.2.length) (m := 1) (sz := 1) (d := 39) hf354 (by kernel_rfl) e366 e367 (by kernel_rfl) rfl (by kernel_rfl) (hm357.at 2 rfl) (hm357.at2 2 0 rfl rfl).2 (hm357.cpAt 0 rfl) (Nat.zero_le _) (by have := g277; omega) ?_)
        intro A358 c359 w360 a361 ho363 hg364 hr365 hf362
        refine ⟨.inr (Gr.own hg364 (by simp)), ?_⟩
        have hm368 := hm357.setOwn 2 _ rfl rfl ho363 hg364 hr365
        refine quiet0 [11, 12] [] [0, 1, 8, 9, 10, 39, 41] #[true, true, true, true, true, true, true, true, true, true, true, true, true, false] [(0, .pointer (some ⟨b0, 0, none⟩)), (1, .string (bs x1)), (8, .slice A2 x2.length c2), (9, .int .i64 (x2.length : Int)), (10, .int .i64 s25.1), (39, .slice A358 ((s25.2.2 ++ ([(x1 ++ r275)] : List (List UInt8))).length) c359), (41, .pointer (some ⟨b0, 0, none⟩))] [] 1 rfl (by kernel_rfl) (fun _ _ _ _ _ h => nomatch h.1) hf362 (by kernel_rfl) trivial fun a369 hf370 => ?_
        refine all1 13 (by kernel_rfl) ?_
        refine opOf hf370 rfl (by kernel_rfl) (aStoreB (b := b0) (j := 0) (T := 62) (cs := [.slice A26 s25.2.2.length c27, .bool true]) (us := [.slice A358 ((s25.2.2 ++ ([(x1 ++ r275)] : List (List UInt8))).length) c359]) (cs' := [.slice A358 ((s25.2.2 ++ ([(x1 ++ r275)] : List (List UInt8))).length) c359, .bool true]) hf370 (by kernel_rfl) (hm368.bxAt 1 rfl) (by kernel_rfl) (by kernel_rfl) (by kernel_rfl) ?_)
        intro w371 hx372 hg373
        refine ⟨.inl (by decide), ?_⟩
        have hm374 := hm368.setBox 1 _ rfl rfl hx372 hg373
        refine allDone (by kernel_rfl) ⟨rfl, A358, c359, hf370.sel (l := [0, 1, 8, 9, 10]) (by kernel_rfl), hm374.sel [1, 2, 3] _ rfl (by kernel_rfl)⟩
      rintro a375 w376 ⟨A290, c291, hf377, hm378⟩
      refine blkN ?_
      refine thenN ?_
      refine reg [] [0, 1, 8, 9, 10] [(0, .pointer (some ⟨b0, 0, none⟩)), (1, .string (bs x1)), (8, .slice A2 x2.length c2), (9, .int .i64 (x2.length : Int)), (10, .int .i64 (w64 (s25.1 + 1)))] [] hf377 (by kernel_rfl) trivial fun a379 hf380 => ?_
      exact ⟨((w64 (s25.1 + 1)), true, (s25.2.2 ++ ([(x1 ++ r275)] : List (List UInt8)))), H1, A290, c291, hf380.sel (l := [0, 1, 8, 9, 10]) (by kernel_rfl), hm378.sel [0, 1, 2] _ rfl (by kernel_rfl)⟩
    refine inReg ?_
    refine go 15 [.bool false, .bool false, .bool false] [0, 1, 7, 8, 9, 10, 26, 28] [(0, .pointer (some ⟨b0, 0, none⟩)), (1, .string (bs x1)), (7, .int .i64 (rd x2 s25.1)), (8, .slice A2 x2.length c2), (9, .int .i64 (x2.length : Int)), (10, .int .i64 s25.1), (26, .bool false), (28, .pointer (some ⟨b0, 1, none⟩))] [.cell ⟨b0, 1, none⟩ (.bool false), .is (decide ((rd x2 s25.1) < 0) = false), .is (decide (999999999 < (rd x2 s25.1)) = false)] hf40 (by kernel_rfl) ⟨(hm33.cell 0 rfl rfl), (decide_eq_false c155), (decide_eq_false c268), trivial⟩ fun a381 hf382 => ?_
    refine listOf hf382 rfl (by kernel_rfl) (aStoreB (b := b0) (j := 1) (T := 62) (cs := [.slice A26 s25.2.2.length c27, .bool false]) (us := [.bool false]) (cs' := [.slice A26 s25.2.2.length c27, .bool false]) hf382 (by kernel_rfl) (hm33.bxAt 0 rfl) (by kernel_rfl) (by kernel_rfl) (by kernel_rfl) ?_)
    intro w383 hx384 hg385
    have hm386 := hm33.setBox 0 _ rfl rfl hx384 hg385
    refine endL rfl ?_
    refine thenN ?_
    obtain ⟨r387, hr387, H1⟩ := obS_split H1
    obtain ⟨g388, H1⟩ := ifS_guard H1
    obtain ⟨g389, H1⟩ := ifS_guard H1
    refine midReg (fun (a : Act) (w : World) => ∃ (A402 : Option Addr) (c403 : Nat), Fr 43 a [(0, .pointer (some ⟨b0, 0, none⟩)), (1, .string (bs x1)), (8, .slice A2 x2.length c2), (9, .int .i64 (x2.length : Int)), (10, .int .i64 s25.1)] ∧ Mem B0 M w0 [.bx b0 [.slice A402 ((s25.2.2 ++ ([(x1 ++ r387)] : List (List UInt8))).length) c403, .bool false] 62, .ow Kd.str 9 A402 c403 (s25.2.2 ++ ([(x1 ++ r387)] : List (List UInt8))), .sl (Kd.int .i64) A2 c2 x2] w) ?_ ?_
    · refine anyG (K := [bk A26]) [13] (by kernel_rfl) fun w418 hg419 => ?_
      have hm420 := hm386.still hg419
      refine quiet0 [0, 1, 2, 3, 4, 5, 6] [.slice A26 s25.2.2.length c27] [0, 1, 8, 9, 10, 29, 33, 34, 35] #[true, true, true, true, true, true, true, false, false, false, false, false, false, false] [(0, .pointer (some ⟨b0, 0, none⟩)), (1, .string (bs x1)), (8, .slice A2 x2.length c2), (9, .int .i64 (x2.length : Int)), (10, .int .i64 s25.1), (29, .pointer (some ⟨b0, 0, none⟩)), (33, .slice A26 s25.2.2.length c27), (34, .string (bs x1)), (35, .int .i64 (rd x2 s25.1))] [.cell ⟨b0, 0, none⟩ (.slice A26 s25.2.2.length c27), .is (some (⟨b0, 0, none⟩ : Addr).block ∉ [bk A26])] 7 rfl (by kernel_rfl) (fun _ _ _ _ _ h => nomatch h.1) hf382 (by kernel_rfl) ⟨(hm420.cell 0 rfl rfl), (hm420.bxK 0 [1] _ rfl rfl rfl), trivial⟩ fun a454 hf455 => ?_
      refine all1 7 (by kernel_rfl) ?_
      refine opOf hf455 rfl (by kernel_rfl) (aCall (fid := 48) (args := [.int .i64 (rd x2 s25.1)]) (d := 36) hf455 (by kernel_rfl) (by kernel_rfl) callable48 (strconv_Itoa.calls _ _ (rd x2 s25.1) (hm420.give [] [] rfl rfl) r387 hr387 (hG.at hm420)) ?_)
      rintro _ w456 a457 ⟨rfl, hk459⟩ hf458
      refine ⟨.inr (Gr.still hk459.cum.none), ?_⟩
      have hm460 := hm420.still hk459.cum.none
      refine quiet0 [8] [.string (bs (x1 ++ r387))] [0, 1, 8, 9, 10, 29, 33, 37] #[true, true, true, true, true, true, true, true, true, false, false, false, false, false] [(0, .pointer (some ⟨b0, 0, none⟩)), (1, .string (bs x1)), (8, .slice A2 x2.length c2), (9, .int .i64 (x2.length : Int)), (10, .int .i64 s25.1), (29, .pointer (some ⟨b0, 0, none⟩)), (33, .slice A26 s25.2.2.length c27), (37, .string (bs (x1 ++ r387)))] [.is (bs (x1 ++ r387) = bs x1 ++ bs r387 ∧ (bs x1).size + (bs r387).size ≤ 9223372036854775807)] 5 rfl (by kernel_rfl) (fun _ _ _ _ _ h => nomatch h.1) hf458 (by kernel_rfl) ⟨(catOk g388), trivial⟩ fun a461 hf462 => ?_
      refine all1 9 (by kernel_rfl) ?_
      refine opOf hf462 rfl (by kernel_rfl) (aLit (cs := [.string (bs (x1 ++ r387))]) (E := 9) (len := 1) (d := 38) hf462 (by kernel_rfl) (by kernel_rfl) ?_)
      intro b463 w464 a465 hbb463 hx467 hg468 hf466
      refine ⟨.inr (Gr.still hg468), ?_⟩
      have hm460s := hm460.still hg468
      have hm469 := Mem.lit (kd := Kd.str) (xs := ([(x1 ++ r387)] : List (List UInt8))) hm460 hbb463 hx467 hg468 (Els.one (kd := Kd.str) (us := [.string (bs (x1 ++ r387))]) (x := (x1 ++ r387)) rfl)
      refine all1 10 (by kernel_rfl) ?_
      have e478 : s25.2.2.length = s25.2.2.length := rfl
      have e479 : 1 = ([(x1 ++ r387)] : List (List UInt8)).length := rfl
      refine opOf hf466 rfl (by kernel_rfl) (aApp (kd := Kd.str) (base := 0) (E := 9) (A := A26) (B := (some ⟨b463, 0, none⟩)) (c := c27) (c2 := 1) (xs := s25.2.2) (ys := ([(x1 ++ r387)] : List (List UInt8))) (k := s25.2.2.length) (m := 1) (sz := 1) (d := 39) hf466 (by kernel_rfl) e478 e479 (by kernel_rfl) rfl (by kernel_rfl) (hm469.at 2 rfl) (hm469.at2 2 0 rfl rfl).2 (hm469.cpAt 0 rfl) (Nat.zero_le _) (by have := g389; omega) ?_)
      intro A470 c471 w472 a473 ho475 hg476 hr477 hf474
      refine ⟨.inr (Gr.own hg476 (by simp)), ?_⟩
      have hm480 := hm469.setOwn 2 _ rfl rfl ho475 hg476 hr477
      refine quiet0 [11, 12] [] [0, 1, 8, 9, 10, 39, 41] #[true, true, true, true, true, true, true, true, true, true, true, true, true, false] [(0, .pointer (some ⟨b0, 0, none⟩)), (1, .string (bs x1)), (8, .slice A2 x2.length c2), (9, .int .i64 (x2.length : Int)), (10, .int .i64 s25.1), (39, .slice A470 ((s25.2.2 ++ ([(x1 ++ r387)] : List (List UInt8))).length) c471), (41, .pointer (some ⟨b0, 0, none⟩))] [] 1 rfl (by kernel_rfl) (fun _ _ _ _ _ h => nomatch h.1) hf474 (by kernel_rfl) trivial fun a481 hf482 => ?_
      refine all1 13 (by kernel_rfl) ?_
      refine opOf hf482 rfl (by kernel_rfl) (aStoreB (b := b0) (j := 0) (T := 62) (cs := [.slice A26 s25.2.2.length c27, .bool false]) (us := [.slice A470 ((s25.2.2 ++ ([(x1 ++ r387)] : List (List UInt8))).length) c471]) (cs' := [.slice A470 ((s25.2.2 ++ ([(x1 ++ r387)] : List (List UInt8))).length) c471, .bool false]) hf482 (by kernel_rfl) (hm480.bxAt 1 rfl) (by kernel_rfl) (by kernel_rfl) (by kernel_rfl) ?_)
      intro w483 hx484 hg485
      refine ⟨.inl (by decide), ?_⟩
      have hm486 := hm480.setBox 1 _ rfl rfl hx484 hg485
      refine allDone (by kernel_rfl) ⟨rfl, A470, c471, hf482.sel (l := [0, 1, 8, 9, 10]) (by kernel_rfl), hm486.sel [1, 2, 3] _ rfl (by kernel_rfl)⟩
    rintro a487 w488 ⟨A402, c403, hf489, hm490⟩
    refine blkN ?_
    refine thenN ?_
    refine reg [] [0, 1, 8, 9, 10] [(0, .pointer (some ⟨b0, 0, none⟩)), (1, .string (bs x1)), (8, .slice A2 x2.length c2), (9, .int .i64 (x2.length : Int)), (10, .int .i64 (w64 (s25.1 + 1)))] [] hf489 (by kernel_rfl) trivial fun a491 hf492 => ?_
    exact ⟨((w64 (s25.1 + 1)), false, (s25.2.2 ++ ([(x1 ++ r387)] : List (List UInt8)))), H1, A402, c403, hf492.sel (l := [0, 1, 8, 9, 10]) (by kernel_rfl), hm490.sel [0, 1, 2] _ rfl (by kernel_rfl)⟩
  rintro a495 w496 ⟨A26, c27, hf497, hm498⟩
  have hm499 : Mem B0 M w0 [.bx b0 [.slice A26 r28.2.2.length c27, .bool r28.2.1] 62, .ow Kd.str 9 A26 c27 r28.2.2] w496 := hm498.sel [0, 1] _ rfl (by kernel_rfl)
  obtain rfl := Option.some.inj H0
  refine fin [] [] [] hf497 (by kernel_rfl) trivial ?_
  exact ⟨_, rfl, A26, c27, rfl, hm499⟩

/-! ### backstitch/script.Number -/
noncomputable def script_Number.l0  (s46 : (Int × Int × (List Int))) : Step (Int × Int × (List Int)) (Int × Int × (List Int)) :=
  if s46.2.1 < (((List.replicate (16 : Int).toNat (0 : Int)).length : Nat) : Int) then (if 0 ≤ (bits .and .u64 s46.1 15) ∧ (bits .and .u64 s46.1 15) < (([48, 49, 50, 51, 52, 53, 54, 55, 56, 57, 97, 98, 99, 100, 101, 102] : List UInt8).length : Int) then (if 0 ≤ (w64 (15 - s46.2.1)) ∧ (w64 (15 - s46.2.1)) < (s46.2.2.length : Int) then (.next ((Int.fdiv s46.1 (2 ^ 4)), (w64 (s46.2.1 + 1)), (put s46.2.2 (w64 (15 - s46.2.1)) (chr ([48, 49, 50, 51, 52, 53, 54, 55, 56, 57, 97, 98, 99, 100, 101, 102] : List UInt8) (bits .and .u64 s46.1 15)))))
  else .bad)
  else .bad)
  else (.done (s46.1, s46.2.1, s46.2.2))
noncomputable def script_Number.f (x0 : Nat) : Option (List UInt8) :=
  (real_Bits.f x0).bind fun r23 =>
  (loop (script_Number.l0) (r23, 0, (List.replicate (16 : Int).toNat (0 : Int)))).bind fun r47 =>
  some (bytesOf r47.2.2)
set_option maxRecDepth 100000 in
set_option maxHeartbeats 4000000 in
theorem script_Number.calls (M : List (Option Nat)) (w0 : World) (x0 : Nat) (b0 : Nat) (h0 : FR b0 x0) (hm0 : Mem [] M w0 [] w0) (r : (List UInt8)) (H0 : script_Number.f x0 = some r) :
    Calls Tryd.prog 15 [.float .f64 b0].toArray w0 (fun x w' => ∃ v, x = .returned v ∧ v = .string (bs r) ∧ Mem [] M w0 [] w') := by
  unfold script_Number.f at H0
  refine enter (n := 26) Tryd.func15 rfl rfl (by kernel_rfl) fun a0 (hf0 : Fr 26 a0 [(0, .float .f64 b0)]) => ?_
  refine wp_seq ?_
  refine reg [] [0] [(0, .float .f64 b0)] [] hf0 (by kernel_rfl) trivial fun a21 hf22 => ?_
  refine thenN ?_
  refine wp_seq ?_
  obtain ⟨r23, hr23, H0⟩ := ob_split H0
  refine inReg ?_
  refine go 1 [] [6] [(6, .float .f64 b0)] [] hf22 (by kernel_rfl) trivial fun a24 hf25 => ?_
  refine listOf hf25 rfl (by kernel_rfl) (aCall (fid := 33) (args := [.float .f64 b0]) (d := 7) hf25 (by kernel_rfl) (by kernel_rfl) callable33 (real_Bits.calls _ _ x0 b0 h0 (hm0.give [] [] rfl rfl) r23 hr23) ?_)
  rintro _ w26 a27 ⟨rfl, hk29⟩ hf28
  have hm30 := hm0.still hk29.cum.none
  refine go 1 [] [3] [(3, .int .u64 r23)] [] hf28 (by kernel_rfl) trivial fun a31 hf32 => ?_
  refine endL rfl ?_
  refine thenN ?_
  refine wp_seq ?_
  refine inReg ?_
  refine listOf hf32 rfl (by kernel_rfl) (aMake (kd := (Kd.int .u8)) (x := 0) (E := 5) (L := 16) (z := [.int .u8 0]) (sz := 1) (d := 8) hf32 (by kernel_rfl) (by kernel_rfl) rfl (fun _ _ => rfl) (by decide) (by decide) ?_)
  intro A33 c34 w35 a36 ho38 hb40 hg39 hf37
  have hm41 : Mem [] M w0 [.ow (Kd.int .u8) 5 A33 c34 (List.replicate (16 : Int).toNat (0 : Int))] w35 := hm30.own (ho38 _) hg39
  refine go 1 [] [3, 4] [(3, .int .u64 r23), (4, .slice A33 ((List.replicate (16 : Int).toNat (0 : Int)).length) c34)] [] hf37 (by kernel_rfl) trivial fun a42 hf43 => ?_
  refine endL rfl ?_
  refine thenN ?_
  refine wp_seq ?_
  refine wp_seq ?_
  refine reg [] [3, 4, 10, 11] [(3, .int .u64 r23), (4, .slice A33 ((List.replicate (16 : Int).toNat (0 : Int)).length) c34), (10, .int .i64 (((List.replicate (16 : Int).toNat (0 : Int)).length : Nat) : Int)), (11, .int .i64 0)] [] hf43 (by kernel_rfl) trivial fun a44 hf45 => ?_
  refine thenN ?_
  obtain ⟨r47, hr47, H0⟩ := ob_split H0
  refine wpBlock (Mid := fun (a : Act) (w : World) => Fr 26 a [(3, .int .u64 r47.1), (4, .slice A33 r47.2.2.length c34), (10, .int .i64 (((List.replicate (16 : Int).toNat (0 : Int)).length : Nat) : Int)), (11, .int .i64 r47.2.1)] ∧ Mem [] M w0 [.ow (Kd.int .u8) 5 A33 c34 r47.2.2] w) ?_ ?_
  · refine wpLoop (script_Number.l0) r47 (fun (s46 : (Int × Int × (List Int))) (a : Act) (w : World) => Fr 26 a [(3, .int .u64 s46.1), (4, .slice A33 s46.2.2.length c34), (10, .int .i64 (((List.replicate (16 : Int).toNat (0 : Int)).length : Nat) : Int)), (11, .int .i64 s46.2.1)] ∧ Mem [] M w0 [.ow (Kd.int .u8) 5 A33 c34 s46.2.2] w) (r23, 0, (List.replicate (16 : Int).toNat (0 : Int))) hr47 ⟨hf45.sel (l := [3, 4, 10, 11]) (by kernel_rfl), hm41.sel [0] _ rfl (by kernel_rfl)⟩ ?_
    rintro g48 s46 a49 w50 H1 ⟨hf51, hm52⟩
    unfold script_Number.l0 at H1
    refine wp_seq ?_
    rcases ifS_split H1 with ⟨c53, H1⟩ | ⟨c53, H1⟩
    rotate_left
    · refine reg [.bool false] [3, 4, 10, 11, 12] [(3, .int .u64 s46.1), (4, .slice A33 s46.2.2.length c34), (10, .int .i64 (((List.replicate (16 : Int).toNat (0 : Int)).length : Nat) : Int)), (11, .int .i64 s46.2.1), (12, .bool false)] [.is (decide (s46.2.1 < (((List.replicate (16 : Int).toNat (0 : Int)).length : Nat) : Int)) = false)] hf51 (by kernel_rfl) ⟨(decide_eq_false c53), trivial⟩ fun a74 hf75 => ?_
      refine thenN ?_
      refine wp_seq ?_
      refine condF hf75 (by kernel_rfl) ?_
      refine wp_exit ?_
      refine thenE ?_
      refine thenE ?_
      obtain rfl := Option.some.inj H1
      exact .inl ⟨rfl, hf75.sel (l := [3, 4, 10, 11]) (by kernel_rfl), hm52.sel [0] _ rfl (by kernel_rfl)⟩
    refine reg [.bool true] [3, 4, 10, 11, 12] [(3, .int .u64 s46.1), (4, .slice A33 s46.2.2.length c34), (10, .int .i64 (((List.replicate (16 : Int).toNat (0 : Int)).length : Nat) : Int)), (11, .int .i64 s46.2.1), (12, .bool true)] [.is (decide (s46.2.1 < (((List.replicate (16 : Int).toNat (0 : Int)).length : Nat) : Int)) = true)] hf51 (by kernel_rfl) ⟨(decide_eq_true c53), trivial⟩ fun a54 hf55 => ?_
    refine thenN ?_
    refine wp_seq ?_
    refine condT hf55 (by kernel_rfl) ?_
    refine wp_skip ?_
    refine thenN ?_
    refine wp_seq ?_
    refine wp_block ?_
    refine wp_seq ?_
    refine reg [] [3, 4, 5, 10, 11] [(3, .int .u64 s46.1), (4, .slice A33 s46.2.2.length c34), (5, .int .i64 s46.2.1), (10, .int .i64 (((List.replicate (16 : Int).toNat (0 : Int)).length : Nat) : Int)), (11, .int .i64 s46.2.1)] [] hf55 (by kernel_rfl) trivial fun a56 hf57 => ?_
    refine thenN ?_
    refine wp_seq ?_
    obtain ⟨g58, H1⟩ := ifS_guard H1
    obtain ⟨g59, H1⟩ := ifS_guard H1
    have q60 := (hm52.owAt 0 rfl).int (w64 (15 - s46.2.1)) g59.1 g59.2
    refine inReg ?_
    refine go 7 [.int .u8 (chr ([48, 49, 50, 51, 52, 53, 54, 55, 56, 57, 97, 98, 99, 100, 101, 102] : List UInt8) (bits .and .u64 s46.1 15))] [3, 4, 10, 11, 19, 20] [(3, .int .u64 s46.1), (4, .slice A33 s46.2.2.length c34), (10, .int .i64 (((List.replicate (16 : Int).toNat (0 : Int)).length : Nat) : Int)), (11, .int .i64 s46.2.1), (19, .int .u8 (chr ([48, 49, 50, 51, 52, 53, 54, 55, 56, 57, 97, 98, 99, 100, 101, 102] : List UInt8) (bits .and .u64 s46.1 15))), (20, .pointer (some ((ad A33).add (((w64 (15 - s46.2.1))).toNat * 1))))] [.is (0 ≤ (bits .and .u64 s46.1 15) ∧ (bits .and .u64 s46.1 15) < (([48, 49, 50, 51, 52, 53, 54, 55, 56, 57, 97, 98, 99, 100, 101, 102] : List UInt8).length : Int)), .is ((((bs ([48, 49, 50, 51, 52, 53, 54, 55, 56, 57, 97, 98, 99, 100, 101, 102] : List UInt8))[((bits .and .u64 s46.1 15)).toNat]?).getD 0).toNat = (chr ([48, 49, 50, 51, 52, 53, 54, 55, 56, 57, 97, 98, 99, 100, 101, 102] : List UInt8) (bits .and .u64 s46.1 15))), .is (Option.isSome A33 = true), .is (0 ≤ (w64 (15 - s46.2.1)) ∧ (w64 (15 - s46.2.1)) < (s46.2.2.length : Int))] hf57 (by kernel_rfl) ⟨g58, (chr_eq ([48, 49, 50, 51, 52, 53, 54, 55, 56, 57, 97, 98, 99, 100, 101, 102] : List UInt8) (bits .and .u64 s46.1 15)), q60.1, g59, trivial⟩ fun a61 hf62 => ?_
    refine listOf hf62 rfl (by kernel_rfl) (aStoreO (kd := (Kd.int .u8)) (base := 0) (E := 5) (A := A33) (c := c34) (xs := s46.2.2) (i := (w64 (15 - s46.2.1))) (x := (chr ([48, 49, 50, 51, 52, 53, 54, 55, 56, 57, 97, 98, 99, 100, 101, 102] : List UInt8) (bits .and .u64 s46.1 15))) (us := [.int .u8 (chr ([48, 49, 50, 51, 52, 53, 54, 55, 56, 57, 97, 98, 99, 100, 101, 102] : List UInt8) (bits .and .u64 s46.1 15))]) (sz := 1) hf62 (by kernel_rfl) rfl (by kernel_rfl) (hm52.at 0 rfl) rfl g59.1 g59.2 ?_)
    intro w63 hx65 hg66
    have hm67 := hm52.setOwn 0 _ rfl rfl hx65 hg66 (.inl rfl)
    refine endL rfl ?_
    refine thenN ?_
    refine reg [] [3, 4, 10, 11] [(3, .int .u64 (Int.fdiv s46.1 (2 ^ 4))), (4, .slice A33 s46.2.2.length c34), (10, .int .i64 (((List.replicate (16 : Int).toNat (0 : Int)).length : Nat) : Int)), (11, .int .i64 s46.2.1)] [] hf62 (by kernel_rfl) trivial fun a68 hf69 => ?_
    refine blkN ?_
    refine thenN ?_
    refine reg [] [3, 4, 10, 11] [(3, .int .u64 (Int.fdiv s46.1 (2 ^ 4))), (4, .slice A33 s46.2.2.length c34), (10, .int .i64 (((List.replicate (16 : Int).toNat (0 : Int)).length : Nat) : Int)), (11, .int .i64 (w64 (s46.2.1 + 1)))] [] hf69 (by kernel_rfl) trivial fun a70 hf71 => ?_
    have hf72 : Fr 26 a70 [(3, .int .u64 (Int.fdiv s46.1 (2 ^ 4))), (4, .slice A33 s46.2.2.length c34), (10, .int .i64 (((List.replicate (16 : Int).toNat (0 : Int)).length : Nat) : Int)), (11, .int .i64 (w64 (s46.2.1 + 1)))] := hf71.sel (l := [3, 4, 10, 11]) (by kernel_rfl)
    have hm73 : Mem [] M w0 [.ow (Kd.int .u8) 5 A33 c34 (put s46.2.2 (w64 (15 - s46.2.1)) (chr ([48, 49, 50, 51, 52, 53, 54, 55, 56, 57, 97, 98, 99, 100, 101, 102] : List UInt8) (bits .and .u64 s46.1 15)))] w63 := hm67.sel [0] _ rfl (by kernel_rfl)
    exact ⟨((Int.fdiv s46.1 (2 ^ 4)), (w64 (s46.2.1 + 1)), (put s46.2.2 (w64 (15 - s46.2.1)) (chr ([48, 49, 50, 51, 52, 53, 54, 55, 56, 57, 97, 98, 99, 100, 101, 102] : List UInt8) (bits .and .u64 s46.1 15)))), H1, (by simpa only [put_length, List.length_nil] using hf72), (by simpa only [put_length, List.length_nil] using hm73)⟩
  rintro a76 w77 ⟨hf78, hm79⟩
  refine thenN ?_
  refine wp_seq ?_
  refine inReg ?_
  refine go 1 [] [24] [(24, .slice A33 r47.2.2.length c34)] [] hf78 (by kernel_rfl) trivial fun a80 hf81 => ?_
  have hm82 := hm79.seal 0 _ rfl rfl
  refine listOf hf81 rfl (by kernel_rfl) (aStr (A := A33) (k := r47.2.2.length) (c := c34) (xs := r47.2.2) (d := 25) hf81 (by kernel_rfl) (by kernel_rfl) rfl (hm82.slAt 0 rfl) ?_)
  intro a83 hf84
  refine go 1 [] [2] [(2, .string (bs (bytesOf r47.2.2)))] [] hf84 (by kernel_rfl) trivial fun a85 hf86 => ?_
  refine endL rfl ?_
  have hm87 := hm82.sel [] _ rfl (by kernel_rfl)
  refine thenN ?_
  refine wp_ret ?_
  have hm88 : Mem [] M w0 [] w77 := hm87.sel [] _ rfl (by kernel_rfl)
  obtain rfl := Option.some.inj H0
  refine ret [] [.string (bs (bytesOf r47.2.2))] [] hf86 (by kernel_rfl) trivial ?_
  exact ⟨_, rfl, rfl, hm88⟩
end Go.Proofs.YtkdhahdfkonilaaDoor
