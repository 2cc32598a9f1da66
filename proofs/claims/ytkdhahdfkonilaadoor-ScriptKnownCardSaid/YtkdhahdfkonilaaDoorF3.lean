/- Printed by gen.py. -/
import Derived.Test.YtkdhahdfkonilaaDoorF0
import Derived.Test.YtkdhahdfkonilaaDoorF2
namespace Go.Proofs.YtkdhahdfkonilaaDoor
open Go Go.RowKit
set_option linter.unusedSimpArgs false
set_option linter.unusedVariables false
set_option linter.unnecessarySimpa false
/-! ### (*backstitch/script.writer).node -/
noncomputable def script_writer_node.l0 (x1 : Node) (s172 : (Int × (List (List UInt8)))) : Step (Int × (List (List UInt8))) (Int × (List (List UInt8))) :=
  if s172.1 < (x1.Val.Data.length : Int) then (if 0 ≤ s172.1 ∧ s172.1 < (x1.Val.Data.length : Int) then (bindS (script_Number.f (rd x1.Val.Data s172.1)) fun r189 =>
  if ([118, 58] : List UInt8).length + r189.length ≤ 9223372036854775807 then (if s172.2.length + 1 ≤ 549755813888 then (.next ((w64 (s172.1 + 1)), (s172.2 ++ ([(([118, 58] : List UInt8) ++ r189)] : List (List UInt8)))))
  else .bad)
  else .bad)
  else .bad)
  else (.done (s172.1, s172.2))
noncomputable def script_writer_node.l1 (x1 : Node) (s306 : (Int × Bool × (List (List UInt8)))) : Step (Int × Bool × (List (List UInt8))) (Int × Bool × (List (List UInt8))) :=
  if s306.1 < (x1.Hooks.length : Int) then (if 0 ≤ s306.1 ∧ s306.1 < (x1.Hooks.length : Int) then (bindS (script_writer_nums.f (⟨s306.2.2, s306.2.1⟩ : Writer) ([104, 58] : List UInt8) ([((rd x1.Hooks s306.1).Do)] : List Int)) fun r337 =>
  if 0 ≤ (w64 ((r337.1.length : Int) - 1)) ∧ (w64 ((r337.1.length : Int) - 1)) < (r337.1.length : Int) then (bindS (script_Number.f ((rd x1.Hooks s306.1).X)) fun r356 =>
  if ([44] : List UInt8).length + r356.length ≤ 9223372036854775807 then (if (rd r337.1 (w64 ((r337.1.length : Int) - 1))).length + (([44] : List UInt8) ++ r356).length ≤ 9223372036854775807 then (.next ((w64 (s306.1 + 1)), r337.2, (put r337.1 (w64 ((r337.1.length : Int) - 1)) ((rd r337.1 (w64 ((r337.1.length : Int) - 1))) ++ (([44] : List UInt8) ++ r356)))))
  else .bad)
  else .bad)
  else .bad)
  else .bad)
  else (.done (s306.1, s306.2.1, s306.2.2))
noncomputable def script_writer_node.f (x0 : Writer) (x1 : Node) : Option ((List (List UInt8)) × Bool) :=
  if x0.bad = true then ((op_Name.f x1.Op).bind fun r35 =>
  if x0.b.length + 1 ≤ 549755813888 then ((script_writer_nums.f (⟨(x0.b ++ ([r35] : List (List UInt8))), true⟩ : Writer) ([105, 58] : List UInt8) x1.In).bind fun r135 =>
  (script_writer_nums.f (⟨r135.1, r135.2⟩ : Writer) ([116, 58] : List UInt8) x1.To).bind fun r145 =>
  if x1.No = 0 then ((script_writer_nums.f (⟨r145.1, r145.2⟩ : Writer) ([115, 58] : List UInt8) x1.Val.Shape).bind fun r158 =>
  (loop (script_writer_node.l0 x1) (0, r158.1)).bind fun r175 =>
  (loop (script_writer_node.l1 x1) (0, r158.2, r175.2)).bind fun r309 =>
  some (r309.2.2, r309.2.1))
  else ((script_writer_nums.f (⟨r145.1, r145.2⟩ : Writer) ([110, 58] : List UInt8) ([x1.No] : List Int)).bind fun r422 =>
  (script_writer_nums.f (⟨r422.1, r422.2⟩ : Writer) ([115, 58] : List UInt8) x1.Val.Shape).bind fun r440 =>
  (loop (script_writer_node.l0 x1) (0, r440.1)).bind fun r457 =>
  (loop (script_writer_node.l1 x1) (0, r440.2, r457.2)).bind fun r591 =>
  some (r591.2.2, r591.2.1)))
  else none)
  else ((op_May.f x1.Op).bind fun r702 =>
  if r702 = true then ((op_Name.f x1.Op).bind fun r717 =>
  if x0.b.length + 1 ≤ 549755813888 then ((script_writer_nums.f (⟨(x0.b ++ ([r717] : List (List UInt8))), false⟩ : Writer) ([105, 58] : List UInt8) x1.In).bind fun r816 =>
  (script_writer_nums.f (⟨r816.1, r816.2⟩ : Writer) ([116, 58] : List UInt8) x1.To).bind fun r826 =>
  if x1.No = 0 then ((script_writer_nums.f (⟨r826.1, r826.2⟩ : Writer) ([115, 58] : List UInt8) x1.Val.Shape).bind fun r839 =>
  (loop (script_writer_node.l0 x1) (0, r839.1)).bind fun r856 =>
  (loop (script_writer_node.l1 x1) (0, r839.2, r856.2)).bind fun r990 =>
  some (r990.2.2, r990.2.1))
  else ((script_writer_nums.f (⟨r826.1, r826.2⟩ : Writer) ([110, 58] : List UInt8) ([x1.No] : List Int)).bind fun r1103 =>
  (script_writer_nums.f (⟨r1103.1, r1103.2⟩ : Writer) ([115, 58] : List UInt8) x1.Val.Shape).bind fun r1121 =>
  (loop (script_writer_node.l0 x1) (0, r1121.1)).bind fun r1138 =>
  (loop (script_writer_node.l1 x1) (0, r1121.2, r1138.2)).bind fun r1272 =>
  some (r1272.2.2, r1272.2.1)))
  else none)
  else ((op_Name.f x1.Op).bind fun r1396 =>
  if x0.b.length + 1 ≤ 549755813888 then ((script_writer_nums.f (⟨(x0.b ++ ([r1396] : List (List UInt8))), true⟩ : Writer) ([105, 58] : List UInt8) x1.In).bind fun r1495 =>
  (script_writer_nums.f (⟨r1495.1, r1495.2⟩ : Writer) ([116, 58] : List UInt8) x1.To).bind fun r1505 =>
  if x1.No = 0 then ((script_writer_nums.f (⟨r1505.1, r1505.2⟩ : Writer) ([115, 58] : List UInt8) x1.Val.Shape).bind fun r1518 =>
  (loop (script_writer_node.l0 x1) (0, r1518.1)).bind fun r1535 =>
  (loop (script_writer_node.l1 x1) (0, r1518.2, r1535.2)).bind fun r1669 =>
  some (r1669.2.2, r1669.2.1))
  else ((script_writer_nums.f (⟨r1505.1, r1505.2⟩ : Writer) ([110, 58] : List UInt8) ([x1.No] : List Int)).bind fun r1782 =>
  (script_writer_nums.f (⟨r1782.1, r1782.2⟩ : Writer) ([115, 58] : List UInt8) x1.Val.Shape).bind fun r1800 =>
  (loop (script_writer_node.l0 x1) (0, r1800.1)).bind fun r1817 =>
  (loop (script_writer_node.l1 x1) (0, r1800.2, r1817.2)).bind fun r1951 =>
  some (r1951.2.2, r1951.2.1)))
  else none))
set_option maxRecDepth 100000 in
set_option maxHeartbeats 4000000 in
theorem script_writer_node.calls (B0 : List (Option Nat)) (M : List (Option Nat)) (w0 : World) (x0 : Writer) (b0 : Nat) (A0_0 : Option Addr) (n0_0 c0_0 : Nat) (e0_0 : n0_0 = x0.b.length) (x1 : Node) (A1_1 : Option Addr) (n1_1 c1_1 : Nat) (e1_1 : n1_1 = x1.In.length) (A1_2 : Option Addr) (n1_2 c1_2 : Nat) (e1_2 : n1_2 = x1.To.length) (A1_4_0 : Option Addr) (n1_4_0 c1_4_0 : Nat) (e1_4_0 : n1_4_0 = x1.Val.Shape.length) (A1_4_1 : Option Addr) (n1_4_1 c1_4_1 : Nat) (e1_4_1 : n1_4_1 = x1.Val.Data.length) (A1_6 : Option Addr) (n1_6 c1_6 : Nat) (e1_6 : n1_6 = x1.Hooks.length) (hm0 : Mem B0 M w0 [.bx b0 [.slice A0_0 n0_0 c0_0, .bool x0.bad] 62, .ow Kd.str 9 A0_0 c0_0 x0.b, .sl (Kd.int .i64) A1_1 c1_1 x1.In, .sl (Kd.int .i64) A1_2 c1_2 x1.To, .sl (Kd.int .i64) A1_4_0 c1_4_0 x1.Val.Shape, .sl Kd.float A1_4_1 c1_4_1 x1.Val.Data, .sl kHook A1_6 c1_6 x1.Hooks] w0) (r : ((List (List UInt8)) × Bool)) (H0 : script_writer_node.f x0 x1 = some r) (hG : Glob B0 w0) :
    Calls Tryd.prog 22 [.pointer (some ⟨b0, 0, none⟩), .agg #[.int .i64 x1.Op, .slice A1_1 n1_1 c1_1, .slice A1_2 n1_2 c1_2, .int .i64 x1.No, .slice A1_4_0 n1_4_0 c1_4_0, .slice A1_4_1 n1_4_1 c1_4_1, .slice A1_6 n1_6 c1_6]].toArray w0 (fun x w' => ∃ v, x = .returned v ∧ ∃ Ap0_0 cp0_0, v = .tuple #[] ∧ Mem B0 M w0 [.bx b0 [.slice Ap0_0 r.1.length cp0_0, .bool r.2] 62, .ow Kd.str 9 Ap0_0 cp0_0 r.1] w') := by
  subst e0_0
  subst e1_1
  subst e1_2
  subst e1_4_0
  subst e1_4_1
  subst e1_6
  unfold script_writer_node.f at H0
  refine enter (n := 106) Tryd.func22 rfl rfl (by kernel_rfl) fun a0 (hf0 : Fr 106 a0 [(0, .pointer (some ⟨b0, 0, none⟩)), (1, .agg #[.int .i64 x1.Op, .slice A1_1 x1.In.length c1_1, .slice A1_2 x1.To.length c1_2, .int .i64 x1.No, .slice A1_4_0 x1.Val.Shape.length c1_4_0, .slice A1_4_1 x1.Val.Data.length c1_4_1, .slice A1_6 x1.Hooks.length c1_6])]) => ?_
  refine wp_seq ?_
  refine inReg ?_
  refine listOf hf0 rfl (by kernel_rfl) (aNew (cs := [.int .i64 x1.Op, .slice A1_1 x1.In.length c1_1, .slice A1_2 x1.To.length c1_2, .int .i64 x1.No, .slice A1_4_0 x1.Val.Shape.length c1_4_0, .slice A1_4_1 x1.Val.Data.length c1_4_1, .slice A1_6 x1.Hooks.length c1_6]) (T := 49) (d := 3) hf0 (by kernel_rfl) (by kernel_rfl) ?_)
  intro b21 w22 a23 hbb21 hx25 hg26 hf24
  have hm27 := hm0.box hbb21 hx25 hg26
  refine endL rfl ?_
  refine thenN ?_
  refine wp_seq ?_
  rcases ifb_split H0 with ⟨c28, H0⟩ | ⟨c28, H0⟩
  · rw [c28] at hm27
    refine inReg ?_
    refine go 13 [.bool true] [0, 3, 18, 20] [(0, .pointer (some ⟨b0, 0, none⟩)), (3, .pointer (some ⟨b21, 0, none⟩)), (18, .bool true), (20, .pointer (some ⟨b0, 1, none⟩))] [.cell ⟨b0, 1, none⟩ (.bool true)] hf24 (by kernel_rfl) ⟨(hm27.cell 1 rfl rfl), trivial⟩ fun a29 hf30 => ?_
    refine listOf hf30 rfl (by kernel_rfl) (aStoreB (b := b0) (j := 1) (T := 62) (cs := [.slice A0_0 x0.b.length c0_0, .bool true]) (us := [.bool true]) (cs' := [.slice A0_0 x0.b.length c0_0, .bool true]) hf30 (by kernel_rfl) (hm27.bxAt 1 rfl) (by kernel_rfl) (by kernel_rfl) (by kernel_rfl) ?_)
    intro w31 hx32 hg33
    have hm34 := hm27.setBox 1 _ rfl rfl hx32 hg33
    refine endL rfl ?_
    refine thenN ?_
    refine wp_seq ?_
    obtain ⟨r35, hr35, H0⟩ := ob_split H0
    obtain ⟨g36, H0⟩ := if_guard H0
    refine midReg (fun (a : Act) (w : World) => ∃ (A49 : Option Addr) (c50 : Nat), Fr 106 a [(0, .pointer (some ⟨b0, 0, none⟩)), (3, .pointer (some ⟨b21, 0, none⟩))] ∧ Mem B0 M w0 [.bx b21 [.int .i64 x1.Op, .slice A1_1 x1.In.length c1_1, .slice A1_2 x1.To.length c1_2, .int .i64 x1.No, .slice A1_4_0 x1.Val.Shape.length c1_4_0, .slice A1_4_1 x1.Val.Data.length c1_4_1, .slice A1_6 x1.Hooks.length c1_6] 49, .bx b0 [.slice A49 ((x0.b ++ ([r35] : List (List UInt8))).length) c50, .bool true] 62, .ow Kd.str 9 A49 c50 (x0.b ++ ([r35] : List (List UInt8))), .sl (Kd.int .i64) A1_1 c1_1 x1.In, .sl (Kd.int .i64) A1_2 c1_2 x1.To, .sl (Kd.int .i64) A1_4_0 c1_4_0 x1.Val.Shape, .sl Kd.float A1_4_1 c1_4_1 x1.Val.Data, .sl kHook A1_6 c1_6 x1.Hooks] w) ?_ ?_
    · refine anyG (K := [bk A0_0]) [12] (by kernel_rfl) fun w66 hg67 => ?_
      have hm68 := hm34.still hg67
      refine quiet0 [0, 1, 2, 3, 4, 5, 6] [.slice A0_0 x0.b.length c0_0, .int .i64 x1.Op] [0, 3, 21, 25, 27] #[true, true, true, true, true, true, true, false, false, false, false, false, false] [(0, .pointer (some ⟨b0, 0, none⟩)), (3, .pointer (some ⟨b21, 0, none⟩)), (21, .pointer (some ⟨b0, 0, none⟩)), (25, .slice A0_0 x0.b.length c0_0), (27, .int .i64 x1.Op)] [.cell ⟨b0, 0, none⟩ (.slice A0_0 x0.b.length c0_0), .is (some (⟨b0, 0, none⟩ : Addr).block ∉ [bk A0_0]), .cell ⟨b21, 0, none⟩ (.int .i64 x1.Op), .is (some (⟨b21, 0, none⟩ : Addr).block ∉ [bk A0_0])] 6 rfl (by kernel_rfl) (fun _ _ _ _ _ h => nomatch h.1) hf30 (by kernel_rfl) ⟨(hm68.cell 1 rfl rfl), (hm68.bxK 1 [2] _ rfl rfl rfl), (hm68.cell 0 rfl rfl), (hm68.bxK 0 [2] _ rfl rfl rfl), trivial⟩ fun a100 hf101 => ?_
      refine all1 7 (by kernel_rfl) ?_
      refine opOf hf101 rfl (by kernel_rfl) (aCall (fid := 37) (args := [.int .i64 x1.Op]) (d := 28) hf101 (by kernel_rfl) (by kernel_rfl) callable37 (op_Name.calls _ _ x1.Op (hm68.give [] [] rfl rfl) r35 hr35 (hG.at hm68)) ?_)
      rintro _ w102 a103 ⟨rfl, hk105⟩ hf104
      refine ⟨.inr (Gr.still hk105.cum.none), ?_⟩
      have hm106 := hm68.still hk105.cum.none
      refine all1 8 (by kernel_rfl) ?_
      refine opOf hf104 rfl (by kernel_rfl) (aLit (cs := [.string (bs r35)]) (E := 9) (len := 1) (d := 29) hf104 (by kernel_rfl) (by kernel_rfl) ?_)
      intro b107 w108 a109 hbb107 hx111 hg112 hf110
      refine ⟨.inr (Gr.still hg112), ?_⟩
      have hm106s := hm106.still hg112
      have hm113 := Mem.lit (kd := Kd.str) (xs := ([r35] : List (List UInt8))) hm106 hbb107 hx111 hg112 (Els.one (kd := Kd.str) (us := [.string (bs r35)]) (x := r35) rfl)
      refine all1 9 (by kernel_rfl) ?_
      have e122 : x0.b.length = x0.b.length := rfl
      have e123 : 1 = ([r35] : List (List UInt8)).length := rfl
      refine opOf hf110 rfl (by kernel_rfl) (aApp (kd := Kd.str) (base := 0) (E := 9) (A := A0_0) (B := (some ⟨b107, 0, none⟩)) (c := c0_0) (c2 := 1) (xs := x0.b) (ys := ([r35] : List (List UInt8))) (k := x0.b.length) (m := 1) (sz := 1) (d := 30) hf110 (by kernel_rfl) e122 e123 (by kernel_rfl) rfl (by kernel_rfl) (hm113.at 3 rfl) (hm113.at2 3 0 rfl rfl).2 (hm113.cpAt 0 rfl) (Nat.zero_le _) (by have := g36; omega) ?_)
      intro A114 c115 w116 a117 ho119 hg120 hr121 hf118
      refine ⟨.inr (Gr.own hg120 (by simp)), ?_⟩
      have hm124 := hm113.setOwn 3 _ rfl rfl ho119 hg120 hr121
      refine quiet0 [10, 11] [] [0, 3, 30, 32] #[true, true, true, true, true, true, true, true, true, true, true, true, false] [(0, .pointer (some ⟨b0, 0, none⟩)), (3, .pointer (some ⟨b21, 0, none⟩)), (30, .slice A114 ((x0.b ++ ([r35] : List (List UInt8))).length) c115), (32, .pointer (some ⟨b0, 0, none⟩))] [] 1 rfl (by kernel_rfl) (fun _ _ _ _ _ h => nomatch h.1) hf118 (by kernel_rfl) trivial fun a125 hf126 => ?_
      refine all1 12 (by kernel_rfl) ?_
      refine opOf hf126 rfl (by kernel_rfl) (aStoreB (b := b0) (j := 0) (T := 62) (cs := [.slice A0_0 x0.b.length c0_0, .bool true]) (us := [.slice A114 ((x0.b ++ ([r35] : List (List UInt8))).length) c115]) (cs' := [.slice A114 ((x0.b ++ ([r35] : List (List UInt8))).length) c115, .bool true]) hf126 (by kernel_rfl) (hm124.bxAt 2 rfl) (by kernel_rfl) (by kernel_rfl) (by kernel_rfl) ?_)
      intro w127 hx128 hg129
      refine ⟨.inl (by decide), ?_⟩
      have hm130 := hm124.setBox 2 _ rfl rfl hx128 hg129
      refine allDone (by kernel_rfl) ⟨rfl, A114, c115, hf126.sel (l := [0, 3]) (by kernel_rfl), hm130.sel [1, 2, 3, 4, 5, 6, 7, 8] _ rfl (by kernel_rfl)⟩
    rintro a131 w132 ⟨A49, c50, hf133, hm134⟩
    refine thenN ?_
    refine wp_seq ?_
    obtain ⟨r135, hr135, H0⟩ := ob_split H0
    refine inReg ?_
    refine go 3 [.slice A1_1 x1.In.length c1_1] [0, 3, 33, 35] [(0, .pointer (some ⟨b0, 0, none⟩)), (3, .pointer (some ⟨b21, 0, none⟩)), (33, .pointer (some ⟨b0, 0, none⟩)), (35, .slice A1_1 x1.In.length c1_1)] [.cell ⟨b21, 1, none⟩ (.slice A1_1 x1.In.length c1_1)] hf133 (by kernel_rfl) ⟨(hm134.cell 0 rfl rfl), trivial⟩ fun a136 hf137 => ?_
    refine listOf hf137 rfl (by kernel_rfl) (aCall (fid := 38) (args := [.pointer (some ⟨b0, 0, none⟩), .string (bs ([105, 58] : List UInt8)), .slice A1_1 x1.In.length c1_1]) (d := 36) hf137 (by kernel_rfl) (by kernel_rfl) callable38 (script_writer_nums.calls _ _ _ (⟨(x0.b ++ ([r35] : List (List UInt8))), true⟩ : Writer) b0 A49 ((x0.b ++ ([r35] : List (List UInt8))).length) c50 rfl ([105, 58] : List UInt8) x1.In A1_1 x1.In.length c1_1 rfl (hm134.giveO [1, 2] [0, 3, 4, 5, 6, 7] [3] [.bx b0 [.slice A49 ((x0.b ++ ([r35] : List (List UInt8))).length) c50, .bool true] 62, .ow Kd.str 9 A49 c50 (x0.b ++ ([r35] : List (List UInt8)))] _ [.sl (Kd.int .i64) A1_1 c1_1 x1.In] rfl rfl rfl (by kernel_rfl) rfl) r135 hr135 (hG.atO hm134 [1, 2] _ rfl)) ?_)
    rintro _ w140 a141 ⟨A138, c139, rfl, hk143⟩ hf142
    have hm144 := hm134.backO [1, 2] [0, 3, 4, 5, 6, 7] _ _ rfl rfl (by kernel_rfl) hk143
    refine endL rfl ?_
    refine thenN ?_
    refine wp_seq ?_
    obtain ⟨r145, hr145, H0⟩ := ob_split H0
    refine inReg ?_
    refine go 3 [.slice A1_2 x1.To.length c1_2] [0, 3, 37, 39] [(0, .pointer (some ⟨b0, 0, none⟩)), (3, .pointer (some ⟨b21, 0, none⟩)), (37, .pointer (some ⟨b0, 0, none⟩)), (39, .slice A1_2 x1.To.length c1_2)] [.cell ⟨b21, 2, none⟩ (.slice A1_2 x1.To.length c1_2)] hf142 (by kernel_rfl) ⟨(hm144.cell 2 rfl rfl), trivial⟩ fun a146 hf147 => ?_
    refine listOf hf147 rfl (by kernel_rfl) (aCall (fid := 38) (args := [.pointer (some ⟨b0, 0, none⟩), .string (bs ([116, 58] : List UInt8)), .slice A1_2 x1.To.length c1_2]) (d := 40) hf147 (by kernel_rfl) (by kernel_rfl) callable38 (script_writer_nums.calls _ _ _ (⟨r135.1, r135.2⟩ : Writer) b0 A138 r135.1.length c139 rfl ([116, 58] : List UInt8) x1.To A1_2 x1.To.length c1_2 rfl (hm144.giveO [0, 1] [2, 3, 4, 5, 6, 7] [4] [.bx b0 [.slice A138 r135.1.length c139, .bool r135.2] 62, .ow Kd.str 9 A138 c139 r135.1] _ [.sl (Kd.int .i64) A1_2 c1_2 x1.To] rfl rfl rfl (by kernel_rfl) rfl) r145 hr145 (hG.atO hm144 [0, 1] _ rfl)) ?_)
    rintro _ w150 a151 ⟨A148, c149, rfl, hk153⟩ hf152
    have hm154 := hm144.backO [0, 1] [2, 3, 4, 5, 6, 7] _ _ rfl rfl (by kernel_rfl) hk153
    refine endL rfl ?_
    refine thenN ?_
    refine wp_seq ?_
    refine wp_seq ?_
    rcases if_split H0 with ⟨c155, H0⟩ | ⟨c155, H0⟩
    · refine reg [.int .i64 x1.No, .bool false] [0, 3, 43] [(0, .pointer (some ⟨b0, 0, none⟩)), (3, .pointer (some ⟨b21, 0, none⟩)), (43, .bool false)] [.cell ⟨b21, 3, none⟩ (.int .i64 x1.No), .is (((x1.No : Int) != 0) = false)] hf152 (by kernel_rfl) ⟨(hm154.cell 2 rfl rfl), (neF c155), trivial⟩ fun a156 hf157 => ?_
      refine thenN ?_
      refine condF hf157 (by kernel_rfl) ?_
      refine wp_skip ?_
      refine thenN ?_
      refine wp_seq ?_
      obtain ⟨r158, hr158, H0⟩ := ob_split H0
      refine inReg ?_
      refine go 4 [.slice A1_4_0 x1.Val.Shape.length c1_4_0] [0, 3, 49, 52] [(0, .pointer (some ⟨b0, 0, none⟩)), (3, .pointer (some ⟨b21, 0, none⟩)), (49, .pointer (some ⟨b0, 0, none⟩)), (52, .slice A1_4_0 x1.Val.Shape.length c1_4_0)] [.cell ⟨b21, 4, none⟩ (.slice A1_4_0 x1.Val.Shape.length c1_4_0)] hf157 (by kernel_rfl) ⟨(hm154.cell 2 rfl rfl), trivial⟩ fun a159 hf160 => ?_
      refine listOf hf160 rfl (by kernel_rfl) (aCall (fid := 38) (args := [.pointer (some ⟨b0, 0, none⟩), .string (bs ([115, 58] : List UInt8)), .slice A1_4_0 x1.Val.Shape.length c1_4_0]) (d := 53) hf160 (by kernel_rfl) (by kernel_rfl) callable38 (script_writer_nums.calls _ _ _ (⟨r145.1, r145.2⟩ : Writer) b0 A148 r145.1.length c149 rfl ([115, 58] : List UInt8) x1.Val.Shape A1_4_0 x1.Val.Shape.length c1_4_0 rfl (hm154.giveO [0, 1] [2, 3, 4, 5, 6, 7] [5] [.bx b0 [.slice A148 r145.1.length c149, .bool r145.2] 62, .ow Kd.str 9 A148 c149 r145.1] _ [.sl (Kd.int .i64) A1_4_0 c1_4_0 x1.Val.Shape] rfl rfl rfl (by kernel_rfl) rfl) r158 hr158 (hG.atO hm154 [0, 1] _ rfl)) ?_)
      rintro _ w163 a164 ⟨A161, c162, rfl, hk166⟩ hf165
      have hm167 := hm154.backO [0, 1] [2, 3, 4, 5, 6, 7] _ _ rfl rfl (by kernel_rfl) hk166
      refine endL rfl ?_
      refine thenN ?_
      refine wp_seq ?_
      refine wp_seq ?_
      refine reg [.slice A1_4_1 x1.Val.Data.length c1_4_1] [0, 3, 56, 57, 58] [(0, .pointer (some ⟨b0, 0, none⟩)), (3, .pointer (some ⟨b21, 0, none⟩)), (56, .slice A1_4_1 x1.Val.Data.length c1_4_1), (57, .int .i64 (x1.Val.Data.length : Int)), (58, .int .i64 0)] [.cell ⟨b21, 5, none⟩ (.slice A1_4_1 x1.Val.Data.length c1_4_1)] hf165 (by kernel_rfl) ⟨(hm167.cell 2 rfl rfl), trivial⟩ fun a168 hf169 => ?_
      refine thenN ?_
      obtain ⟨r175, hr175, H0⟩ := ob_split H0
      refine wpBlock (Mid := fun (a : Act) (w : World) => ∃ (A173 : Option Addr) (c174 : Nat), Fr 106 a [(0, .pointer (some ⟨b0, 0, none⟩)), (3, .pointer (some ⟨b21, 0, none⟩)), (56, .slice A1_4_1 x1.Val.Data.length c1_4_1), (57, .int .i64 (x1.Val.Data.length : Int)), (58, .int .i64 r175.1)] ∧ Mem B0 M w0 [.bx b0 [.slice A173 r175.2.length c174, .bool r158.2] 62, .ow Kd.str 9 A173 c174 r175.2, .bx b21 [.int .i64 x1.Op, .slice A1_1 x1.In.length c1_1, .slice A1_2 x1.To.length c1_2, .int .i64 x1.No, .slice A1_4_0 x1.Val.Shape.length c1_4_0, .slice A1_4_1 x1.Val.Data.length c1_4_1, .slice A1_6 x1.Hooks.length c1_6] 49, .sl (Kd.int .i64) A1_1 c1_1 x1.In, .sl (Kd.int .i64) A1_2 c1_2 x1.To, .sl (Kd.int .i64) A1_4_0 c1_4_0 x1.Val.Shape, .sl Kd.float A1_4_1 c1_4_1 x1.Val.Data, .sl kHook A1_6 c1_6 x1.Hooks] w) ?_ ?_
      · refine wpLoop (script_writer_node.l0 x1) r175 (fun (s172 : (Int × (List (List UInt8)))) (a : Act) (w : World) => ∃ (A173 : Option Addr) (c174 : Nat), Fr 106 a [(0, .pointer (some ⟨b0, 0, none⟩)), (3, .pointer (some ⟨b21, 0, none⟩)), (56, .slice A1_4_1 x1.Val.Data.length c1_4_1), (57, .int .i64 (x1.Val.Data.length : Int)), (58, .int .i64 s172.1)] ∧ Mem B0 M w0 [.bx b0 [.slice A173 s172.2.length c174, .bool r158.2] 62, .ow Kd.str 9 A173 c174 s172.2, .bx b21 [.int .i64 x1.Op, .slice A1_1 x1.In.length c1_1, .slice A1_2 x1.To.length c1_2, .int .i64 x1.No, .slice A1_4_0 x1.Val.Shape.length c1_4_0, .slice A1_4_1 x1.Val.Data.length c1_4_1, .slice A1_6 x1.Hooks.length c1_6] 49, .sl (Kd.int .i64) A1_1 c1_1 x1.In, .sl (Kd.int .i64) A1_2 c1_2 x1.To, .sl (Kd.int .i64) A1_4_0 c1_4_0 x1.Val.Shape, .sl Kd.float A1_4_1 c1_4_1 x1.Val.Data, .sl kHook A1_6 c1_6 x1.Hooks] w) (0, r158.1) hr175 ⟨A161, c162, hf169.sel (l := [0, 3, 56, 57, 58]) (by kernel_rfl), hm167.sel [0, 1, 2, 3, 4, 5, 6, 7] _ rfl (by kernel_rfl)⟩ ?_
        rintro g176 s172 a177 w178 H1 ⟨A173, c174, hf179, hm180⟩
        unfold script_writer_node.l0 at H1
        refine wp_seq ?_
        rcases ifS_split H1 with ⟨c181, H1⟩ | ⟨c181, H1⟩
        rotate_left
        · refine reg [.bool false] [0, 3, 56, 57, 58, 59] [(0, .pointer (some ⟨b0, 0, none⟩)), (3, .pointer (some ⟨b21, 0, none⟩)), (56, .slice A1_4_1 x1.Val.Data.length c1_4_1), (57, .int .i64 (x1.Val.Data.length : Int)), (58, .int .i64 s172.1), (59, .bool false)] [.is (decide (s172.1 < (x1.Val.Data.length : Int)) = false)] hf179 (by kernel_rfl) ⟨(decide_eq_false c181), trivial⟩ fun a295 hf296 => ?_
          refine thenN ?_
          refine wp_seq ?_
          refine condF hf296 (by kernel_rfl) ?_
          refine wp_exit ?_
          refine thenE ?_
          refine thenE ?_
          obtain rfl := Option.some.inj H1
          exact .inl ⟨rfl, A173, c174, hf296.sel (l := [0, 3, 56, 57, 58]) (by kernel_rfl), hm180.sel [0, 1, 2, 3, 4, 5, 6, 7] _ rfl (by kernel_rfl)⟩
        refine reg [.bool true] [0, 3, 56, 57, 58, 59] [(0, .pointer (some ⟨b0, 0, none⟩)), (3, .pointer (some ⟨b21, 0, none⟩)), (56, .slice A1_4_1 x1.Val.Data.length c1_4_1), (57, .int .i64 (x1.Val.Data.length : Int)), (58, .int .i64 s172.1), (59, .bool true)] [.is (decide (s172.1 < (x1.Val.Data.length : Int)) = true)] hf179 (by kernel_rfl) ⟨(decide_eq_true c181), trivial⟩ fun a182 hf183 => ?_
        refine thenN ?_
        refine wp_seq ?_
        refine condT hf183 (by kernel_rfl) ?_
        refine wp_skip ?_
        refine thenN ?_
        refine wp_seq ?_
        refine wp_block ?_
        refine wp_seq ?_
        obtain ⟨g184, H1⟩ := ifS_guard H1
        have q185 := (hm180.slAt 6 rfl).float s172.1 g184.1 g184.2
        obtain ⟨b186, hb186, kb186⟩ := q185.2
        refine reg [.float .f64 b186] [0, 3, 5, 56, 57, 58] [(0, .pointer (some ⟨b0, 0, none⟩)), (3, .pointer (some ⟨b21, 0, none⟩)), (5, .float .f64 b186), (56, .slice A1_4_1 x1.Val.Data.length c1_4_1), (57, .int .i64 (x1.Val.Data.length : Int)), (58, .int .i64 s172.1)] [.is (Option.isSome A1_4_1 = true), .is (0 ≤ s172.1 ∧ s172.1 < (x1.Val.Data.length : Int)), .cell ((ad A1_4_1).add ((s172.1).toNat * 1)) (.float .f64 b186)] hf183 (by kernel_rfl) ⟨q185.1, g184, kb186, trivial⟩ fun a187 hf188 => ?_
        refine thenN ?_
        obtain ⟨r189, hr189, H1⟩ := obS_split H1
        obtain ⟨g190, H1⟩ := ifS_guard H1
        obtain ⟨g191, H1⟩ := ifS_guard H1
        refine midReg (fun (a : Act) (w : World) => ∃ (A204 : Option Addr) (c205 : Nat), Fr 106 a [(0, .pointer (some ⟨b0, 0, none⟩)), (3, .pointer (some ⟨b21, 0, none⟩)), (56, .slice A1_4_1 x1.Val.Data.length c1_4_1), (57, .int .i64 (x1.Val.Data.length : Int)), (58, .int .i64 s172.1)] ∧ Mem B0 M w0 [.bx b0 [.slice A204 ((s172.2 ++ ([(([118, 58] : List UInt8) ++ r189)] : List (List UInt8))).length) c205, .bool r158.2] 62, .ow Kd.str 9 A204 c205 (s172.2 ++ ([(([118, 58] : List UInt8) ++ r189)] : List (List UInt8))), .bx b21 [.int .i64 x1.Op, .slice A1_1 x1.In.length c1_1, .slice A1_2 x1.To.length c1_2, .int .i64 x1.No, .slice A1_4_0 x1.Val.Shape.length c1_4_0, .slice A1_4_1 x1.Val.Data.length c1_4_1, .slice A1_6 x1.Hooks.length c1_6] 49, .sl (Kd.int .i64) A1_1 c1_1 x1.In, .sl (Kd.int .i64) A1_2 c1_2 x1.To, .sl (Kd.int .i64) A1_4_0 c1_4_0 x1.Val.Shape, .sl Kd.float A1_4_1 c1_4_1 x1.Val.Data, .sl kHook A1_6 c1_6 x1.Hooks] w) ?_ ?_
        · refine anyG (K := [bk A173]) [12] (by kernel_rfl) fun w220 hg221 => ?_
          have hm222 := hm180.still hg221
          refine quiet0 [0, 1, 2, 3, 4, 5] [.slice A173 s172.2.length c174] [0, 3, 56, 57, 58, 62, 66, 67] #[true, true, true, true, true, true, false, false, false, false, false, false, false] [(0, .pointer (some ⟨b0, 0, none⟩)), (3, .pointer (some ⟨b21, 0, none⟩)), (56, .slice A1_4_1 x1.Val.Data.length c1_4_1), (57, .int .i64 (x1.Val.Data.length : Int)), (58, .int .i64 s172.1), (62, .pointer (some ⟨b0, 0, none⟩)), (66, .slice A173 s172.2.length c174), (67, .float .f64 b186)] [.cell ⟨b0, 0, none⟩ (.slice A173 s172.2.length c174), .is (some (⟨b0, 0, none⟩ : Addr).block ∉ [bk A173])] 7 rfl (by kernel_rfl) (fun _ _ _ _ _ h => nomatch h.1) hf188 (by kernel_rfl) ⟨(hm222.cell 0 rfl rfl), (hm222.bxK 0 [1] _ rfl rfl rfl), trivial⟩ fun a256 hf257 => ?_
          refine all1 6 (by kernel_rfl) ?_
          refine opOf hf257 rfl (by kernel_rfl) (aCall (fid := 15) (args := [.float .f64 b186]) (d := 68) hf257 (by kernel_rfl) (by kernel_rfl) callable15 (script_Number.calls _ _ (rd x1.Val.Data s172.1) b186 hb186 (hm222.give [] [] rfl rfl) r189 hr189) ?_)
          rintro _ w258 a259 ⟨rfl, hk261⟩ hf260
          refine ⟨.inr (Gr.still hk261.cum.none), ?_⟩
          have hm262 := hm222.still hk261.cum.none
          refine quiet0 [7] [.string (bs (([118, 58] : List UInt8) ++ r189))] [0, 3, 56, 57, 58, 62, 66, 69] #[true, true, true, true, true, true, true, true, false, false, false, false, false] [(0, .pointer (some ⟨b0, 0, none⟩)), (3, .pointer (some ⟨b21, 0, none⟩)), (56, .slice A1_4_1 x1.Val.Data.length c1_4_1), (57, .int .i64 (x1.Val.Data.length : Int)), (58, .int .i64 s172.1), (62, .pointer (some ⟨b0, 0, none⟩)), (66, .slice A173 s172.2.length c174), (69, .string (bs (([118, 58] : List UInt8) ++ r189)))] [.is (bs (([118, 58] : List UInt8) ++ r189) = bs ([118, 58] : List UInt8) ++ bs r189 ∧ (bs ([118, 58] : List UInt8)).size + (bs r189).size ≤ 9223372036854775807)] 5 rfl (by kernel_rfl) (fun _ _ _ _ _ h => nomatch h.1) hf260 (by kernel_rfl) ⟨(catOk g190), trivial⟩ fun a263 hf264 => ?_
          refine all1 8 (by kernel_rfl) ?_
          refine opOf hf264 rfl (by kernel_rfl) (aLit (cs := [.string (bs (([118, 58] : List UInt8) ++ r189))]) (E := 9) (len := 1) (d := 70) hf264 (by kernel_rfl) (by kernel_rfl) ?_)
          intro b265 w266 a267 hbb265 hx269 hg270 hf268
          refine ⟨.inr (Gr.still hg270), ?_⟩
          have hm262s := hm262.still hg270
          have hm271 := Mem.lit (kd := Kd.str) (xs := ([(([118, 58] : List UInt8) ++ r189)] : List (List UInt8))) hm262 hbb265 hx269 hg270 (Els.one (kd := Kd.str) (us := [.string (bs (([118, 58] : List UInt8) ++ r189))]) (x := (([118, 58] : List UInt8) ++ r189)) rfl)
          refine all1 9 (by kernel_rfl) ?_
          have e280 : s172.2.length = s172.2.length := rfl
          have e281 : 1 = ([(([118, 58] : List UInt8) ++ r189)] : List (List UInt8)).length := rfl
          refine opOf hf268 rfl (by kernel_rfl) (aApp (kd := Kd.str) (base := 0) (E := 9) (A := A173) (B := (some ⟨b265, 0, none⟩)) (c := c174) (c2 := 1) (xs := s172.2) (ys := ([(([118, 58] : List UInt8) ++ r189)] : List (List UInt8))) (k := s172.2.length) (m := 1) (sz := 1) (d := 71) hf268 (by kernel_rfl) e280 e281 (by kernel_rfl) rfl (by kernel_rfl) (hm271.at 2 rfl) (hm271.at2 2 0 rfl rfl).2 (hm271.cpAt 0 rfl) (Nat.zero_le _) (by have := g191; omega) ?_)
          intro A272 c273 w274 a275 ho277 hg278 hr279 hf276
          refine ⟨.inr (Gr.own hg278 (by simp)), ?_⟩
          have hm282 := hm271.setOwn 2 _ rfl rfl ho277 hg278 hr279
          refine quiet0 [10, 11] [] [0, 3, 56, 57, 58, 71, 73] #[true, true, true, true, true, true, true, true, true, true, true, true, false] [(0, .pointer (some ⟨b0, 0, none⟩)), (3, .pointer (some ⟨b21, 0, none⟩)), (56, .slice A1_4_1 x1.Val.Data.length c1_4_1), (57, .int .i64 (x1.Val.Data.length : Int)), (58, .int .i64 s172.1), (71, .slice A272 ((s172.2 ++ ([(([118, 58] : List UInt8) ++ r189)] : List (List UInt8))).length) c273), (73, .pointer (some ⟨b0, 0, none⟩))] [] 1 rfl (by kernel_rfl) (fun _ _ _ _ _ h => nomatch h.1) hf276 (by kernel_rfl) trivial fun a283 hf284 => ?_
          refine all1 12 (by kernel_rfl) ?_
          refine opOf hf284 rfl (by kernel_rfl) (aStoreB (b := b0) (j := 0) (T := 62) (cs := [.slice A173 s172.2.length c174, .bool r158.2]) (us := [.slice A272 ((s172.2 ++ ([(([118, 58] : List UInt8) ++ r189)] : List (List UInt8))).length) c273]) (cs' := [.slice A272 ((s172.2 ++ ([(([118, 58] : List UInt8) ++ r189)] : List (List UInt8))).length) c273, .bool r158.2]) hf284 (by kernel_rfl) (hm282.bxAt 1 rfl) (by kernel_rfl) (by kernel_rfl) (by kernel_rfl) ?_)
          intro w285 hx286 hg287
          refine ⟨.inl (by decide), ?_⟩
          have hm288 := hm282.setBox 1 _ rfl rfl hx286 hg287
          refine allDone (by kernel_rfl) ⟨rfl, A272, c273, hf284.sel (l := [0, 3, 56, 57, 58]) (by kernel_rfl), hm288.sel [1, 2, 3, 4, 5, 6, 7, 8] _ rfl (by kernel_rfl)⟩
        rintro a289 w290 ⟨A204, c205, hf291, hm292⟩
        refine blkN ?_
        refine thenN ?_
        refine reg [] [0, 3, 56, 57, 58] [(0, .pointer (some ⟨b0, 0, none⟩)), (3, .pointer (some ⟨b21, 0, none⟩)), (56, .slice A1_4_1 x1.Val.Data.length c1_4_1), (57, .int .i64 (x1.Val.Data.length : Int)), (58, .int .i64 (w64 (s172.1 + 1)))] [] hf291 (by kernel_rfl) trivial fun a293 hf294 => ?_
        exact ⟨((w64 (s172.1 + 1)), (s172.2 ++ ([(([118, 58] : List UInt8) ++ r189)] : List (List UInt8)))), H1, A204, c205, hf294.sel (l := [0, 3, 56, 57, 58]) (by kernel_rfl), hm292.sel [0, 1, 2, 3, 4, 5, 6, 7] _ rfl (by kernel_rfl)⟩
      rintro a297 w298 ⟨A173, c174, hf299, hm300⟩
      refine thenN ?_
      refine wp_seq ?_
      refine reg [.slice A1_6 x1.Hooks.length c1_6] [0, 76, 77, 78] [(0, .pointer (some ⟨b0, 0, none⟩)), (76, .slice A1_6 x1.Hooks.length c1_6), (77, .int .i64 (x1.Hooks.length : Int)), (78, .int .i64 0)] [.cell ⟨b21, 6, none⟩ (.slice A1_6 x1.Hooks.length c1_6)] hf299 (by kernel_rfl) ⟨(hm300.cell 2 rfl rfl), trivial⟩ fun a301 hf302 => ?_
      have hm303 := hm300.sel [0, 1, 7] _ rfl (by kernel_rfl)
      refine thenN ?_
      obtain ⟨r309, hr309, H0⟩ := ob_split H0
      refine wpBlock (Mid := fun (a : Act) (w : World) => ∃ (A307 : Option Addr) (c308 : Nat), Fr 106 a [(0, .pointer (some ⟨b0, 0, none⟩)), (76, .slice A1_6 x1.Hooks.length c1_6), (77, .int .i64 (x1.Hooks.length : Int)), (78, .int .i64 r309.1)] ∧ Mem B0 M w0 [.bx b0 [.slice A307 r309.2.2.length c308, .bool r309.2.1] 62, .ow Kd.str 9 A307 c308 r309.2.2, .sl kHook A1_6 c1_6 x1.Hooks] w) ?_ ?_
      · refine wpLoop (script_writer_node.l1 x1) r309 (fun (s306 : (Int × Bool × (List (List UInt8)))) (a : Act) (w : World) => ∃ (A307 : Option Addr) (c308 : Nat), Fr 106 a [(0, .pointer (some ⟨b0, 0, none⟩)), (76, .slice A1_6 x1.Hooks.length c1_6), (77, .int .i64 (x1.Hooks.length : Int)), (78, .int .i64 s306.1)] ∧ Mem B0 M w0 [.bx b0 [.slice A307 s306.2.2.length c308, .bool s306.2.1] 62, .ow Kd.str 9 A307 c308 s306.2.2, .sl kHook A1_6 c1_6 x1.Hooks] w) (0, r158.2, r175.2) hr309 ⟨A173, c174, hf302.sel (l := [0, 76, 77, 78]) (by kernel_rfl), hm303.sel [0, 1, 2] _ rfl (by kernel_rfl)⟩ ?_
        rintro g310 s306 a311 w312 H1 ⟨A307, c308, hf313, hm314⟩
        unfold script_writer_node.l1 at H1
        refine wp_seq ?_
        rcases ifS_split H1 with ⟨c315, H1⟩ | ⟨c315, H1⟩
        rotate_left
        · refine reg [.bool false] [0, 76, 77, 78, 79] [(0, .pointer (some ⟨b0, 0, none⟩)), (76, .slice A1_6 x1.Hooks.length c1_6), (77, .int .i64 (x1.Hooks.length : Int)), (78, .int .i64 s306.1), (79, .bool false)] [.is (decide (s306.1 < (x1.Hooks.length : Int)) = false)] hf313 (by kernel_rfl) ⟨(decide_eq_false c315), trivial⟩ fun a412 hf413 => ?_
          refine thenN ?_
          refine wp_seq ?_
          refine condF hf413 (by kernel_rfl) ?_
          refine wp_exit ?_
          refine thenE ?_
          refine thenE ?_
          obtain rfl := Option.some.inj H1
          exact .inl ⟨rfl, A307, c308, hf413.sel (l := [0, 76, 77, 78]) (by kernel_rfl), hm314.sel [0, 1, 2] _ rfl (by kernel_rfl)⟩
        refine reg [.bool true] [0, 76, 77, 78, 79] [(0, .pointer (some ⟨b0, 0, none⟩)), (76, .slice A1_6 x1.Hooks.length c1_6), (77, .int .i64 (x1.Hooks.length : Int)), (78, .int .i64 s306.1), (79, .bool true)] [.is (decide (s306.1 < (x1.Hooks.length : Int)) = true)] hf313 (by kernel_rfl) ⟨(decide_eq_true c315), trivial⟩ fun a316 hf317 => ?_
        refine thenN ?_
        refine wp_seq ?_
        refine condT hf317 (by kernel_rfl) ?_
        refine wp_skip ?_
        refine thenN ?_
        refine wp_seq ?_
        refine wp_block ?_
        refine wp_seq ?_
        obtain ⟨g318, H1⟩ := ifS_guard H1
        have q319 := (hm314.slAt 2 rfl).get s306.1 g318.1 g318.2
        obtain ⟨us320, hr321, hc322⟩ := q319.2
        obtain ⟨b323, rfl, hb323⟩ := kHook.open hr321
        refine inReg ?_
        refine go 2 [.agg #[.int .i64 ((rd x1.Hooks s306.1).Do), .float .f64 b323]] [0, 76, 77, 78, 81] [(0, .pointer (some ⟨b0, 0, none⟩)), (76, .slice A1_6 x1.Hooks.length c1_6), (77, .int .i64 (x1.Hooks.length : Int)), (78, .int .i64 s306.1), (81, .agg #[.int .i64 ((rd x1.Hooks s306.1).Do), .float .f64 b323])] [.is (Option.isSome A1_6 = true), .is (0 ≤ s306.1 ∧ s306.1 < (x1.Hooks.length : Int)), .cell ((ad A1_6).add ((s306.1).toNat * 2)) (.int .i64 ((rd x1.Hooks s306.1).Do)), .cell (((ad A1_6).add ((s306.1).toNat * 2)).add 1) (.float .f64 b323)] hf317 (by kernel_rfl) ⟨q319.1, g318, (hc322 0 _ rfl), (hc322 1 _ rfl), trivial⟩ fun a324 hf325 => ?_
        refine listOf hf325 rfl (by kernel_rfl) (aNew (cs := [.int .i64 0, .float .f64 0]) (T := 51) (d := 7) hf325 (by kernel_rfl) (by kernel_rfl) ?_)
        intro b326 w327 a328 hbb326 hx330 hg331 hf329
        have hm332 := hm314.box hbb326 hx330 hg331
        refine listOf hf329 rfl (by kernel_rfl) (aStoreB (b := b326) (j := 0) (T := 51) (cs := [.int .i64 0, .float .f64 0]) (us := [.int .i64 ((rd x1.Hooks s306.1).Do), .float .f64 b323]) (cs' := [.int .i64 ((rd x1.Hooks s306.1).Do), .float .f64 b323]) hf329 (by kernel_rfl) (hm332.bxAt 0 rfl) (by kernel_rfl) (by kernel_rfl) (by kernel_rfl) ?_)
        intro w333 hx334 hg335
        have hm336 := hm332.setBox 0 _ rfl rfl hx334 hg335
        refine endL rfl ?_
        refine thenN ?_
        refine wp_seq ?_
        obtain ⟨r337, hr337, H1⟩ := obS_split H1
        refine inReg ?_
        refine go 3 [.int .i64 ((rd x1.Hooks s306.1).Do)] [0, 7, 76, 77, 78, 82, 84] [(0, .pointer (some ⟨b0, 0, none⟩)), (7, .pointer (some ⟨b326, 0, none⟩)), (76, .slice A1_6 x1.Hooks.length c1_6), (77, .int .i64 (x1.Hooks.length : Int)), (78, .int .i64 s306.1), (82, .pointer (some ⟨b0, 0, none⟩)), (84, .int .i64 ((rd x1.Hooks s306.1).Do))] [.cell ⟨b326, 0, none⟩ (.int .i64 ((rd x1.Hooks s306.1).Do))] hf329 (by kernel_rfl) ⟨(hm336.cell 0 rfl rfl), trivial⟩ fun a338 hf339 => ?_
        refine listOf hf339 rfl (by kernel_rfl) (aLit (cs := [.int .i64 ((rd x1.Hooks s306.1).Do)]) (E := 3) (len := 1) (d := 85) hf339 (by kernel_rfl) (by kernel_rfl) ?_)
        intro b340 w341 a342 hbb340 hx344 hg345 hf343
        have hm336s := hm336.still hg345
        have hm346 := Mem.lit (kd := (Kd.int .i64)) (xs := ([((rd x1.Hooks s306.1).Do)] : List Int)) hm336 hbb340 hx344 hg345 (Els.one (kd := (Kd.int .i64)) (us := [.int .i64 ((rd x1.Hooks s306.1).Do)]) (x := ((rd x1.Hooks s306.1).Do)) rfl)
        refine listOf hf343 rfl (by kernel_rfl) (aCall (fid := 38) (args := [.pointer (some ⟨b0, 0, none⟩), .string (bs ([104, 58] : List UInt8)), .slice (some ⟨b340, 0, none⟩) 1 1]) (d := 86) hf343 (by kernel_rfl) (by kernel_rfl) callable38 (script_writer_nums.calls _ _ _ (⟨s306.2.2, s306.2.1⟩ : Writer) b0 A307 s306.2.2.length c308 rfl ([104, 58] : List UInt8) ([((rd x1.Hooks s306.1).Do)] : List Int) (some ⟨b340, 0, none⟩) 1 1 rfl (hm346.giveO [2, 3] [0, 1, 4] [0] [.bx b0 [.slice A307 s306.2.2.length c308, .bool s306.2.1] 62, .ow Kd.str 9 A307 c308 s306.2.2] _ [.sl (Kd.int .i64) (some ⟨b340, 0, none⟩) 1 ([((rd x1.Hooks s306.1).Do)] : List Int)] rfl rfl rfl (by kernel_rfl) rfl) r337 hr337 (hG.atO hm346 [2, 3] _ rfl)) ?_)
        rintro _ w349 a350 ⟨A347, c348, rfl, hk352⟩ hf351
        have hm353 := hm346.backO [2, 3] [0, 1, 4] _ _ rfl rfl (by kernel_rfl) hk352
        refine endL rfl ?_
        have hm354 := hm353.sel [0, 1, 3, 4] _ rfl (by kernel_rfl)
        refine thenN ?_
        obtain ⟨g355, H1⟩ := ifS_guard H1
        obtain ⟨r356, hr356, H1⟩ := obS_split H1
        obtain ⟨g357, H1⟩ := ifS_guard H1
        obtain ⟨g358, H1⟩ := ifS_guard H1
        refine midReg (fun (a : Act) (w : World) => Fr 106 a [(0, .pointer (some ⟨b0, 0, none⟩)), (76, .slice A1_6 x1.Hooks.length c1_6), (77, .int .i64 (x1.Hooks.length : Int)), (78, .int .i64 s306.1)] ∧ Mem B0 M w0 [.bx b0 [.slice A347 r337.1.length c348, .bool r337.2] 62, .ow Kd.str 9 A347 c348 (put r337.1 (w64 ((r337.1.length : Int) - 1)) ((rd r337.1 (w64 ((r337.1.length : Int) - 1))) ++ (([44] : List UInt8) ++ r356))), .sl kHook A1_6 c1_6 x1.Hooks] w) ?_ ?_
        · refine anyG (K := []) [18] (by kernel_rfl) fun w371 hg372 => ?_
          have hm373 := hm354.still hg372
          have q389 := (hm373.owAt 1 rfl).str (w64 ((r337.1.length : Int) - 1)) g355.1 g355.2
          refine quiet0 [0, 1, 2, 3, 4, 5, 6, 7, 8, 9, 10, 11, 12, 13] [.slice A347 r337.1.length c348, .slice A347 r337.1.length c348, .string (bs (rd r337.1 (w64 ((r337.1.length : Int) - 1)))), .float .f64 b323] [0, 76, 77, 78, 90, 96, 98, 100] #[true, true, true, true, true, true, true, true, true, true, true, true, true, true, false, false, false, false, false] [(0, .pointer (some ⟨b0, 0, none⟩)), (76, .slice A1_6 x1.Hooks.length c1_6), (77, .int .i64 (x1.Hooks.length : Int)), (78, .int .i64 s306.1), (90, .slice A347 r337.1.length c348), (96, .int .i64 (w64 ((r337.1.length : Int) - 1))), (98, .string (bs (rd r337.1 (w64 ((r337.1.length : Int) - 1))))), (100, .float .f64 b323)] [.cell ⟨b0, 0, none⟩ (.slice A347 r337.1.length c348), .cell ⟨b0, 0, none⟩ (.slice A347 r337.1.length c348), .is (Option.isSome A347 = true), .is (0 ≤ (w64 ((r337.1.length : Int) - 1)) ∧ (w64 ((r337.1.length : Int) - 1)) < (r337.1.length : Int)), .cell ((ad A347).add (((w64 ((r337.1.length : Int) - 1))).toNat * 1)) (.string (bs (rd r337.1 (w64 ((r337.1.length : Int) - 1))))), .cell ⟨b326, 1, none⟩ (.float .f64 b323)] 5 rfl (by kernel_rfl) (fun _ _ _ _ _ h => nomatch h.1) hf351 (by kernel_rfl) ⟨(hm373.cell 0 rfl rfl), (hm373.cell 0 rfl rfl), q389.1, g355, q389.2, (hm373.cell 2 rfl rfl), trivial⟩ fun a390 hf391 => ?_
          refine all1 14 (by kernel_rfl) ?_
          refine opOf hf391 rfl (by kernel_rfl) (aCall (fid := 15) (args := [.float .f64 b323]) (d := 101) hf391 (by kernel_rfl) (by kernel_rfl) callable15 (script_Number.calls _ _ ((rd x1.Hooks s306.1).X) b323 hb323 (hm373.give [] [] rfl rfl) r356 hr356) ?_)
          rintro _ w392 a393 ⟨rfl, hk395⟩ hf394
          refine ⟨.inr (Gr.still hk395.cum.none), ?_⟩
          have hm396 := hm373.still hk395.cum.none
          have q397 := (hm396.owAt 1 rfl).str (w64 ((r337.1.length : Int) - 1)) g355.1 g355.2
          refine quiet0 [15, 16, 17] [.string (bs (([44] : List UInt8) ++ r356)), .string (bs ((rd r337.1 (w64 ((r337.1.length : Int) - 1))) ++ (([44] : List UInt8) ++ r356)))] [0, 76, 77, 78, 103, 104] #[true, true, true, true, true, true, true, true, true, true, true, true, true, true, true, true, true, true, false] [(0, .pointer (some ⟨b0, 0, none⟩)), (76, .slice A1_6 x1.Hooks.length c1_6), (77, .int .i64 (x1.Hooks.length : Int)), (78, .int .i64 s306.1), (103, .string (bs ((rd r337.1 (w64 ((r337.1.length : Int) - 1))) ++ (([44] : List UInt8) ++ r356)))), (104, .pointer (some ((ad A347).add (((w64 ((r337.1.length : Int) - 1))).toNat * 1))))] [.is (bs (([44] : List UInt8) ++ r356) = bs ([44] : List UInt8) ++ bs r356 ∧ (bs ([44] : List UInt8)).size + (bs r356).size ≤ 9223372036854775807), .is (bs ((rd r337.1 (w64 ((r337.1.length : Int) - 1))) ++ (([44] : List UInt8) ++ r356)) = bs (rd r337.1 (w64 ((r337.1.length : Int) - 1))) ++ bs (([44] : List UInt8) ++ r356) ∧ (bs (rd r337.1 (w64 ((r337.1.length : Int) - 1)))).size + (bs (([44] : List UInt8) ++ r356)).size ≤ 9223372036854775807), .is (Option.isSome A347 = true), .is (0 ≤ (w64 ((r337.1.length : Int) - 1)) ∧ (w64 ((r337.1.length : Int) - 1)) < (r337.1.length : Int))] 1 rfl (by kernel_rfl) (fun _ _ _ _ _ h => nomatch h.1) hf394 (by kernel_rfl) ⟨(catOk g357), (catOk g358), q397.1, g355, trivial⟩ fun a398 hf399 => ?_
          refine all1 18 (by kernel_rfl) ?_
          refine opOf hf399 rfl (by kernel_rfl) (aStoreO (kd := Kd.str) (base := 0) (E := 9) (A := A347) (c := c348) (xs := r337.1) (i := (w64 ((r337.1.length : Int) - 1))) (x := ((rd r337.1 (w64 ((r337.1.length : Int) - 1))) ++ (([44] : List UInt8) ++ r356))) (us := [.string (bs ((rd r337.1 (w64 ((r337.1.length : Int) - 1))) ++ (([44] : List UInt8) ++ r356)))]) (sz := 1) hf399 (by kernel_rfl) rfl (by kernel_rfl) (hm396.at 1 rfl) rfl g355.1 g355.2 ?_)
          intro w400 hx401 hg402
          refine ⟨.inl (by decide), ?_⟩
          have hm403 := hm396.setOwn 1 _ rfl rfl hx401 hg402 (.inl rfl)
          refine allDone (by kernel_rfl) ⟨rfl, hf399.sel (l := [0, 76, 77, 78]) (by kernel_rfl), hm403.sel [0, 1, 3] _ rfl (by kernel_rfl)⟩
        rintro a404 w405 ⟨hf406, hm407⟩
        refine blkN ?_
        refine thenN ?_
        refine reg [] [0, 76, 77, 78] [(0, .pointer (some ⟨b0, 0, none⟩)), (76, .slice A1_6 x1.Hooks.length c1_6), (77, .int .i64 (x1.Hooks.length : Int)), (78, .int .i64 (w64 (s306.1 + 1)))] [] hf406 (by kernel_rfl) trivial fun a408 hf409 => ?_
        have hf410 : Fr 106 a408 [(0, .pointer (some ⟨b0, 0, none⟩)), (76, .slice A1_6 x1.Hooks.length c1_6), (77, .int .i64 (x1.Hooks.length : Int)), (78, .int .i64 (w64 (s306.1 + 1)))] := hf409.sel (l := [0, 76, 77, 78]) (by kernel_rfl)
        have hm411 : Mem B0 M w0 [.bx b0 [.slice A347 r337.1.length c348, .bool r337.2] 62, .ow Kd.str 9 A347 c348 (put r337.1 (w64 ((r337.1.length : Int) - 1)) ((rd r337.1 (w64 ((r337.1.length : Int) - 1))) ++ (([44] : List UInt8) ++ r356))), .sl kHook A1_6 c1_6 x1.Hooks] w405 := hm407.sel [0, 1, 2] _ rfl (by kernel_rfl)
        exact ⟨((w64 (s306.1 + 1)), r337.2, (put r337.1 (w64 ((r337.1.length : Int) - 1)) ((rd r337.1 (w64 ((r337.1.length : Int) - 1))) ++ (([44] : List UInt8) ++ r356)))), H1, A347, c348, (by simpa only [put_length, List.length_nil] using hf410), (by simpa only [put_length, List.length_nil] using hm411)⟩
      rintro a414 w415 ⟨A307, c308, hf416, hm417⟩
      have hm418 : Mem B0 M w0 [.bx b0 [.slice A307 r309.2.2.length c308, .bool r309.2.1] 62, .ow Kd.str 9 A307 c308 r309.2.2] w415 := hm417.sel [0, 1] _ rfl (by kernel_rfl)
      obtain rfl := Option.some.inj H0
      refine fin [] [] [] hf416 (by kernel_rfl) trivial ?_
      exact ⟨_, rfl, A307, c308, rfl, hm418⟩
    refine reg [.int .i64 x1.No, .bool true] [0, 3, 43] [(0, .pointer (some ⟨b0, 0, none⟩)), (3, .pointer (some ⟨b21, 0, none⟩)), (43, .bool true)] [.cell ⟨b21, 3, none⟩ (.int .i64 x1.No), .is (((x1.No : Int) != 0) = true)] hf152 (by kernel_rfl) ⟨(hm154.cell 2 rfl rfl), (neT c155), trivial⟩ fun a420 hf421 => ?_
    refine thenN ?_
    refine condT hf421 (by kernel_rfl) ?_
    obtain ⟨r422, hr422, H0⟩ := ob_split H0
    refine inReg ?_
    refine go 3 [.int .i64 x1.No] [0, 3, 44, 46] [(0, .pointer (some ⟨b0, 0, none⟩)), (3, .pointer (some ⟨b21, 0, none⟩)), (44, .pointer (some ⟨b0, 0, none⟩)), (46, .int .i64 x1.No)] [.cell ⟨b21, 3, none⟩ (.int .i64 x1.No)] hf421 (by kernel_rfl) ⟨(hm154.cell 2 rfl rfl), trivial⟩ fun a423 hf424 => ?_
    refine listOf hf424 rfl (by kernel_rfl) (aLit (cs := [.int .i64 x1.No]) (E := 3) (len := 1) (d := 47) hf424 (by kernel_rfl) (by kernel_rfl) ?_)
    intro b425 w426 a427 hbb425 hx429 hg430 hf428
    have hm154s := hm154.still hg430
    have hm431 := Mem.lit (kd := (Kd.int .i64)) (xs := ([x1.No] : List Int)) hm154 hbb425 hx429 hg430 (Els.one (kd := (Kd.int .i64)) (us := [.int .i64 x1.No]) (x := x1.No) rfl)
    refine listOf hf428 rfl (by kernel_rfl) (aCall (fid := 38) (args := [.pointer (some ⟨b0, 0, none⟩), .string (bs ([110, 58] : List UInt8)), .slice (some ⟨b425, 0, none⟩) 1 1]) (d := 48) hf428 (by kernel_rfl) (by kernel_rfl) callable38 (script_writer_nums.calls _ _ _ (⟨r145.1, r145.2⟩ : Writer) b0 A148 r145.1.length c149 rfl ([110, 58] : List UInt8) ([x1.No] : List Int) (some ⟨b425, 0, none⟩) 1 1 rfl (hm431.giveO [1, 2] [0, 3, 4, 5, 6, 7, 8] [0] [.bx b0 [.slice A148 r145.1.length c149, .bool r145.2] 62, .ow Kd.str 9 A148 c149 r145.1] _ [.sl (Kd.int .i64) (some ⟨b425, 0, none⟩) 1 ([x1.No] : List Int)] rfl rfl rfl (by kernel_rfl) rfl) r422 hr422 (hG.atO hm431 [1, 2] _ rfl)) ?_)
    rintro _ w434 a435 ⟨A432, c433, rfl, hk437⟩ hf436
    have hm438 := hm431.backO [1, 2] [0, 3, 4, 5, 6, 7, 8] _ _ rfl rfl (by kernel_rfl) hk437
    refine endL rfl ?_
    have hm439 := hm438.sel [0, 1, 3, 4, 5, 6, 7, 8] _ rfl (by kernel_rfl)
    refine thenN ?_
    refine wp_seq ?_
    obtain ⟨r440, hr440, H0⟩ := ob_split H0
    refine inReg ?_
    refine go 4 [.slice A1_4_0 x1.Val.Shape.length c1_4_0] [0, 3, 49, 52] [(0, .pointer (some ⟨b0, 0, none⟩)), (3, .pointer (some ⟨b21, 0, none⟩)), (49, .pointer (some ⟨b0, 0, none⟩)), (52, .slice A1_4_0 x1.Val.Shape.length c1_4_0)] [.cell ⟨b21, 4, none⟩ (.slice A1_4_0 x1.Val.Shape.length c1_4_0)] hf436 (by kernel_rfl) ⟨(hm439.cell 2 rfl rfl), trivial⟩ fun a441 hf442 => ?_
    refine listOf hf442 rfl (by kernel_rfl) (aCall (fid := 38) (args := [.pointer (some ⟨b0, 0, none⟩), .string (bs ([115, 58] : List UInt8)), .slice A1_4_0 x1.Val.Shape.length c1_4_0]) (d := 53) hf442 (by kernel_rfl) (by kernel_rfl) callable38 (script_writer_nums.calls _ _ _ (⟨r422.1, r422.2⟩ : Writer) b0 A432 r422.1.length c433 rfl ([115, 58] : List UInt8) x1.Val.Shape A1_4_0 x1.Val.Shape.length c1_4_0 rfl (hm439.giveO [0, 1] [2, 3, 4, 5, 6, 7] [5] [.bx b0 [.slice A432 r422.1.length c433, .bool r422.2] 62, .ow Kd.str 9 A432 c433 r422.1] _ [.sl (Kd.int .i64) A1_4_0 c1_4_0 x1.Val.Shape] rfl rfl rfl (by kernel_rfl) rfl) r440 hr440 (hG.atO hm439 [0, 1] _ rfl)) ?_)
    rintro _ w445 a446 ⟨A443, c444, rfl, hk448⟩ hf447
    have hm449 := hm439.backO [0, 1] [2, 3, 4, 5, 6, 7] _ _ rfl rfl (by kernel_rfl) hk448
    refine endL rfl ?_
    refine thenN ?_
    refine wp_seq ?_
    refine wp_seq ?_
    refine reg [.slice A1_4_1 x1.Val.Data.length c1_4_1] [0, 3, 56, 57, 58] [(0, .pointer (some ⟨b0, 0, none⟩)), (3, .pointer (some ⟨b21, 0, none⟩)), (56, .slice A1_4_1 x1.Val.Data.length c1_4_1), (57, .int .i64 (x1.Val.Data.length : Int)), (58, .int .i64 0)] [.cell ⟨b21, 5, none⟩ (.slice A1_4_1 x1.Val.Data.length c1_4_1)] hf447 (by kernel_rfl) ⟨(hm449.cell 2 rfl rfl), trivial⟩ fun a450 hf451 => ?_
    refine thenN ?_
    obtain ⟨r457, hr457, H0⟩ := ob_split H0
    refine wpBlock (Mid := fun (a : Act) (w : World) => ∃ (A455 : Option Addr) (c456 : Nat), Fr 106 a [(0, .pointer (some ⟨b0, 0, none⟩)), (3, .pointer (some ⟨b21, 0, none⟩)), (56, .slice A1_4_1 x1.Val.Data.length c1_4_1), (57, .int .i64 (x1.Val.Data.length : Int)), (58, .int .i64 r457.1)] ∧ Mem B0 M w0 [.bx b0 [.slice A455 r457.2.length c456, .bool r440.2] 62, .ow Kd.str 9 A455 c456 r457.2, .bx b21 [.int .i64 x1.Op, .slice A1_1 x1.In.length c1_1, .slice A1_2 x1.To.length c1_2, .int .i64 x1.No, .slice A1_4_0 x1.Val.Shape.length c1_4_0, .slice A1_4_1 x1.Val.Data.length c1_4_1, .slice A1_6 x1.Hooks.length c1_6] 49, .sl (Kd.int .i64) A1_1 c1_1 x1.In, .sl (Kd.int .i64) A1_2 c1_2 x1.To, .sl (Kd.int .i64) A1_4_0 c1_4_0 x1.Val.Shape, .sl Kd.float A1_4_1 c1_4_1 x1.Val.Data, .sl kHook A1_6 c1_6 x1.Hooks] w) ?_ ?_
    · refine wpLoop (script_writer_node.l0 x1) r457 (fun (s454 : (Int × (List (List UInt8)))) (a : Act) (w : World) => ∃ (A455 : Option Addr) (c456 : Nat), Fr 106 a [(0, .pointer (some ⟨b0, 0, none⟩)), (3, .pointer (some ⟨b21, 0, none⟩)), (56, .slice A1_4_1 x1.Val.Data.length c1_4_1), (57, .int .i64 (x1.Val.Data.length : Int)), (58, .int .i64 s454.1)] ∧ Mem B0 M w0 [.bx b0 [.slice A455 s454.2.length c456, .bool r440.2] 62, .ow Kd.str 9 A455 c456 s454.2, .bx b21 [.int .i64 x1.Op, .slice A1_1 x1.In.length c1_1, .slice A1_2 x1.To.length c1_2, .int .i64 x1.No, .slice A1_4_0 x1.Val.Shape.length c1_4_0, .slice A1_4_1 x1.Val.Data.length c1_4_1, .slice A1_6 x1.Hooks.length c1_6] 49, .sl (Kd.int .i64) A1_1 c1_1 x1.In, .sl (Kd.int .i64) A1_2 c1_2 x1.To, .sl (Kd.int .i64) A1_4_0 c1_4_0 x1.Val.Shape, .sl Kd.float A1_4_1 c1_4_1 x1.Val.Data, .sl kHook A1_6 c1_6 x1.Hooks] w) (0, r440.1) hr457 ⟨A443, c444, hf451.sel (l := [0, 3, 56, 57, 58]) (by kernel_rfl), hm449.sel [0, 1, 2, 3, 4, 5, 6, 7] _ rfl (by kernel_rfl)⟩ ?_
      rintro g458 s454 a459 w460 H1 ⟨A455, c456, hf461, hm462⟩
      unfold script_writer_node.l0 at H1
      refine wp_seq ?_
      rcases ifS_split H1 with ⟨c463, H1⟩ | ⟨c463, H1⟩
      rotate_left
      · refine reg [.bool false] [0, 3, 56, 57, 58, 59] [(0, .pointer (some ⟨b0, 0, none⟩)), (3, .pointer (some ⟨b21, 0, none⟩)), (56, .slice A1_4_1 x1.Val.Data.length c1_4_1), (57, .int .i64 (x1.Val.Data.length : Int)), (58, .int .i64 s454.1), (59, .bool false)] [.is (decide (s454.1 < (x1.Val.Data.length : Int)) = false)] hf461 (by kernel_rfl) ⟨(decide_eq_false c463), trivial⟩ fun a577 hf578 => ?_
        refine thenN ?_
        refine wp_seq ?_
        refine condF hf578 (by kernel_rfl) ?_
        refine wp_exit ?_
        refine thenE ?_
        refine thenE ?_
        obtain rfl := Option.some.inj H1
        exact .inl ⟨rfl, A455, c456, hf578.sel (l := [0, 3, 56, 57, 58]) (by kernel_rfl), hm462.sel [0, 1, 2, 3, 4, 5, 6, 7] _ rfl (by kernel_rfl)⟩
      refine reg [.bool true] [0, 3, 56, 57, 58, 59] [(0, .pointer (some ⟨b0, 0, none⟩)), (3, .pointer (some ⟨b21, 0, none⟩)), (56, .slice A1_4_1 x1.Val.Data.length c1_4_1), (57, .int .i64 (x1.Val.Data.length : Int)), (58, .int .i64 s454.1), (59, .bool true)] [.is (decide (s454.1 < (x1.Val.Data.length : Int)) = true)] hf461 (by kernel_rfl) ⟨(decide_eq_true c463), trivial⟩ fun a464 hf465 => ?_
      refine thenN ?_
      refine wp_seq ?_
      refine condT hf465 (by kernel_rfl) ?_
      refine wp_skip ?_
      refine thenN ?_
      refine wp_seq ?_
      refine wp_block ?_
      refine wp_seq ?_
      obtain ⟨g466, H1⟩ := ifS_guard H1
      have q467 := (hm462.slAt 6 rfl).float s454.1 g466.1 g466.2
      obtain ⟨b468, hb468, kb468⟩ := q467.2
      refine reg [.float .f64 b468] [0, 3, 5, 56, 57, 58] [(0, .pointer (some ⟨b0, 0, none⟩)), (3, .pointer (some ⟨b21, 0, none⟩)), (5, .float .f64 b468), (56, .slice A1_4_1 x1.Val.Data.length c1_4_1), (57, .int .i64 (x1.Val.Data.length : Int)), (58, .int .i64 s454.1)] [.is (Option.isSome A1_4_1 = true), .is (0 ≤ s454.1 ∧ s454.1 < (x1.Val.Data.length : Int)), .cell ((ad A1_4_1).add ((s454.1).toNat * 1)) (.float .f64 b468)] hf465 (by kernel_rfl) ⟨q467.1, g466, kb468, trivial⟩ fun a469 hf470 => ?_
      refine thenN ?_
      obtain ⟨r471, hr471, H1⟩ := obS_split H1
      obtain ⟨g472, H1⟩ := ifS_guard H1
      obtain ⟨g473, H1⟩ := ifS_guard H1
      refine midReg (fun (a : Act) (w : World) => ∃ (A486 : Option Addr) (c487 : Nat), Fr 106 a [(0, .pointer (some ⟨b0, 0, none⟩)), (3, .pointer (some ⟨b21, 0, none⟩)), (56, .slice A1_4_1 x1.Val.Data.length c1_4_1), (57, .int .i64 (x1.Val.Data.length : Int)), (58, .int .i64 s454.1)] ∧ Mem B0 M w0 [.bx b0 [.slice A486 ((s454.2 ++ ([(([118, 58] : List UInt8) ++ r471)] : List (List UInt8))).length) c487, .bool r440.2] 62, .ow Kd.str 9 A486 c487 (s454.2 ++ ([(([118, 58] : List UInt8) ++ r471)] : List (List UInt8))), .bx b21 [.int .i64 x1.Op, .slice A1_1 x1.In.length c1_1, .slice A1_2 x1.To.length c1_2, .int .i64 x1.No, .slice A1_4_0 x1.Val.Shape.length c1_4_0, .slice A1_4_1 x1.Val.Data.length c1_4_1, .slice A1_6 x1.Hooks.length c1_6] 49, .sl (Kd.int .i64) A1_1 c1_1 x1.In, .sl (Kd.int .i64) A1_2 c1_2 x1.To, .sl (Kd.int .i64) A1_4_0 c1_4_0 x1.Val.Shape, .sl Kd.float A1_4_1 c1_4_1 x1.Val.Data, .sl kHook A1_6 c1_6 x1.Hooks] w) ?_ ?_
      · refine anyG (K := [bk A455]) [12] (by kernel_rfl) fun w502 hg503 => ?_
        have hm504 := hm462.still hg503
        refine quiet0 [0, 1, 2, 3, 4, 5] [.slice A455 s454.2.length c456] [0, 3, 56, 57, 58, 62, 66, 67] #[true, true, true, true, true, true, false, false, false, false, false, false, false] [(0, .pointer (some ⟨b0, 0, none⟩)), (3, .pointer (some ⟨b21, 0, none⟩)), (56, .slice A1_4_1 x1.Val.Data.length c1_4_1), (57, .int .i64 (x1.Val.Data.length : Int)), (58, .int .i64 s454.1), (62, .pointer (some ⟨b0, 0, none⟩)), (66, .slice A455 s454.2.length c456), (67, .float .f64 b468)] [.cell ⟨b0, 0, none⟩ (.slice A455 s454.2.length c456), .is (some (⟨b0, 0, none⟩ : Addr).block ∉ [bk A455])] 7 rfl (by kernel_rfl) (fun _ _ _ _ _ h => nomatch h.1) hf470 (by kernel_rfl) ⟨(hm504.cell 0 rfl rfl), (hm504.bxK 0 [1] _ rfl rfl rfl), trivial⟩ fun a538 hf539 => ?_
        refine all1 6 (by kernel_rfl) ?_
        refine opOf hf539 rfl (by kernel_rfl) (aCall (fid := 15) (args := [.float .f64 b468]) (d := 68) hf539 (by kernel_rfl) (by kernel_rfl) callable15 (script_Number.calls _ _ (rd x1.Val.Data s454.1) b468 hb468 (hm504.give [] [] rfl rfl) r471 hr471) ?_)
        rintro _ w540 a541 ⟨rfl, hk543⟩ hf542
        refine ⟨.inr (Gr.still hk543.cum.none), ?_⟩
        have hm544 := hm504.still hk543.cum.none
        refine quiet0 [7] [.string (bs (([118, 58] : List UInt8) ++ r471))] [0, 3, 56, 57, 58, 62, 66, 69] #[true, true, true, true, true, true, true, true, false, false, false, false, false] [(0, .pointer (some ⟨b0, 0, none⟩)), (3, .pointer (some ⟨b21, 0, none⟩)), (56, .slice A1_4_1 x1.Val.Data.length c1_4_1), (57, .int .i64 (x1.Val.Data.length : Int)), (58, .int .i64 s454.1), (62, .pointer (some ⟨b0, 0, none⟩)), (66, .slice A455 s454.2.length c456), (69, .string (bs (([118, 58] : List UInt8) ++ r471)))] [.is (bs (([118, 58] : List UInt8) ++ r471) = bs ([118, 58] : List UInt8) ++ bs r471 ∧ (bs ([118, 58] : List UInt8)).size + (bs r471).size ≤ 9223372036854775807)] 5 rfl (by kernel_rfl) (fun _ _ _ _ _ h => nomatch h.1) hf542 (by kernel_rfl) ⟨(catOk g472), trivial⟩ fun a545 hf546 => ?_
        refine all1 8 (by kernel_rfl) ?_
        refine opOf hf546 rfl (by kernel_rfl) (aLit (cs := [.string (bs (([118, 58] : List UInt8) ++ r471))]) (E := 9) (len := 1) (d := 70) hf546 (by kernel_rfl) (by kernel_rfl) ?_)
        intro b547 w548 a549 hbb547 hx551 hg552 hf550
        refine ⟨.inr (Gr.still hg552), ?_⟩
        have hm544s := hm544.still hg552
        have hm553 := Mem.lit (kd := Kd.str) (xs := ([(([118, 58] : List UInt8) ++ r471)] : List (List UInt8))) hm544 hbb547 hx551 hg552 (Els.one (kd := Kd.str) (us := [.string (bs (([118, 58] : List UInt8) ++ r471))]) (x := (([118, 58] : List UInt8) ++ r471)) rfl)
        refine all1 9 (by kernel_rfl) ?_
        have e562 : s454.2.length = s454.2.length := rfl
        have e563 : 1 = ([(([118, 58] : List UInt8) ++ r471)] : List (List UInt8)).length := rfl
        refine opOf hf550 rfl (by kernel_rfl) (aApp (kd := Kd.str) (base := 0) (E := 9) (A := A455) (B := (some ⟨b547, 0, none⟩)) (c := c456) (c2 := 1) (xs := s454.2) (ys := ([(([118, 58] : List UInt8) ++ r471)] : List (List UInt8))) (k := s454.2.length) (m := 1) (sz := 1) (d := 71) hf550 (by kernel_rfl) e562 e563 (by kernel_rfl) rfl (by kernel_rfl) (hm553.at 2 rfl) (hm553.at2 2 0 rfl rfl).2 (hm553.cpAt 0 rfl) (Nat.zero_le _) (by have := g473; omega) ?_)
        intro A554 c555 w556 a557 ho559 hg560 hr561 hf558
        refine ⟨.inr (Gr.own hg560 (by simp)), ?_⟩
        have hm564 := hm553.setOwn 2 _ rfl rfl ho559 hg560 hr561
        refine quiet0 [10, 11] [] [0, 3, 56, 57, 58, 71, 73] #[true, true, true, true, true, true, true, true, true, true, true, true, false] [(0, .pointer (some ⟨b0, 0, none⟩)), (3, .pointer (some ⟨b21, 0, none⟩)), (56, .slice A1_4_1 x1.Val.Data.length c1_4_1), (57, .int .i64 (x1.Val.Data.length : Int)), (58, .int .i64 s454.1), (71, .slice A554 ((s454.2 ++ ([(([118, 58] : List UInt8) ++ r471)] : List (List UInt8))).length) c555), (73, .pointer (some ⟨b0, 0, none⟩))] [] 1 rfl (by kernel_rfl) (fun _ _ _ _ _ h => nomatch h.1) hf558 (by kernel_rfl) trivial fun a565 hf566 => ?_
        refine all1 12 (by kernel_rfl) ?_
        refine opOf hf566 rfl (by kernel_rfl) (aStoreB (b := b0) (j := 0) (T := 62) (cs := [.slice A455 s454.2.length c456, .bool r440.2]) (us := [.slice A554 ((s454.2 ++ ([(([118, 58] : List UInt8) ++ r471)] : List (List UInt8))).length) c555]) (cs' := [.slice A554 ((s454.2 ++ ([(([118, 58] : List UInt8) ++ r471)] : List (List UInt8))).length) c555, .bool r440.2]) hf566 (by kernel_rfl) (hm564.bxAt 1 rfl) (by kernel_rfl) (by kernel_rfl) (by kernel_rfl) ?_)
        intro w567 hx568 hg569
        refine ⟨.inl (by decide), ?_⟩
        have hm570 := hm564.setBox 1 _ rfl rfl hx568 hg569
        refine allDone (by kernel_rfl) ⟨rfl, A554, c555, hf566.sel (l := [0, 3, 56, 57, 58]) (by kernel_rfl), hm570.sel [1, 2, 3, 4, 5, 6, 7, 8] _ rfl (by kernel_rfl)⟩
      rintro a571 w572 ⟨A486, c487, hf573, hm574⟩
      refine blkN ?_
      refine thenN ?_
      refine reg [] [0, 3, 56, 57, 58] [(0, .pointer (some ⟨b0, 0, none⟩)), (3, .pointer (some ⟨b21, 0, none⟩)), (56, .slice A1_4_1 x1.Val.Data.length c1_4_1), (57, .int .i64 (x1.Val.Data.length : Int)), (58, .int .i64 (w64 (s454.1 + 1)))] [] hf573 (by kernel_rfl) trivial fun a575 hf576 => ?_
      exact ⟨((w64 (s454.1 + 1)), (s454.2 ++ ([(([118, 58] : List UInt8) ++ r471)] : List (List UInt8)))), H1, A486, c487, hf576.sel (l := [0, 3, 56, 57, 58]) (by kernel_rfl), hm574.sel [0, 1, 2, 3, 4, 5, 6, 7] _ rfl (by kernel_rfl)⟩
    rintro a579 w580 ⟨A455, c456, hf581, hm582⟩
    refine thenN ?_
    refine wp_seq ?_
    refine reg [.slice A1_6 x1.Hooks.length c1_6] [0, 76, 77, 78] [(0, .pointer (some ⟨b0, 0, none⟩)), (76, .slice A1_6 x1.Hooks.length c1_6), (77, .int .i64 (x1.Hooks.length : Int)), (78, .int .i64 0)] [.cell ⟨b21, 6, none⟩ (.slice A1_6 x1.Hooks.length c1_6)] hf581 (by kernel_rfl) ⟨(hm582.cell 2 rfl rfl), trivial⟩ fun a583 hf584 => ?_
    have hm585 := hm582.sel [0, 1, 7] _ rfl (by kernel_rfl)
    refine thenN ?_
    obtain ⟨r591, hr591, H0⟩ := ob_split H0
    refine wpBlock (Mid := fun (a : Act) (w : World) => ∃ (A589 : Option Addr) (c590 : Nat), Fr 106 a [(0, .pointer (some ⟨b0, 0, none⟩)), (76, .slice A1_6 x1.Hooks.length c1_6), (77, .int .i64 (x1.Hooks.length : Int)), (78, .int .i64 r591.1)] ∧ Mem B0 M w0 [.bx b0 [.slice A589 r591.2.2.length c590, .bool r591.2.1] 62, .ow Kd.str 9 A589 c590 r591.2.2, .sl kHook A1_6 c1_6 x1.Hooks] w) ?_ ?_
    · refine wpLoop (script_writer_node.l1 x1) r591 (fun (s588 : (Int × Bool × (List (List UInt8)))) (a : Act) (w : World) => ∃ (A589 : Option Addr) (c590 : Nat), Fr 106 a [(0, .pointer (some ⟨b0, 0, none⟩)), (76, .slice A1_6 x1.Hooks.length c1_6), (77, .int .i64 (x1.Hooks.length : Int)), (78, .int .i64 s588.1)] ∧ Mem B0 M w0 [.bx b0 [.slice A589 s588.2.2.length c590, .bool s588.2.1] 62, .ow Kd.str 9 A589 c590 s588.2.2, .sl kHook A1_6 c1_6 x1.Hooks] w) (0, r440.2, r457.2) hr591 ⟨A455, c456, hf584.sel (l := [0, 76, 77, 78]) (by kernel_rfl), hm585.sel [0, 1, 2] _ rfl (by kernel_rfl)⟩ ?_
      rintro g592 s588 a593 w594 H1 ⟨A589, c590, hf595, hm596⟩
      unfold script_writer_node.l1 at H1
      refine wp_seq ?_
      rcases ifS_split H1 with ⟨c597, H1⟩ | ⟨c597, H1⟩
      rotate_left
      · refine reg [.bool false] [0, 76, 77, 78, 79] [(0, .pointer (some ⟨b0, 0, none⟩)), (76, .slice A1_6 x1.Hooks.length c1_6), (77, .int .i64 (x1.Hooks.length : Int)), (78, .int .i64 s588.1), (79, .bool false)] [.is (decide (s588.1 < (x1.Hooks.length : Int)) = false)] hf595 (by kernel_rfl) ⟨(decide_eq_false c597), trivial⟩ fun a694 hf695 => ?_
        refine thenN ?_
        refine wp_seq ?_
        refine condF hf695 (by kernel_rfl) ?_
        refine wp_exit ?_
        refine thenE ?_
        refine thenE ?_
        obtain rfl := Option.some.inj H1
        exact .inl ⟨rfl, A589, c590, hf695.sel (l := [0, 76, 77, 78]) (by kernel_rfl), hm596.sel [0, 1, 2] _ rfl (by kernel_rfl)⟩
      refine reg [.bool true] [0, 76, 77, 78, 79] [(0, .pointer (some ⟨b0, 0, none⟩)), (76, .slice A1_6 x1.Hooks.length c1_6), (77, .int .i64 (x1.Hooks.length : Int)), (78, .int .i64 s588.1), (79, .bool true)] [.is (decide (s588.1 < (x1.Hooks.length : Int)) = true)] hf595 (by kernel_rfl) ⟨(decide_eq_true c597), trivial⟩ fun a598 hf599 => ?_
      refine thenN ?_
      refine wp_seq ?_
      refine condT hf599 (by kernel_rfl) ?_
      refine wp_skip ?_
      refine thenN ?_
      refine wp_seq ?_
      refine wp_block ?_
      refine wp_seq ?_
      obtain ⟨g600, H1⟩ := ifS_guard H1
      have q601 := (hm596.slAt 2 rfl).get s588.1 g600.1 g600.2
      obtain ⟨us602, hr603, hc604⟩ := q601.2
      obtain ⟨b605, rfl, hb605⟩ := kHook.open hr603
      refine inReg ?_
      refine go 2 [.agg #[.int .i64 ((rd x1.Hooks s588.1).Do), .float .f64 b605]] [0, 76, 77, 78, 81] [(0, .pointer (some ⟨b0, 0, none⟩)), (76, .slice A1_6 x1.Hooks.length c1_6), (77, .int .i64 (x1.Hooks.length : Int)), (78, .int .i64 s588.1), (81, .agg #[.int .i64 ((rd x1.Hooks s588.1).Do), .float .f64 b605])] [.is (Option.isSome A1_6 = true), .is (0 ≤ s588.1 ∧ s588.1 < (x1.Hooks.length : Int)), .cell ((ad A1_6).add ((s588.1).toNat * 2)) (.int .i64 ((rd x1.Hooks s588.1).Do)), .cell (((ad A1_6).add ((s588.1).toNat * 2)).add 1) (.float .f64 b605)] hf599 (by kernel_rfl) ⟨q601.1, g600, (hc604 0 _ rfl), (hc604 1 _ rfl), trivial⟩ fun a606 hf607 => ?_
      refine listOf hf607 rfl (by kernel_rfl) (aNew (cs := [.int .i64 0, .float .f64 0]) (T := 51) (d := 7) hf607 (by kernel_rfl) (by kernel_rfl) ?_)
      intro b608 w609 a610 hbb608 hx612 hg613 hf611
      have hm614 := hm596.box hbb608 hx612 hg613
      refine listOf hf611 rfl (by kernel_rfl) (aStoreB (b := b608) (j := 0) (T := 51) (cs := [.int .i64 0, .float .f64 0]) (us := [.int .i64 ((rd x1.Hooks s588.1).Do), .float .f64 b605]) (cs' := [.int .i64 ((rd x1.Hooks s588.1).Do), .float .f64 b605]) hf611 (by kernel_rfl) (hm614.bxAt 0 rfl) (by kernel_rfl) (by kernel_rfl) (by kernel_rfl) ?_)
      intro w615 hx616 hg617
      have hm618 := hm614.setBox 0 _ rfl rfl hx616 hg617
      refine endL rfl ?_
      refine thenN ?_
      refine wp_seq ?_
      obtain ⟨r619, hr619, H1⟩ := obS_split H1
      refine inReg ?_
      refine go 3 [.int .i64 ((rd x1.Hooks s588.1).Do)] [0, 7, 76, 77, 78, 82, 84] [(0, .pointer (some ⟨b0, 0, none⟩)), (7, .pointer (some ⟨b608, 0, none⟩)), (76, .slice A1_6 x1.Hooks.length c1_6), (77, .int .i64 (x1.Hooks.length : Int)), (78, .int .i64 s588.1), (82, .pointer (some ⟨b0, 0, none⟩)), (84, .int .i64 ((rd x1.Hooks s588.1).Do))] [.cell ⟨b608, 0, none⟩ (.int .i64 ((rd x1.Hooks s588.1).Do))] hf611 (by kernel_rfl) ⟨(hm618.cell 0 rfl rfl), trivial⟩ fun a620 hf621 => ?_
      refine listOf hf621 rfl (by kernel_rfl) (aLit (cs := [.int .i64 ((rd x1.Hooks s588.1).Do)]) (E := 3) (len := 1) (d := 85) hf621 (by kernel_rfl) (by kernel_rfl) ?_)
      intro b622 w623 a624 hbb622 hx626 hg627 hf625
      have hm618s := hm618.still hg627
      have hm628 := Mem.lit (kd := (Kd.int .i64)) (xs := ([((rd x1.Hooks s588.1).Do)] : List Int)) hm618 hbb622 hx626 hg627 (Els.one (kd := (Kd.int .i64)) (us := [.int .i64 ((rd x1.Hooks s588.1).Do)]) (x := ((rd x1.Hooks s588.1).Do)) rfl)
      refine listOf hf625 rfl (by kernel_rfl) (aCall (fid := 38) (args := [.pointer (some ⟨b0, 0, none⟩), .string (bs ([104, 58] : List UInt8)), .slice (some ⟨b622, 0, none⟩) 1 1]) (d := 86) hf625 (by kernel_rfl) (by kernel_rfl) callable38 (script_writer_nums.calls _ _ _ (⟨s588.2.2, s588.2.1⟩ : Writer) b0 A589 s588.2.2.length c590 rfl ([104, 58] : List UInt8) ([((rd x1.Hooks s588.1).Do)] : List Int) (some ⟨b622, 0, none⟩) 1 1 rfl (hm628.giveO [2, 3] [0, 1, 4] [0] [.bx b0 [.slice A589 s588.2.2.length c590, .bool s588.2.1] 62, .ow Kd.str 9 A589 c590 s588.2.2] _ [.sl (Kd.int .i64) (some ⟨b622, 0, none⟩) 1 ([((rd x1.Hooks s588.1).Do)] : List Int)] rfl rfl rfl (by kernel_rfl) rfl) r619 hr619 (hG.atO hm628 [2, 3] _ rfl)) ?_)
      rintro _ w631 a632 ⟨A629, c630, rfl, hk634⟩ hf633
      have hm635 := hm628.backO [2, 3] [0, 1, 4] _ _ rfl rfl (by kernel_rfl) hk634
      refine endL rfl ?_
      have hm636 := hm635.sel [0, 1, 3, 4] _ rfl (by kernel_rfl)
      refine thenN ?_
      obtain ⟨g637, H1⟩ := ifS_guard H1
      obtain ⟨r638, hr638, H1⟩ := obS_split H1
      obtain ⟨g639, H1⟩ := ifS_guard H1
      obtain ⟨g640, H1⟩ := ifS_guard H1
      refine midReg (fun (a : Act) (w : World) => Fr 106 a [(0, .pointer (some ⟨b0, 0, none⟩)), (76, .slice A1_6 x1.Hooks.length c1_6), (77, .int .i64 (x1.Hooks.length : Int)), (78, .int .i64 s588.1)] ∧ Mem B0 M w0 [.bx b0 [.slice A629 r619.1.length c630, .bool r619.2] 62, .ow Kd.str 9 A629 c630 (put r619.1 (w64 ((r619.1.length : Int) - 1)) ((rd r619.1 (w64 ((r619.1.length : Int) - 1))) ++ (([44] : List UInt8) ++ r638))), .sl kHook A1_6 c1_6 x1.Hooks] w) ?_ ?_
      · refine anyG (K := []) [18] (by kernel_rfl) fun w653 hg654 => ?_
        have hm655 := hm636.still hg654
        have q671 := (hm655.owAt 1 rfl).str (w64 ((r619.1.length : Int) - 1)) g637.1 g637.2
        refine quiet0 [0, 1, 2, 3, 4, 5, 6, 7, 8, 9, 10, 11, 12, 13] [.slice A629 r619.1.length c630, .slice A629 r619.1.length c630, .string (bs (rd r619.1 (w64 ((r619.1.length : Int) - 1)))), .float .f64 b605] [0, 76, 77, 78, 90, 96, 98, 100] #[true, true, true, true, true, true, true, true, true, true, true, true, true, true, false, false, false, false, false] [(0, .pointer (some ⟨b0, 0, none⟩)), (76, .slice A1_6 x1.Hooks.length c1_6), (77, .int .i64 (x1.Hooks.length : Int)), (78, .int .i64 s588.1), (90, .slice A629 r619.1.length c630), (96, .int .i64 (w64 ((r619.1.length : Int) - 1))), (98, .string (bs (rd r619.1 (w64 ((r619.1.length : Int) - 1))))), (100, .float .f64 b605)] [.cell ⟨b0, 0, none⟩ (.slice A629 r619.1.length c630), .cell ⟨b0, 0, none⟩ (.slice A629 r619.1.length c630), .is (Option.isSome A629 = true), .is (0 ≤ (w64 ((r619.1.length : Int) - 1)) ∧ (w64 ((r619.1.length : Int) - 1)) < (r619.1.length : Int)), .cell ((ad A629).add (((w64 ((r619.1.length : Int) - 1))).toNat * 1)) (.string (bs (rd r619.1 (w64 ((r619.1.length : Int) - 1))))), .cell ⟨b608, 1, none⟩ (.float .f64 b605)] 5 rfl (by kernel_rfl) (fun _ _ _ _ _ h => nomatch h.1) hf633 (by kernel_rfl) ⟨(hm655.cell 0 rfl rfl), (hm655.cell 0 rfl rfl), q671.1, g637, q671.2, (hm655.cell 2 rfl rfl), trivial⟩ fun a672 hf673 => ?_
        refine all1 14 (by kernel_rfl) ?_
        refine opOf hf673 rfl (by kernel_rfl) (aCall (fid := 15) (args := [.float .f64 b605]) (d := 101) hf673 (by kernel_rfl) (by kernel_rfl) callable15 (script_Number.calls _ _ ((rd x1.Hooks s588.1).X) b605 hb605 (hm655.give [] [] rfl rfl) r638 hr638) ?_)
        rintro _ w674 a675 ⟨rfl, hk677⟩ hf676
        refine ⟨.inr (Gr.still hk677.cum.none), ?_⟩
        have hm678 := hm655.still hk677.cum.none
        have q679 := (hm678.owAt 1 rfl).str (w64 ((r619.1.length : Int) - 1)) g637.1 g637.2
        refine quiet0 [15, 16, 17] [.string (bs (([44] : List UInt8) ++ r638)), .string (bs ((rd r619.1 (w64 ((r619.1.length : Int) - 1))) ++ (([44] : List UInt8) ++ r638)))] [0, 76, 77, 78, 103, 104] #[true, true, true, true, true, true, true, true, true, true, true, true, true, true, true, true, true, true, false] [(0, .pointer (some ⟨b0, 0, none⟩)), (76, .slice A1_6 x1.Hooks.length c1_6), (77, .int .i64 (x1.Hooks.length : Int)), (78, .int .i64 s588.1), (103, .string (bs ((rd r619.1 (w64 ((r619.1.length : Int) - 1))) ++ (([44] : List UInt8) ++ r638)))), (104, .pointer (some ((ad A629).add (((w64 ((r619.1.length : Int) - 1))).toNat * 1))))] [.is (bs (([44] : List UInt8) ++ r638) = bs ([44] : List UInt8) ++ bs r638 ∧ (bs ([44] : List UInt8)).size + (bs r638).size ≤ 9223372036854775807), .is (bs ((rd r619.1 (w64 ((r619.1.length : Int) - 1))) ++ (([44] : List UInt8) ++ r638)) = bs (rd r619.1 (w64 ((r619.1.length : Int) - 1))) ++ bs (([44] : List UInt8) ++ r638) ∧ (bs (rd r619.1 (w64 ((r619.1.length : Int) - 1)))).size + (bs (([44] : List UInt8) ++ r638)).size ≤ 9223372036854775807), .is (Option.isSome A629 = true), .is (0 ≤ (w64 ((r619.1.length : Int) - 1)) ∧ (w64 ((r619.1.length : Int) - 1)) < (r619.1.length : Int))] 1 rfl (by kernel_rfl) (fun _ _ _ _ _ h => nomatch h.1) hf676 (by kernel_rfl) ⟨(catOk g639), (catOk g640), q679.1, g637, trivial⟩ fun a680 hf681 => ?_
        refine all1 18 (by kernel_rfl) ?_
        refine opOf hf681 rfl (by kernel_rfl) (aStoreO (kd := Kd.str) (base := 0) (E := 9) (A := A629) (c := c630) (xs := r619.1) (i := (w64 ((r619.1.length : Int) - 1))) (x := ((rd r619.1 (w64 ((r619.1.length : Int) - 1))) ++ (([44] : List UInt8) ++ r638))) (us := [.string (bs ((rd r619.1 (w64 ((r619.1.length : Int) - 1))) ++ (([44] : List UInt8) ++ r638)))]) (sz := 1) hf681 (by kernel_rfl) rfl (by kernel_rfl) (hm678.at 1 rfl) rfl g637.1 g637.2 ?_)
        intro w682 hx683 hg684
        refine ⟨.inl (by decide), ?_⟩
        have hm685 := hm678.setOwn 1 _ rfl rfl hx683 hg684 (.inl rfl)
        refine allDone (by kernel_rfl) ⟨rfl, hf681.sel (l := [0, 76, 77, 78]) (by kernel_rfl), hm685.sel [0, 1, 3] _ rfl (by kernel_rfl)⟩
      rintro a686 w687 ⟨hf688, hm689⟩
      refine blkN ?_
      refine thenN ?_
      refine reg [] [0, 76, 77, 78] [(0, .pointer (some ⟨b0, 0, none⟩)), (76, .slice A1_6 x1.Hooks.length c1_6), (77, .int .i64 (x1.Hooks.length : Int)), (78, .int .i64 (w64 (s588.1 + 1)))] [] hf688 (by kernel_rfl) trivial fun a690 hf691 => ?_
      have hf692 : Fr 106 a690 [(0, .pointer (some ⟨b0, 0, none⟩)), (76, .slice A1_6 x1.Hooks.length c1_6), (77, .int .i64 (x1.Hooks.length : Int)), (78, .int .i64 (w64 (s588.1 + 1)))] := hf691.sel (l := [0, 76, 77, 78]) (by kernel_rfl)
      have hm693 : Mem B0 M w0 [.bx b0 [.slice A629 r619.1.length c630, .bool r619.2] 62, .ow Kd.str 9 A629 c630 (put r619.1 (w64 ((r619.1.length : Int) - 1)) ((rd r619.1 (w64 ((r619.1.length : Int) - 1))) ++ (([44] : List UInt8) ++ r638))), .sl kHook A1_6 c1_6 x1.Hooks] w687 := hm689.sel [0, 1, 2] _ rfl (by kernel_rfl)
      exact ⟨((w64 (s588.1 + 1)), r619.2, (put r619.1 (w64 ((r619.1.length : Int) - 1)) ((rd r619.1 (w64 ((r619.1.length : Int) - 1))) ++ (([44] : List UInt8) ++ r638)))), H1, A629, c630, (by simpa only [put_length, List.length_nil] using hf692), (by simpa only [put_length, List.length_nil] using hm693)⟩
    rintro a696 w697 ⟨A589, c590, hf698, hm699⟩
    have hm700 : Mem B0 M w0 [.bx b0 [.slice A589 r591.2.2.length c590, .bool r591.2.1] 62, .ow Kd.str 9 A589 c590 r591.2.2] w697 := hm699.sel [0, 1] _ rfl (by kernel_rfl)
    obtain rfl := Option.some.inj H0
    refine fin [] [] [] hf698 (by kernel_rfl) trivial ?_
    exact ⟨_, rfl, A589, c590, rfl, hm700⟩
  rw [c28] at hm27
  obtain ⟨r702, hr702, H0⟩ := ob_split H0
  rcases ifb_split H0 with ⟨c703, H0⟩ | ⟨c703, H0⟩
  · refine inReg ?_
    refine go 8 [.bool false, .int .i64 x1.Op] [0, 3, 8, 13, 15] [(0, .pointer (some ⟨b0, 0, none⟩)), (3, .pointer (some ⟨b21, 0, none⟩)), (8, .pointer (some ⟨b0, 0, none⟩)), (13, .bool false), (15, .int .i64 x1.Op)] [.cell ⟨b0, 1, none⟩ (.bool false), .cell ⟨b21, 0, none⟩ (.int .i64 x1.Op)] hf24 (by kernel_rfl) ⟨(hm27.cell 1 rfl rfl), (hm27.cell 0 rfl rfl), trivial⟩ fun a704 hf705 => ?_
    refine listOf hf705 rfl (by kernel_rfl) (aCall (fid := 36) (args := [.int .i64 x1.Op]) (d := 16) hf705 (by kernel_rfl) (by kernel_rfl) callable36 (op_May.calls _ _ x1.Op (hm27.give [] [] rfl rfl) r702 hr702) ?_)
    rintro _ w706 a707 ⟨rfl, hk709⟩ hf708
    have hm710 := hm27.still hk709.cum.none
    rw [c703] at hf708
    refine go 4 [] [0, 3, 18, 20] [(0, .pointer (some ⟨b0, 0, none⟩)), (3, .pointer (some ⟨b21, 0, none⟩)), (18, .bool false), (20, .pointer (some ⟨b0, 1, none⟩))] [] hf708 (by kernel_rfl) trivial fun a711 hf712 => ?_
    refine listOf hf712 rfl (by kernel_rfl) (aStoreB (b := b0) (j := 1) (T := 62) (cs := [.slice A0_0 x0.b.length c0_0, .bool false]) (us := [.bool false]) (cs' := [.slice A0_0 x0.b.length c0_0, .bool false]) hf712 (by kernel_rfl) (hm710.bxAt 1 rfl) (by kernel_rfl) (by kernel_rfl) (by kernel_rfl) ?_)
    intro w713 hx714 hg715
    have hm716 := hm710.setBox 1 _ rfl rfl hx714 hg715
    refine endL rfl ?_
    refine thenN ?_
    refine wp_seq ?_
    obtain ⟨r717, hr717, H0⟩ := ob_split H0
    obtain ⟨g718, H0⟩ := if_guard H0
    refine midReg (fun (a : Act) (w : World) => ∃ (A731 : Option Addr) (c732 : Nat), Fr 106 a [(0, .pointer (some ⟨b0, 0, none⟩)), (3, .pointer (some ⟨b21, 0, none⟩))] ∧ Mem B0 M w0 [.bx b21 [.int .i64 x1.Op, .slice A1_1 x1.In.length c1_1, .slice A1_2 x1.To.length c1_2, .int .i64 x1.No, .slice A1_4_0 x1.Val.Shape.length c1_4_0, .slice A1_4_1 x1.Val.Data.length c1_4_1, .slice A1_6 x1.Hooks.length c1_6] 49, .bx b0 [.slice A731 ((x0.b ++ ([r717] : List (List UInt8))).length) c732, .bool false] 62, .ow Kd.str 9 A731 c732 (x0.b ++ ([r717] : List (List UInt8))), .sl (Kd.int .i64) A1_1 c1_1 x1.In, .sl (Kd.int .i64) A1_2 c1_2 x1.To, .sl (Kd.int .i64) A1_4_0 c1_4_0 x1.Val.Shape, .sl Kd.float A1_4_1 c1_4_1 x1.Val.Data, .sl kHook A1_6 c1_6 x1.Hooks] w) ?_ ?_
    · refine anyG (K := [bk A0_0]) [12] (by kernel_rfl) fun w747 hg748 => ?_
      have hm749 := hm716.still hg748
      refine quiet0 [0, 1, 2, 3, 4, 5, 6] [.slice A0_0 x0.b.length c0_0, .int .i64 x1.Op] [0, 3, 21, 25, 27] #[true, true, true, true, true, true, true, false, false, false, false, false, false] [(0, .pointer (some ⟨b0, 0, none⟩)), (3, .pointer (some ⟨b21, 0, none⟩)), (21, .pointer (some ⟨b0, 0, none⟩)), (25, .slice A0_0 x0.b.length c0_0), (27, .int .i64 x1.Op)] [.cell ⟨b0, 0, none⟩ (.slice A0_0 x0.b.length c0_0), .is (some (⟨b0, 0, none⟩ : Addr).block ∉ [bk A0_0]), .cell ⟨b21, 0, none⟩ (.int .i64 x1.Op), .is (some (⟨b21, 0, none⟩ : Addr).block ∉ [bk A0_0])] 6 rfl (by kernel_rfl) (fun _ _ _ _ _ h => nomatch h.1) hf712 (by kernel_rfl) ⟨(hm749.cell 1 rfl rfl), (hm749.bxK 1 [2] _ rfl rfl rfl), (hm749.cell 0 rfl rfl), (hm749.bxK 0 [2] _ rfl rfl rfl), trivial⟩ fun a781 hf782 => ?_
      refine all1 7 (by kernel_rfl) ?_
      refine opOf hf782 rfl (by kernel_rfl) (aCall (fid := 37) (args := [.int .i64 x1.Op]) (d := 28) hf782 (by kernel_rfl) (by kernel_rfl) callable37 (op_Name.calls _ _ x1.Op (hm749.give [] [] rfl rfl) r717 hr717 (hG.at hm749)) ?_)
      rintro _ w783 a784 ⟨rfl, hk786⟩ hf785
      refine ⟨.inr (Gr.still hk786.cum.none), ?_⟩
      have hm787 := hm749.still hk786.cum.none
      refine all1 8 (by kernel_rfl) ?_
      refine opOf hf785 rfl (by kernel_rfl) (aLit (cs := [.string (bs r717)]) (E := 9) (len := 1) (d := 29) hf785 (by kernel_rfl) (by kernel_rfl) ?_)
      intro b788 w789 a790 hbb788 hx792 hg793 hf791
      refine ⟨.inr (Gr.still hg793), ?_⟩
      have hm787s := hm787.still hg793
      have hm794 := Mem.lit (kd := Kd.str) (xs := ([r717] : List (List UInt8))) hm787 hbb788 hx792 hg793 (Els.one (kd := Kd.str) (us := [.string (bs r717)]) (x := r717) rfl)
      refine all1 9 (by kernel_rfl) ?_
      have e803 : x0.b.length = x0.b.length := rfl
      have e804 : 1 = ([r717] : List (List UInt8)).length := rfl
      refine opOf hf791 rfl (by kernel_rfl) (aApp (kd := Kd.str) (base := 0) (E := 9) (A := A0_0) (B := (some ⟨b788, 0, none⟩)) (c := c0_0) (c2 := 1) (xs := x0.b) (ys := ([r717] : List (List UInt8))) (k := x0.b.length) (m := 1) (sz := 1) (d := 30) hf791 (by kernel_rfl) e803 e804 (by kernel_rfl) rfl (by kernel_rfl) (hm794.at 3 rfl) (hm794.at2 3 0 rfl rfl).2 (hm794.cpAt 0 rfl) (Nat.zero_le _) (by have := g718; omega) ?_)
      intro A795 c796 w797 a798 ho800 hg801 hr802 hf799
      refine ⟨.inr (Gr.own hg801 (by simp)), ?_⟩
      have hm805 := hm794.setOwn 3 _ rfl rfl ho800 hg801 hr802
      refine quiet0 [10, 11] [] [0, 3, 30, 32] #[true, true, true, true, true, true, true, true, true, true, true, true, false] [(0, .pointer (some ⟨b0, 0, none⟩)), (3, .pointer (some ⟨b21, 0, none⟩)), (30, .slice A795 ((x0.b ++ ([r717] : List (List UInt8))).length) c796), (32, .pointer (some ⟨b0, 0, none⟩))] [] 1 rfl (by kernel_rfl) (fun _ _ _ _ _ h => nomatch h.1) hf799 (by kernel_rfl) trivial fun a806 hf807 => ?_
      refine all1 12 (by kernel_rfl) ?_
      refine opOf hf807 rfl (by kernel_rfl) (aStoreB (b := b0) (j := 0) (T := 62) (cs := [.slice A0_0 x0.b.length c0_0, .bool false]) (us := [.slice A795 ((x0.b ++ ([r717] : List (List UInt8))).length) c796]) (cs' := [.slice A795 ((x0.b ++ ([r717] : List (List UInt8))).length) c796, .bool false]) hf807 (by kernel_rfl) (hm805.bxAt 2 rfl) (by kernel_rfl) (by kernel_rfl) (by kernel_rfl) ?_)
      intro w808 hx809 hg810
      refine ⟨.inl (by decide), ?_⟩
      have hm811 := hm805.setBox 2 _ rfl rfl hx809 hg810
      refine allDone (by kernel_rfl) ⟨rfl, A795, c796, hf807.sel (l := [0, 3]) (by kernel_rfl), hm811.sel [1, 2, 3, 4, 5, 6, 7, 8] _ rfl (by kernel_rfl)⟩
    rintro a812 w813 ⟨A731, c732, hf814, hm815⟩
    refine thenN ?_
    refine wp_seq ?_
    obtain ⟨r816, hr816, H0⟩ := ob_split H0
    refine inReg ?_
    refine go 3 [.slice A1_1 x1.In.length c1_1] [0, 3, 33, 35] [(0, .pointer (some ⟨b0, 0, none⟩)), (3, .pointer (some ⟨b21, 0, none⟩)), (33, .pointer (some ⟨b0, 0, none⟩)), (35, .slice A1_1 x1.In.length c1_1)] [.cell ⟨b21, 1, none⟩ (.slice A1_1 x1.In.length c1_1)] hf814 (by kernel_rfl) ⟨(hm815.cell 0 rfl rfl), trivial⟩ fun a817 hf818 => ?_
    refine listOf hf818 rfl (by kernel_rfl) (aCall (fid := 38) (args := [.pointer (some ⟨b0, 0, none⟩), .string (bs ([105, 58] : List UInt8)), .slice A1_1 x1.In.length c1_1]) (d := 36) hf818 (by kernel_rfl) (by kernel_rfl) callable38 (script_writer_nums.calls _ _ _ (⟨(x0.b ++ ([r717] : List (List UInt8))), false⟩ : Writer) b0 A731 ((x0.b ++ ([r717] : List (List UInt8))).length) c732 rfl ([105, 58] : List UInt8) x1.In A1_1 x1.In.length c1_1 rfl (hm815.giveO [1, 2] [0, 3, 4, 5, 6, 7] [3] [.bx b0 [.slice A731 ((x0.b ++ ([r717] : List (List UInt8))).length) c732, .bool false] 62, .ow Kd.str 9 A731 c732 (x0.b ++ ([r717] : List (List UInt8)))] _ [.sl (Kd.int .i64) A1_1 c1_1 x1.In] rfl rfl rfl (by kernel_rfl) rfl) r816 hr816 (hG.atO hm815 [1, 2] _ rfl)) ?_)
    rintro _ w821 a822 ⟨A819, c820, rfl, hk824⟩ hf823
    have hm825 := hm815.backO [1, 2] [0, 3, 4, 5, 6, 7] _ _ rfl rfl (by kernel_rfl) hk824
    refine endL rfl ?_
    refine thenN ?_
    refine wp_seq ?_
    obtain ⟨r826, hr826, H0⟩ := ob_split H0
    refine inReg ?_
    refine go 3 [.slice A1_2 x1.To.length c1_2] [0, 3, 37, 39] [(0, .pointer (some ⟨b0, 0, none⟩)), (3, .pointer (some ⟨b21, 0, none⟩)), (37, .pointer (some ⟨b0, 0, none⟩)), (39, .slice A1_2 x1.To.length c1_2)] [.cell ⟨b21, 2, none⟩ (.slice A1_2 x1.To.length c1_2)] hf823 (by kernel_rfl) ⟨(hm825.cell 2 rfl rfl), trivial⟩ fun a827 hf828 => ?_
    refine listOf hf828 rfl (by kernel_rfl) (aCall (fid := 38) (args := [.pointer (some ⟨b0, 0, none⟩), .string (bs ([116, 58] : List UInt8)), .slice A1_2 x1.To.length c1_2]) (d := 40) hf828 (by kernel_rfl) (by kernel_rfl) callable38 (script_writer_nums.calls _ _ _ (⟨r816.1, r816.2⟩ : Writer) b0 A819 r816.1.length c820 rfl ([116, 58] : List UInt8) x1.To A1_2 x1.To.length c1_2 rfl (hm825.giveO [0, 1] [2, 3, 4, 5, 6, 7] [4] [.bx b0 [.slice A819 r816.1.length c820, .bool r816.2] 62, .ow Kd.str 9 A819 c820 r816.1] _ [.sl (Kd.int .i64) A1_2 c1_2 x1.To] rfl rfl rfl (by kernel_rfl) rfl) r826 hr826 (hG.atO hm825 [0, 1] _ rfl)) ?_)
    rintro _ w831 a832 ⟨A829, c830, rfl, hk834⟩ hf833
    have hm835 := hm825.backO [0, 1] [2, 3, 4, 5, 6, 7] _ _ rfl rfl (by kernel_rfl) hk834
    refine endL rfl ?_
    refine thenN ?_
    refine wp_seq ?_
    refine wp_seq ?_
    rcases if_split H0 with ⟨c836, H0⟩ | ⟨c836, H0⟩
    · refine reg [.int .i64 x1.No, .bool false] [0, 3, 43] [(0, .pointer (some ⟨b0, 0, none⟩)), (3, .pointer (some ⟨b21, 0, none⟩)), (43, .bool false)] [.cell ⟨b21, 3, none⟩ (.int .i64 x1.No), .is (((x1.No : Int) != 0) = false)] hf833 (by kernel_rfl) ⟨(hm835.cell 2 rfl rfl), (neF c836), trivial⟩ fun a837 hf838 => ?_
      refine thenN ?_
      refine condF hf838 (by kernel_rfl) ?_
      refine wp_skip ?_
      refine thenN ?_
      refine wp_seq ?_
      obtain ⟨r839, hr839, H0⟩ := ob_split H0
      refine inReg ?_
      refine go 4 [.slice A1_4_0 x1.Val.Shape.length c1_4_0] [0, 3, 49, 52] [(0, .pointer (some ⟨b0, 0, none⟩)), (3, .pointer (some ⟨b21, 0, none⟩)), (49, .pointer (some ⟨b0, 0, none⟩)), (52, .slice A1_4_0 x1.Val.Shape.length c1_4_0)] [.cell ⟨b21, 4, none⟩ (.slice A1_4_0 x1.Val.Shape.length c1_4_0)] hf838 (by kernel_rfl) ⟨(hm835.cell 2 rfl rfl), trivial⟩ fun a840 hf841 => ?_
      refine listOf hf841 rfl (by kernel_rfl) (aCall (fid := 38) (args := [.pointer (some ⟨b0, 0, none⟩), .string (bs ([115, 58] : List UInt8)), .slice A1_4_0 x1.Val.Shape.length c1_4_0]) (d := 53) hf841 (by kernel_rfl) (by kernel_rfl) callable38 (script_writer_nums.calls _ _ _ (⟨r826.1, r826.2⟩ : Writer) b0 A829 r826.1.length c830 rfl ([115, 58] : List UInt8) x1.Val.Shape A1_4_0 x1.Val.Shape.length c1_4_0 rfl (hm835.giveO [0, 1] [2, 3, 4, 5, 6, 7] [5] [.bx b0 [.slice A829 r826.1.length c830, .bool r826.2] 62, .ow Kd.str 9 A829 c830 r826.1] _ [.sl (Kd.int .i64) A1_4_0 c1_4_0 x1.Val.Shape] rfl rfl rfl (by kernel_rfl) rfl) r839 hr839 (hG.atO hm835 [0, 1] _ rfl)) ?_)
      rintro _ w844 a845 ⟨A842, c843, rfl, hk847⟩ hf846
      have hm848 := hm835.backO [0, 1] [2, 3, 4, 5, 6, 7] _ _ rfl rfl (by kernel_rfl) hk847
      refine endL rfl ?_
      refine thenN ?_
      refine wp_seq ?_
      refine wp_seq ?_
      refine reg [.slice A1_4_1 x1.Val.Data.length c1_4_1] [0, 3, 56, 57, 58] [(0, .pointer (some ⟨b0, 0, none⟩)), (3, .pointer (some ⟨b21, 0, none⟩)), (56, .slice A1_4_1 x1.Val.Data.length c1_4_1), (57, .int .i64 (x1.Val.Data.length : Int)), (58, .int .i64 0)] [.cell ⟨b21, 5, none⟩ (.slice A1_4_1 x1.Val.Data.length c1_4_1)] hf846 (by kernel_rfl) ⟨(hm848.cell 2 rfl rfl), trivial⟩ fun a849 hf850 => ?_
      refine thenN ?_
      obtain ⟨r856, hr856, H0⟩ := ob_split H0
      refine wpBlock (Mid := fun (a : Act) (w : World) => ∃ (A854 : Option Addr) (c855 : Nat), Fr 106 a [(0, .pointer (some ⟨b0, 0, none⟩)), (3, .pointer (some ⟨b21, 0, none⟩)), (56, .slice A1_4_1 x1.Val.Data.length c1_4_1), (57, .int .i64 (x1.Val.Data.length : Int)), (58, .int .i64 r856.1)] ∧ Mem B0 M w0 [.bx b0 [.slice A854 r856.2.length c855, .bool r839.2] 62, .ow Kd.str 9 A854 c855 r856.2, .bx b21 [.int .i64 x1.Op, .slice A1_1 x1.In.length c1_1, .slice A1_2 x1.To.length c1_2, .int .i64 x1.No, .slice A1_4_0 x1.Val.Shape.length c1_4_0, .slice A1_4_1 x1.Val.Data.length c1_4_1, .slice A1_6 x1.Hooks.length c1_6] 49, .sl (Kd.int .i64) A1_1 c1_1 x1.In, .sl (Kd.int .i64) A1_2 c1_2 x1.To, .sl (Kd.int .i64) A1_4_0 c1_4_0 x1.Val.Shape, .sl Kd.float A1_4_1 c1_4_1 x1.Val.Data, .sl kHook A1_6 c1_6 x1.Hooks] w) ?_ ?_
      · refine wpLoop (script_writer_node.l0 x1) r856 (fun (s853 : (Int × (List (List UInt8)))) (a : Act) (w : World) => ∃ (A854 : Option Addr) (c855 : Nat), Fr 106 a [(0, .pointer (some ⟨b0, 0, none⟩)), (3, .pointer (some ⟨b21, 0, none⟩)), (56, .slice A1_4_1 x1.Val.Data.length c1_4_1), (57, .int .i64 (x1.Val.Data.length : Int)), (58, .int .i64 s853.1)] ∧ Mem B0 M w0 [.bx b0 [.slice A854 s853.2.length c855, .bool r839.2] 62, .ow Kd.str 9 A854 c855 s853.2, .bx b21 [.int .i64 x1.Op, .slice A1_1 x1.In.length c1_1, .slice A1_2 x1.To.length c1_2, .int .i64 x1.No, .slice A1_4_0 x1.Val.Shape.length c1_4_0, .slice A1_4_1 x1.Val.Data.length c1_4_1, .slice A1_6 x1.Hooks.length c1_6] 49, .sl (Kd.int .i64) A1_1 c1_1 x1.In, .sl (Kd.int .i64) A1_2 c1_2 x1.To, .sl (Kd.int .i64) A1_4_0 c1_4_0 x1.Val.Shape, .sl Kd.float A1_4_1 c1_4_1 x1.Val.Data, .sl kHook A1_6 c1_6 x1.Hooks] w) (0, r839.1) hr856 ⟨A842, c843, hf850.sel (l := [0, 3, 56, 57, 58]) (by kernel_rfl), hm848.sel [0, 1, 2, 3, 4, 5, 6, 7] _ rfl (by kernel_rfl)⟩ ?_
        rintro g857 s853 a858 w859 H1 ⟨A854, c855, hf860, hm861⟩
        unfold script_writer_node.l0 at H1
        refine wp_seq ?_
        rcases ifS_split H1 with ⟨c862, H1⟩ | ⟨c862, H1⟩
        rotate_left
        · refine reg [.bool false] [0, 3, 56, 57, 58, 59] [(0, .pointer (some ⟨b0, 0, none⟩)), (3, .pointer (some ⟨b21, 0, none⟩)), (56, .slice A1_4_1 x1.Val.Data.length c1_4_1), (57, .int .i64 (x1.Val.Data.length : Int)), (58, .int .i64 s853.1), (59, .bool false)] [.is (decide (s853.1 < (x1.Val.Data.length : Int)) = false)] hf860 (by kernel_rfl) ⟨(decide_eq_false c862), trivial⟩ fun a976 hf977 => ?_
          refine thenN ?_
          refine wp_seq ?_
          refine condF hf977 (by kernel_rfl) ?_
          refine wp_exit ?_
          refine thenE ?_
          refine thenE ?_
          obtain rfl := Option.some.inj H1
          exact .inl ⟨rfl, A854, c855, hf977.sel (l := [0, 3, 56, 57, 58]) (by kernel_rfl), hm861.sel [0, 1, 2, 3, 4, 5, 6, 7] _ rfl (by kernel_rfl)⟩
        refine reg [.bool true] [0, 3, 56, 57, 58, 59] [(0, .pointer (some ⟨b0, 0, none⟩)), (3, .pointer (some ⟨b21, 0, none⟩)), (56, .slice A1_4_1 x1.Val.Data.length c1_4_1), (57, .int .i64 (x1.Val.Data.length : Int)), (58, .int .i64 s853.1), (59, .bool true)] [.is (decide (s853.1 < (x1.Val.Data.length : Int)) = true)] hf860 (by kernel_rfl) ⟨(decide_eq_true c862), trivial⟩ fun a863 hf864 => ?_
        refine thenN ?_
        refine wp_seq ?_
        refine condT hf864 (by kernel_rfl) ?_
        refine wp_skip ?_
        refine thenN ?_
        refine wp_seq ?_
        refine wp_block ?_
        refine wp_seq ?_
        obtain ⟨g865, H1⟩ := ifS_guard H1
        have q866 := (hm861.slAt 6 rfl).float s853.1 g865.1 g865.2
        obtain ⟨b867, hb867, kb867⟩ := q866.2
        refine reg [.float .f64 b867] [0, 3, 5, 56, 57, 58] [(0, .pointer (some ⟨b0, 0, none⟩)), (3, .pointer (some ⟨b21, 0, none⟩)), (5, .float .f64 b867), (56, .slice A1_4_1 x1.Val.Data.length c1_4_1), (57, .int .i64 (x1.Val.Data.length : Int)), (58, .int .i64 s853.1)] [.is (Option.isSome A1_4_1 = true), .is (0 ≤ s853.1 ∧ s853.1 < (x1.Val.Data.length : Int)), .cell ((ad A1_4_1).add ((s853.1).toNat * 1)) (.float .f64 b867)] hf864 (by kernel_rfl) ⟨q866.1, g865, kb867, trivial⟩ fun a868 hf869 => ?_
        refine thenN ?_
        obtain ⟨r870, hr870, H1⟩ := obS_split H1
        obtain ⟨g871, H1⟩ := ifS_guard H1
        obtain ⟨g872, H1⟩ := ifS_guard H1
        refine midReg (fun (a : Act) (w : World) => ∃ (A885 : Option Addr) (c886 : Nat), Fr 106 a [(0, .pointer (some ⟨b0, 0, none⟩)), (3, .pointer (some ⟨b21, 0, none⟩)), (56, .slice A1_4_1 x1.Val.Data.length c1_4_1), (57, .int .i64 (x1.Val.Data.length : Int)), (58, .int .i64 s853.1)] ∧ Mem B0 M w0 [.bx b0 [.slice A885 ((s853.2 ++ ([(([118, 58] : List UInt8) ++ r870)] : List (List UInt8))).length) c886, .bool r839.2] 62, .ow Kd.str 9 A885 c886 (s853.2 ++ ([(([118, 58] : List UInt8) ++ r870)] : List (List UInt8))), .bx b21 [.int .i64 x1.Op, .slice A1_1 x1.In.length c1_1, .slice A1_2 x1.To.length c1_2, .int .i64 x1.No, .slice A1_4_0 x1.Val.Shape.length c1_4_0, .slice A1_4_1 x1.Val.Data.length c1_4_1, .slice A1_6 x1.Hooks.length c1_6] 49, .sl (Kd.int .i64) A1_1 c1_1 x1.In, .sl (Kd.int .i64) A1_2 c1_2 x1.To, .sl (Kd.int .i64) A1_4_0 c1_4_0 x1.Val.Shape, .sl Kd.float A1_4_1 c1_4_1 x1.Val.Data, .sl kHook A1_6 c1_6 x1.Hooks] w) ?_ ?_
        · refine anyG (K := [bk A854]) [12] (by kernel_rfl) fun w901 hg902 => ?_
          have hm903 := hm861.still hg902
          refine quiet0 [0, 1, 2, 3, 4, 5] [.slice A854 s853.2.length c855] [0, 3, 56, 57, 58, 62, 66, 67] #[true, true, true, true, true, true, false, false, false, false, false, false, false] [(0, .pointer (some ⟨b0, 0, none⟩)), (3, .pointer (some ⟨b21, 0, none⟩)), (56, .slice A1_4_1 x1.Val.Data.length c1_4_1), (57, .int .i64 (x1.Val.Data.length : Int)), (58, .int .i64 s853.1), (62, .pointer (some ⟨b0, 0, none⟩)), (66, .slice A854 s853.2.length c855), (67, .float .f64 b867)] [.cell ⟨b0, 0, none⟩ (.slice A854 s853.2.length c855), .is (some (⟨b0, 0, none⟩ : Addr).block ∉ [bk A854])] 7 rfl (by kernel_rfl) (fun _ _ _ _ _ h => nomatch h.1) hf869 (by kernel_rfl) ⟨(hm903.cell 0 rfl rfl), (hm903.bxK 0 [1] _ rfl rfl rfl), trivial⟩ fun a937 hf938 => ?_
          refine all1 6 (by kernel_rfl) ?_
          refine opOf hf938 rfl (by kernel_rfl) (aCall (fid := 15) (args := [.float .f64 b867]) (d := 68) hf938 (by kernel_rfl) (by kernel_rfl) callable15 (script_Number.calls _ _ (rd x1.Val.Data s853.1) b867 hb867 (hm903.give [] [] rfl rfl) r870 hr870) ?_)
          rintro _ w939 a940 ⟨rfl, hk942⟩ hf941
          refine ⟨.inr (Gr.still hk942.cum.none), ?_⟩
          have hm943 := hm903.still hk942.cum.none
          refine quiet0 [7] [.string (bs (([118, 58] : List UInt8) ++ r870))] [0, 3, 56, 57, 58, 62, 66, 69] #[true, true, true, true, true, true, true, true, false, false, false, false, false] [(0, .pointer (some ⟨b0, 0, none⟩)), (3, .pointer (some ⟨b21, 0, none⟩)), (56, .slice A1_4_1 x1.Val.Data.length c1_4_1), (57, .int .i64 (x1.Val.Data.length : Int)), (58, .int .i64 s853.1), (62, .pointer (some ⟨b0, 0, none⟩)), (66, .slice A854 s853.2.length c855), (69, .string (bs (([118, 58] : List UInt8) ++ r870)))] [.is (bs (([118, 58] : List UInt8) ++ r870) = bs ([118, 58] : List UInt8) ++ bs r870 ∧ (bs ([118, 58] : List UInt8)).size + (bs r870).size ≤ 9223372036854775807)] 5 rfl (by kernel_rfl) (fun _ _ _ _ _ h => nomatch h.1) hf941 (by kernel_rfl) ⟨(catOk g871), trivial⟩ fun a944 hf945 => ?_
          refine all1 8 (by kernel_rfl) ?_
          refine opOf hf945 rfl (by kernel_rfl) (aLit (cs := [.string (bs (([118, 58] : List UInt8) ++ r870))]) (E := 9) (len := 1) (d := 70) hf945 (by kernel_rfl) (by kernel_rfl) ?_)
          intro b946 w947 a948 hbb946 hx950 hg951 hf949
          refine ⟨.inr (Gr.still hg951), ?_⟩
          have hm943s := hm943.still hg951
          have hm952 := Mem.lit (kd := Kd.str) (xs := ([(([118, 58] : List UInt8) ++ r870)] : List (List UInt8))) hm943 hbb946 hx950 hg951 (Els.one (kd := Kd.str) (us := [.string (bs (([118, 58] : List UInt8) ++ r870))]) (x := (([118, 58] : List UInt8) ++ r870)) rfl)
          refine all1 9 (by kernel_rfl) ?_
          have e961 : s853.2.length = s853.2.length := rfl
          have e962 : 1 = ([(([118, 58] : List UInt8) ++ r870)] : List (List UInt8)).length := rfl
          refine opOf hf949 rfl (by kernel_rfl) (aApp (kd := Kd.str) (base := 0) (E := 9) (A := A854) (B := (some ⟨b946, 0, none⟩)) (c := c855) (c2 := 1) (xs := s853.2) (ys := ([(([118, 58] : List UInt8) ++ r870)] : List (List UInt8))) (k := s853.2.length) (m := 1) (sz := 1) (d := 71) hf949 (by kernel_rfl) e961 e962 (by kernel_rfl) rfl (by kernel_rfl) (hm952.at 2 rfl) (hm952.at2 2 0 rfl rfl).2 (hm952.cpAt 0 rfl) (Nat.zero_le _) (by have := g872; omega) ?_)
          intro A953 c954 w955 a956 ho958 hg959 hr960 hf957
          refine ⟨.inr (Gr.own hg959 (by simp)), ?_⟩
          have hm963 := hm952.setOwn 2 _ rfl rfl ho958 hg959 hr960
          refine quiet0 [10, 11] [] [0, 3, 56, 57, 58, 71, 73] #[true, true, true, true, true, true, true, true, true, true, true, true, false] [(0, .pointer (some ⟨b0, 0, none⟩)), (3, .pointer (some ⟨b21, 0, none⟩)), (56, .slice A1_4_1 x1.Val.Data.length c1_4_1), (57, .int .i64 (x1.Val.Data.length : Int)), (58, .int .i64 s853.1), (71, .slice A953 ((s853.2 ++ ([(([118, 58] : List UInt8) ++ r870)] : List (List UInt8))).length) c954), (73, .pointer (some ⟨b0, 0, none⟩))] [] 1 rfl (by kernel_rfl) (fun _ _ _ _ _ h => nomatch h.1) hf957 (by kernel_rfl) trivial fun a964 hf965 => ?_
          refine all1 12 (by kernel_rfl) ?_
          refine opOf hf965 rfl (by kernel_rfl) (aStoreB (b := b0) (j := 0) (T := 62) (cs := [.slice A854 s853.2.length c855, .bool r839.2]) (us := [.slice A953 ((s853.2 ++ ([(([118, 58] : List UInt8) ++ r870)] : List (List UInt8))).length) c954]) (cs' := [.slice A953 ((s853.2 ++ ([(([118, 58] : List UInt8) ++ r870)] : List (List UInt8))).length) c954, .bool r839.2]) hf965 (by kernel_rfl) (hm963.bxAt 1 rfl) (by kernel_rfl) (by kernel_rfl) (by kernel_rfl) ?_)
          intro w966 hx967 hg968
          refine ⟨.inl (by decide), ?_⟩
          have hm969 := hm963.setBox 1 _ rfl rfl hx967 hg968
          refine allDone (by kernel_rfl) ⟨rfl, A953, c954, hf965.sel (l := [0, 3, 56, 57, 58]) (by kernel_rfl), hm969.sel [1, 2, 3, 4, 5, 6, 7, 8] _ rfl (by kernel_rfl)⟩
        rintro a970 w971 ⟨A885, c886, hf972, hm973⟩
        refine blkN ?_
        refine thenN ?_
        refine reg [] [0, 3, 56, 57, 58] [(0, .pointer (some ⟨b0, 0, none⟩)), (3, .pointer (some ⟨b21, 0, none⟩)), (56, .slice A1_4_1 x1.Val.Data.length c1_4_1), (57, .int .i64 (x1.Val.Data.length : Int)), (58, .int .i64 (w64 (s853.1 + 1)))] [] hf972 (by kernel_rfl) trivial fun a974 hf975 => ?_
        exact ⟨((w64 (s853.1 + 1)), (s853.2 ++ ([(([118, 58] : List UInt8) ++ r870)] : List (List UInt8)))), H1, A885, c886, hf975.sel (l := [0, 3, 56, 57, 58]) (by kernel_rfl), hm973.sel [0, 1, 2, 3, 4, 5, 6, 7] _ rfl (by kernel_rfl)⟩
      rintro a978 w979 ⟨A854, c855, hf980, hm981⟩
      refine thenN ?_
      refine wp_seq ?_
      refine reg [.slice A1_6 x1.Hooks.length c1_6] [0, 76, 77, 78] [(0, .pointer (some ⟨b0, 0, none⟩)), (76, .slice A1_6 x1.Hooks.length c1_6), (77, .int .i64 (x1.Hooks.length : Int)), (78, .int .i64 0)] [.cell ⟨b21, 6, none⟩ (.slice A1_6 x1.Hooks.length c1_6)] hf980 (by kernel_rfl) ⟨(hm981.cell 2 rfl rfl), trivial⟩ fun a982 hf983 => ?_
      have hm984 := hm981.sel [0, 1, 7] _ rfl (by kernel_rfl)
      refine thenN ?_
      obtain ⟨r990, hr990, H0⟩ := ob_split H0
      refine wpBlock (Mid := fun (a : Act) (w : World) => ∃ (A988 : Option Addr) (c989 : Nat), Fr 106 a [(0, .pointer (some ⟨b0, 0, none⟩)), (76, .slice A1_6 x1.Hooks.length c1_6), (77, .int .i64 (x1.Hooks.length : Int)), (78, .int .i64 r990.1)] ∧ Mem B0 M w0 [.bx b0 [.slice A988 r990.2.2.length c989, .bool r990.2.1] 62, .ow Kd.str 9 A988 c989 r990.2.2, .sl kHook A1_6 c1_6 x1.Hooks] w) ?_ ?_
      · refine wpLoop (script_writer_node.l1 x1) r990 (fun (s987 : (Int × Bool × (List (List UInt8)))) (a : Act) (w : World) => ∃ (A988 : Option Addr) (c989 : Nat), Fr 106 a [(0, .pointer (some ⟨b0, 0, none⟩)), (76, .slice A1_6 x1.Hooks.length c1_6), (77, .int .i64 (x1.Hooks.length : Int)), (78, .int .i64 s987.1)] ∧ Mem B0 M w0 [.bx b0 [.slice A988 s987.2.2.length c989, .bool s987.2.1] 62, .ow Kd.str 9 A988 c989 s987.2.2, .sl kHook A1_6 c1_6 x1.Hooks] w) (0, r839.2, r856.2) hr990 ⟨A854, c855, hf983.sel (l := [0, 76, 77, 78]) (by kernel_rfl), hm984.sel [0, 1, 2] _ rfl (by kernel_rfl)⟩ ?_
        rintro g991 s987 a992 w993 H1 ⟨A988, c989, hf994, hm995⟩
        unfold script_writer_node.l1 at H1
        refine wp_seq ?_
        rcases ifS_split H1 with ⟨c996, H1⟩ | ⟨c996, H1⟩
        rotate_left
        · refine reg [.bool false] [0, 76, 77, 78, 79] [(0, .pointer (some ⟨b0, 0, none⟩)), (76, .slice A1_6 x1.Hooks.length c1_6), (77, .int .i64 (x1.Hooks.length : Int)), (78, .int .i64 s987.1), (79, .bool false)] [.is (decide (s987.1 < (x1.Hooks.length : Int)) = false)] hf994 (by kernel_rfl) ⟨(decide_eq_false c996), trivial⟩ fun a1093 hf1094 => ?_
          refine thenN ?_
          refine wp_seq ?_
          refine condF hf1094 (by kernel_rfl) ?_
          refine wp_exit ?_
          refine thenE ?_
          refine thenE ?_
          obtain rfl := Option.some.inj H1
          exact .inl ⟨rfl, A988, c989, hf1094.sel (l := [0, 76, 77, 78]) (by kernel_rfl), hm995.sel [0, 1, 2] _ rfl (by kernel_rfl)⟩
        refine reg [.bool true] [0, 76, 77, 78, 79] [(0, .pointer (some ⟨b0, 0, none⟩)), (76, .slice A1_6 x1.Hooks.length c1_6), (77, .int .i64 (x1.Hooks.length : Int)), (78, .int .i64 s987.1), (79, .bool true)] [.is (decide (s987.1 < (x1.Hooks.length : Int)) = true)] hf994 (by kernel_rfl) ⟨(decide_eq_true c996), trivial⟩ fun a997 hf998 => ?_
        refine thenN ?_
        refine wp_seq ?_
        refine condT hf998 (by kernel_rfl) ?_
        refine wp_skip ?_
        refine thenN ?_
        refine wp_seq ?_
        refine wp_block ?_
        refine wp_seq ?_
        obtain ⟨g999, H1⟩ := ifS_guard H1
        have q1000 := (hm995.slAt 2 rfl).get s987.1 g999.1 g999.2
        obtain ⟨us1001, hr1002, hc1003⟩ := q1000.2
        obtain ⟨b1004, rfl, hb1004⟩ := kHook.open hr1002
        refine inReg ?_
        refine go 2 [.agg #[.int .i64 ((rd x1.Hooks s987.1).Do), .float .f64 b1004]] [0, 76, 77, 78, 81] [(0, .pointer (some ⟨b0, 0, none⟩)), (76, .slice A1_6 x1.Hooks.length c1_6), (77, .int .i64 (x1.Hooks.length : Int)), (78, .int .i64 s987.1), (81, .agg #[.int .i64 ((rd x1.Hooks s987.1).Do), .float .f64 b1004])] [.is (Option.isSome A1_6 = true), .is (0 ≤ s987.1 ∧ s987.1 < (x1.Hooks.length : Int)), .cell ((ad A1_6).add ((s987.1).toNat * 2)) (.int .i64 ((rd x1.Hooks s987.1).Do)), .cell (((ad A1_6).add ((s987.1).toNat * 2)).add 1) (.float .f64 b1004)] hf998 (by kernel_rfl) ⟨q1000.1, g999, (hc1003 0 _ rfl), (hc1003 1 _ rfl), trivial⟩ fun a1005 hf1006 => ?_
        refine listOf hf1006 rfl (by kernel_rfl) (aNew (cs := [.int .i64 0, .float .f64 0]) (T := 51) (d := 7) hf1006 (by kernel_rfl) (by kernel_rfl) ?_)
        intro b1007 w1008 a1009 hbb1007 hx1011 hg1012 hf1010
        have hm1013 := hm995.box hbb1007 hx1011 hg1012
        refine listOf hf1010 rfl (by kernel_rfl) (aStoreB (b := b1007) (j := 0) (T := 51) (cs := [.int .i64 0, .float .f64 0]) (us := [.int .i64 ((rd x1.Hooks s987.1).Do), .float .f64 b1004]) (cs' := [.int .i64 ((rd x1.Hooks s987.1).Do), .float .f64 b1004]) hf1010 (by kernel_rfl) (hm1013.bxAt 0 rfl) (by kernel_rfl) (by kernel_rfl) (by kernel_rfl) ?_)
        intro w1014 hx1015 hg1016
        have hm1017 := hm1013.setBox 0 _ rfl rfl hx1015 hg1016
        refine endL rfl ?_
        refine thenN ?_
        refine wp_seq ?_
        obtain ⟨r1018, hr1018, H1⟩ := obS_split H1
        refine inReg ?_
        refine go 3 [.int .i64 ((rd x1.Hooks s987.1).Do)] [0, 7, 76, 77, 78, 82, 84] [(0, .pointer (some ⟨b0, 0, none⟩)), (7, .pointer (some ⟨b1007, 0, none⟩)), (76, .slice A1_6 x1.Hooks.length c1_6), (77, .int .i64 (x1.Hooks.length : Int)), (78, .int .i64 s987.1), (82, .pointer (some ⟨b0, 0, none⟩)), (84, .int .i64 ((rd x1.Hooks s987.1).Do))] [.cell ⟨b1007, 0, none⟩ (.int .i64 ((rd x1.Hooks s987.1).Do))] hf1010 (by kernel_rfl) ⟨(hm1017.cell 0 rfl rfl), trivial⟩ fun a1019 hf1020 => ?_
        refine listOf hf1020 rfl (by kernel_rfl) (aLit (cs := [.int .i64 ((rd x1.Hooks s987.1).Do)]) (E := 3) (len := 1) (d := 85) hf1020 (by kernel_rfl) (by kernel_rfl) ?_)
        intro b1021 w1022 a1023 hbb1021 hx1025 hg1026 hf1024
        have hm1017s := hm1017.still hg1026
        have hm1027 := Mem.lit (kd := (Kd.int .i64)) (xs := ([((rd x1.Hooks s987.1).Do)] : List Int)) hm1017 hbb1021 hx1025 hg1026 (Els.one (kd := (Kd.int .i64)) (us := [.int .i64 ((rd x1.Hooks s987.1).Do)]) (x := ((rd x1.Hooks s987.1).Do)) rfl)
        refine listOf hf1024 rfl (by kernel_rfl) (aCall (fid := 38) (args := [.pointer (some ⟨b0, 0, none⟩), .string (bs ([104, 58] : List UInt8)), .slice (some ⟨b1021, 0, none⟩) 1 1]) (d := 86) hf1024 (by kernel_rfl) (by kernel_rfl) callable38 (script_writer_nums.calls _ _ _ (⟨s987.2.2, s987.2.1⟩ : Writer) b0 A988 s987.2.2.length c989 rfl ([104, 58] : List UInt8) ([((rd x1.Hooks s987.1).Do)] : List Int) (some ⟨b1021, 0, none⟩) 1 1 rfl (hm1027.giveO [2, 3] [0, 1, 4] [0] [.bx b0 [.slice A988 s987.2.2.length c989, .bool s987.2.1] 62, .ow Kd.str 9 A988 c989 s987.2.2] _ [.sl (Kd.int .i64) (some ⟨b1021, 0, none⟩) 1 ([((rd x1.Hooks s987.1).Do)] : List Int)] rfl rfl rfl (by kernel_rfl) rfl) r1018 hr1018 (hG.atO hm1027 [2, 3] _ rfl)) ?_)
        rintro _ w1030 a1031 ⟨A1028, c1029, rfl, hk1033⟩ hf1032
        have hm1034 := hm1027.backO [2, 3] [0, 1, 4] _ _ rfl rfl (by kernel_rfl) hk1033
        refine endL rfl ?_
        have hm1035 := hm1034.sel [0, 1, 3, 4] _ rfl (by kernel_rfl)
        refine thenN ?_
        obtain ⟨g1036, H1⟩ := ifS_guard H1
        obtain ⟨r1037, hr1037, H1⟩ := obS_split H1
        obtain ⟨g1038, H1⟩ := ifS_guard H1
        obtain ⟨g1039, H1⟩ := ifS_guard H1
        refine midReg (fun (a : Act) (w : World) => Fr 106 a [(0, .pointer (some ⟨b0, 0, none⟩)), (76, .slice A1_6 x1.Hooks.length c1_6), (77, .int .i64 (x1.Hooks.length : Int)), (78, .int .i64 s987.1)] ∧ Mem B0 M w0 [.bx b0 [.slice A1028 r1018.1.length c1029, .bool r1018.2] 62, .ow Kd.str 9 A1028 c1029 (put r1018.1 (w64 ((r1018.1.length : Int) - 1)) ((rd r1018.1 (w64 ((r1018.1.length : Int) - 1))) ++ (([44] : List UInt8) ++ r1037))), .sl kHook A1_6 c1_6 x1.Hooks] w) ?_ ?_
        · refine anyG (K := []) [18] (by kernel_rfl) fun w1052 hg1053 => ?_
          have hm1054 := hm1035.still hg1053
          have q1070 := (hm1054.owAt 1 rfl).str (w64 ((r1018.1.length : Int) - 1)) g1036.1 g1036.2
          refine quiet0 [0, 1, 2, 3, 4, 5, 6, 7, 8, 9, 10, 11, 12, 13] [.slice A1028 r1018.1.length c1029, .slice A1028 r1018.1.length c1029, .string (bs (rd r1018.1 (w64 ((r1018.1.length : Int) - 1)))), .float .f64 b1004] [0, 76, 77, 78, 90, 96, 98, 100] #[true, true, true, true, true, true, true, true, true, true, true, true, true, true, false, false, false, false, false] [(0, .pointer (some ⟨b0, 0, none⟩)), (76, .slice A1_6 x1.Hooks.length c1_6), (77, .int .i64 (x1.Hooks.length : Int)), (78, .int .i64 s987.1), (90, .slice A1028 r1018.1.length c1029), (96, .int .i64 (w64 ((r1018.1.length : Int) - 1))), (98, .string (bs (rd r1018.1 (w64 ((r1018.1.length : Int) - 1))))), (100, .float .f64 b1004)] [.cell ⟨b0, 0, none⟩ (.slice A1028 r1018.1.length c1029), .cell ⟨b0, 0, none⟩ (.slice A1028 r1018.1.length c1029), .is (Option.isSome A1028 = true), .is (0 ≤ (w64 ((r1018.1.length : Int) - 1)) ∧ (w64 ((r1018.1.length : Int) - 1)) < (r1018.1.length : Int)), .cell ((ad A1028).add (((w64 ((r1018.1.length : Int) - 1))).toNat * 1)) (.string (bs (rd r1018.1 (w64 ((r1018.1.length : Int) - 1))))), .cell ⟨b1007, 1, none⟩ (.float .f64 b1004)] 5 rfl (by kernel_rfl) (fun _ _ _ _ _ h => nomatch h.1) hf1032 (by kernel_rfl) ⟨(hm1054.cell 0 rfl rfl), (hm1054.cell 0 rfl rfl), q1070.1, g1036, q1070.2, (hm1054.cell 2 rfl rfl), trivial⟩ fun a1071 hf1072 => ?_
          refine all1 14 (by kernel_rfl) ?_
          refine opOf hf1072 rfl (by kernel_rfl) (aCall (fid := 15) (args := [.float .f64 b1004]) (d := 101) hf1072 (by kernel_rfl) (by kernel_rfl) callable15 (script_Number.calls _ _ ((rd x1.Hooks s987.1).X) b1004 hb1004 (hm1054.give [] [] rfl rfl) r1037 hr1037) ?_)
          rintro _ w1073 a1074 ⟨rfl, hk1076⟩ hf1075
          refine ⟨.inr (Gr.still hk1076.cum.none), ?_⟩
          have hm1077 := hm1054.still hk1076.cum.none
          have q1078 := (hm1077.owAt 1 rfl).str (w64 ((r1018.1.length : Int) - 1)) g1036.1 g1036.2
          refine quiet0 [15, 16, 17] [.string (bs (([44] : List UInt8) ++ r1037)), .string (bs ((rd r1018.1 (w64 ((r1018.1.length : Int) - 1))) ++ (([44] : List UInt8) ++ r1037)))] [0, 76, 77, 78, 103, 104] #[true, true, true, true, true, true, true, true, true, true, true, true, true, true, true, true, true, true, false] [(0, .pointer (some ⟨b0, 0, none⟩)), (76, .slice A1_6 x1.Hooks.length c1_6), (77, .int .i64 (x1.Hooks.length : Int)), (78, .int .i64 s987.1), (103, .string (bs ((rd r1018.1 (w64 ((r1018.1.length : Int) - 1))) ++ (([44] : List UInt8) ++ r1037)))), (104, .pointer (some ((ad A1028).add (((w64 ((r1018.1.length : Int) - 1))).toNat * 1))))] [.is (bs (([44] : List UInt8) ++ r1037) = bs ([44] : List UInt8) ++ bs r1037 ∧ (bs ([44] : List UInt8)).size + (bs r1037).size ≤ 9223372036854775807), .is (bs ((rd r1018.1 (w64 ((r1018.1.length : Int) - 1))) ++ (([44] : List UInt8) ++ r1037)) = bs (rd r1018.1 (w64 ((r1018.1.length : Int) - 1))) ++ bs (([44] : List UInt8) ++ r1037) ∧ (bs (rd r1018.1 (w64 ((r1018.1.length : Int) - 1)))).size + (bs (([44] : List UInt8) ++ r1037)).size ≤ 9223372036854775807), .is (Option.isSome A1028 = true), .is (0 ≤ (w64 ((r1018.1.length : Int) - 1)) ∧ (w64 ((r1018.1.length : Int) - 1)) < (r1018.1.length : Int))] 1 rfl (by kernel_rfl) (fun _ _ _ _ _ h => nomatch h.1) hf1075 (by kernel_rfl) ⟨(catOk g1038), (catOk g1039), q1078.1, g1036, trivial⟩ fun a1079 hf1080 => ?_
          refine all1 18 (by kernel_rfl) ?_
          refine opOf hf1080 rfl (by kernel_rfl) (aStoreO (kd := Kd.str) (base := 0) (E := 9) (A := A1028) (c := c1029) (xs := r1018.1) (i := (w64 ((r1018.1.length : Int) - 1))) (x := ((rd r1018.1 (w64 ((r1018.1.length : Int) - 1))) ++ (([44] : List UInt8) ++ r1037))) (us := [.string (bs ((rd r1018.1 (w64 ((r1018.1.length : Int) - 1))) ++ (([44] : List UInt8) ++ r1037)))]) (sz := 1) hf1080 (by kernel_rfl) rfl (by kernel_rfl) (hm1077.at 1 rfl) rfl g1036.1 g1036.2 ?_)
          intro w1081 hx1082 hg1083
          refine ⟨.inl (by decide), ?_⟩
          have hm1084 := hm1077.setOwn 1 _ rfl rfl hx1082 hg1083 (.inl rfl)
          refine allDone (by kernel_rfl) ⟨rfl, hf1080.sel (l := [0, 76, 77, 78]) (by kernel_rfl), hm1084.sel [0, 1, 3] _ rfl (by kernel_rfl)⟩
        rintro a1085 w1086 ⟨hf1087, hm1088⟩
        refine blkN ?_
        refine thenN ?_
        refine reg [] [0, 76, 77, 78] [(0, .pointer (some ⟨b0, 0, none⟩)), (76, .slice A1_6 x1.Hooks.length c1_6), (77, .int .i64 (x1.Hooks.length : Int)), (78, .int .i64 (w64 (s987.1 + 1)))] [] hf1087 (by kernel_rfl) trivial fun a1089 hf1090 => ?_
        have hf1091 : Fr 106 a1089 [(0, .pointer (some ⟨b0, 0, none⟩)), (76, .slice A1_6 x1.Hooks.length c1_6), (77, .int .i64 (x1.Hooks.length : Int)), (78, .int .i64 (w64 (s987.1 + 1)))] := hf1090.sel (l := [0, 76, 77, 78]) (by kernel_rfl)
        have hm1092 : Mem B0 M w0 [.bx b0 [.slice A1028 r1018.1.length c1029, .bool r1018.2] 62, .ow Kd.str 9 A1028 c1029 (put r1018.1 (w64 ((r1018.1.length : Int) - 1)) ((rd r1018.1 (w64 ((r1018.1.length : Int) - 1))) ++ (([44] : List UInt8) ++ r1037))), .sl kHook A1_6 c1_6 x1.Hooks] w1086 := hm1088.sel [0, 1, 2] _ rfl (by kernel_rfl)
        exact ⟨((w64 (s987.1 + 1)), r1018.2, (put r1018.1 (w64 ((r1018.1.length : Int) - 1)) ((rd r1018.1 (w64 ((r1018.1.length : Int) - 1))) ++ (([44] : List UInt8) ++ r1037)))), H1, A1028, c1029, (by simpa only [put_length, List.length_nil] using hf1091), (by simpa only [put_length, List.length_nil] using hm1092)⟩
      rintro a1095 w1096 ⟨A988, c989, hf1097, hm1098⟩
      have hm1099 : Mem B0 M w0 [.bx b0 [.slice A988 r990.2.2.length c989, .bool r990.2.1] 62, .ow Kd.str 9 A988 c989 r990.2.2] w1096 := hm1098.sel [0, 1] _ rfl (by kernel_rfl)
      obtain rfl := Option.some.inj H0
      refine fin [] [] [] hf1097 (by kernel_rfl) trivial ?_
      exact ⟨_, rfl, A988, c989, rfl, hm1099⟩
    refine reg [.int .i64 x1.No, .bool true] [0, 3, 43] [(0, .pointer (some ⟨b0, 0, none⟩)), (3, .pointer (some ⟨b21, 0, none⟩)), (43, .bool true)] [.cell ⟨b21, 3, none⟩ (.int .i64 x1.No), .is (((x1.No : Int) != 0) = true)] hf833 (by kernel_rfl) ⟨(hm835.cell 2 rfl rfl), (neT c836), trivial⟩ fun a1101 hf1102 => ?_
    refine thenN ?_
    refine condT hf1102 (by kernel_rfl) ?_
    obtain ⟨r1103, hr1103, H0⟩ := ob_split H0
    refine inReg ?_
    refine go 3 [.int .i64 x1.No] [0, 3, 44, 46] [(0, .pointer (some ⟨b0, 0, none⟩)), (3, .pointer (some ⟨b21, 0, none⟩)), (44, .pointer (some ⟨b0, 0, none⟩)), (46, .int .i64 x1.No)] [.cell ⟨b21, 3, none⟩ (.int .i64 x1.No)] hf1102 (by kernel_rfl) ⟨(hm835.cell 2 rfl rfl), trivial⟩ fun a1104 hf1105 => ?_
    refine listOf hf1105 rfl (by kernel_rfl) (aLit (cs := [.int .i64 x1.No]) (E := 3) (len := 1) (d := 47) hf1105 (by kernel_rfl) (by kernel_rfl) ?_)
    intro b1106 w1107 a1108 hbb1106 hx1110 hg1111 hf1109
    have hm835s := hm835.still hg1111
    have hm1112 := Mem.lit (kd := (Kd.int .i64)) (xs := ([x1.No] : List Int)) hm835 hbb1106 hx1110 hg1111 (Els.one (kd := (Kd.int .i64)) (us := [.int .i64 x1.No]) (x := x1.No) rfl)
    refine listOf hf1109 rfl (by kernel_rfl) (aCall (fid := 38) (args := [.pointer (some ⟨b0, 0, none⟩), .string (bs ([110, 58] : List UInt8)), .slice (some ⟨b1106, 0, none⟩) 1 1]) (d := 48) hf1109 (by kernel_rfl) (by kernel_rfl) callable38 (script_writer_nums.calls _ _ _ (⟨r826.1, r826.2⟩ : Writer) b0 A829 r826.1.length c830 rfl ([110, 58] : List UInt8) ([x1.No] : List Int) (some ⟨b1106, 0, none⟩) 1 1 rfl (hm1112.giveO [1, 2] [0, 3, 4, 5, 6, 7, 8] [0] [.bx b0 [.slice A829 r826.1.length c830, .bool r826.2] 62, .ow Kd.str 9 A829 c830 r826.1] _ [.sl (Kd.int .i64) (some ⟨b1106, 0, none⟩) 1 ([x1.No] : List Int)] rfl rfl rfl (by kernel_rfl) rfl) r1103 hr1103 (hG.atO hm1112 [1, 2] _ rfl)) ?_)
    rintro _ w1115 a1116 ⟨A1113, c1114, rfl, hk1118⟩ hf1117
    have hm1119 := hm1112.backO [1, 2] [0, 3, 4, 5, 6, 7, 8] _ _ rfl rfl (by kernel_rfl) hk1118
    refine endL rfl ?_
    have hm1120 := hm1119.sel [0, 1, 3, 4, 5, 6, 7, 8] _ rfl (by kernel_rfl)
    refine thenN ?_
    refine wp_seq ?_
    obtain ⟨r1121, hr1121, H0⟩ := ob_split H0
    refine inReg ?_
    refine go 4 [.slice A1_4_0 x1.Val.Shape.length c1_4_0] [0, 3, 49, 52] [(0, .pointer (some ⟨b0, 0, none⟩)), (3, .pointer (some ⟨b21, 0, none⟩)), (49, .pointer (some ⟨b0, 0, none⟩)), (52, .slice A1_4_0 x1.Val.Shape.length c1_4_0)] [.cell ⟨b21, 4, none⟩ (.slice A1_4_0 x1.Val.Shape.length c1_4_0)] hf1117 (by kernel_rfl) ⟨(hm1120.cell 2 rfl rfl), trivial⟩ fun a1122 hf1123 => ?_
    refine listOf hf1123 rfl (by kernel_rfl) (aCall (fid := 38) (args := [.pointer (some ⟨b0, 0, none⟩), .string (bs ([115, 58] : List UInt8)), .slice A1_4_0 x1.Val.Shape.length c1_4_0]) (d := 53) hf1123 (by kernel_rfl) (by kernel_rfl) callable38 (script_writer_nums.calls _ _ _ (⟨r1103.1, r1103.2⟩ : Writer) b0 A1113 r1103.1.length c1114 rfl ([115, 58] : List UInt8) x1.Val.Shape A1_4_0 x1.Val.Shape.length c1_4_0 rfl (hm1120.giveO [0, 1] [2, 3, 4, 5, 6, 7] [5] [.bx b0 [.slice A1113 r1103.1.length c1114, .bool r1103.2] 62, .ow Kd.str 9 A1113 c1114 r1103.1] _ [.sl (Kd.int .i64) A1_4_0 c1_4_0 x1.Val.Shape] rfl rfl rfl (by kernel_rfl) rfl) r1121 hr1121 (hG.atO hm1120 [0, 1] _ rfl)) ?_)
    rintro _ w1126 a1127 ⟨A1124, c1125, rfl, hk1129⟩ hf1128
    have hm1130 := hm1120.backO [0, 1] [2, 3, 4, 5, 6, 7] _ _ rfl rfl (by kernel_rfl) hk1129
    refine endL rfl ?_
    refine thenN ?_
    refine wp_seq ?_
    refine wp_seq ?_
    refine reg [.slice A1_4_1 x1.Val.Data.length c1_4_1] [0, 3, 56, 57, 58] [(0, .pointer (some ⟨b0, 0, none⟩)), (3, .pointer (some ⟨b21, 0, none⟩)), (56, .slice A1_4_1 x1.Val.Data.length c1_4_1), (57, .int .i64 (x1.Val.Data.length : Int)), (58, .int .i64 0)] [.cell ⟨b21, 5, none⟩ (.slice A1_4_1 x1.Val.Data.length c1_4_1)] hf1128 (by kernel_rfl) ⟨(hm1130.cell 2 rfl rfl), trivial⟩ fun a1131 hf1132 => ?_
    refine thenN ?_
    obtain ⟨r1138, hr1138, H0⟩ := ob_split H0
    refine wpBlock (Mid := fun (a : Act) (w : World) => ∃ (A1136 : Option Addr) (c1137 : Nat), Fr 106 a [(0, .pointer (some ⟨b0, 0, none⟩)), (3, .pointer (some ⟨b21, 0, none⟩)), (56, .slice A1_4_1 x1.Val.Data.length c1_4_1), (57, .int .i64 (x1.Val.Data.length : Int)), (58, .int .i64 r1138.1)] ∧ Mem B0 M w0 [.bx b0 [.slice A1136 r1138.2.length c1137, .bool r1121.2] 62, .ow Kd.str 9 A1136 c1137 r1138.2, .bx b21 [.int .i64 x1.Op, .slice A1_1 x1.In.length c1_1, .slice A1_2 x1.To.length c1_2, .int .i64 x1.No, .slice A1_4_0 x1.Val.Shape.length c1_4_0, .slice A1_4_1 x1.Val.Data.length c1_4_1, .slice A1_6 x1.Hooks.length c1_6] 49, .sl (Kd.int .i64) A1_1 c1_1 x1.In, .sl (Kd.int .i64) A1_2 c1_2 x1.To, .sl (Kd.int .i64) A1_4_0 c1_4_0 x1.Val.Shape, .sl Kd.float A1_4_1 c1_4_1 x1.Val.Data, .sl kHook A1_6 c1_6 x1.Hooks] w) ?_ ?_
    · refine wpLoop (script_writer_node.l0 x1) r1138 (fun (s1135 : (Int × (List (List UInt8)))) (a : Act) (w : World) => ∃ (A1136 : Option Addr) (c1137 : Nat), Fr 106 a [(0, .pointer (some ⟨b0, 0, none⟩)), (3, .pointer (some ⟨b21, 0, none⟩)), (56, .slice A1_4_1 x1.Val.Data.length c1_4_1), (57, .int .i64 (x1.Val.Data.length : Int)), (58, .int .i64 s1135.1)] ∧ Mem B0 M w0 [.bx b0 [.slice A1136 s1135.2.length c1137, .bool r1121.2] 62, .ow Kd.str 9 A1136 c1137 s1135.2, .bx b21 [.int .i64 x1.Op, .slice A1_1 x1.In.length c1_1, .slice A1_2 x1.To.length c1_2, .int .i64 x1.No, .slice A1_4_0 x1.Val.Shape.length c1_4_0, .slice A1_4_1 x1.Val.Data.length c1_4_1, .slice A1_6 x1.Hooks.length c1_6] 49, .sl (Kd.int .i64) A1_1 c1_1 x1.In, .sl (Kd.int .i64) A1_2 c1_2 x1.To, .sl (Kd.int .i64) A1_4_0 c1_4_0 x1.Val.Shape, .sl Kd.float A1_4_1 c1_4_1 x1.Val.Data, .sl kHook A1_6 c1_6 x1.Hooks] w) (0, r1121.1) hr1138 ⟨A1124, c1125, hf1132.sel (l := [0, 3, 56, 57, 58]) (by kernel_rfl), hm1130.sel [0, 1, 2, 3, 4, 5, 6, 7] _ rfl (by kernel_rfl)⟩ ?_
      rintro g1139 s1135 a1140 w1141 H1 ⟨A1136, c1137, hf1142, hm1143⟩
      unfold script_writer_node.l0 at H1
      refine wp_seq ?_
      rcases ifS_split H1 with ⟨c1144, H1⟩ | ⟨c1144, H1⟩
      rotate_left
      · refine reg [.bool false] [0, 3, 56, 57, 58, 59] [(0, .pointer (some ⟨b0, 0, none⟩)), (3, .pointer (some ⟨b21, 0, none⟩)), (56, .slice A1_4_1 x1.Val.Data.length c1_4_1), (57, .int .i64 (x1.Val.Data.length : Int)), (58, .int .i64 s1135.1), (59, .bool false)] [.is (decide (s1135.1 < (x1.Val.Data.length : Int)) = false)] hf1142 (by kernel_rfl) ⟨(decide_eq_false c1144), trivial⟩ fun a1258 hf1259 => ?_
        refine thenN ?_
        refine wp_seq ?_
        refine condF hf1259 (by kernel_rfl) ?_
        refine wp_exit ?_
        refine thenE ?_
        refine thenE ?_
        obtain rfl := Option.some.inj H1
        exact .inl ⟨rfl, A1136, c1137, hf1259.sel (l := [0, 3, 56, 57, 58]) (by kernel_rfl), hm1143.sel [0, 1, 2, 3, 4, 5, 6, 7] _ rfl (by kernel_rfl)⟩
      refine reg [.bool true] [0, 3, 56, 57, 58, 59] [(0, .pointer (some ⟨b0, 0, none⟩)), (3, .pointer (some ⟨b21, 0, none⟩)), (56, .slice A1_4_1 x1.Val.Data.length c1_4_1), (57, .int .i64 (x1.Val.Data.length : Int)), (58, .int .i64 s1135.1), (59, .bool true)] [.is (decide (s1135.1 < (x1.Val.Data.length : Int)) = true)] hf1142 (by kernel_rfl) ⟨(decide_eq_true c1144), trivial⟩ fun a1145 hf1146 => ?_
      refine thenN ?_
      refine wp_seq ?_
      refine condT hf1146 (by kernel_rfl) ?_
      refine wp_skip ?_
      refine thenN ?_
      refine wp_seq ?_
      refine wp_block ?_
      refine wp_seq ?_
      obtain ⟨g1147, H1⟩ := ifS_guard H1
      have q1148 := (hm1143.slAt 6 rfl).float s1135.1 g1147.1 g1147.2
      obtain ⟨b1149, hb1149, kb1149⟩ := q1148.2
      refine reg [.float .f64 b1149] [0, 3, 5, 56, 57, 58] [(0, .pointer (some ⟨b0, 0, none⟩)), (3, .pointer (some ⟨b21, 0, none⟩)), (5, .float .f64 b1149), (56, .slice A1_4_1 x1.Val.Data.length c1_4_1), (57, .int .i64 (x1.Val.Data.length : Int)), (58, .int .i64 s1135.1)] [.is (Option.isSome A1_4_1 = true), .is (0 ≤ s1135.1 ∧ s1135.1 < (x1.Val.Data.length : Int)), .cell ((ad A1_4_1).add ((s1135.1).toNat * 1)) (.float .f64 b1149)] hf1146 (by kernel_rfl) ⟨q1148.1, g1147, kb1149, trivial⟩ fun a1150 hf1151 => ?_
      refine thenN ?_
      obtain ⟨r1152, hr1152, H1⟩ := obS_split H1
      obtain ⟨g1153, H1⟩ := ifS_guard H1
      obtain ⟨g1154, H1⟩ := ifS_guard H1
      refine midReg (fun (a : Act) (w : World) => ∃ (A1167 : Option Addr) (c1168 : Nat), Fr 106 a [(0, .pointer (some ⟨b0, 0, none⟩)), (3, .pointer (some ⟨b21, 0, none⟩)), (56, .slice A1_4_1 x1.Val.Data.length c1_4_1), (57, .int .i64 (x1.Val.Data.length : Int)), (58, .int .i64 s1135.1)] ∧ Mem B0 M w0 [.bx b0 [.slice A1167 ((s1135.2 ++ ([(([118, 58] : List UInt8) ++ r1152)] : List (List UInt8))).length) c1168, .bool r1121.2] 62, .ow Kd.str 9 A1167 c1168 (s1135.2 ++ ([(([118, 58] : List UInt8) ++ r1152)] : List (List UInt8))), .bx b21 [.int .i64 x1.Op, .slice A1_1 x1.In.length c1_1, .slice A1_2 x1.To.length c1_2, .int .i64 x1.No, .slice A1_4_0 x1.Val.Shape.length c1_4_0, .slice A1_4_1 x1.Val.Data.length c1_4_1, .slice A1_6 x1.Hooks.length c1_6] 49, .sl (Kd.int .i64) A1_1 c1_1 x1.In, .sl (Kd.int .i64) A1_2 c1_2 x1.To, .sl (Kd.int .i64) A1_4_0 c1_4_0 x1.Val.Shape, .sl Kd.float A1_4_1 c1_4_1 x1.Val.Data, .sl kHook A1_6 c1_6 x1.Hooks] w) ?_ ?_
      · refine anyG (K := [bk A1136]) [12] (by kernel_rfl) fun w1183 hg1184 => ?_
        have hm1185 := hm1143.still hg1184
        refine quiet0 [0, 1, 2, 3, 4, 5] [.slice A1136 s1135.2.length c1137] [0, 3, 56, 57, 58, 62, 66, 67] #[true, true, true, true, true, true, false, false, false, false, false, false, false] [(0, .pointer (some ⟨b0, 0, none⟩)), (3, .pointer (some ⟨b21, 0, none⟩)), (56, .slice A1_4_1 x1.Val.Data.length c1_4_1), (57, .int .i64 (x1.Val.Data.length : Int)), (58, .int .i64 s1135.1), (62, .pointer (some ⟨b0, 0, none⟩)), (66, .slice A1136 s1135.2.length c1137), (67, .float .f64 b1149)] [.cell ⟨b0, 0, none⟩ (.slice A1136 s1135.2.length c1137), .is (some (⟨b0, 0, none⟩ : Addr).block ∉ [bk A1136])] 7 rfl (by kernel_rfl) (fun _ _ _ _ _ h => nomatch h.1) hf1151 (by kernel_rfl) ⟨(hm1185.cell 0 rfl rfl), (hm1185.bxK 0 [1] _ rfl rfl rfl), trivial⟩ fun a1219 hf1220 => ?_
        refine all1 6 (by kernel_rfl) ?_
        refine opOf hf1220 rfl (by kernel_rfl) (aCall (fid := 15) (args := [.float .f64 b1149]) (d := 68) hf1220 (by kernel_rfl) (by kernel_rfl) callable15 (script_Number.calls _ _ (rd x1.Val.Data s1135.1) b1149 hb1149 (hm1185.give [] [] rfl rfl) r1152 hr1152) ?_)
        rintro _ w1221 a1222 ⟨rfl, hk1224⟩ hf1223
        refine ⟨.inr (Gr.still hk1224.cum.none), ?_⟩
        have hm1225 := hm1185.still hk1224.cum.none
        refine quiet0 [7] [.string (bs (([118, 58] : List UInt8) ++ r1152))] [0, 3, 56, 57, 58, 62, 66, 69] #[true, true, true, true, true, true, true, true, false, false, false, false, false] [(0, .pointer (some ⟨b0, 0, none⟩)), (3, .pointer (some ⟨b21, 0, none⟩)), (56, .slice A1_4_1 x1.Val.Data.length c1_4_1), (57, .int .i64 (x1.Val.Data.length : Int)), (58, .int .i64 s1135.1), (62, .pointer (some ⟨b0, 0, none⟩)), (66, .slice A1136 s1135.2.length c1137), (69, .string (bs (([118, 58] : List UInt8) ++ r1152)))] [.is (bs (([118, 58] : List UInt8) ++ r1152) = bs ([118, 58] : List UInt8) ++ bs r1152 ∧ (bs ([118, 58] : List UInt8)).size + (bs r1152).size ≤ 9223372036854775807)] 5 rfl (by kernel_rfl) (fun _ _ _ _ _ h => nomatch h.1) hf1223 (by kernel_rfl) ⟨(catOk g1153), trivial⟩ fun a1226 hf1227 => ?_
        refine all1 8 (by kernel_rfl) ?_
        refine opOf hf1227 rfl (by kernel_rfl) (aLit (cs := [.string (bs (([118, 58] : List UInt8) ++ r1152))]) (E := 9) (len := 1) (d := 70) hf1227 (by kernel_rfl) (by kernel_rfl) ?_)
        intro b1228 w1229 a1230 hbb1228 hx1232 hg1233 hf1231
        refine ⟨.inr (Gr.still hg1233), ?_⟩
        have hm1225s := hm1225.still hg1233
        have hm1234 := Mem.lit (kd := Kd.str) (xs := ([(([118, 58] : List UInt8) ++ r1152)] : List (List UInt8))) hm1225 hbb1228 hx1232 hg1233 (Els.one (kd := Kd.str) (us := [.string (bs (([118, 58] : List UInt8) ++ r1152))]) (x := (([118, 58] : List UInt8) ++ r1152)) rfl)
        refine all1 9 (by kernel_rfl) ?_
        have e1243 : s1135.2.length = s1135.2.length := rfl
        have e1244 : 1 = ([(([118, 58] : List UInt8) ++ r1152)] : List (List UInt8)).length := rfl
        refine opOf hf1231 rfl (by kernel_rfl) (aApp (kd := Kd.str) (base := 0) (E := 9) (A := A1136) (B := (some ⟨b1228, 0, none⟩)) (c := c1137) (c2 := 1) (xs := s1135.2) (ys := ([(([118, 58] : List UInt8) ++ r1152)] : List (List UInt8))) (k := s1135.2.length) (m := 1) (sz := 1) (d := 71) hf1231 (by kernel_rfl) e1243 e1244 (by kernel_rfl) rfl (by kernel_rfl) (hm1234.at 2 rfl) (hm1234.at2 2 0 rfl rfl).2 (hm1234.cpAt 0 rfl) (Nat.zero_le _) (by have := g1154; omega) ?_)
        intro A1235 c1236 w1237 a1238 ho1240 hg1241 hr1242 hf1239
        refine ⟨.inr (Gr.own hg1241 (by simp)), ?_⟩
        have hm1245 := hm1234.setOwn 2 _ rfl rfl ho1240 hg1241 hr1242
        refine quiet0 [10, 11] [] [0, 3, 56, 57, 58, 71, 73] #[true, true, true, true, true, true, true, true, true, true, true, true, false] [(0, .pointer (some ⟨b0, 0, none⟩)), (3, .pointer (some ⟨b21, 0, none⟩)), (56, .slice A1_4_1 x1.Val.Data.length c1_4_1), (57, .int .i64 (x1.Val.Data.length : Int)), (58, .int .i64 s1135.1), (71, .slice A1235 ((s1135.2 ++ ([(([118, 58] : List UInt8) ++ r1152)] : List (List UInt8))).length) c1236), (73, .pointer (some ⟨b0, 0, none⟩))] [] 1 rfl (by kernel_rfl) (fun _ _ _ _ _ h => nomatch h.1) hf1239 (by kernel_rfl) trivial fun a1246 hf1247 => ?_
        refine all1 12 (by kernel_rfl) ?_
        refine opOf hf1247 rfl (by kernel_rfl) (aStoreB (b := b0) (j := 0) (T := 62) (cs := [.slice A1136 s1135.2.length c1137, .bool r1121.2]) (us := [.slice A1235 ((s1135.2 ++ ([(([118, 58] : List UInt8) ++ r1152)] : List (List UInt8))).length) c1236]) (cs' := [.slice A1235 ((s1135.2 ++ ([(([118, 58] : List UInt8) ++ r1152)] : List (List UInt8))).length) c1236, .bool r1121.2]) hf1247 (by kernel_rfl) (hm1245.bxAt 1 rfl) (by kernel_rfl) (by kernel_rfl) (by kernel_rfl) ?_)
        intro w1248 hx1249 hg1250
        refine ⟨.inl (by decide), ?_⟩
        have hm1251 := hm1245.setBox 1 _ rfl rfl hx1249 hg1250
        refine allDone (by kernel_rfl) ⟨rfl, A1235, c1236, hf1247.sel (l := [0, 3, 56, 57, 58]) (by kernel_rfl), hm1251.sel [1, 2, 3, 4, 5, 6, 7, 8] _ rfl (by kernel_rfl)⟩
      rintro a1252 w1253 ⟨A1167, c1168, hf1254, hm1255⟩
      refine blkN ?_
      refine thenN ?_
      refine reg [] [0, 3, 56, 57, 58] [(0, .pointer (some ⟨b0, 0, none⟩)), (3, .pointer (some ⟨b21, 0, none⟩)), (56, .slice A1_4_1 x1.Val.Data.length c1_4_1), (57, .int .i64 (x1.Val.Data.length : Int)), (58, .int .i64 (w64 (s1135.1 + 1)))] [] hf1254 (by kernel_rfl) trivial fun a1256 hf1257 => ?_
      exact ⟨((w64 (s1135.1 + 1)), (s1135.2 ++ ([(([118, 58] : List UInt8) ++ r1152)] : List (List UInt8)))), H1, A1167, c1168, hf1257.sel (l := [0, 3, 56, 57, 58]) (by kernel_rfl), hm1255.sel [0, 1, 2, 3, 4, 5, 6, 7] _ rfl (by kernel_rfl)⟩
    rintro a1260 w1261 ⟨A1136, c1137, hf1262, hm1263⟩
    refine thenN ?_
    refine wp_seq ?_
    refine reg [.slice A1_6 x1.Hooks.length c1_6] [0, 76, 77, 78] [(0, .pointer (some ⟨b0, 0, none⟩)), (76, .slice A1_6 x1.Hooks.length c1_6), (77, .int .i64 (x1.Hooks.length : Int)), (78, .int .i64 0)] [.cell ⟨b21, 6, none⟩ (.slice A1_6 x1.Hooks.length c1_6)] hf1262 (by kernel_rfl) ⟨(hm1263.cell 2 rfl rfl), trivial⟩ fun a1264 hf1265 => ?_
    have hm1266 := hm1263.sel [0, 1, 7] _ rfl (by kernel_rfl)
    refine thenN ?_
    obtain ⟨r1272, hr1272, H0⟩ := ob_split H0
    refine wpBlock (Mid := fun (a : Act) (w : World) => ∃ (A1270 : Option Addr) (c1271 : Nat), Fr 106 a [(0, .pointer (some ⟨b0, 0, none⟩)), (76, .slice A1_6 x1.Hooks.length c1_6), (77, .int .i64 (x1.Hooks.length : Int)), (78, .int .i64 r1272.1)] ∧ Mem B0 M w0 [.bx b0 [.slice A1270 r1272.2.2.length c1271, .bool r1272.2.1] 62, .ow Kd.str 9 A1270 c1271 r1272.2.2, .sl kHook A1_6 c1_6 x1.Hooks] w) ?_ ?_
    · refine wpLoop (script_writer_node.l1 x1) r1272 (fun (s1269 : (Int × Bool × (List (List UInt8)))) (a : Act) (w : World) => ∃ (A1270 : Option Addr) (c1271 : Nat), Fr 106 a [(0, .pointer (some ⟨b0, 0, none⟩)), (76, .slice A1_6 x1.Hooks.length c1_6), (77, .int .i64 (x1.Hooks.length : Int)), (78, .int .i64 s1269.1)] ∧ Mem B0 M w0 [.bx b0 [.slice A1270 s1269.2.2.length c1271, .bool s1269.2.1] 62, .ow Kd.str 9 A1270 c1271 s1269.2.2, .sl kHook A1_6 c1_6 x1.Hooks] w) (0, r1121.2, r1138.2) hr1272 ⟨A1136, c1137, hf1265.sel (l := [0, 76, 77, 78]) (by kernel_rfl), hm1266.sel [0, 1, 2] _ rfl (by kernel_rfl)⟩ ?_
      rintro g1273 s1269 a1274 w1275 H1 ⟨A1270, c1271, hf1276, hm1277⟩
      unfold script_writer_node.l1 at H1
      refine wp_seq ?_
      rcases ifS_split H1 with ⟨c1278, H1⟩ | ⟨c1278, H1⟩
      rotate_left
      · refine reg [.bool false] [0, 76, 77, 78, 79] [(0, .pointer (some ⟨b0, 0, none⟩)), (76, .slice A1_6 x1.Hooks.length c1_6), (77, .int .i64 (x1.Hooks.length : Int)), (78, .int .i64 s1269.1), (79, .bool false)] [.is (decide (s1269.1 < (x1.Hooks.length : Int)) = false)] hf1276 (by kernel_rfl) ⟨(decide_eq_false c1278), trivial⟩ fun a1375 hf1376 => ?_
        refine thenN ?_
        refine wp_seq ?_
        refine condF hf1376 (by kernel_rfl) ?_
        refine wp_exit ?_
        refine thenE ?_
        refine thenE ?_
        obtain rfl := Option.some.inj H1
        exact .inl ⟨rfl, A1270, c1271, hf1376.sel (l := [0, 76, 77, 78]) (by kernel_rfl), hm1277.sel [0, 1, 2] _ rfl (by kernel_rfl)⟩
      refine reg [.bool true] [0, 76, 77, 78, 79] [(0, .pointer (some ⟨b0, 0, none⟩)), (76, .slice A1_6 x1.Hooks.length c1_6), (77, .int .i64 (x1.Hooks.length : Int)), (78, .int .i64 s1269.1), (79, .bool true)] [.is (decide (s1269.1 < (x1.Hooks.length : Int)) = true)] hf1276 (by kernel_rfl) ⟨(decide_eq_true c1278), trivial⟩ fun a1279 hf1280 => ?_
      refine thenN ?_
      refine wp_seq ?_
      refine condT hf1280 (by kernel_rfl) ?_
      refine wp_skip ?_
      refine thenN ?_
      refine wp_seq ?_
      refine wp_block ?_
      refine wp_seq ?_
      obtain ⟨g1281, H1⟩ := ifS_guard H1
      have q1282 := (hm1277.slAt 2 rfl).get s1269.1 g1281.1 g1281.2
      obtain ⟨us1283, hr1284, hc1285⟩ := q1282.2
      obtain ⟨b1286, rfl, hb1286⟩ := kHook.open hr1284
      refine inReg ?_
      refine go 2 [.agg #[.int .i64 ((rd x1.Hooks s1269.1).Do), .float .f64 b1286]] [0, 76, 77, 78, 81] [(0, .pointer (some ⟨b0, 0, none⟩)), (76, .slice A1_6 x1.Hooks.length c1_6), (77, .int .i64 (x1.Hooks.length : Int)), (78, .int .i64 s1269.1), (81, .agg #[.int .i64 ((rd x1.Hooks s1269.1).Do), .float .f64 b1286])] [.is (Option.isSome A1_6 = true), .is (0 ≤ s1269.1 ∧ s1269.1 < (x1.Hooks.length : Int)), .cell ((ad A1_6).add ((s1269.1).toNat * 2)) (.int .i64 ((rd x1.Hooks s1269.1).Do)), .cell (((ad A1_6).add ((s1269.1).toNat * 2)).add 1) (.float .f64 b1286)] hf1280 (by kernel_rfl) ⟨q1282.1, g1281, (hc1285 0 _ rfl), (hc1285 1 _ rfl), trivial⟩ fun a1287 hf1288 => ?_
      refine listOf hf1288 rfl (by kernel_rfl) (aNew (cs := [.int .i64 0, .float .f64 0]) (T := 51) (d := 7) hf1288 (by kernel_rfl) (by kernel_rfl) ?_)
      intro b1289 w1290 a1291 hbb1289 hx1293 hg1294 hf1292
      have hm1295 := hm1277.box hbb1289 hx1293 hg1294
      refine listOf hf1292 rfl (by kernel_rfl) (aStoreB (b := b1289) (j := 0) (T := 51) (cs := [.int .i64 0, .float .f64 0]) (us := [.int .i64 ((rd x1.Hooks s1269.1).Do), .float .f64 b1286]) (cs' := [.int .i64 ((rd x1.Hooks s1269.1).Do), .float .f64 b1286]) hf1292 (by kernel_rfl) (hm1295.bxAt 0 rfl) (by kernel_rfl) (by kernel_rfl) (by kernel_rfl) ?_)
      intro w1296 hx1297 hg1298
      have hm1299 := hm1295.setBox 0 _ rfl rfl hx1297 hg1298
      refine endL rfl ?_
      refine thenN ?_
      refine wp_seq ?_
      obtain ⟨r1300, hr1300, H1⟩ := obS_split H1
      refine inReg ?_
      refine go 3 [.int .i64 ((rd x1.Hooks s1269.1).Do)] [0, 7, 76, 77, 78, 82, 84] [(0, .pointer (some ⟨b0, 0, none⟩)), (7, .pointer (some ⟨b1289, 0, none⟩)), (76, .slice A1_6 x1.Hooks.length c1_6), (77, .int .i64 (x1.Hooks.length : Int)), (78, .int .i64 s1269.1), (82, .pointer (some ⟨b0, 0, none⟩)), (84, .int .i64 ((rd x1.Hooks s1269.1).Do))] [.cell ⟨b1289, 0, none⟩ (.int .i64 ((rd x1.Hooks s1269.1).Do))] hf1292 (by kernel_rfl) ⟨(hm1299.cell 0 rfl rfl), trivial⟩ fun a1301 hf1302 => ?_
      refine listOf hf1302 rfl (by kernel_rfl) (aLit (cs := [.int .i64 ((rd x1.Hooks s1269.1).Do)]) (E := 3) (len := 1) (d := 85) hf1302 (by kernel_rfl) (by kernel_rfl) ?_)
      intro b1303 w1304 a1305 hbb1303 hx1307 hg1308 hf1306
      have hm1299s := hm1299.still hg1308
      have hm1309 := Mem.lit (kd := (Kd.int .i64)) (xs := ([((rd x1.Hooks s1269.1).Do)] : List Int)) hm1299 hbb1303 hx1307 hg1308 (Els.one (kd := (Kd.int .i64)) (us := [.int .i64 ((rd x1.Hooks s1269.1).Do)]) (x := ((rd x1.Hooks s1269.1).Do)) rfl)
      refine listOf hf1306 rfl (by kernel_rfl) (aCall (fid := 38) (args := [.pointer (some ⟨b0, 0, none⟩), .string (bs ([104, 58] : List UInt8)), .slice (some ⟨b1303, 0, none⟩) 1 1]) (d := 86) hf1306 (by kernel_rfl) (by kernel_rfl) callable38 (script_writer_nums.calls _ _ _ (⟨s1269.2.2, s1269.2.1⟩ : Writer) b0 A1270 s1269.2.2.length c1271 rfl ([104, 58] : List UInt8) ([((rd x1.Hooks s1269.1).Do)] : List Int) (some ⟨b1303, 0, none⟩) 1 1 rfl (hm1309.giveO [2, 3] [0, 1, 4] [0] [.bx b0 [.slice A1270 s1269.2.2.length c1271, .bool s1269.2.1] 62, .ow Kd.str 9 A1270 c1271 s1269.2.2] _ [.sl (Kd.int .i64) (some ⟨b1303, 0, none⟩) 1 ([((rd x1.Hooks s1269.1).Do)] : List Int)] rfl rfl rfl (by kernel_rfl) rfl) r1300 hr1300 (hG.atO hm1309 [2, 3] _ rfl)) ?_)
      rintro _ w1312 a1313 ⟨A1310, c1311, rfl, hk1315⟩ hf1314
      have hm1316 := hm1309.backO [2, 3] [0, 1, 4] _ _ rfl rfl (by kernel_rfl) hk1315
      refine endL rfl ?_
      have hm1317 := hm1316.sel [0, 1, 3, 4] _ rfl (by kernel_rfl)
      refine thenN ?_
      obtain ⟨g1318, H1⟩ := ifS_guard H1
      obtain ⟨r1319, hr1319, H1⟩ := obS_split H1
      obtain ⟨g1320, H1⟩ := ifS_guard H1
      obtain ⟨g1321, H1⟩ := ifS_guard H1
      refine midReg (fun (a : Act) (w : World) => Fr 106 a [(0, .pointer (some ⟨b0, 0, none⟩)), (76, .slice A1_6 x1.Hooks.length c1_6), (77, .int .i64 (x1.Hooks.length : Int)), (78, .int .i64 s1269.1)] ∧ Mem B0 M w0 [.bx b0 [.slice A1310 r1300.1.length c1311, .bool r1300.2] 62, .ow Kd.str 9 A1310 c1311 (put r1300.1 (w64 ((r1300.1.length : Int) - 1)) ((rd r1300.1 (w64 ((r1300.1.length : Int) - 1))) ++ (([44] : List UInt8) ++ r1319))), .sl kHook A1_6 c1_6 x1.Hooks] w) ?_ ?_
      · refine anyG (K := []) [18] (by kernel_rfl) fun w1334 hg1335 => ?_
        have hm1336 := hm1317.still hg1335
        have q1352 := (hm1336.owAt 1 rfl).str (w64 ((r1300.1.length : Int) - 1)) g1318.1 g1318.2
        refine quiet0 [0, 1, 2, 3, 4, 5, 6, 7, 8, 9, 10, 11, 12, 13] [.slice A1310 r1300.1.length c1311, .slice A1310 r1300.1.length c1311, .string (bs (rd r1300.1 (w64 ((r1300.1.length : Int) - 1)))), .float .f64 b1286] [0, 76, 77, 78, 90, 96, 98, 100] #[true, true, true, true, true, true, true, true, true, true, true, true, true, true, false, false, false, false, false] [(0, .pointer (some ⟨b0, 0, none⟩)), (76, .slice A1_6 x1.Hooks.length c1_6), (77, .int .i64 (x1.Hooks.length : Int)), (78, .int .i64 s1269.1), (90, .slice A1310 r1300.1.length c1311), (96, .int .i64 (w64 ((r1300.1.length : Int) - 1))), (98, .string (bs (rd r1300.1 (w64 ((r1300.1.length : Int) - 1))))), (100, .float .f64 b1286)] [.cell ⟨b0, 0, none⟩ (.slice A1310 r1300.1.length c1311), .cell ⟨b0, 0, none⟩ (.slice A1310 r1300.1.length c1311), .is (Option.isSome A1310 = true), .is (0 ≤ (w64 ((r1300.1.length : Int) - 1)) ∧ (w64 ((r1300.1.length : Int) - 1)) < (r1300.1.length : Int)), .cell ((ad A1310).add (((w64 ((r1300.1.length : Int) - 1))).toNat * 1)) (.string (bs (rd r1300.1 (w64 ((r1300.1.length : Int) - 1))))), .cell ⟨b1289, 1, none⟩ (.float .f64 b1286)] 5 rfl (by kernel_rfl) (fun _ _ _ _ _ h => nomatch h.1) hf1314 (by kernel_rfl) ⟨(hm1336.cell 0 rfl rfl), (hm1336.cell 0 rfl rfl), q1352.1, g1318, q1352.2, (hm1336.cell 2 rfl rfl), trivial⟩ fun a1353 hf1354 => ?_
        refine all1 14 (by kernel_rfl) ?_
        refine opOf hf1354 rfl (by kernel_rfl) (aCall (fid := 15) (args := [.float .f64 b1286]) (d := 101) hf1354 (by kernel_rfl) (by kernel_rfl) callable15 (script_Number.calls _ _ ((rd x1.Hooks s1269.1).X) b1286 hb1286 (hm1336.give [] [] rfl rfl) r1319 hr1319) ?_)
        rintro _ w1355 a1356 ⟨rfl, hk1358⟩ hf1357
        refine ⟨.inr (Gr.still hk1358.cum.none), ?_⟩
        have hm1359 := hm1336.still hk1358.cum.none
        have q1360 := (hm1359.owAt 1 rfl).str (w64 ((r1300.1.length : Int) - 1)) g1318.1 g1318.2
        refine quiet0 [15, 16, 17] [.string (bs (([44] : List UInt8) ++ r1319)), .string (bs ((rd r1300.1 (w64 ((r1300.1.length : Int) - 1))) ++ (([44] : List UInt8) ++ r1319)))] [0, 76, 77, 78, 103, 104] #[true, true, true, true, true, true, true, true, true, true, true, true, true, true, true, true, true, true, false] [(0, .pointer (some ⟨b0, 0, none⟩)), (76, .slice A1_6 x1.Hooks.length c1_6), (77, .int .i64 (x1.Hooks.length : Int)), (78, .int .i64 s1269.1), (103, .string (bs ((rd r1300.1 (w64 ((r1300.1.length : Int) - 1))) ++ (([44] : List UInt8) ++ r1319)))), (104, .pointer (some ((ad A1310).add (((w64 ((r1300.1.length : Int) - 1))).toNat * 1))))] [.is (bs (([44] : List UInt8) ++ r1319) = bs ([44] : List UInt8) ++ bs r1319 ∧ (bs ([44] : List UInt8)).size + (bs r1319).size ≤ 9223372036854775807), .is (bs ((rd r1300.1 (w64 ((r1300.1.length : Int) - 1))) ++ (([44] : List UInt8) ++ r1319)) = bs (rd r1300.1 (w64 ((r1300.1.length : Int) - 1))) ++ bs (([44] : List UInt8) ++ r1319) ∧ (bs (rd r1300.1 (w64 ((r1300.1.length : Int) - 1)))).size + (bs (([44] : List UInt8) ++ r1319)).size ≤ 9223372036854775807), .is (Option.isSome A1310 = true), .is (0 ≤ (w64 ((r1300.1.length : Int) - 1)) ∧ (w64 ((r1300.1.length : Int) - 1)) < (r1300.1.length : Int))] 1 rfl (by kernel_rfl) (fun _ _ _ _ _ h => nomatch h.1) hf1357 (by kernel_rfl) ⟨(catOk g1320), (catOk g1321), q1360.1, g1318, trivial⟩ fun a1361 hf1362 => ?_
        refine all1 18 (by kernel_rfl) ?_
        refine opOf hf1362 rfl (by kernel_rfl) (aStoreO (kd := Kd.str) (base := 0) (E := 9) (A := A1310) (c := c1311) (xs := r1300.1) (i := (w64 ((r1300.1.length : Int) - 1))) (x := ((rd r1300.1 (w64 ((r1300.1.length : Int) - 1))) ++ (([44] : List UInt8) ++ r1319))) (us := [.string (bs ((rd r1300.1 (w64 ((r1300.1.length : Int) - 1))) ++ (([44] : List UInt8) ++ r1319)))]) (sz := 1) hf1362 (by kernel_rfl) rfl (by kernel_rfl) (hm1359.at 1 rfl) rfl g1318.1 g1318.2 ?_)
        intro w1363 hx1364 hg1365
        refine ⟨.inl (by decide), ?_⟩
        have hm1366 := hm1359.setOwn 1 _ rfl rfl hx1364 hg1365 (.inl rfl)
        refine allDone (by kernel_rfl) ⟨rfl, hf1362.sel (l := [0, 76, 77, 78]) (by kernel_rfl), hm1366.sel [0, 1, 3] _ rfl (by kernel_rfl)⟩
      rintro a1367 w1368 ⟨hf1369, hm1370⟩
      refine blkN ?_
      refine thenN ?_
      refine reg [] [0, 76, 77, 78] [(0, .pointer (some ⟨b0, 0, none⟩)), (76, .slice A1_6 x1.Hooks.length c1_6), (77, .int .i64 (x1.Hooks.length : Int)), (78, .int .i64 (w64 (s1269.1 + 1)))] [] hf1369 (by kernel_rfl) trivial fun a1371 hf1372 => ?_
      have hf1373 : Fr 106 a1371 [(0, .pointer (some ⟨b0, 0, none⟩)), (76, .slice A1_6 x1.Hooks.length c1_6), (77, .int .i64 (x1.Hooks.length : Int)), (78, .int .i64 (w64 (s1269.1 + 1)))] := hf1372.sel (l := [0, 76, 77, 78]) (by kernel_rfl)
      have hm1374 : Mem B0 M w0 [.bx b0 [.slice A1310 r1300.1.length c1311, .bool r1300.2] 62, .ow Kd.str 9 A1310 c1311 (put r1300.1 (w64 ((r1300.1.length : Int) - 1)) ((rd r1300.1 (w64 ((r1300.1.length : Int) - 1))) ++ (([44] : List UInt8) ++ r1319))), .sl kHook A1_6 c1_6 x1.Hooks] w1368 := hm1370.sel [0, 1, 2] _ rfl (by kernel_rfl)
      exact ⟨((w64 (s1269.1 + 1)), r1300.2, (put r1300.1 (w64 ((r1300.1.length : Int) - 1)) ((rd r1300.1 (w64 ((r1300.1.length : Int) - 1))) ++ (([44] : List UInt8) ++ r1319)))), H1, A1310, c1311, (by simpa only [put_length, List.length_nil] using hf1373), (by simpa only [put_length, List.length_nil] using hm1374)⟩
    rintro a1377 w1378 ⟨A1270, c1271, hf1379, hm1380⟩
    have hm1381 : Mem B0 M w0 [.bx b0 [.slice A1270 r1272.2.2.length c1271, .bool r1272.2.1] 62, .ow Kd.str 9 A1270 c1271 r1272.2.2] w1378 := hm1380.sel [0, 1] _ rfl (by kernel_rfl)
    obtain rfl := Option.some.inj H0
    refine fin [] [] [] hf1379 (by kernel_rfl) trivial ?_
    exact ⟨_, rfl, A1270, c1271, rfl, hm1381⟩
  refine inReg ?_
  refine go 8 [.bool false, .int .i64 x1.Op] [0, 3, 8, 13, 15] [(0, .pointer (some ⟨b0, 0, none⟩)), (3, .pointer (some ⟨b21, 0, none⟩)), (8, .pointer (some ⟨b0, 0, none⟩)), (13, .bool false), (15, .int .i64 x1.Op)] [.cell ⟨b0, 1, none⟩ (.bool false), .cell ⟨b21, 0, none⟩ (.int .i64 x1.Op)] hf24 (by kernel_rfl) ⟨(hm27.cell 1 rfl rfl), (hm27.cell 0 rfl rfl), trivial⟩ fun a1383 hf1384 => ?_
  refine listOf hf1384 rfl (by kernel_rfl) (aCall (fid := 36) (args := [.int .i64 x1.Op]) (d := 16) hf1384 (by kernel_rfl) (by kernel_rfl) callable36 (op_May.calls _ _ x1.Op (hm27.give [] [] rfl rfl) r702 hr702) ?_)
  rintro _ w1385 a1386 ⟨rfl, hk1388⟩ hf1387
  have hm1389 := hm27.still hk1388.cum.none
  rw [c703] at hf1387
  refine go 4 [] [0, 3, 18, 20] [(0, .pointer (some ⟨b0, 0, none⟩)), (3, .pointer (some ⟨b21, 0, none⟩)), (18, .bool true), (20, .pointer (some ⟨b0, 1, none⟩))] [] hf1387 (by kernel_rfl) trivial fun a1390 hf1391 => ?_
  refine listOf hf1391 rfl (by kernel_rfl) (aStoreB (b := b0) (j := 1) (T := 62) (cs := [.slice A0_0 x0.b.length c0_0, .bool false]) (us := [.bool true]) (cs' := [.slice A0_0 x0.b.length c0_0, .bool true]) hf1391 (by kernel_rfl) (hm1389.bxAt 1 rfl) (by kernel_rfl) (by kernel_rfl) (by kernel_rfl) ?_)
  intro w1392 hx1393 hg1394
  have hm1395 := hm1389.setBox 1 _ rfl rfl hx1393 hg1394
  refine endL rfl ?_
  refine thenN ?_
  refine wp_seq ?_
  obtain ⟨r1396, hr1396, H0⟩ := ob_split H0
  obtain ⟨g1397, H0⟩ := if_guard H0
  refine midReg (fun (a : Act) (w : World) => ∃ (A1410 : Option Addr) (c1411 : Nat), Fr 106 a [(0, .pointer (some ⟨b0, 0, none⟩)), (3, .pointer (some ⟨b21, 0, none⟩))] ∧ Mem B0 M w0 [.bx b21 [.int .i64 x1.Op, .slice A1_1 x1.In.length c1_1, .slice A1_2 x1.To.length c1_2, .int .i64 x1.No, .slice A1_4_0 x1.Val.Shape.length c1_4_0, .slice A1_4_1 x1.Val.Data.length c1_4_1, .slice A1_6 x1.Hooks.length c1_6] 49, .bx b0 [.slice A1410 ((x0.b ++ ([r1396] : List (List UInt8))).length) c1411, .bool true] 62, .ow Kd.str 9 A1410 c1411 (x0.b ++ ([r1396] : List (List UInt8))), .sl (Kd.int .i64) A1_1 c1_1 x1.In, .sl (Kd.int .i64) A1_2 c1_2 x1.To, .sl (Kd.int .i64) A1_4_0 c1_4_0 x1.Val.Shape, .sl Kd.float A1_4_1 c1_4_1 x1.Val.Data, .sl kHook A1_6 c1_6 x1.Hooks] w) ?_ ?_
  · refine anyG (K := [bk A0_0]) [12] (by kernel_rfl) fun w1426 hg1427 => ?_
    have hm1428 := hm1395.still hg1427
    refine quiet0 [0, 1, 2, 3, 4, 5, 6] [.slice A0_0 x0.b.length c0_0, .int .i64 x1.Op] [0, 3, 21, 25, 27] #[true, true, true, true, true, true, true, false, false, false, false, false, false] [(0, .pointer (some ⟨b0, 0, none⟩)), (3, .pointer (some ⟨b21, 0, none⟩)), (21, .pointer (some ⟨b0, 0, none⟩)), (25, .slice A0_0 x0.b.length c0_0), (27, .int .i64 x1.Op)] [.cell ⟨b0, 0, none⟩ (.slice A0_0 x0.b.length c0_0), .is (some (⟨b0, 0, none⟩ : Addr).block ∉ [bk A0_0]), .cell ⟨b21, 0, none⟩ (.int .i64 x1.Op), .is (some (⟨b21, 0, none⟩ : Addr).block ∉ [bk A0_0])] 6 rfl (by kernel_rfl) (fun _ _ _ _ _ h => nomatch h.1) hf1391 (by kernel_rfl) ⟨(hm1428.cell 1 rfl rfl), (hm1428.bxK 1 [2] _ rfl rfl rfl), (hm1428.cell 0 rfl rfl), (hm1428.bxK 0 [2] _ rfl rfl rfl), trivial⟩ fun a1460 hf1461 => ?_
    refine all1 7 (by kernel_rfl) ?_
    refine opOf hf1461 rfl (by kernel_rfl) (aCall (fid := 37) (args := [.int .i64 x1.Op]) (d := 28) hf1461 (by kernel_rfl) (by kernel_rfl) callable37 (op_Name.calls _ _ x1.Op (hm1428.give [] [] rfl rfl) r1396 hr1396 (hG.at hm1428)) ?_)
    rintro _ w1462 a1463 ⟨rfl, hk1465⟩ hf1464
    refine ⟨.inr (Gr.still hk1465.cum.none), ?_⟩
    have hm1466 := hm1428.still hk1465.cum.none
    refine all1 8 (by kernel_rfl) ?_
    refine opOf hf1464 rfl (by kernel_rfl) (aLit (cs := [.string (bs r1396)]) (E := 9) (len := 1) (d := 29) hf1464 (by kernel_rfl) (by kernel_rfl) ?_)
    intro b1467 w1468 a1469 hbb1467 hx1471 hg1472 hf1470
    refine ⟨.inr (Gr.still hg1472), ?_⟩
    have hm1466s := hm1466.still hg1472
    have hm1473 := Mem.lit (kd := Kd.str) (xs := ([r1396] : List (List UInt8))) hm1466 hbb1467 hx1471 hg1472 (Els.one (kd := Kd.str) (us := [.string (bs r1396)]) (x := r1396) rfl)
    refine all1 9 (by kernel_rfl) ?_
    have e1482 : x0.b.length = x0.b.length := rfl
    have e1483 : 1 = ([r1396] : List (List UInt8)).length := rfl
    refine opOf hf1470 rfl (by kernel_rfl) (aApp (kd := Kd.str) (base := 0) (E := 9) (A := A0_0) (B := (some ⟨b1467, 0, none⟩)) (c := c0_0) (c2 := 1) (xs := x0.b) (ys := ([r1396] : List (List UInt8))) (k := x0.b.length) (m := 1) (sz := 1) (d := 30) hf1470 (by kernel_rfl) e1482 e1483 (by kernel_rfl) rfl (by kernel_rfl) (hm1473.at 3 rfl) (hm1473.at2 3 0 rfl rfl).2 (hm1473.cpAt 0 rfl) (Nat.zero_le _) (by have := g1397; omega) ?_)
    intro A1474 c1475 w1476 a1477 ho1479 hg1480 hr1481 hf1478
    refine ⟨.inr (Gr.own hg1480 (by simp)), ?_⟩
    have hm1484 := hm1473.setOwn 3 _ rfl rfl ho1479 hg1480 hr1481
    refine quiet0 [10, 11] [] [0, 3, 30, 32] #[true, true, true, true, true, true, true, true, true, true, true, true, false] [(0, .pointer (some ⟨b0, 0, none⟩)), (3, .pointer (some ⟨b21, 0, none⟩)), (30, .slice A1474 ((x0.b ++ ([r1396] : List (List UInt8))).length) c1475), (32, .pointer (some ⟨b0, 0, none⟩))] [] 1 rfl (by kernel_rfl) (fun _ _ _ _ _ h => nomatch h.1) hf1478 (by kernel_rfl) trivial fun a1485 hf1486 => ?_
    refine all1 12 (by kernel_rfl) ?_
    refine opOf hf1486 rfl (by kernel_rfl) (aStoreB (b := b0) (j := 0) (T := 62) (cs := [.slice A0_0 x0.b.length c0_0, .bool true]) (us := [.slice A1474 ((x0.b ++ ([r1396] : List (List UInt8))).length) c1475]) (cs' := [.slice A1474 ((x0.b ++ ([r1396] : List (List UInt8))).length) c1475, .bool true]) hf1486 (by kernel_rfl) (hm1484.bxAt 2 rfl) (by kernel_rfl) (by kernel_rfl) (by kernel_rfl) ?_)
    intro w1487 hx1488 hg1489
    refine ⟨.inl (by decide), ?_⟩
    have hm1490 := hm1484.setBox 2 _ rfl rfl hx1488 hg1489
    refine allDone (by kernel_rfl) ⟨rfl, A1474, c1475, hf1486.sel (l := [0, 3]) (by kernel_rfl), hm1490.sel [1, 2, 3, 4, 5, 6, 7, 8] _ rfl (by kernel_rfl)⟩
  rintro a1491 w1492 ⟨A1410, c1411, hf1493, hm1494⟩
  refine thenN ?_
  refine wp_seq ?_
  obtain ⟨r1495, hr1495, H0⟩ := ob_split H0
  refine inReg ?_
  refine go 3 [.slice A1_1 x1.In.length c1_1] [0, 3, 33, 35] [(0, .pointer (some ⟨b0, 0, none⟩)), (3, .pointer (some ⟨b21, 0, none⟩)), (33, .pointer (some ⟨b0, 0, none⟩)), (35, .slice A1_1 x1.In.length c1_1)] [.cell ⟨b21, 1, none⟩ (.slice A1_1 x1.In.length c1_1)] hf1493 (by kernel_rfl) ⟨(hm1494.cell 0 rfl rfl), trivial⟩ fun a1496 hf1497 => ?_
  refine listOf hf1497 rfl (by kernel_rfl) (aCall (fid := 38) (args := [.pointer (some ⟨b0, 0, none⟩), .string (bs ([105, 58] : List UInt8)), .slice A1_1 x1.In.length c1_1]) (d := 36) hf1497 (by kernel_rfl) (by kernel_rfl) callable38 (script_writer_nums.calls _ _ _ (⟨(x0.b ++ ([r1396] : List (List UInt8))), true⟩ : Writer) b0 A1410 ((x0.b ++ ([r1396] : List (List UInt8))).length) c1411 rfl ([105, 58] : List UInt8) x1.In A1_1 x1.In.length c1_1 rfl (hm1494.giveO [1, 2] [0, 3, 4, 5, 6, 7] [3] [.bx b0 [.slice A1410 ((x0.b ++ ([r1396] : List (List UInt8))).length) c1411, .bool true] 62, .ow Kd.str 9 A1410 c1411 (x0.b ++ ([r1396] : List (List UInt8)))] _ [.sl (Kd.int .i64) A1_1 c1_1 x1.In] rfl rfl rfl (by kernel_rfl) rfl) r1495 hr1495 (hG.atO hm1494 [1, 2] _ rfl)) ?_)
  rintro _ w1500 a1501 ⟨A1498, c1499, rfl, hk1503⟩ hf1502
  have hm1504 := hm1494.backO [1, 2] [0, 3, 4, 5, 6, 7] _ _ rfl rfl (by kernel_rfl) hk1503
  refine endL rfl ?_
  refine thenN ?_
  refine wp_seq ?_
  obtain ⟨r1505, hr1505, H0⟩ := ob_split H0
  refine inReg ?_
  refine go 3 [.slice A1_2 x1.To.length c1_2] [0, 3, 37, 39] [(0, .pointer (some ⟨b0, 0, none⟩)), (3, .pointer (some ⟨b21, 0, none⟩)), (37, .pointer (some ⟨b0, 0, none⟩)), (39, .slice A1_2 x1.To.length c1_2)] [.cell ⟨b21, 2, none⟩ (.slice A1_2 x1.To.length c1_2)] hf1502 (by kernel_rfl) ⟨(hm1504.cell 2 rfl rfl), trivial⟩ fun a1506 hf1507 => ?_
  refine listOf hf1507 rfl (by kernel_rfl) (aCall (fid := 38) (args := [.pointer (some ⟨b0, 0, none⟩), .string (bs ([116, 58] : List UInt8)), .slice A1_2 x1.To.length c1_2]) (d := 40) hf1507 (by kernel_rfl) (by kernel_rfl) callable38 (script_writer_nums.calls _ _ _ (⟨r1495.1, r1495.2⟩ : Writer) b0 A1498 r1495.1.length c1499 rfl ([116, 58] : List UInt8) x1.To A1_2 x1.To.length c1_2 rfl (hm1504.giveO [0, 1] [2, 3, 4, 5, 6, 7] [4] [.bx b0 [.slice A1498 r1495.1.length c1499, .bool r1495.2] 62, .ow Kd.str 9 A1498 c1499 r1495.1] _ [.sl (Kd.int .i64) A1_2 c1_2 x1.To] rfl rfl rfl (by kernel_rfl) rfl) r1505 hr1505 (hG.atO hm1504 [0, 1] _ rfl)) ?_)
  rintro _ w1510 a1511 ⟨A1508, c1509, rfl, hk1513⟩ hf1512
  have hm1514 := hm1504.backO [0, 1] [2, 3, 4, 5, 6, 7] _ _ rfl rfl (by kernel_rfl) hk1513
  refine endL rfl ?_
  refine thenN ?_
  refine wp_seq ?_
  refine wp_seq ?_
  rcases if_split H0 with ⟨c1515, H0⟩ | ⟨c1515, H0⟩
  · refine reg [.int .i64 x1.No, .bool false] [0, 3, 43] [(0, .pointer (some ⟨b0, 0, none⟩)), (3, .pointer (some ⟨b21, 0, none⟩)), (43, .bool false)] [.cell ⟨b21, 3, none⟩ (.int .i64 x1.No), .is (((x1.No : Int) != 0) = false)] hf1512 (by kernel_rfl) ⟨(hm1514.cell 2 rfl rfl), (neF c1515), trivial⟩ fun a1516 hf1517 => ?_
    refine thenN ?_
    refine condF hf1517 (by kernel_rfl) ?_
    refine wp_skip ?_
    refine thenN ?_
    refine wp_seq ?_
    obtain ⟨r1518, hr1518, H0⟩ := ob_split H0
    refine inReg ?_
    refine go 4 [.slice A1_4_0 x1.Val.Shape.length c1_4_0] [0, 3, 49, 52] [(0, .pointer (some ⟨b0, 0, none⟩)), (3, .pointer (some ⟨b21, 0, none⟩)), (49, .pointer (some ⟨b0, 0, none⟩)), (52, .slice A1_4_0 x1.Val.Shape.length c1_4_0)] [.cell ⟨b21, 4, none⟩ (.slice A1_4_0 x1.Val.Shape.length c1_4_0)] hf1517 (by kernel_rfl) ⟨(hm1514.cell 2 rfl rfl), trivial⟩ fun a1519 hf1520 => ?_
    refine listOf hf1520 rfl (by kernel_rfl) (aCall (fid := 38) (args := [.pointer (some ⟨b0, 0, none⟩), .string (bs ([115, 58] : List UInt8)), .slice A1_4_0 x1.Val.Shape.length c1_4_0]) (d := 53) hf1520 (by kernel_rfl) (by kernel_rfl) callable38 (script_writer_nums.calls _ _ _ (⟨r1505.1, r1505.2⟩ : Writer) b0 A1508 r1505.1.length c1509 rfl ([115, 58] : List UInt8) x1.Val.Shape A1_4_0 x1.Val.Shape.length c1_4_0 rfl (hm1514.giveO [0, 1] [2, 3, 4, 5, 6, 7] [5] [.bx b0 [.slice A1508 r1505.1.length c1509, .bool r1505.2] 62, .ow Kd.str 9 A1508 c1509 r1505.1] _ [.sl (Kd.int .i64) A1_4_0 c1_4_0 x1.Val.Shape] rfl rfl rfl (by kernel_rfl) rfl) r1518 hr1518 (hG.atO hm1514 [0, 1] _ rfl)) ?_)
    rintro _ w1523 a1524 ⟨A1521, c1522, rfl, hk1526⟩ hf1525
    have hm1527 := hm1514.backO [0, 1] [2, 3, 4, 5, 6, 7] _ _ rfl rfl (by kernel_rfl) hk1526
    refine endL rfl ?_
    refine thenN ?_
    refine wp_seq ?_
    refine wp_seq ?_
    refine reg [.slice A1_4_1 x1.Val.Data.length c1_4_1] [0, 3, 56, 57, 58] [(0, .pointer (some ⟨b0, 0, none⟩)), (3, .pointer (some ⟨b21, 0, none⟩)), (56, .slice A1_4_1 x1.Val.Data.length c1_4_1), (57, .int .i64 (x1.Val.Data.length : Int)), (58, .int .i64 0)] [.cell ⟨b21, 5, none⟩ (.slice A1_4_1 x1.Val.Data.length c1_4_1)] hf1525 (by kernel_rfl) ⟨(hm1527.cell 2 rfl rfl), trivial⟩ fun a1528 hf1529 => ?_
    refine thenN ?_
    obtain ⟨r1535, hr1535, H0⟩ := ob_split H0
    refine wpBlock (Mid := fun (a : Act) (w : World) => ∃ (A1533 : Option Addr) (c1534 : Nat), Fr 106 a [(0, .pointer (some ⟨b0, 0, none⟩)), (3, .pointer (some ⟨b21, 0, none⟩)), (56, .slice A1_4_1 x1.Val.Data.length c1_4_1), (57, .int .i64 (x1.Val.Data.length : Int)), (58, .int .i64 r1535.1)] ∧ Mem B0 M w0 [.bx b0 [.slice A1533 r1535.2.length c1534, .bool r1518.2] 62, .ow Kd.str 9 A1533 c1534 r1535.2, .bx b21 [.int .i64 x1.Op, .slice A1_1 x1.In.length c1_1, .slice A1_2 x1.To.length c1_2, .int .i64 x1.No, .slice A1_4_0 x1.Val.Shape.length c1_4_0, .slice A1_4_1 x1.Val.Data.length c1_4_1, .slice A1_6 x1.Hooks.length c1_6] 49, .sl (Kd.int .i64) A1_1 c1_1 x1.In, .sl (Kd.int .i64) A1_2 c1_2 x1.To, .sl (Kd.int .i64) A1_4_0 c1_4_0 x1.Val.Shape, .sl Kd.float A1_4_1 c1_4_1 x1.Val.Data, .sl kHook A1_6 c1_6 x1.Hooks] w) ?_ ?_
    · refine wpLoop (script_writer_node.l0 x1) r1535 (fun (s1532 : (Int × (List (List UInt8)))) (a : Act) (w : World) => ∃ (A1533 : Option Addr) (c1534 : Nat), Fr 106 a [(0, .pointer (some ⟨b0, 0, none⟩)), (3, .pointer (some ⟨b21, 0, none⟩)), (56, .slice A1_4_1 x1.Val.Data.length c1_4_1), (57, .int .i64 (x1.Val.Data.length : Int)), (58, .int .i64 s1532.1)] ∧ Mem B0 M w0 [.bx b0 [.slice A1533 s1532.2.length c1534, .bool r1518.2] 62, .ow Kd.str 9 A1533 c1534 s1532.2, .bx b21 [.int .i64 x1.Op, .slice A1_1 x1.In.length c1_1, .slice A1_2 x1.To.length c1_2, .int .i64 x1.No, .slice A1_4_0 x1.Val.Shape.length c1_4_0, .slice A1_4_1 x1.Val.Data.length c1_4_1, .slice A1_6 x1.Hooks.length c1_6] 49, .sl (Kd.int .i64) A1_1 c1_1 x1.In, .sl (Kd.int .i64) A1_2 c1_2 x1.To, .sl (Kd.int .i64) A1_4_0 c1_4_0 x1.Val.Shape, .sl Kd.float A1_4_1 c1_4_1 x1.Val.Data, .sl kHook A1_6 c1_6 x1.Hooks] w) (0, r1518.1) hr1535 ⟨A1521, c1522, hf1529.sel (l := [0, 3, 56, 57, 58]) (by kernel_rfl), hm1527.sel [0, 1, 2, 3, 4, 5, 6, 7] _ rfl (by kernel_rfl)⟩ ?_
      rintro g1536 s1532 a1537 w1538 H1 ⟨A1533, c1534, hf1539, hm1540⟩
      unfold script_writer_node.l0 at H1
      refine wp_seq ?_
      rcases ifS_split H1 with ⟨c1541, H1⟩ | ⟨c1541, H1⟩
      rotate_left
      · refine reg [.bool false] [0, 3, 56, 57, 58, 59] [(0, .pointer (some ⟨b0, 0, none⟩)), (3, .pointer (some ⟨b21, 0, none⟩)), (56, .slice A1_4_1 x1.Val.Data.length c1_4_1), (57, .int .i64 (x1.Val.Data.length : Int)), (58, .int .i64 s1532.1), (59, .bool false)] [.is (decide (s1532.1 < (x1.Val.Data.length : Int)) = false)] hf1539 (by kernel_rfl) ⟨(decide_eq_false c1541), trivial⟩ fun a1655 hf1656 => ?_
        refine thenN ?_
        refine wp_seq ?_
        refine condF hf1656 (by kernel_rfl) ?_
        refine wp_exit ?_
        refine thenE ?_
        refine thenE ?_
        obtain rfl := Option.some.inj H1
        exact .inl ⟨rfl, A1533, c1534, hf1656.sel (l := [0, 3, 56, 57, 58]) (by kernel_rfl), hm1540.sel [0, 1, 2, 3, 4, 5, 6, 7] _ rfl (by kernel_rfl)⟩
      refine reg [.bool true] [0, 3, 56, 57, 58, 59] [(0, .pointer (some ⟨b0, 0, none⟩)), (3, .pointer (some ⟨b21, 0, none⟩)), (56, .slice A1_4_1 x1.Val.Data.length c1_4_1), (57, .int .i64 (x1.Val.Data.length : Int)), (58, .int .i64 s1532.1), (59, .bool true)] [.is (decide (s1532.1 < (x1.Val.Data.length : Int)) = true)] hf1539 (by kernel_rfl) ⟨(decide_eq_true c1541), trivial⟩ fun a1542 hf1543 => ?_
      refine thenN ?_
      refine wp_seq ?_
      refine condT hf1543 (by kernel_rfl) ?_
      refine wp_skip ?_
      refine thenN ?_
      refine wp_seq ?_
      refine wp_block ?_
      refine wp_seq ?_
      obtain ⟨g1544, H1⟩ := ifS_guard H1
      have q1545 := (hm1540.slAt 6 rfl).float s1532.1 g1544.1 g1544.2
      obtain ⟨b1546, hb1546, kb1546⟩ := q1545.2
      refine reg [.float .f64 b1546] [0, 3, 5, 56, 57, 58] [(0, .pointer (some ⟨b0, 0, none⟩)), (3, .pointer (some ⟨b21, 0, none⟩)), (5, .float .f64 b1546), (56, .slice A1_4_1 x1.Val.Data.length c1_4_1), (57, .int .i64 (x1.Val.Data.length : Int)), (58, .int .i64 s1532.1)] [.is (Option.isSome A1_4_1 = true), .is (0 ≤ s1532.1 ∧ s1532.1 < (x1.Val.Data.length : Int)), .cell ((ad A1_4_1).add ((s1532.1).toNat * 1)) (.float .f64 b1546)] hf1543 (by kernel_rfl) ⟨q1545.1, g1544, kb1546, trivial⟩ fun a1547 hf1548 => ?_
      refine thenN ?_
      obtain ⟨r1549, hr1549, H1⟩ := obS_split H1
      obtain ⟨g1550, H1⟩ := ifS_guard H1
      obtain ⟨g1551, H1⟩ := ifS_guard H1
      refine midReg (fun (a : Act) (w : World) => ∃ (A1564 : Option Addr) (c1565 : Nat), Fr 106 a [(0, .pointer (some ⟨b0, 0, none⟩)), (3, .pointer (some ⟨b21, 0, none⟩)), (56, .slice A1_4_1 x1.Val.Data.length c1_4_1), (57, .int .i64 (x1.Val.Data.length : Int)), (58, .int .i64 s1532.1)] ∧ Mem B0 M w0 [.bx b0 [.slice A1564 ((s1532.2 ++ ([(([118, 58] : List UInt8) ++ r1549)] : List (List UInt8))).length) c1565, .bool r1518.2] 62, .ow Kd.str 9 A1564 c1565 (s1532.2 ++ ([(([118, 58] : List UInt8) ++ r1549)] : List (List UInt8))), .bx b21 [.int .i64 x1.Op, .slice A1_1 x1.In.length c1_1, .slice A1_2 x1.To.length c1_2, .int .i64 x1.No, .slice A1_4_0 x1.Val.Shape.length c1_4_0, .slice A1_4_1 x1.Val.Data.length c1_4_1, .slice A1_6 x1.Hooks.length c1_6] 49, .sl (Kd.int .i64) A1_1 c1_1 x1.In, .sl (Kd.int .i64) A1_2 c1_2 x1.To, .sl (Kd.int .i64) A1_4_0 c1_4_0 x1.Val.Shape, .sl Kd.float A1_4_1 c1_4_1 x1.Val.Data, .sl kHook A1_6 c1_6 x1.Hooks] w) ?_ ?_
      · refine anyG (K := [bk A1533]) [12] (by kernel_rfl) fun w1580 hg1581 => ?_
        have hm1582 := hm1540.still hg1581
        refine quiet0 [0, 1, 2, 3, 4, 5] [.slice A1533 s1532.2.length c1534] [0, 3, 56, 57, 58, 62, 66, 67] #[true, true, true, true, true, true, false, false, false, false, false, false, false] [(0, .pointer (some ⟨b0, 0, none⟩)), (3, .pointer (some ⟨b21, 0, none⟩)), (56, .slice A1_4_1 x1.Val.Data.length c1_4_1), (57, .int .i64 (x1.Val.Data.length : Int)), (58, .int .i64 s1532.1), (62, .pointer (some ⟨b0, 0, none⟩)), (66, .slice A1533 s1532.2.length c1534), (67, .float .f64 b1546)] [.cell ⟨b0, 0, none⟩ (.slice A1533 s1532.2.length c1534), .is (some (⟨b0, 0, none⟩ : Addr).block ∉ [bk A1533])] 7 rfl (by kernel_rfl) (fun _ _ _ _ _ h => nomatch h.1) hf1548 (by kernel_rfl) ⟨(hm1582.cell 0 rfl rfl), (hm1582.bxK 0 [1] _ rfl rfl rfl), trivial⟩ fun a1616 hf1617 => ?_
        refine all1 6 (by kernel_rfl) ?_
        refine opOf hf1617 rfl (by kernel_rfl) (aCall (fid := 15) (args := [.float .f64 b1546]) (d := 68) hf1617 (by kernel_rfl) (by kernel_rfl) callable15 (script_Number.calls _ _ (rd x1.Val.Data s1532.1) b1546 hb1546 (hm1582.give [] [] rfl rfl) r1549 hr1549) ?_)
        rintro _ w1618 a1619 ⟨rfl, hk1621⟩ hf1620
        refine ⟨.inr (Gr.still hk1621.cum.none), ?_⟩
        have hm1622 := hm1582.still hk1621.cum.none
        refine quiet0 [7] [.string (bs (([118, 58] : List UInt8) ++ r1549))] [0, 3, 56, 57, 58, 62, 66, 69] #[true, true, true, true, true, true, true, true, false, false, false, false, false] [(0, .pointer (some ⟨b0, 0, none⟩)), (3, .pointer (some ⟨b21, 0, none⟩)), (56, .slice A1_4_1 x1.Val.Data.length c1_4_1), (57, .int .i64 (x1.Val.Data.length : Int)), (58, .int .i64 s1532.1), (62, .pointer (some ⟨b0, 0, none⟩)), (66, .slice A1533 s1532.2.length c1534), (69, .string (bs (([118, 58] : List UInt8) ++ r1549)))] [.is (bs (([118, 58] : List UInt8) ++ r1549) = bs ([118, 58] : List UInt8) ++ bs r1549 ∧ (bs ([118, 58] : List UInt8)).size + (bs r1549).size ≤ 9223372036854775807)] 5 rfl (by kernel_rfl) (fun _ _ _ _ _ h => nomatch h.1) hf1620 (by kernel_rfl) ⟨(catOk g1550), trivial⟩ fun a1623 hf1624 => ?_
        refine all1 8 (by kernel_rfl) ?_
        refine opOf hf1624 rfl (by kernel_rfl) (aLit (cs := [.string (bs (([118, 58] : List UInt8) ++ r1549))]) (E := 9) (len := 1) (d := 70) hf1624 (by kernel_rfl) (by kernel_rfl) ?_)
        intro b1625 w1626 a1627 hbb1625 hx1629 hg1630 hf1628
        refine ⟨.inr (Gr.still hg1630), ?_⟩
        have hm1622s := hm1622.still hg1630
        have hm1631 := Mem.lit (kd := Kd.str) (xs := ([(([118, 58] : List UInt8) ++ r1549)] : List (List UInt8))) hm1622 hbb1625 hx1629 hg1630 (Els.one (kd := Kd.str) (us := [.string (bs (([118, 58] : List UInt8) ++ r1549))]) (x := (([118, 58] : List UInt8) ++ r1549)) rfl)
        refine all1 9 (by kernel_rfl) ?_
        have e1640 : s1532.2.length = s1532.2.length := rfl
        have e1641 : 1 = ([(([118, 58] : List UInt8) ++ r1549)] : List (List UInt8)).length := rfl
        refine opOf hf1628 rfl (by kernel_rfl) (aApp (kd := Kd.str) (base := 0) (E := 9) (A := A1533) (B := (some ⟨b1625, 0, none⟩)) (c := c1534) (c2 := 1) (xs := s1532.2) (ys := ([(([118, 58] : List UInt8) ++ r1549)] : List (List UInt8))) (k := s1532.2.length) (m := 1) (sz := 1) (d := 71) hf1628 (by kernel_rfl) e1640 e1641 (by kernel_rfl) rfl (by kernel_rfl) (hm1631.at 2 rfl) (hm1631.at2 2 0 rfl rfl).2 (hm1631.cpAt 0 rfl) (Nat.zero_le _) (by have := g1551; omega) ?_)
        intro A1632 c1633 w1634 a1635 ho1637 hg1638 hr1639 hf1636
        refine ⟨.inr (Gr.own hg1638 (by simp)), ?_⟩
        have hm1642 := hm1631.setOwn 2 _ rfl rfl ho1637 hg1638 hr1639
        refine quiet0 [10, 11] [] [0, 3, 56, 57, 58, 71, 73] #[true, true, true, true, true, true, true, true, true, true, true, true, false] [(0, .pointer (some ⟨b0, 0, none⟩)), (3, .pointer (some ⟨b21, 0, none⟩)), (56, .slice A1_4_1 x1.Val.Data.length c1_4_1), (57, .int .i64 (x1.Val.Data.length : Int)), (58, .int .i64 s1532.1), (71, .slice A1632 ((s1532.2 ++ ([(([118, 58] : List UInt8) ++ r1549)] : List (List UInt8))).length) c1633), (73, .pointer (some ⟨b0, 0, none⟩))] [] 1 rfl (by kernel_rfl) (fun _ _ _ _ _ h => nomatch h.1) hf1636 (by kernel_rfl) trivial fun a1643 hf1644 => ?_
        refine all1 12 (by kernel_rfl) ?_
        refine opOf hf1644 rfl (by kernel_rfl) (aStoreB (b := b0) (j := 0) (T := 62) (cs := [.slice A1533 s1532.2.length c1534, .bool r1518.2]) (us := [.slice A1632 ((s1532.2 ++ ([(([118, 58] : List UInt8) ++ r1549)] : List (List UInt8))).length) c1633]) (cs' := [.slice A1632 ((s1532.2 ++ ([(([118, 58] : List UInt8) ++ r1549)] : List (List UInt8))).length) c1633, .bool r1518.2]) hf1644 (by kernel_rfl) (hm1642.bxAt 1 rfl) (by kernel_rfl) (by kernel_rfl) (by kernel_rfl) ?_)
        intro w1645 hx1646 hg1647
        refine ⟨.inl (by decide), ?_⟩
        have hm1648 := hm1642.setBox 1 _ rfl rfl hx1646 hg1647
        refine allDone (by kernel_rfl) ⟨rfl, A1632, c1633, hf1644.sel (l := [0, 3, 56, 57, 58]) (by kernel_rfl), hm1648.sel [1, 2, 3, 4, 5, 6, 7, 8] _ rfl (by kernel_rfl)⟩
      rintro a1649 w1650 ⟨A1564, c1565, hf1651, hm1652⟩
      refine blkN ?_
      refine thenN ?_
      refine reg [] [0, 3, 56, 57, 58] [(0, .pointer (some ⟨b0, 0, none⟩)), (3, .pointer (some ⟨b21, 0, none⟩)), (56, .slice A1_4_1 x1.Val.Data.length c1_4_1), (57, .int .i64 (x1.Val.Data.length : Int)), (58, .int .i64 (w64 (s1532.1 + 1)))] [] hf1651 (by kernel_rfl) trivial fun a1653 hf1654 => ?_
      exact ⟨((w64 (s1532.1 + 1)), (s1532.2 ++ ([(([118, 58] : List UInt8) ++ r1549)] : List (List UInt8)))), H1, A1564, c1565, hf1654.sel (l := [0, 3, 56, 57, 58]) (by kernel_rfl), hm1652.sel [0, 1, 2, 3, 4, 5, 6, 7] _ rfl (by kernel_rfl)⟩
    rintro a1657 w1658 ⟨A1533, c1534, hf1659, hm1660⟩
    refine thenN ?_
    refine wp_seq ?_
    refine reg [.slice A1_6 x1.Hooks.length c1_6] [0, 76, 77, 78] [(0, .pointer (some ⟨b0, 0, none⟩)), (76, .slice A1_6 x1.Hooks.length c1_6), (77, .int .i64 (x1.Hooks.length : Int)), (78, .int .i64 0)] [.cell ⟨b21, 6, none⟩ (.slice A1_6 x1.Hooks.length c1_6)] hf1659 (by kernel_rfl) ⟨(hm1660.cell 2 rfl rfl), trivial⟩ fun a1661 hf1662 => ?_
    have hm1663 := hm1660.sel [0, 1, 7] _ rfl (by kernel_rfl)
    refine thenN ?_
    obtain ⟨r1669, hr1669, H0⟩ := ob_split H0
    refine wpBlock (Mid := fun (a : Act) (w : World) => ∃ (A1667 : Option Addr) (c1668 : Nat), Fr 106 a [(0, .pointer (some ⟨b0, 0, none⟩)), (76, .slice A1_6 x1.Hooks.length c1_6), (77, .int .i64 (x1.Hooks.length : Int)), (78, .int .i64 r1669.1)] ∧ Mem B0 M w0 [.bx b0 [.slice A1667 r1669.2.2.length c1668, .bool r1669.2.1] 62, .ow Kd.str 9 A1667 c1668 r1669.2.2, .sl kHook A1_6 c1_6 x1.Hooks] w) ?_ ?_
    · refine wpLoop (script_writer_node.l1 x1) r1669 (fun (s1666 : (Int × Bool × (List (List UInt8)))) (a : Act) (w : World) => ∃ (A1667 : Option Addr) (c1668 : Nat), Fr 106 a [(0, .pointer (some ⟨b0, 0, none⟩)), (76, .slice A1_6 x1.Hooks.length c1_6), (77, .int .i64 (x1.Hooks.length : Int)), (78, .int .i64 s1666.1)] ∧ Mem B0 M w0 [.bx b0 [.slice A1667 s1666.2.2.length c1668, .bool s1666.2.1] 62, .ow Kd.str 9 A1667 c1668 s1666.2.2, .sl kHook A1_6 c1_6 x1.Hooks] w) (0, r1518.2, r1535.2) hr1669 ⟨A1533, c1534, hf1662.sel (l := [0, 76, 77, 78]) (by kernel_rfl), hm1663.sel [0, 1, 2] _ rfl (by kernel_rfl)⟩ ?_
      rintro g1670 s1666 a1671 w1672 H1 ⟨A1667, c1668, hf1673, hm1674⟩
      unfold script_writer_node.l1 at H1
      refine wp_seq ?_
      rcases ifS_split H1 with ⟨c1675, H1⟩ | ⟨c1675, H1⟩
      rotate_left
      · refine reg [.bool false] [0, 76, 77, 78, 79] [(0, .pointer (some ⟨b0, 0, none⟩)), (76, .slice A1_6 x1.Hooks.length c1_6), (77, .int .i64 (x1.Hooks.length : Int)), (78, .int .i64 s1666.1), (79, .bool false)] [.is (decide (s1666.1 < (x1.Hooks.length : Int)) = false)] hf1673 (by kernel_rfl) ⟨(decide_eq_false c1675), trivial⟩ fun a1772 hf1773 => ?_
        refine thenN ?_
        refine wp_seq ?_
        refine condF hf1773 (by kernel_rfl) ?_
        refine wp_exit ?_
        refine thenE ?_
        refine thenE ?_
        obtain rfl := Option.some.inj H1
        exact .inl ⟨rfl, A1667, c1668, hf1773.sel (l := [0, 76, 77, 78]) (by kernel_rfl), hm1674.sel [0, 1, 2] _ rfl (by kernel_rfl)⟩
      refine reg [.bool true] [0, 76, 77, 78, 79] [(0, .pointer (some ⟨b0, 0, none⟩)), (76, .slice A1_6 x1.Hooks.length c1_6), (77, .int .i64 (x1.Hooks.length : Int)), (78, .int .i64 s1666.1), (79, .bool true)] [.is (decide (s1666.1 < (x1.Hooks.length : Int)) = true)] hf1673 (by kernel_rfl) ⟨(decide_eq_true c1675), trivial⟩ fun a1676 hf1677 => ?_
      refine thenN ?_
      refine wp_seq ?_
      refine condT hf1677 (by kernel_rfl) ?_
      refine wp_skip ?_
      refine thenN ?_
      refine wp_seq ?_
      refine wp_block ?_
      refine wp_seq ?_
      obtain ⟨g1678, H1⟩ := ifS_guard H1
      have q1679 := (hm1674.slAt 2 rfl).get s1666.1 g1678.1 g1678.2
      obtain ⟨us1680, hr1681, hc1682⟩ := q1679.2
      obtain ⟨b1683, rfl, hb1683⟩ := kHook.open hr1681
      refine inReg ?_
      refine go 2 [.agg #[.int .i64 ((rd x1.Hooks s1666.1).Do), .float .f64 b1683]] [0, 76, 77, 78, 81] [(0, .pointer (some ⟨b0, 0, none⟩)), (76, .slice A1_6 x1.Hooks.length c1_6), (77, .int .i64 (x1.Hooks.length : Int)), (78, .int .i64 s1666.1), (81, .agg #[.int .i64 ((rd x1.Hooks s1666.1).Do), .float .f64 b1683])] [.is (Option.isSome A1_6 = true), .is (0 ≤ s1666.1 ∧ s1666.1 < (x1.Hooks.length : Int)), .cell ((ad A1_6).add ((s1666.1).toNat * 2)) (.int .i64 ((rd x1.Hooks s1666.1).Do)), .cell (((ad A1_6).add ((s1666.1).toNat * 2)).add 1) (.float .f64 b1683)] hf1677 (by kernel_rfl) ⟨q1679.1, g1678, (hc1682 0 _ rfl), (hc1682 1 _ rfl), trivial⟩ fun a1684 hf1685 => ?_
      refine listOf hf1685 rfl (by kernel_rfl) (aNew (cs := [.int .i64 0, .float .f64 0]) (T := 51) (d := 7) hf1685 (by kernel_rfl) (by kernel_rfl) ?_)
      intro b1686 w1687 a1688 hbb1686 hx1690 hg1691 hf1689
      have hm1692 := hm1674.box hbb1686 hx1690 hg1691
      refine listOf hf1689 rfl (by kernel_rfl) (aStoreB (b := b1686) (j := 0) (T := 51) (cs := [.int .i64 0, .float .f64 0]) (us := [.int .i64 ((rd x1.Hooks s1666.1).Do), .float .f64 b1683]) (cs' := [.int .i64 ((rd x1.Hooks s1666.1).Do), .float .f64 b1683]) hf1689 (by kernel_rfl) (hm1692.bxAt 0 rfl) (by kernel_rfl) (by kernel_rfl) (by kernel_rfl) ?_)
      intro w1693 hx1694 hg1695
      have hm1696 := hm1692.setBox 0 _ rfl rfl hx1694 hg1695
      refine endL rfl ?_
      refine thenN ?_
      refine wp_seq ?_
      obtain ⟨r1697, hr1697, H1⟩ := obS_split H1
      refine inReg ?_
      refine go 3 [.int .i64 ((rd x1.Hooks s1666.1).Do)] [0, 7, 76, 77, 78, 82, 84] [(0, .pointer (some ⟨b0, 0, none⟩)), (7, .pointer (some ⟨b1686, 0, none⟩)), (76, .slice A1_6 x1.Hooks.length c1_6), (77, .int .i64 (x1.Hooks.length : Int)), (78, .int .i64 s1666.1), (82, .pointer (some ⟨b0, 0, none⟩)), (84, .int .i64 ((rd x1.Hooks s1666.1).Do))] [.cell ⟨b1686, 0, none⟩ (.int .i64 ((rd x1.Hooks s1666.1).Do))] hf1689 (by kernel_rfl) ⟨(hm1696.cell 0 rfl rfl), trivial⟩ fun a1698 hf1699 => ?_
      refine listOf hf1699 rfl (by kernel_rfl) (aLit (cs := [.int .i64 ((rd x1.Hooks s1666.1).Do)]) (E := 3) (len := 1) (d := 85) hf1699 (by kernel_rfl) (by kernel_rfl) ?_)
      intro b1700 w1701 a1702 hbb1700 hx1704 hg1705 hf1703
      have hm1696s := hm1696.still hg1705
      have hm1706 := Mem.lit (kd := (Kd.int .i64)) (xs := ([((rd x1.Hooks s1666.1).Do)] : List Int)) hm1696 hbb1700 hx1704 hg1705 (Els.one (kd := (Kd.int .i64)) (us := [.int .i64 ((rd x1.Hooks s1666.1).Do)]) (x := ((rd x1.Hooks s1666.1).Do)) rfl)
      refine listOf hf1703 rfl (by kernel_rfl) (aCall (fid := 38) (args := [.pointer (some ⟨b0, 0, none⟩), .string (bs ([104, 58] : List UInt8)), .slice (some ⟨b1700, 0, none⟩) 1 1]) (d := 86) hf1703 (by kernel_rfl) (by kernel_rfl) callable38 (script_writer_nums.calls _ _ _ (⟨s1666.2.2, s1666.2.1⟩ : Writer) b0 A1667 s1666.2.2.length c1668 rfl ([104, 58] : List UInt8) ([((rd x1.Hooks s1666.1).Do)] : List Int) (some ⟨b1700, 0, none⟩) 1 1 rfl (hm1706.giveO [2, 3] [0, 1, 4] [0] [.bx b0 [.slice A1667 s1666.2.2.length c1668, .bool s1666.2.1] 62, .ow Kd.str 9 A1667 c1668 s1666.2.2] _ [.sl (Kd.int .i64) (some ⟨b1700, 0, none⟩) 1 ([((rd x1.Hooks s1666.1).Do)] : List Int)] rfl rfl rfl (by kernel_rfl) rfl) r1697 hr1697 (hG.atO hm1706 [2, 3] _ rfl)) ?_)
      rintro _ w1709 a1710 ⟨A1707, c1708, rfl, hk1712⟩ hf1711
      have hm1713 := hm1706.backO [2, 3] [0, 1, 4] _ _ rfl rfl (by kernel_rfl) hk1712
      refine endL rfl ?_
      have hm1714 := hm1713.sel [0, 1, 3, 4] _ rfl (by kernel_rfl)
      refine thenN ?_
      obtain ⟨g1715, H1⟩ := ifS_guard H1
      obtain ⟨r1716, hr1716, H1⟩ := obS_split H1
      obtain ⟨g1717, H1⟩ := ifS_guard H1
      obtain ⟨g1718, H1⟩ := ifS_guard H1
      refine midReg (fun (a : Act) (w : World) => Fr 106 a [(0, .pointer (some ⟨b0, 0, none⟩)), (76, .slice A1_6 x1.Hooks.length c1_6), (77, .int .i64 (x1.Hooks.length : Int)), (78, .int .i64 s1666.1)] ∧ Mem B0 M w0 [.bx b0 [.slice A1707 r1697.1.length c1708, .bool r1697.2] 62, .ow Kd.str 9 A1707 c1708 (put r1697.1 (w64 ((r1697.1.length : Int) - 1)) ((rd r1697.1 (w64 ((r1697.1.length : Int) - 1))) ++ (([44] : List UInt8) ++ r1716))), .sl kHook A1_6 c1_6 x1.Hooks] w) ?_ ?_
      · refine anyG (K := []) [18] (by kernel_rfl) fun w1731 hg1732 => ?_
        have hm1733 := hm1714.still hg1732
        have q1749 := (hm1733.owAt 1 rfl).str (w64 ((r1697.1.length : Int) - 1)) g1715.1 g1715.2
        refine quiet0 [0, 1, 2, 3, 4, 5, 6, 7, 8, 9, 10, 11, 12, 13] [.slice A1707 r1697.1.length c1708, .slice A1707 r1697.1.length c1708, .string (bs (rd r1697.1 (w64 ((r1697.1.length : Int) - 1)))), .float .f64 b1683] [0, 76, 77, 78, 90, 96, 98, 100] #[true, true, true, true, true, true, true, true, true, true, true, true, true, true, false, false, false, false, false] [(0, .pointer (some ⟨b0, 0, none⟩)), (76, .slice A1_6 x1.Hooks.length c1_6), (77, .int .i64 (x1.Hooks.length : Int)), (78, .int .i64 s1666.1), (90, .slice A1707 r1697.1.length c1708), (96, .int .i64 (w64 ((r1697.1.length : Int) - 1))), (98, .string (bs (rd r1697.1 (w64 ((r1697.1.length : Int) - 1))))), (100, .float .f64 b1683)] [.cell ⟨b0, 0, none⟩ (.slice A1707 r1697.1.length c1708), .cell ⟨b0, 0, none⟩ (.slice A1707 r1697.1.length c1708), .is (Option.isSome A1707 = true), .is (0 ≤ (w64 ((r1697.1.length : Int) - 1)) ∧ (w64 ((r1697.1.length : Int) - 1)) < (r1697.1.length : Int)), .cell ((ad A1707).add (((w64 ((r1697.1.length : Int) - 1))).toNat * 1)) (.string (bs (rd r1697.1 (w64 ((r1697.1.length : Int) - 1))))), .cell ⟨b1686, 1, none⟩ (.float .f64 b1683)] 5 rfl (by kernel_rfl) (fun _ _ _ _ _ h => nomatch h.1) hf1711 (by kernel_rfl) ⟨(hm1733.cell 0 rfl rfl), (hm1733.cell 0 rfl rfl), q1749.1, g1715, q1749.2, (hm1733.cell 2 rfl rfl), trivial⟩ fun a1750 hf1751 => ?_
        refine all1 14 (by kernel_rfl) ?_
        refine opOf hf1751 rfl (by kernel_rfl) (aCall (fid := 15) (args := [.float .f64 b1683]) (d := 101) hf1751 (by kernel_rfl) (by kernel_rfl) callable15 (script_Number.calls _ _ ((rd x1.Hooks s1666.1).X) b1683 hb1683 (hm1733.give [] [] rfl rfl) r1716 hr1716) ?_)
        rintro _ w1752 a1753 ⟨rfl, hk1755⟩ hf1754
        refine ⟨.inr (Gr.still hk1755.cum.none), ?_⟩
        have hm1756 := hm1733.still hk1755.cum.none
        have q1757 := (hm1756.owAt 1 rfl).str (w64 ((r1697.1.length : Int) - 1)) g1715.1 g1715.2
        refine quiet0 [15, 16, 17] [.string (bs (([44] : List UInt8) ++ r1716)), .string (bs ((rd r1697.1 (w64 ((r1697.1.length : Int) - 1))) ++ (([44] : List UInt8) ++ r1716)))] [0, 76, 77, 78, 103, 104] #[true, true, true, true, true, true, true, true, true, true, true, true, true, true, true, true, true, true, false] [(0, .pointer (some ⟨b0, 0, none⟩)), (76, .slice A1_6 x1.Hooks.length c1_6), (77, .int .i64 (x1.Hooks.length : Int)), (78, .int .i64 s1666.1), (103, .string (bs ((rd r1697.1 (w64 ((r1697.1.length : Int) - 1))) ++ (([44] : List UInt8) ++ r1716)))), (104, .pointer (some ((ad A1707).add (((w64 ((r1697.1.length : Int) - 1))).toNat * 1))))] [.is (bs (([44] : List UInt8) ++ r1716) = bs ([44] : List UInt8) ++ bs r1716 ∧ (bs ([44] : List UInt8)).size + (bs r1716).size ≤ 9223372036854775807), .is (bs ((rd r1697.1 (w64 ((r1697.1.length : Int) - 1))) ++ (([44] : List UInt8) ++ r1716)) = bs (rd r1697.1 (w64 ((r1697.1.length : Int) - 1))) ++ bs (([44] : List UInt8) ++ r1716) ∧ (bs (rd r1697.1 (w64 ((r1697.1.length : Int) - 1)))).size + (bs (([44] : List UInt8) ++ r1716)).size ≤ 9223372036854775807), .is (Option.isSome A1707 = true), .is (0 ≤ (w64 ((r1697.1.length : Int) - 1)) ∧ (w64 ((r1697.1.length : Int) - 1)) < (r1697.1.length : Int))] 1 rfl (by kernel_rfl) (fun _ _ _ _ _ h => nomatch h.1) hf1754 (by kernel_rfl) ⟨(catOk g1717), (catOk g1718), q1757.1, g1715, trivial⟩ fun a1758 hf1759 => ?_
        refine all1 18 (by kernel_rfl) ?_
        refine opOf hf1759 rfl (by kernel_rfl) (aStoreO (kd := Kd.str) (base := 0) (E := 9) (A := A1707) (c := c1708) (xs := r1697.1) (i := (w64 ((r1697.1.length : Int) - 1))) (x := ((rd r1697.1 (w64 ((r1697.1.length : Int) - 1))) ++ (([44] : List UInt8) ++ r1716))) (us := [.string (bs ((rd r1697.1 (w64 ((r1697.1.length : Int) - 1))) ++ (([44] : List UInt8) ++ r1716)))]) (sz := 1) hf1759 (by kernel_rfl) rfl (by kernel_rfl) (hm1756.at 1 rfl) rfl g1715.1 g1715.2 ?_)
        intro w1760 hx1761 hg1762
        refine ⟨.inl (by decide), ?_⟩
        have hm1763 := hm1756.setOwn 1 _ rfl rfl hx1761 hg1762 (.inl rfl)
        refine allDone (by kernel_rfl) ⟨rfl, hf1759.sel (l := [0, 76, 77, 78]) (by kernel_rfl), hm1763.sel [0, 1, 3] _ rfl (by kernel_rfl)⟩
      rintro a1764 w1765 ⟨hf1766, hm1767⟩
      refine blkN ?_
      refine thenN ?_
      refine reg [] [0, 76, 77, 78] [(0, .pointer (some ⟨b0, 0, none⟩)), (76, .slice A1_6 x1.Hooks.length c1_6), (77, .int .i64 (x1.Hooks.length : Int)), (78, .int .i64 (w64 (s1666.1 + 1)))] [] hf1766 (by kernel_rfl) trivial fun a1768 hf1769 => ?_
      have hf1770 : Fr 106 a1768 [(0, .pointer (some ⟨b0, 0, none⟩)), (76, .slice A1_6 x1.Hooks.length c1_6), (77, .int .i64 (x1.Hooks.length : Int)), (78, .int .i64 (w64 (s1666.1 + 1)))] := hf1769.sel (l := [0, 76, 77, 78]) (by kernel_rfl)
      have hm1771 : Mem B0 M w0 [.bx b0 [.slice A1707 r1697.1.length c1708, .bool r1697.2] 62, .ow Kd.str 9 A1707 c1708 (put r1697.1 (w64 ((r1697.1.length : Int) - 1)) ((rd r1697.1 (w64 ((r1697.1.length : Int) - 1))) ++ (([44] : List UInt8) ++ r1716))), .sl kHook A1_6 c1_6 x1.Hooks] w1765 := hm1767.sel [0, 1, 2] _ rfl (by kernel_rfl)
      exact ⟨((w64 (s1666.1 + 1)), r1697.2, (put r1697.1 (w64 ((r1697.1.length : Int) - 1)) ((rd r1697.1 (w64 ((r1697.1.length : Int) - 1))) ++ (([44] : List UInt8) ++ r1716)))), H1, A1707, c1708, (by simpa only [put_length, List.length_nil] using hf1770), (by simpa only [put_length, List.length_nil] using hm1771)⟩
    rintro a1774 w1775 ⟨A1667, c1668, hf1776, hm1777⟩
    have hm1778 : Mem B0 M w0 [.bx b0 [.slice A1667 r1669.2.2.length c1668, .bool r1669.2.1] 62, .ow Kd.str 9 A1667 c1668 r1669.2.2] w1775 := hm1777.sel [0, 1] _ rfl (by kernel_rfl)
    obtain rfl := Option.some.inj H0
    refine fin [] [] [] hf1776 (by kernel_rfl) trivial ?_
    exact ⟨_, rfl, A1667, c1668, rfl, hm1778⟩
  refine reg [.int .i64 x1.No, .bool true] [0, 3, 43] [(0, .pointer (some ⟨b0, 0, none⟩)), (3, .pointer (some ⟨b21, 0, none⟩)), (43, .bool true)] [.cell ⟨b21, 3, none⟩ (.int .i64 x1.No), .is (((x1.No : Int) != 0) = true)] hf1512 (by kernel_rfl) ⟨(hm1514.cell 2 rfl rfl), (neT c1515), trivial⟩ fun a1780 hf1781 => ?_
  refine thenN ?_
  refine condT hf1781 (by kernel_rfl) ?_
  obtain ⟨r1782, hr1782, H0⟩ := ob_split H0
  refine inReg ?_
  refine go 3 [.int .i64 x1.No] [0, 3, 44, 46] [(0, .pointer (some ⟨b0, 0, none⟩)), (3, .pointer (some ⟨b21, 0, none⟩)), (44, .pointer (some ⟨b0, 0, none⟩)), (46, .int .i64 x1.No)] [.cell ⟨b21, 3, none⟩ (.int .i64 x1.No)] hf1781 (by kernel_rfl) ⟨(hm1514.cell 2 rfl rfl), trivial⟩ fun a1783 hf1784 => ?_
  refine listOf hf1784 rfl (by kernel_rfl) (aLit (cs := [.int .i64 x1.No]) (E := 3) (len := 1) (d := 47) hf1784 (by kernel_rfl) (by kernel_rfl) ?_)
  intro b1785 w1786 a1787 hbb1785 hx1789 hg1790 hf1788
  have hm1514s := hm1514.still hg1790
  have hm1791 := Mem.lit (kd := (Kd.int .i64)) (xs := ([x1.No] : List Int)) hm1514 hbb1785 hx1789 hg1790 (Els.one (kd := (Kd.int .i64)) (us := [.int .i64 x1.No]) (x := x1.No) rfl)
  refine listOf hf1788 rfl (by kernel_rfl) (aCall (fid := 38) (args := [.pointer (some ⟨b0, 0, none⟩), .string (bs ([110, 58] : List UInt8)), .slice (some ⟨b1785, 0, none⟩) 1 1]) (d := 48) hf1788 (by kernel_rfl) (by kernel_rfl) callable38 (script_writer_nums.calls _ _ _ (⟨r1505.1, r1505.2⟩ : Writer) b0 A1508 r1505.1.length c1509 rfl ([110, 58] : List UInt8) ([x1.No] : List Int) (some ⟨b1785, 0, none⟩) 1 1 rfl (hm1791.giveO [1, 2] [0, 3, 4, 5, 6, 7, 8] [0] [.bx b0 [.slice A1508 r1505.1.length c1509, .bool r1505.2] 62, .ow Kd.str 9 A1508 c1509 r1505.1] _ [.sl (Kd.int .i64) (some ⟨b1785, 0, none⟩) 1 ([x1.No] : List Int)] rfl rfl rfl (by kernel_rfl) rfl) r1782 hr1782 (hG.atO hm1791 [1, 2] _ rfl)) ?_)
  rintro _ w1794 a1795 ⟨A1792, c1793, rfl, hk1797⟩ hf1796
  have hm1798 := hm1791.backO [1, 2] [0, 3, 4, 5, 6, 7, 8] _ _ rfl rfl (by kernel_rfl) hk1797
  refine endL rfl ?_
  have hm1799 := hm1798.sel [0, 1, 3, 4, 5, 6, 7, 8] _ rfl (by kernel_rfl)
  refine thenN ?_
  refine wp_seq ?_
  obtain ⟨r1800, hr1800, H0⟩ := ob_split H0
  refine inReg ?_
  refine go 4 [.slice A1_4_0 x1.Val.Shape.length c1_4_0] [0, 3, 49, 52] [(0, .pointer (some ⟨b0, 0, none⟩)), (3, .pointer (some ⟨b21, 0, none⟩)), (49, .pointer (some ⟨b0, 0, none⟩)), (52, .slice A1_4_0 x1.Val.Shape.length c1_4_0)] [.cell ⟨b21, 4, none⟩ (.slice A1_4_0 x1.Val.Shape.length c1_4_0)] hf1796 (by kernel_rfl) ⟨(hm1799.cell 2 rfl rfl), trivial⟩ fun a1801 hf1802 => ?_
  refine listOf hf1802 rfl (by kernel_rfl) (aCall (fid := 38) (args := [.pointer (some ⟨b0, 0, none⟩), .string (bs ([115, 58] : List UInt8)), .slice A1_4_0 x1.Val.Shape.length c1_4_0]) (d := 53) hf1802 (by kernel_rfl) (by kernel_rfl) callable38 (script_writer_nums.calls _ _ _ (⟨r1782.1, r1782.2⟩ : Writer) b0 A1792 r1782.1.length c1793 rfl ([115, 58] : List UInt8) x1.Val.Shape A1_4_0 x1.Val.Shape.length c1_4_0 rfl (hm1799.giveO [0, 1] [2, 3, 4, 5, 6, 7] [5] [.bx b0 [.slice A1792 r1782.1.length c1793, .bool r1782.2] 62, .ow Kd.str 9 A1792 c1793 r1782.1] _ [.sl (Kd.int .i64) A1_4_0 c1_4_0 x1.Val.Shape] rfl rfl rfl (by kernel_rfl) rfl) r1800 hr1800 (hG.atO hm1799 [0, 1] _ rfl)) ?_)
  rintro _ w1805 a1806 ⟨A1803, c1804, rfl, hk1808⟩ hf1807
  have hm1809 := hm1799.backO [0, 1] [2, 3, 4, 5, 6, 7] _ _ rfl rfl (by kernel_rfl) hk1808
  refine endL rfl ?_
  refine thenN ?_
  refine wp_seq ?_
  refine wp_seq ?_
  refine reg [.slice A1_4_1 x1.Val.Data.length c1_4_1] [0, 3, 56, 57, 58] [(0, .pointer (some ⟨b0, 0, none⟩)), (3, .pointer (some ⟨b21, 0, none⟩)), (56, .slice A1_4_1 x1.Val.Data.length c1_4_1), (57, .int .i64 (x1.Val.Data.length : Int)), (58, .int .i64 0)] [.cell ⟨b21, 5, none⟩ (.slice A1_4_1 x1.Val.Data.length c1_4_1)] hf1807 (by kernel_rfl) ⟨(hm1809.cell 2 rfl rfl), trivial⟩ fun a1810 hf1811 => ?_
  refine thenN ?_
  obtain ⟨r1817, hr1817, H0⟩ := ob_split H0
  refine wpBlock (Mid := fun (a : Act) (w : World) => ∃ (A1815 : Option Addr) (c1816 : Nat), Fr 106 a [(0, .pointer (some ⟨b0, 0, none⟩)), (3, .pointer (some ⟨b21, 0, none⟩)), (56, .slice A1_4_1 x1.Val.Data.length c1_4_1), (57, .int .i64 (x1.Val.Data.length : Int)), (58, .int .i64 r1817.1)] ∧ Mem B0 M w0 [.bx b0 [.slice A1815 r1817.2.length c1816, .bool r1800.2] 62, .ow Kd.str 9 A1815 c1816 r1817.2, .bx b21 [.int .i64 x1.Op, .slice A1_1 x1.In.length c1_1, .slice A1_2 x1.To.length c1_2, .int .i64 x1.No, .slice A1_4_0 x1.Val.Shape.length c1_4_0, .slice A1_4_1 x1.Val.Data.length c1_4_1, .slice A1_6 x1.Hooks.length c1_6] 49, .sl (Kd.int .i64) A1_1 c1_1 x1.In, .sl (Kd.int .i64) A1_2 c1_2 x1.To, .sl (Kd.int .i64) A1_4_0 c1_4_0 x1.Val.Shape, .sl Kd.float A1_4_1 c1_4_1 x1.Val.Data, .sl kHook A1_6 c1_6 x1.Hooks] w) ?_ ?_
  · refine wpLoop (script_writer_node.l0 x1) r1817 (fun (s1814 : (Int × (List (List UInt8)))) (a : Act) (w : World) => ∃ (A1815 : Option Addr) (c1816 : Nat), Fr 106 a [(0, .pointer (some ⟨b0, 0, none⟩)), (3, .pointer (some ⟨b21, 0, none⟩)), (56, .slice A1_4_1 x1.Val.Data.length c1_4_1), (57, .int .i64 (x1.Val.Data.length : Int)), (58, .int .i64 s1814.1)] ∧ Mem B0 M w0 [.bx b0 [.slice A1815 s1814.2.length c1816, .bool r1800.2] 62, .ow Kd.str 9 A1815 c1816 s1814.2, .bx b21 [.int .i64 x1.Op, .slice A1_1 x1.In.length c1_1, .slice A1_2 x1.To.length c1_2, .int .i64 x1.No, .slice A1_4_0 x1.Val.Shape.length c1_4_0, .slice A1_4_1 x1.Val.Data.length c1_4_1, .slice A1_6 x1.Hooks.length c1_6] 49, .sl (Kd.int .i64) A1_1 c1_1 x1.In, .sl (Kd.int .i64) A1_2 c1_2 x1.To, .sl (Kd.int .i64) A1_4_0 c1_4_0 x1.Val.Shape, .sl Kd.float A1_4_1 c1_4_1 x1.Val.Data, .sl kHook A1_6 c1_6 x1.Hooks] w) (0, r1800.1) hr1817 ⟨A1803, c1804, hf1811.sel (l := [0, 3, 56, 57, 58]) (by kernel_rfl), hm1809.sel [0, 1, 2, 3, 4, 5, 6, 7] _ rfl (by kernel_rfl)⟩ ?_
    rintro g1818 s1814 a1819 w1820 H1 ⟨A1815, c1816, hf1821, hm1822⟩
    unfold script_writer_node.l0 at H1
    refine wp_seq ?_
    rcases ifS_split H1 with ⟨c1823, H1⟩ | ⟨c1823, H1⟩
    rotate_left
    · refine reg [.bool false] [0, 3, 56, 57, 58, 59] [(0, .pointer (some ⟨b0, 0, none⟩)), (3, .pointer (some ⟨b21, 0, none⟩)), (56, .slice A1_4_1 x1.Val.Data.length c1_4_1), (57, .int .i64 (x1.Val.Data.length : Int)), (58, .int .i64 s1814.1), (59, .bool false)] [.is (decide (s1814.1 < (x1.Val.Data.length : Int)) = false)] hf1821 (by kernel_rfl) ⟨(decide_eq_false c1823), trivial⟩ fun a1937 hf1938 => ?_
      refine thenN ?_
      refine wp_seq ?_
      refine condF hf1938 (by kernel_rfl) ?_
      refine wp_exit ?_
      refine thenE ?_
      refine thenE ?_
      obtain rfl := Option.some.inj H1
      exact .inl ⟨rfl, A1815, c1816, hf1938.sel (l := [0, 3, 56, 57, 58]) (by kernel_rfl), hm1822.sel [0, 1, 2, 3, 4, 5, 6, 7] _ rfl (by kernel_rfl)⟩
    refine reg [.bool true] [0, 3, 56, 57, 58, 59] [(0, .pointer (some ⟨b0, 0, none⟩)), (3, .pointer (some ⟨b21, 0, none⟩)), (56, .slice A1_4_1 x1.Val.Data.length c1_4_1), (57, .int .i64 (x1.Val.Data.length : Int)), (58, .int .i64 s1814.1), (59, .bool true)] [.is (decide (s1814.1 < (x1.Val.Data.length : Int)) = true)] hf1821 (by kernel_rfl) ⟨(decide_eq_true c1823), trivial⟩ fun a1824 hf1825 => ?_
    refine thenN ?_
    refine wp_seq ?_
    refine condT hf1825 (by kernel_rfl) ?_
    refine wp_skip ?_
    refine thenN ?_
    refine wp_seq ?_
    refine wp_block ?_
    refine wp_seq ?_
    obtain ⟨g1826, H1⟩ := ifS_guard H1
    have q1827 := (hm1822.slAt 6 rfl).float s1814.1 g1826.1 g1826.2
    obtain ⟨b1828, hb1828, kb1828⟩ := q1827.2
    refine reg [.float .f64 b1828] [0, 3, 5, 56, 57, 58] [(0, .pointer (some ⟨b0, 0, none⟩)), (3, .pointer (some ⟨b21, 0, none⟩)), (5, .float .f64 b1828), (56, .slice A1_4_1 x1.Val.Data.length c1_4_1), (57, .int .i64 (x1.Val.Data.length : Int)), (58, .int .i64 s1814.1)] [.is (Option.isSome A1_4_1 = true), .is (0 ≤ s1814.1 ∧ s1814.1 < (x1.Val.Data.length : Int)), .cell ((ad A1_4_1).add ((s1814.1).toNat * 1)) (.float .f64 b1828)] hf1825 (by kernel_rfl) ⟨q1827.1, g1826, kb1828, trivial⟩ fun a1829 hf1830 => ?_
    refine thenN ?_
    obtain ⟨r1831, hr1831, H1⟩ := obS_split H1
    obtain ⟨g1832, H1⟩ := ifS_guard H1
    obtain ⟨g1833, H1⟩ := ifS_guard H1
    refine midReg (fun (a : Act) (w : World) => ∃ (A1846 : Option Addr) (c1847 : Nat), Fr 106 a [(0, .pointer (some ⟨b0, 0, none⟩)), (3, .pointer (some ⟨b21, 0, none⟩)), (56, .slice A1_4_1 x1.Val.Data.length c1_4_1), (57, .int .i64 (x1.Val.Data.length : Int)), (58, .int .i64 s1814.1)] ∧ Mem B0 M w0 [.bx b0 [.slice A1846 ((s1814.2 ++ ([(([118, 58] : List UInt8) ++ r1831)] : List (List UInt8))).length) c1847, .bool r1800.2] 62, .ow Kd.str 9 A1846 c1847 (s1814.2 ++ ([(([118, 58] : List UInt8) ++ r1831)] : List (List UInt8))), .bx b21 [.int .i64 x1.Op, .slice A1_1 x1.In.length c1_1, .slice A1_2 x1.To.length c1_2, .int .i64 x1.No, .slice A1_4_0 x1.Val.Shape.length c1_4_0, .slice A1_4_1 x1.Val.Data.length c1_4_1, .slice A1_6 x1.Hooks.length c1_6] 49, .sl (Kd.int .i64) A1_1 c1_1 x1.In, .sl (Kd.int .i64) A1_2 c1_2 x1.To, .sl (Kd.int .i64) A1_4_0 c1_4_0 x1.Val.Shape, .sl Kd.float A1_4_1 c1_4_1 x1.Val.Data, .sl kHook A1_6 c1_6 x1.Hooks] w) ?_ ?_
    · refine anyG (K := [bk A1815]) [12] (by kernel_rfl) fun w1862 hg1863 => ?_
      have hm1864 := hm1822.still hg1863
      refine quiet0 [0, 1, 2, 3, 4, 5] [.slice A1815 s1814.2.length c1816] [0, 3, 56, 57, 58, 62, 66, 67] #[true, true, true, true, true, true, false, false, false, false, false, false, false] [(0, .pointer (some ⟨b0, 0, none⟩)), (3, .pointer (some ⟨b21, 0, none⟩)), (56, .slice A1_4_1 x1.Val.Data.length c1_4_1), (57, .int .i64 (x1.Val.Data.length : Int)), (58, .int .i64 s1814.1), (62, .pointer (some ⟨b0, 0, none⟩)), (66, .slice A1815 s1814.2.length c1816), (67, .float .f64 b1828)] [.cell ⟨b0, 0, none⟩ (.slice A1815 s1814.2.length c1816), .is (some (⟨b0, 0, none⟩ : Addr).block ∉ [bk A1815])] 7 rfl (by kernel_rfl) (fun _ _ _ _ _ h => nomatch h.1) hf1830 (by kernel_rfl) ⟨(hm1864.cell 0 rfl rfl), (hm1864.bxK 0 [1] _ rfl rfl rfl), trivial⟩ fun a1898 hf1899 => ?_
      refine all1 6 (by kernel_rfl) ?_
      refine opOf hf1899 rfl (by kernel_rfl) (aCall (fid := 15) (args := [.float .f64 b1828]) (d := 68) hf1899 (by kernel_rfl) (by kernel_rfl) callable15 (script_Number.calls _ _ (rd x1.Val.Data s1814.1) b1828 hb1828 (hm1864.give [] [] rfl rfl) r1831 hr1831) ?_)
      rintro _ w1900 a1901 ⟨rfl, hk1903⟩ hf1902
      refine ⟨.inr (Gr.still hk1903.cum.none), ?_⟩
      have hm1904 := hm1864.still hk1903.cum.none
      refine quiet0 [7] [.string (bs (([118, 58] : List UInt8) ++ r1831))] [0, 3, 56, 57, 58, 62, 66, 69] #[true, true, true, true, true, true, true, true, false, false, false, false, false] [(0, .pointer (some ⟨b0, 0, none⟩)), (3, .pointer (some ⟨b21, 0, none⟩)), (56, .slice A1_4_1 x1.Val.Data.length c1_4_1), (57, .int .i64 (x1.Val.Data.length : Int)), (58, .int .i64 s1814.1), (62, .pointer (some ⟨b0, 0, none⟩)), (66, .slice A1815 s1814.2.length c1816), (69, .string (bs (([118, 58] : List UInt8) ++ r1831)))] [.is (bs (([118, 58] : List UInt8) ++ r1831) = bs ([118, 58] : List UInt8) ++ bs r1831 ∧ (bs ([118, 58] : List UInt8)).size + (bs r1831).size ≤ 9223372036854775807)] 5 rfl (by kernel_rfl) (fun _ _ _ _ _ h => nomatch h.1) hf1902 (by kernel_rfl) ⟨(catOk g1832), trivial⟩ fun a1905 hf1906 => ?_
      refine all1 8 (by kernel_rfl) ?_
      refine opOf hf1906 rfl (by kernel_rfl) (aLit (cs := [.string (bs (([118, 58] : List UInt8) ++ r1831))]) (E := 9) (len := 1) (d := 70) hf1906 (by kernel_rfl) (by kernel_rfl) ?_)
      intro b1907 w1908 a1909 hbb1907 hx1911 hg1912 hf1910
      refine ⟨.inr (Gr.still hg1912), ?_⟩
      have hm1904s := hm1904.still hg1912
      have hm1913 := Mem.lit (kd := Kd.str) (xs := ([(([118, 58] : List UInt8) ++ r1831)] : List (List UInt8))) hm1904 hbb1907 hx1911 hg1912 (Els.one (kd := Kd.str) (us := [.string (bs (([118, 58] : List UInt8) ++ r1831))]) (x := (([118, 58] : List UInt8) ++ r1831)) rfl)
      refine all1 9 (by kernel_rfl) ?_
      have e1922 : s1814.2.length = s1814.2.length := rfl
      have e1923 : 1 = ([(([118, 58] : List UInt8) ++ r1831)] : List (List UInt8)).length := rfl
      refine opOf hf1910 rfl (by kernel_rfl) (aApp (kd := Kd.str) (base := 0) (E := 9) (A := A1815) (B := (some ⟨b1907, 0, none⟩)) (c := c1816) (c2 := 1) (xs := s1814.2) (ys := ([(([118, 58] : List UInt8) ++ r1831)] : List (List UInt8))) (k := s1814.2.length) (m := 1) (sz := 1) (d := 71) hf1910 (by kernel_rfl) e1922 e1923 (by kernel_rfl) rfl (by kernel_rfl) (hm1913.at 2 rfl) (hm1913.at2 2 0 rfl rfl).2 (hm1913.cpAt 0 rfl) (Nat.zero_le _) (by have := g1833; omega) ?_)
      intro A1914 c1915 w1916 a1917 ho1919 hg1920 hr1921 hf1918
      refine ⟨.inr (Gr.own hg1920 (by simp)), ?_⟩
      have hm1924 := hm1913.setOwn 2 _ rfl rfl ho1919 hg1920 hr1921
      refine quiet0 [10, 11] [] [0, 3, 56, 57, 58, 71, 73] #[true, true, true, true, true, true, true, true, true, true, true, true, false] [(0, .pointer (some ⟨b0, 0, none⟩)), (3, .pointer (some ⟨b21, 0, none⟩)), (56, .slice A1_4_1 x1.Val.Data.length c1_4_1), (57, .int .i64 (x1.Val.Data.length : Int)), (58, .int .i64 s1814.1), (71, .slice A1914 ((s1814.2 ++ ([(([118, 58] : List UInt8) ++ r1831)] : List (List UInt8))).length) c1915), (73, .pointer (some ⟨b0, 0, none⟩))] [] 1 rfl (by kernel_rfl) (fun _ _ _ _ _ h => nomatch h.1) hf1918 (by kernel_rfl) trivial fun a1925 hf1926 => ?_
      refine all1 12 (by kernel_rfl) ?_
      refine opOf hf1926 rfl (by kernel_rfl) (aStoreB (b := b0) (j := 0) (T := 62) (cs := [.slice A1815 s1814.2.length c1816, .bool r1800.2]) (us := [.slice A1914 ((s1814.2 ++ ([(([118, 58] : List UInt8) ++ r1831)] : List (List UInt8))).length) c1915]) (cs' := [.slice A1914 ((s1814.2 ++ ([(([118, 58] : List UInt8) ++ r1831)] : List (List UInt8))).length) c1915, .bool r1800.2]) hf1926 (by kernel_rfl) (hm1924.bxAt 1 rfl) (by kernel_rfl) (by kernel_rfl) (by kernel_rfl) ?_)
      intro w1927 hx1928 hg1929
      refine ⟨.inl (by decide), ?_⟩
      have hm1930 := hm1924.setBox 1 _ rfl rfl hx1928 hg1929
      refine allDone (by kernel_rfl) ⟨rfl, A1914, c1915, hf1926.sel (l := [0, 3, 56, 57, 58]) (by kernel_rfl), hm1930.sel [1, 2, 3, 4, 5, 6, 7, 8] _ rfl (by kernel_rfl)⟩
    rintro a1931 w1932 ⟨A1846, c1847, hf1933, hm1934⟩
    refine blkN ?_
    refine thenN ?_
    refine reg [] [0, 3, 56, 57, 58] [(0, .pointer (some ⟨b0, 0, none⟩)), (3, .pointer (some ⟨b21, 0, none⟩)), (56, .slice A1_4_1 x1.Val.Data.length c1_4_1), (57, .int .i64 (x1.Val.Data.length : Int)), (58, .int .i64 (w64 (s1814.1 + 1)))] [] hf1933 (by kernel_rfl) trivial fun a1935 hf1936 => ?_
    exact ⟨((w64 (s1814.1 + 1)), (s1814.2 ++ ([(([118, 58] : List UInt8) ++ r1831)] : List (List UInt8)))), H1, A1846, c1847, hf1936.sel (l := [0, 3, 56, 57, 58]) (by kernel_rfl), hm1934.sel [0, 1, 2, 3, 4, 5, 6, 7] _ rfl (by kernel_rfl)⟩
  rintro a1939 w1940 ⟨A1815, c1816, hf1941, hm1942⟩
  refine thenN ?_
  refine wp_seq ?_
  refine reg [.slice A1_6 x1.Hooks.length c1_6] [0, 76, 77, 78] [(0, .pointer (some ⟨b0, 0, none⟩)), (76, .slice A1_6 x1.Hooks.length c1_6), (77, .int .i64 (x1.Hooks.length : Int)), (78, .int .i64 0)] [.cell ⟨b21, 6, none⟩ (.slice A1_6 x1.Hooks.length c1_6)] hf1941 (by kernel_rfl) ⟨(hm1942.cell 2 rfl rfl), trivial⟩ fun a1943 hf1944 => ?_
  have hm1945 := hm1942.sel [0, 1, 7] _ rfl (by kernel_rfl)
  refine thenN ?_
  obtain ⟨r1951, hr1951, H0⟩ := ob_split H0
  refine wpBlock (Mid := fun (a : Act) (w : World) => ∃ (A1949 : Option Addr) (c1950 : Nat), Fr 106 a [(0, .pointer (some ⟨b0, 0, none⟩)), (76, .slice A1_6 x1.Hooks.length c1_6), (77, .int .i64 (x1.Hooks.length : Int)), (78, .int .i64 r1951.1)] ∧ Mem B0 M w0 [.bx b0 [.slice A1949 r1951.2.2.length c1950, .bool r1951.2.1] 62, .ow Kd.str 9 A1949 c1950 r1951.2.2, .sl kHook A1_6 c1_6 x1.Hooks] w) ?_ ?_
  · refine wpLoop (script_writer_node.l1 x1) r1951 (fun (s1948 : (Int × Bool × (List (List UInt8)))) (a : Act) (w : World) => ∃ (A1949 : Option Addr) (c1950 : Nat), Fr 106 a [(0, .pointer (some ⟨b0, 0, none⟩)), (76, .slice A1_6 x1.Hooks.length c1_6), (77, .int .i64 (x1.Hooks.length : Int)), (78, .int .i64 s1948.1)] ∧ Mem B0 M w0 [.bx b0 [.slice A1949 s1948.2.2.length c1950, .bool s1948.2.1] 62, .ow Kd.str 9 A1949 c1950 s1948.2.2, .sl kHook A1_6 c1_6 x1.Hooks] w) (0, r1800.2, r1817.2) hr1951 ⟨A1815, c1816, hf1944.sel (l := [0, 76, 77, 78]) (by kernel_rfl), hm1945.sel [0, 1, 2] _ rfl (by kernel_rfl)⟩ ?_
    rintro g1952 s1948 a1953 w1954 H1 ⟨A1949, c1950, hf1955, hm1956⟩
    unfold script_writer_node.l1 at H1
    refine wp_seq ?_
    rcases ifS_split H1 with ⟨c1957, H1⟩ | ⟨c1957, H1⟩
    rotate_left
    · refine reg [.bool false] [0, 76, 77, 78, 79] [(0, .pointer (some ⟨b0, 0, none⟩)), (76, .slice A1_6 x1.Hooks.length c1_6), (77, .int .i64 (x1.Hooks.length : Int)), (78, .int .i64 s1948.1), (79, .bool false)] [.is (decide (s1948.1 < (x1.Hooks.length : Int)) = false)] hf1955 (by kernel_rfl) ⟨(decide_eq_false c1957), trivial⟩ fun a2054 hf2055 => ?_
      refine thenN ?_
      refine wp_seq ?_
      refine condF hf2055 (by kernel_rfl) ?_
      refine wp_exit ?_
      refine thenE ?_
      refine thenE ?_
      obtain rfl := Option.some.inj H1
      exact .inl ⟨rfl, A1949, c1950, hf2055.sel (l := [0, 76, 77, 78]) (by kernel_rfl), hm1956.sel [0, 1, 2] _ rfl (by kernel_rfl)⟩
    refine reg [.bool true] [0, 76, 77, 78, 79] [(0, .pointer (some ⟨b0, 0, none⟩)), (76, .slice A1_6 x1.Hooks.length c1_6), (77, .int .i64 (x1.Hooks.length : Int)), (78, .int .i64 s1948.1), (79, .bool true)] [.is (decide (s1948.1 < (x1.Hooks.length : Int)) = true)] hf1955 (by kernel_rfl) ⟨(decide_eq_true c1957), trivial⟩ fun a1958 hf1959 => ?_
    refine thenN ?_
    refine wp_seq ?_
    refine condT hf1959 (by kernel_rfl) ?_
    refine wp_skip ?_
    refine thenN ?_
    refine wp_seq ?_
    refine wp_block ?_
    refine wp_seq ?_
    obtain ⟨g1960, H1⟩ := ifS_guard H1
    have q1961 := (hm1956.slAt 2 rfl).get s1948.1 g1960.1 g1960.2
    obtain ⟨us1962, hr1963, hc1964⟩ := q1961.2
    obtain ⟨b1965, rfl, hb1965⟩ := kHook.open hr1963
    refine inReg ?_
    refine go 2 [.agg #[.int .i64 ((rd x1.Hooks s1948.1).Do), .float .f64 b1965]] [0, 76, 77, 78, 81] [(0, .pointer (some ⟨b0, 0, none⟩)), (76, .slice A1_6 x1.Hooks.length c1_6), (77, .int .i64 (x1.Hooks.length : Int)), (78, .int .i64 s1948.1), (81, .agg #[.int .i64 ((rd x1.Hooks s1948.1).Do), .float .f64 b1965])] [.is (Option.isSome A1_6 = true), .is (0 ≤ s1948.1 ∧ s1948.1 < (x1.Hooks.length : Int)), .cell ((ad A1_6).add ((s1948.1).toNat * 2)) (.int .i64 ((rd x1.Hooks s1948.1).Do)), .cell (((ad A1_6).add ((s1948.1).toNat * 2)).add 1) (.float .f64 b1965)] hf1959 (by kernel_rfl) ⟨q1961.1, g1960, (hc1964 0 _ rfl), (hc1964 1 _ rfl), trivial⟩ fun a1966 hf1967 => ?_
    refine listOf hf1967 rfl (by kernel_rfl) (aNew (cs := [.int .i64 0, .float .f64 0]) (T := 51) (d := 7) hf1967 (by kernel_rfl) (by kernel_rfl) ?_)
    intro b1968 w1969 a1970 hbb1968 hx1972 hg1973 hf1971
    have hm1974 := hm1956.box hbb1968 hx1972 hg1973
    refine listOf hf1971 rfl (by kernel_rfl) (aStoreB (b := b1968) (j := 0) (T := 51) (cs := [.int .i64 0, .float .f64 0]) (us := [.int .i64 ((rd x1.Hooks s1948.1).Do), .float .f64 b1965]) (cs' := [.int .i64 ((rd x1.Hooks s1948.1).Do), .float .f64 b1965]) hf1971 (by kernel_rfl) (hm1974.bxAt 0 rfl) (by kernel_rfl) (by kernel_rfl) (by kernel_rfl) ?_)
    intro w1975 hx1976 hg1977
    have hm1978 := hm1974.setBox 0 _ rfl rfl hx1976 hg1977
    refine endL rfl ?_
    refine thenN ?_
    refine wp_seq ?_
    obtain ⟨r1979, hr1979, H1⟩ := obS_split H1
    refine inReg ?_
    refine go 3 [.int .i64 ((rd x1.Hooks s1948.1).Do)] [0, 7, 76, 77, 78, 82, 84] [(0, .pointer (some ⟨b0, 0, none⟩)), (7, .pointer (some ⟨b1968, 0, none⟩)), (76, .slice A1_6 x1.Hooks.length c1_6), (77, .int .i64 (x1.Hooks.length : Int)), (78, .int .i64 s1948.1), (82, .pointer (some ⟨b0, 0, none⟩)), (84, .int .i64 ((rd x1.Hooks s1948.1).Do))] [.cell ⟨b1968, 0, none⟩ (.int .i64 ((rd x1.Hooks s1948.1).Do))] hf1971 (by kernel_rfl) ⟨(hm1978.cell 0 rfl rfl), trivial⟩ fun a1980 hf1981 => ?_
    refine listOf hf1981 rfl (by kernel_rfl) (aLit (cs := [.int .i64 ((rd x1.Hooks s1948.1).Do)]) (E := 3) (len := 1) (d := 85) hf1981 (by kernel_rfl) (by kernel_rfl) ?_)
    intro b1982 w1983 a1984 hbb1982 hx1986 hg1987 hf1985
    have hm1978s := hm1978.still hg1987
    have hm1988 := Mem.lit (kd := (Kd.int .i64)) (xs := ([((rd x1.Hooks s1948.1).Do)] : List Int)) hm1978 hbb1982 hx1986 hg1987 (Els.one (kd := (Kd.int .i64)) (us := [.int .i64 ((rd x1.Hooks s1948.1).Do)]) (x := ((rd x1.Hooks s1948.1).Do)) rfl)
    refine listOf hf1985 rfl (by kernel_rfl) (aCall (fid := 38) (args := [.pointer (some ⟨b0, 0, none⟩), .string (bs ([104, 58] : List UInt8)), .slice (some ⟨b1982, 0, none⟩) 1 1]) (d := 86) hf1985 (by kernel_rfl) (by kernel_rfl) callable38 (script_writer_nums.calls _ _ _ (⟨s1948.2.2, s1948.2.1⟩ : Writer) b0 A1949 s1948.2.2.length c1950 rfl ([104, 58] : List UInt8) ([((rd x1.Hooks s1948.1).Do)] : List Int) (some ⟨b1982, 0, none⟩) 1 1 rfl (hm1988.giveO [2, 3] [0, 1, 4] [0] [.bx b0 [.slice A1949 s1948.2.2.length c1950, .bool s1948.2.1] 62, .ow Kd.str 9 A1949 c1950 s1948.2.2] _ [.sl (Kd.int .i64) (some ⟨b1982, 0, none⟩) 1 ([((rd x1.Hooks s1948.1).Do)] : List Int)] rfl rfl rfl (by kernel_rfl) rfl) r1979 hr1979 (hG.atO hm1988 [2, 3] _ rfl)) ?_)
    rintro _ w1991 a1992 ⟨A1989, c1990, rfl, hk1994⟩ hf1993
    have hm1995 := hm1988.backO [2, 3] [0, 1, 4] _ _ rfl rfl (by kernel_rfl) hk1994
    refine endL rfl ?_
    have hm1996 := hm1995.sel [0, 1, 3, 4] _ rfl (by kernel_rfl)
    refine thenN ?_
    obtain ⟨g1997, H1⟩ := ifS_guard H1
    obtain ⟨r1998, hr1998, H1⟩ := obS_split H1
    obtain ⟨g1999, H1⟩ := ifS_guard H1
    obtain ⟨g2000, H1⟩ := ifS_guard H1
    refine midReg (fun (a : Act) (w : World) => Fr 106 a [(0, .pointer (some ⟨b0, 0, none⟩)), (76, .slice A1_6 x1.Hooks.length c1_6), (77, .int .i64 (x1.Hooks.length : Int)), (78, .int .i64 s1948.1)] ∧ Mem B0 M w0 [.bx b0 [.slice A1989 r1979.1.length c1990, .bool r1979.2] 62, .ow Kd.str 9 A1989 c1990 (put r1979.1 (w64 ((r1979.1.length : Int) - 1)) ((rd r1979.1 (w64 ((r1979.1.length : Int) - 1))) ++ (([44] : List UInt8) ++ r1998))), .sl kHook A1_6 c1_6 x1.Hooks] w) ?_ ?_
    · refine anyG (K := []) [18] (by kernel_rfl) fun w2013 hg2014 => ?_
      have hm2015 := hm1996.still hg2014
      have q2031 := (hm2015.owAt 1 rfl).str (w64 ((r1979.1.length : Int) - 1)) g1997.1 g1997.2
      refine quiet0 [0, 1, 2, 3, 4, 5, 6, 7, 8, 9, 10, 11, 12, 13] [.slice A1989 r1979.1.length c1990, .slice A1989 r1979.1.length c1990, .string (bs (rd r1979.1 (w64 ((r1979.1.length : Int) - 1)))), .float .f64 b1965] [0, 76, 77, 78, 90, 96, 98, 100] #[true, true, true, true, true, true, true, true, true, true, true, true, true, true, false, false, false, false, false] [(0, .pointer (some ⟨b0, 0, none⟩)), (76, .slice A1_6 x1.Hooks.length c1_6), (77, .int .i64 (x1.Hooks.length : Int)), (78, .int .i64 s1948.1), (90, .slice A1989 r1979.1.length c1990), (96, .int .i64 (w64 ((r1979.1.length : Int) - 1))), (98, .string (bs (rd r1979.1 (w64 ((r1979.1.length : Int) - 1))))), (100, .float .f64 b1965)] [.cell ⟨b0, 0, none⟩ (.slice A1989 r1979.1.length c1990), .cell ⟨b0, 0, none⟩ (.slice A1989 r1979.1.length c1990), .is (Option.isSome A1989 = true), .is (0 ≤ (w64 ((r1979.1.length : Int) - 1)) ∧ (w64 ((r1979.1.length : Int) - 1)) < (r1979.1.length : Int)), .cell ((ad A1989).add (((w64 ((r1979.1.length : Int) - 1))).toNat * 1)) (.string (bs (rd r1979.1 (w64 ((r1979.1.length : Int) - 1))))), .cell ⟨b1968, 1, none⟩ (.float .f64 b1965)] 5 rfl (by kernel_rfl) (fun _ _ _ _ _ h => nomatch h.1) hf1993 (by kernel_rfl) ⟨(hm2015.cell 0 rfl rfl), (hm2015.cell 0 rfl rfl), q2031.1, g1997, q2031.2, (hm2015.cell 2 rfl rfl), trivial⟩ fun a2032 hf2033 => ?_
      refine all1 14 (by kernel_rfl) ?_
      refine opOf hf2033 rfl (by kernel_rfl) (aCall (fid := 15) (args := [.float .f64 b1965]) (d := 101) hf2033 (by kernel_rfl) (by kernel_rfl) callable15 (script_Number.calls _ _ ((rd x1.Hooks s1948.1).X) b1965 hb1965 (hm2015.give [] [] rfl rfl) r1998 hr1998) ?_)
      rintro _ w2034 a2035 ⟨rfl, hk2037⟩ hf2036
      refine ⟨.inr (Gr.still hk2037.cum.none), ?_⟩
      have hm2038 := hm2015.still hk2037.cum.none
      have q2039 := (hm2038.owAt 1 rfl).str (w64 ((r1979.1.length : Int) - 1)) g1997.1 g1997.2
      refine quiet0 [15, 16, 17] [.string (bs (([44] : List UInt8) ++ r1998)), .string (bs ((rd r1979.1 (w64 ((r1979.1.length : Int) - 1))) ++ (([44] : List UInt8) ++ r1998)))] [0, 76, 77, 78, 103, 104] #[true, true, true, true, true, true, true, true, true, true, true, true, true, true, true, true, true, true, false] [(0, .pointer (some ⟨b0, 0, none⟩)), (76, .slice A1_6 x1.Hooks.length c1_6), (77, .int .i64 (x1.Hooks.length : Int)), (78, .int .i64 s1948.1), (103, .string (bs ((rd r1979.1 (w64 ((r1979.1.length : Int) - 1))) ++ (([44] : List UInt8) ++ r1998)))), (104, .pointer (some ((ad A1989).add (((w64 ((r1979.1.length : Int) - 1))).toNat * 1))))] [.is (bs (([44] : List UInt8) ++ r1998) = bs ([44] : List UInt8) ++ bs r1998 ∧ (bs ([44] : List UInt8)).size + (bs r1998).size ≤ 9223372036854775807), .is (bs ((rd r1979.1 (w64 ((r1979.1.length : Int) - 1))) ++ (([44] : List UInt8) ++ r1998)) = bs (rd r1979.1 (w64 ((r1979.1.length : Int) - 1))) ++ bs (([44] : List UInt8) ++ r1998) ∧ (bs (rd r1979.1 (w64 ((r1979.1.length : Int) - 1)))).size + (bs (([44] : List UInt8) ++ r1998)).size ≤ 9223372036854775807), .is (Option.isSome A1989 = true), .is (0 ≤ (w64 ((r1979.1.length : Int) - 1)) ∧ (w64 ((r1979.1.length : Int) - 1)) < (r1979.1.length : Int))] 1 rfl (by kernel_rfl) (fun _ _ _ _ _ h => nomatch h.1) hf2036 (by kernel_rfl) ⟨(catOk g1999), (catOk g2000), q2039.1, g1997, trivial⟩ fun a2040 hf2041 => ?_
      refine all1 18 (by kernel_rfl) ?_
      refine opOf hf2041 rfl (by kernel_rfl) (aStoreO (kd := Kd.str) (base := 0) (E := 9) (A := A1989) (c := c1990) (xs := r1979.1) (i := (w64 ((r1979.1.length : Int) - 1))) (x := ((rd r1979.1 (w64 ((r1979.1.length : Int) - 1))) ++ (([44] : List UInt8) ++ r1998))) (us := [.string (bs ((rd r1979.1 (w64 ((r1979.1.length : Int) - 1))) ++ (([44] : List UInt8) ++ r1998)))]) (sz := 1) hf2041 (by kernel_rfl) rfl (by kernel_rfl) (hm2038.at 1 rfl) rfl g1997.1 g1997.2 ?_)
      intro w2042 hx2043 hg2044
      refine ⟨.inl (by decide), ?_⟩
      have hm2045 := hm2038.setOwn 1 _ rfl rfl hx2043 hg2044 (.inl rfl)
      refine allDone (by kernel_rfl) ⟨rfl, hf2041.sel (l := [0, 76, 77, 78]) (by kernel_rfl), hm2045.sel [0, 1, 3] _ rfl (by kernel_rfl)⟩
    rintro a2046 w2047 ⟨hf2048, hm2049⟩
    refine blkN ?_
    refine thenN ?_
    refine reg [] [0, 76, 77, 78] [(0, .pointer (some ⟨b0, 0, none⟩)), (76, .slice A1_6 x1.Hooks.length c1_6), (77, .int .i64 (x1.Hooks.length : Int)), (78, .int .i64 (w64 (s1948.1 + 1)))] [] hf2048 (by kernel_rfl) trivial fun a2050 hf2051 => ?_
    have hf2052 : Fr 106 a2050 [(0, .pointer (some ⟨b0, 0, none⟩)), (76, .slice A1_6 x1.Hooks.length c1_6), (77, .int .i64 (x1.Hooks.length : Int)), (78, .int .i64 (w64 (s1948.1 + 1)))] := hf2051.sel (l := [0, 76, 77, 78]) (by kernel_rfl)
    have hm2053 : Mem B0 M w0 [.bx b0 [.slice A1989 r1979.1.length c1990, .bool r1979.2] 62, .ow Kd.str 9 A1989 c1990 (put r1979.1 (w64 ((r1979.1.length : Int) - 1)) ((rd r1979.1 (w64 ((r1979.1.length : Int) - 1))) ++ (([44] : List UInt8) ++ r1998))), .sl kHook A1_6 c1_6 x1.Hooks] w2047 := hm2049.sel [0, 1, 2] _ rfl (by kernel_rfl)
    exact ⟨((w64 (s1948.1 + 1)), r1979.2, (put r1979.1 (w64 ((r1979.1.length : Int) - 1)) ((rd r1979.1 (w64 ((r1979.1.length : Int) - 1))) ++ (([44] : List UInt8) ++ r1998)))), H1, A1989, c1990, (by simpa only [put_length, List.length_nil] using hf2052), (by simpa only [put_length, List.length_nil] using hm2053)⟩
  rintro a2056 w2057 ⟨A1949, c1950, hf2058, hm2059⟩
  have hm2060 : Mem B0 M w0 [.bx b0 [.slice A1949 r1951.2.2.length c1950, .bool r1951.2.1] 62, .ow Kd.str 9 A1949 c1950 r1951.2.2] w2057 := hm2059.sel [0, 1] _ rfl (by kernel_rfl)
  obtain rfl := Option.some.inj H0
  refine fin [] [] [] hf2058 (by kernel_rfl) trivial ?_
  exact ⟨_, rfl, A1949, c1950, rfl, hm2060⟩
end Go.Proofs.YtkdhahdfkonilaaDoor
