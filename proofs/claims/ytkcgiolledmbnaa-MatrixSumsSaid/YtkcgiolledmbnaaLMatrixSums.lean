/- Printed by gen.py. -/
import Derived.Test.YtkcgiolledmbnaaFL
namespace Go.Proofs.Ytkcgiolledmbnaa
open Go Go.RowKit
set_option linter.unusedSimpArgs false
set_option linter.unusedVariables false
set_option linter.unnecessarySimpa false
/-! ### backstitch/backstitchlaw5.MatrixSums -/
noncomputable def law5_MatrixSums.l0 (x0 : (List Int)) (s81 : (Int × Int × (List Nat))) : Step (Int × Int × (List Nat)) (Int × Int × (List Nat)) :=
  if s81.2.1 < (x0.length : Int) then (if 0 ≤ s81.2.1 ∧ s81.2.1 < (x0.length : Int) then (if s81.2.2.length + 1 ≤ 549755813888 then (.next ((w64 (s81.1 + (w64 ((rd x0 s81.2.1))))), (w64 (s81.2.1 + 1)), (s81.2.2 ++ ([(ofInt (rd x0 s81.2.1))] : List Nat))))
  else .bad)
  else .bad)
  else (.done (s81.1, s81.2.1, s81.2.2))
noncomputable def law5_MatrixSums.f (x0 : (List Int)) (x1 : Int) : Option Bool :=
  (law5_awake.f).bind fun r23 =>
  if r23 = true then (if (x0.length : Int) = 0 then (some true)
  else (if 500 < (x0.length : Int) then (some true)
  else ((loop (law5_MatrixSums.l0 x0) (0, 0, ([] : (List Nat)))).bind fun r84 =>
  (matrix_Sum.f (⟨([(x0.length : Int)] : List Int), r84.2.2⟩ : Tensor)).bind fun r193 =>
  if r193.2 = 0 then ((ref1_SameInts.f r193.1.Shape ([1] : List Int)).bind fun r224 =>
  if r224 = true then (if (0 : Int) ≤ 0 ∧ 0 < (r193.1.Data.length : Int) then (if (fne (rd r193.1.Data 0) (ofInt r84.1)) = true then (some false)
  else (if (w64 (1 + (Int.tmod (w64 (x1)) 9))) ≠ 0 then (if (Int.tmod (x0.length : Int) (w64 (1 + (Int.tmod (w64 (x1)) 9)))) = 0 then ((matrix_Sum.f (⟨([(w64 (1 + (Int.tmod (w64 (x1)) 9))), (w64 (Int.tdiv (x0.length : Int) (w64 (1 + (Int.tmod (w64 (x1)) 9)))))] : List Int), r84.2.2⟩ : Tensor)).bind fun r275 =>
  if r275.2 = 0 then ((ref1_SameTensor.f r193.1 r275.1).bind fun r510 =>
  some r510)
  else (some false))
  else (some true))
  else none))
  else none)
  else (some false))
  else (some false))))
  else (some false)
set_option maxRecDepth 100000 in
set_option maxHeartbeats 4000000 in
theorem law5_MatrixSums.calls (M : List (Option Nat)) (w0 : World) (x0 : (List Int)) (A0 : Option Addr) (n0 c0 : Nat) (e0 : n0 = x0.length) (x1 : Int) (hm0 : Mem [] M w0 [.sl (Kd.int .i16) A0 c0 x0] w0) (r : Bool) (H0 : law5_MatrixSums.f x0 x1 = some r) :
    Calls Try.prog 11 [.slice A0 n0 c0, .int .u8 x1].toArray w0 (fun x w' => ∃ v, x = .returned v ∧ v = .bool r ∧ Mem [] M w0 [] w') := by
  subst e0
  unfold law5_MatrixSums.f at H0
  refine enter (n := 102) Try.func11 rfl rfl (by kernel_rfl) fun a0 (hf0 : Fr 102 a0 [(0, .slice A0 x0.length c0), (1, .int .u8 x1)]) => ?_
  refine wp_seq ?_
  refine reg [] [0, 1] [(0, .slice A0 x0.length c0), (1, .int .u8 x1)] [] hf0 (by kernel_rfl) trivial fun a21 hf22 => ?_
  refine thenN ?_
  refine wp_seq ?_
  refine wp_seq ?_
  obtain ⟨r23, hr23, H0⟩ := ob_split H0
  rcases ifb_split H0 with ⟨c24, H0⟩ | ⟨c24, H0⟩
  · refine inReg ?_
    refine listOf hf22 rfl (by kernel_rfl) (aCall (fid := 32) (args := []) (d := 13) hf22 (by kernel_rfl) (by kernel_rfl) callable32 (law5_awake.calls _ _  (hm0.give [] [] rfl rfl) r23 hr23) ?_)
    rintro _ w25 a26 ⟨rfl, hk28⟩ hf27
    have hm29 : Mem [] M w0 [.sl (Kd.int .i16) A0 c0 x0] w25 := hm0.still hk28.cum.none
    rw [c24] at hf27
    refine go 1 [] [0, 1, 14] [(0, .slice A0 x0.length c0), (1, .int .u8 x1), (14, .bool false)] [] hf27 (by kernel_rfl) trivial fun a30 hf31 => ?_
    refine endL rfl ?_
    refine thenN ?_
    refine condF hf31 (by kernel_rfl) ?_
    refine wp_skip ?_
    refine thenN ?_
    refine wp_seq ?_
    refine wp_seq ?_
    rcases if_split H0 with ⟨c32, H0⟩ | ⟨c32, H0⟩
    · refine reg [.bool true] [0, 1, 22] [(0, .slice A0 x0.length c0), (1, .int .u8 x1), (22, .bool true)] [.is ((((x0.length : Int) : Int) == 0) = true)] hf31 (by kernel_rfl) ⟨(eqT c32), trivial⟩ fun a33 hf34 => ?_
      refine thenN ?_
      refine condT hf34 (by kernel_rfl) ?_
      refine wp_seq ?_
      refine reg [] [4] [(4, .bool true)] [] hf34 (by kernel_rfl) trivial fun a35 hf36 => ?_
      have hm37 : Mem [] M w0 [] w25 := hm29.sel [] _ rfl (by kernel_rfl)
      refine thenN ?_
      refine wp_ret ?_
      refine thenR ?_
      have hm38 : Mem [] M w0 [] w25 := hm37.sel [] _ rfl (by kernel_rfl)
      obtain rfl := Option.some.inj H0
      refine ret [] [.bool true] [] hf36 (by kernel_rfl) trivial ?_
      exact ⟨_, rfl, rfl, hm38⟩
    · rcases if_split H0 with ⟨c40, H0⟩ | ⟨c40, H0⟩
      · refine reg [.bool false, .bool true] [0, 1, 22] [(0, .slice A0 x0.length c0), (1, .int .u8 x1), (22, .bool true)] [.is ((((x0.length : Int) : Int) == 0) = false), .is (decide (500 < (x0.length : Int)) = true)] hf31 (by kernel_rfl) ⟨(eqF c32), (decide_eq_true c40), trivial⟩ fun a41 hf42 => ?_
        refine thenN ?_
        refine condT hf42 (by kernel_rfl) ?_
        refine wp_seq ?_
        refine reg [] [4] [(4, .bool true)] [] hf42 (by kernel_rfl) trivial fun a43 hf44 => ?_
        have hm45 : Mem [] M w0 [] w25 := hm29.sel [] _ rfl (by kernel_rfl)
        refine thenN ?_
        refine wp_ret ?_
        refine thenR ?_
        have hm46 : Mem [] M w0 [] w25 := hm45.sel [] _ rfl (by kernel_rfl)
        obtain rfl := Option.some.inj H0
        refine ret [] [.bool true] [] hf44 (by kernel_rfl) trivial ?_
        exact ⟨_, rfl, rfl, hm46⟩
      · refine reg [.bool false, .bool false] [0, 1, 22] [(0, .slice A0 x0.length c0), (1, .int .u8 x1), (22, .bool false)] [.is ((((x0.length : Int) : Int) == 0) = false), .is (decide (500 < (x0.length : Int)) = false)] hf31 (by kernel_rfl) ⟨(eqF c32), (decide_eq_false c40), trivial⟩ fun a48 hf49 => ?_
        refine thenN ?_
        refine condF hf49 (by kernel_rfl) ?_
        refine wp_skip ?_
        refine thenN ?_
        refine wp_seq ?_
        refine inReg ?_
        refine go 2 [] [0, 1, 24] [(0, .slice A0 x0.length c0), (1, .int .u8 x1), (24, .int .i64 (x0.length : Int))] [] hf49 (by kernel_rfl) trivial fun a50 hf51 => ?_
        refine listOf hf51 rfl (by kernel_rfl) (aLit (cs := [.int .i64 (x0.length : Int)]) (E := 3) (len := 1) (d := 25) hf51 (by kernel_rfl) (by kernel_rfl) ?_)
        intro b52 w53 a54 hbb52 hx56 hg57 hf55
        have hm29s := hm29.still hg57
        have hm58 : Mem [] M w0 [.sl (Kd.int .i64) (some ⟨b52, 0, none⟩) 1 ([(x0.length : Int)] : List Int), .sl (Kd.int .i16) A0 c0 x0] w53 := Mem.lit (kd := (Kd.int .i64)) (xs := ([(x0.length : Int)] : List Int)) hm29 hbb52 hx56 hg57 (Els.one (kd := (Kd.int .i64)) (us := [.int .i64 (x0.length : Int)]) (x := (x0.length : Int)) rfl)
        refine go 1 [] [0, 1, 26] [(0, .slice A0 x0.length c0), (1, .int .u8 x1), (26, .agg #[.slice (some ⟨b52, 0, none⟩) 1 1, .slice none 0 0])] [] hf55 (by kernel_rfl) trivial fun a59 hf60 => ?_
        refine listOf hf60 rfl (by kernel_rfl) (aNew (cs := [.slice none 0 0, .slice none 0 0]) (T := 42) (d := 5) hf60 (by kernel_rfl) (by kernel_rfl) ?_)
        intro b61 w62 a63 hbb61 hx66 hg67 hf65
        have hm68 : Mem [] M w0 [.bx b61 [.slice none 0 0, .slice none 0 0] 42, .sl (Kd.int .i64) (some ⟨b52, 0, none⟩) 1 ([(x0.length : Int)] : List Int), .sl (Kd.int .i16) A0 c0 x0] w62 := hm58.box hbb61 hx66 hg67
        refine listOf hf65 rfl (by kernel_rfl) (aStoreB (b := b61) (j := 0) (T := 42) (cs := [.slice none 0 0, .slice none 0 0]) (us := [.slice (some ⟨b52, 0, none⟩) 1 1, .slice none 0 0]) (cs' := [.slice (some ⟨b52, 0, none⟩) 1 1, .slice none 0 0]) hf65 (by kernel_rfl) (hm68.bxAt 0 rfl) (by kernel_rfl) (by kernel_rfl) (by kernel_rfl) ?_)
        intro w69 hx70 hg71
        have hm72 : Mem [] M w0 [.bx b61 [.slice (some ⟨b52, 0, none⟩) 1 1, .slice none 0 0] 42, .sl (Kd.int .i64) (some ⟨b52, 0, none⟩) 1 ([(x0.length : Int)] : List Int), .sl (Kd.int .i16) A0 c0 x0] w69 := hm68.setBox 0 _ rfl rfl hx70 hg71
        refine endL rfl ?_
        refine thenN ?_
        refine wp_seq ?_
        refine reg [] [0, 1, 5, 6] [(0, .slice A0 x0.length c0), (1, .int .u8 x1), (5, .pointer (some ⟨b61, 0, none⟩)), (6, .int .i64 0)] [] hf65 (by kernel_rfl) trivial fun a73 hf74 => ?_
        refine thenN ?_
        refine wp_seq ?_
        refine wp_seq ?_
        refine reg [] [0, 1, 5, 6, 7] [(0, .slice A0 x0.length c0), (1, .int .u8 x1), (5, .pointer (some ⟨b61, 0, none⟩)), (6, .int .i64 0), (7, .int .i64 0)] [] hf74 (by kernel_rfl) trivial fun a75 hf76 => ?_
        refine thenN ?_
        have hm78 : Mem [] M w0 [.ow Kd.float 47 none 0 ([] : (List Nat)), .bx b61 [.slice (some ⟨b52, 0, none⟩) 1 1, .slice none 0 0] 42, .sl (Kd.int .i64) (some ⟨b52, 0, none⟩) 1 ([(x0.length : Int)] : List Int), .sl (Kd.int .i16) A0 c0 x0] w69 := hm72.nilOw Kd.float 47
        obtain ⟨r84, hr84, H0⟩ := ob_split H0
        refine wpBlock (Mid := fun (a : Act) (w : World) => ∃ (A82 : Option Addr) (c83 : Nat), Fr 102 a [(0, .slice A0 x0.length c0), (1, .int .u8 x1), (5, .pointer (some ⟨b61, 0, none⟩)), (6, .int .i64 r84.1), (7, .int .i64 r84.2.1)] ∧ Mem [] M w0 [.ow Kd.float 47 A82 c83 r84.2.2, .bx b61 [.slice (some ⟨b52, 0, none⟩) 1 1, .slice A82 r84.2.2.length c83] 42, .sl (Kd.int .i64) (some ⟨b52, 0, none⟩) 1 ([(x0.length : Int)] : List Int), .sl (Kd.int .i16) A0 c0 x0] w) ?_ ?_
        · refine wpLoop (law5_MatrixSums.l0 x0) r84 (fun (s81 : (Int × Int × (List Nat))) (a : Act) (w : World) => ∃ (A82 : Option Addr) (c83 : Nat), Fr 102 a [(0, .slice A0 x0.length c0), (1, .int .u8 x1), (5, .pointer (some ⟨b61, 0, none⟩)), (6, .int .i64 s81.1), (7, .int .i64 s81.2.1)] ∧ Mem [] M w0 [.ow Kd.float 47 A82 c83 s81.2.2, .bx b61 [.slice (some ⟨b52, 0, none⟩) 1 1, .slice A82 s81.2.2.length c83] 42, .sl (Kd.int .i64) (some ⟨b52, 0, none⟩) 1 ([(x0.length : Int)] : List Int), .sl (Kd.int .i16) A0 c0 x0] w) (0, 0, ([] : (List Nat))) hr84 ⟨none, 0, hf76.sel (l := [0, 1, 5, 6, 7]) (by kernel_rfl), hm78.sel [0, 1, 2, 3] _ rfl (by kernel_rfl)⟩ ?_
          rintro g85 s81 a86 w87 H1 ⟨A82, c83, hf88, hm89⟩
          unfold law5_MatrixSums.l0 at H1
          refine wp_seq ?_
          refine wp_seq ?_
          rcases ifS_split H1 with ⟨c90, H1⟩ | ⟨c90, H1⟩
          · refine reg [.bool true] [0, 1, 5, 6, 7, 30] [(0, .slice A0 x0.length c0), (1, .int .u8 x1), (5, .pointer (some ⟨b61, 0, none⟩)), (6, .int .i64 s81.1), (7, .int .i64 s81.2.1), (30, .bool true)] [.is (decide (s81.2.1 < (x0.length : Int)) = true)] hf88 (by kernel_rfl) ⟨(decide_eq_true c90), trivial⟩ fun a91 hf92 => ?_
            refine thenN ?_
            refine condT hf92 (by kernel_rfl) ?_
            refine wp_skip ?_
            refine thenN ?_
            refine wp_seq ?_
            refine wp_block ?_
            refine wp_seq ?_
            obtain ⟨g93, H1⟩ := ifS_guard H1
            obtain ⟨g94, H1⟩ := ifS_guard H1
            refine midReg (fun (a : Act) (w : World) => ∃ (A103 : Option Addr) (c104 : Nat), Fr 102 a [(0, .slice A0 x0.length c0), (1, .int .u8 x1), (5, .pointer (some ⟨b61, 0, none⟩)), (6, .int .i64 s81.1), (7, .int .i64 s81.2.1)] ∧ Mem [] M w0 [.ow Kd.float 47 A103 c104 (s81.2.2 ++ ([(ofInt (rd x0 s81.2.1))] : List Nat)), .bx b61 [.slice (some ⟨b52, 0, none⟩) 1 1, .slice A103 ((s81.2.2 ++ ([(ofInt (rd x0 s81.2.1))] : List Nat)).length) c104] 42, .sl (Kd.int .i64) (some ⟨b52, 0, none⟩) 1 ([(x0.length : Int)] : List Int), .sl (Kd.int .i16) A0 c0 x0] w) ?_ ?_
            · refine anyG [8, 10] (by kernel_rfl) fun w119 hg120 => ?_
              have hm121 : Mem [] M w0 [.ow Kd.float 47 A82 c83 s81.2.2, .bx b61 [.slice (some ⟨b52, 0, none⟩) 1 1, .slice A82 s81.2.2.length c83] 42, .sl (Kd.int .i64) (some ⟨b52, 0, none⟩) 1 ([(x0.length : Int)] : List Int), .sl (Kd.int .i16) A0 c0 x0] w119 := hm89.still hg120
              have q149 := (hm121.slAt 3 rfl).int s81.2.1 g93.1 g93.2
              refine quiet0 [0, 1, 2, 3, 4, 5, 6] [.slice A82 s81.2.2.length c83, .int .i16 (rd x0 s81.2.1)] [0, 1, 5, 6, 7, 34, 39] #[true, true, true, true, true, true, true, false, false, false, false] [(0, .slice A0 x0.length c0), (1, .int .u8 x1), (5, .pointer (some ⟨b61, 0, none⟩)), (6, .int .i64 s81.1), (7, .int .i64 s81.2.1), (34, .slice A82 s81.2.2.length c83), (39, .float .f64 (FloatKind.f64.nearest (rd x0 s81.2.1)))] [.cell ⟨b61, 1, none⟩ (.slice A82 s81.2.2.length c83), .is (Option.isSome A0 = true), .is (0 ≤ s81.2.1 ∧ s81.2.1 < (x0.length : Int)), .cell ((ad A0).add ((s81.2.1).toNat * 1)) (.int .i16 (rd x0 s81.2.1))] 4 rfl (by kernel_rfl) (fun _ _ _ _ _ h => nomatch h.1) hf92 (by kernel_rfl) ⟨(hm121.cell 1 rfl rfl), q149.1, g93, q149.2, trivial⟩ fun a150 hf151 => ?_
              refine all1 7 (by kernel_rfl) ?_
              refine opOf hf151 rfl (by kernel_rfl) (aLit (cs := [.float .f64 (FloatKind.f64.nearest (rd x0 s81.2.1))]) (E := 47) (len := 1) (d := 40) hf151 (by kernel_rfl) (by kernel_rfl) ?_)
              intro b152 w153 a154 hbb152 hx156 hg157 hf155
              refine ⟨.inr (Gr.still hg157), ?_⟩
              have hm121s := hm121.still hg157
              have hm158 : Mem [] M w0 [.sl Kd.float (some ⟨b152, 0, none⟩) 1 ([(ofInt (rd x0 s81.2.1))] : List Nat), .ow Kd.float 47 A82 c83 s81.2.2, .bx b61 [.slice (some ⟨b52, 0, none⟩) 1 1, .slice A82 s81.2.2.length c83] 42, .sl (Kd.int .i64) (some ⟨b52, 0, none⟩) 1 ([(x0.length : Int)] : List Int), .sl (Kd.int .i16) A0 c0 x0] w153 := Mem.lit (kd := Kd.float) (xs := ([(ofInt (rd x0 s81.2.1))] : List Nat)) hm121 hbb152 hx156 hg157 (Els.one (kd := Kd.float) (us := [.float .f64 (FloatKind.f64.nearest (rd x0 s81.2.1))]) (x := (ofInt (rd x0 s81.2.1))) ⟨_, rfl, (FR.ofInt (rd x0 s81.2.1))⟩)
              refine all1 8 (by kernel_rfl) ?_
              have e167 : s81.2.2.length = s81.2.2.length := rfl
              have e168 : 1 = ([(ofInt (rd x0 s81.2.1))] : List Nat).length := rfl
              refine opOf hf155 rfl (by kernel_rfl) (aApp (kd := Kd.float) (base := 0) (E := 47) (A := A82) (B := (some ⟨b152, 0, none⟩)) (c := c83) (c2 := 1) (xs := s81.2.2) (ys := ([(ofInt (rd x0 s81.2.1))] : List Nat)) (k := s81.2.2.length) (m := 1) (sz := 1) (d := 41) hf155 (by kernel_rfl) e167 e168 (by kernel_rfl) rfl (by kernel_rfl) (hm158.at 1 rfl) (hm158.at2 1 0 rfl rfl).2 (hm158.cpAt 0 rfl) (Nat.zero_le _) (by have := g94; omega) ?_)
              intro A159 c160 w161 a162 ho164 hg165 hr166 hf163
              refine ⟨.inl (by decide), ?_⟩
              have hm169 : Mem [] M w0 [.sl Kd.float (some ⟨b152, 0, none⟩) 1 ([(ofInt (rd x0 s81.2.1))] : List Nat), .ow Kd.float 47 A159 c160 (s81.2.2 ++ ([(ofInt (rd x0 s81.2.1))] : List Nat)), .bx b61 [.slice (some ⟨b52, 0, none⟩) 1 1, .slice A82 s81.2.2.length c83] 42, .sl (Kd.int .i64) (some ⟨b52, 0, none⟩) 1 ([(x0.length : Int)] : List Int), .sl (Kd.int .i16) A0 c0 x0] w161 := hm158.setOwn 1 _ rfl rfl ho164 hg165 hr166
              refine quiet0 [9] [] [0, 1, 5, 6, 7, 41, 42] #[true, true, true, true, true, true, true, true, true, true, false] [(0, .slice A0 x0.length c0), (1, .int .u8 x1), (5, .pointer (some ⟨b61, 0, none⟩)), (6, .int .i64 s81.1), (7, .int .i64 s81.2.1), (41, .slice A159 ((s81.2.2 ++ ([(ofInt (rd x0 s81.2.1))] : List Nat)).length) c160), (42, .pointer (some ⟨b61, 1, none⟩))] [] 1 rfl (by kernel_rfl) (fun _ _ _ _ _ h => nomatch h.1) hf163 (by kernel_rfl) trivial fun a170 hf171 => ?_
              refine all1 10 (by kernel_rfl) ?_
              refine opOf hf171 rfl (by kernel_rfl) (aStoreB (b := b61) (j := 1) (T := 42) (cs := [.slice (some ⟨b52, 0, none⟩) 1 1, .slice A82 s81.2.2.length c83]) (us := [.slice A159 ((s81.2.2 ++ ([(ofInt (rd x0 s81.2.1))] : List Nat)).length) c160]) (cs' := [.slice (some ⟨b52, 0, none⟩) 1 1, .slice A159 ((s81.2.2 ++ ([(ofInt (rd x0 s81.2.1))] : List Nat)).length) c160]) hf171 (by kernel_rfl) (hm169.bxAt 2 rfl) (by kernel_rfl) (by kernel_rfl) (by kernel_rfl) ?_)
              intro w172 hx173 hg174
              refine ⟨.inl (by decide), ?_⟩
              have hm175 : Mem [] M w0 [.sl Kd.float (some ⟨b152, 0, none⟩) 1 ([(ofInt (rd x0 s81.2.1))] : List Nat), .ow Kd.float 47 A159 c160 (s81.2.2 ++ ([(ofInt (rd x0 s81.2.1))] : List Nat)), .bx b61 [.slice (some ⟨b52, 0, none⟩) 1 1, .slice A159 ((s81.2.2 ++ ([(ofInt (rd x0 s81.2.1))] : List Nat)).length) c160] 42, .sl (Kd.int .i64) (some ⟨b52, 0, none⟩) 1 ([(x0.length : Int)] : List Int), .sl (Kd.int .i16) A0 c0 x0] w172 := hm169.setBox 2 _ rfl rfl hx173 hg174
              refine allDone (by kernel_rfl) ⟨rfl, A159, c160, hf171.sel (l := [0, 1, 5, 6, 7]) (by kernel_rfl), hm175.sel [1, 2, 3, 4] _ rfl (by kernel_rfl)⟩
            rintro a176 w177 ⟨A103, c104, hf178, hm179⟩
            refine thenN ?_
            have q180 := (hm179.slAt 3 rfl).int s81.2.1 g93.1 g93.2
            refine reg [.int .i16 (rd x0 s81.2.1)] [0, 1, 5, 6, 7] [(0, .slice A0 x0.length c0), (1, .int .u8 x1), (5, .pointer (some ⟨b61, 0, none⟩)), (6, .int .i64 (w64 (s81.1 + (w64 ((rd x0 s81.2.1)))))), (7, .int .i64 s81.2.1)] [.is (Option.isSome A0 = true), .is (0 ≤ s81.2.1 ∧ s81.2.1 < (x0.length : Int)), .cell ((ad A0).add ((s81.2.1).toNat * 1)) (.int .i16 (rd x0 s81.2.1))] hf178 (by kernel_rfl) ⟨q180.1, g93, q180.2, trivial⟩ fun a181 hf182 => ?_
            refine blkN ?_
            refine thenN ?_
            refine reg [] [0, 1, 5, 6, 7] [(0, .slice A0 x0.length c0), (1, .int .u8 x1), (5, .pointer (some ⟨b61, 0, none⟩)), (6, .int .i64 (w64 (s81.1 + (w64 ((rd x0 s81.2.1)))))), (7, .int .i64 (w64 (s81.2.1 + 1)))] [] hf182 (by kernel_rfl) trivial fun a183 hf184 => ?_
            exact ⟨((w64 (s81.1 + (w64 ((rd x0 s81.2.1))))), (w64 (s81.2.1 + 1)), (s81.2.2 ++ ([(ofInt (rd x0 s81.2.1))] : List Nat))), H1, A103, c104, hf184.sel (l := [0, 1, 5, 6, 7]) (by kernel_rfl), hm179.sel [0, 1, 2, 3] _ rfl (by kernel_rfl)⟩
          · refine reg [.bool false] [0, 1, 5, 6, 7, 30] [(0, .slice A0 x0.length c0), (1, .int .u8 x1), (5, .pointer (some ⟨b61, 0, none⟩)), (6, .int .i64 s81.1), (7, .int .i64 s81.2.1), (30, .bool false)] [.is (decide (s81.2.1 < (x0.length : Int)) = false)] hf88 (by kernel_rfl) ⟨(decide_eq_false c90), trivial⟩ fun a185 hf186 => ?_
            refine thenN ?_
            refine condF hf186 (by kernel_rfl) ?_
            refine wp_exit ?_
            refine thenE ?_
            refine thenE ?_
            obtain rfl := Option.some.inj H1
            exact .inl ⟨rfl, A82, c83, hf186.sel (l := [0, 1, 5, 6, 7]) (by kernel_rfl), hm89.sel [0, 1, 2, 3] _ rfl (by kernel_rfl)⟩
        rintro a187 w188 ⟨A82, c83, hf189, hm190⟩
        refine thenN ?_
        refine wp_seq ?_
        refine reg [] [0, 5, 6, 8] [(0, .slice A0 x0.length c0), (5, .pointer (some ⟨b61, 0, none⟩)), (6, .int .i64 r84.1), (8, .int .i64 (w64 (1 + (Int.tmod (w64 (x1)) 9))))] [.is ((9 : Int) ≠ 0)] hf189 (by kernel_rfl) ⟨(okIs (by decide)), trivial⟩ fun a191 hf192 => ?_
        refine thenN ?_
        refine wp_seq ?_
        obtain ⟨r193, hr193, H0⟩ := ob_split H0
        refine inReg ?_
        refine go 1 [.agg #[.slice (some ⟨b52, 0, none⟩) 1 1, .slice A82 r84.2.2.length c83]] [0, 5, 6, 8, 55] [(0, .slice A0 x0.length c0), (5, .pointer (some ⟨b61, 0, none⟩)), (6, .int .i64 r84.1), (8, .int .i64 (w64 (1 + (Int.tmod (w64 (x1)) 9)))), (55, .agg #[.slice (some ⟨b52, 0, none⟩) 1 1, .slice A82 r84.2.2.length c83])] [.cell ⟨b61, 0, none⟩ (.slice (some ⟨b52, 0, none⟩) 1 1), .cell ⟨b61, 1, none⟩ (.slice A82 r84.2.2.length c83)] hf192 (by kernel_rfl) ⟨(hm190.cell 1 rfl rfl), (hm190.cell 1 rfl rfl), trivial⟩ fun a194 hf195 => ?_
        have hm196 : Mem [] M w0 [.sl Kd.float A82 c83 r84.2.2, .bx b61 [.slice (some ⟨b52, 0, none⟩) 1 1, .slice A82 r84.2.2.length c83] 42, .sl (Kd.int .i64) (some ⟨b52, 0, none⟩) 1 ([(x0.length : Int)] : List Int), .sl (Kd.int .i16) A0 c0 x0] w188 := hm190.seal 0 _ rfl rfl
        refine listOf hf195 rfl (by kernel_rfl) (aCall (fid := 39) (args := [.agg #[.slice (some ⟨b52, 0, none⟩) 1 1, .slice A82 r84.2.2.length c83]]) (d := 56) hf195 (by kernel_rfl) (by kernel_rfl) callable39 (matrix_Sum.calls _ _ (⟨([(x0.length : Int)] : List Int), r84.2.2⟩ : Tensor) (some ⟨b52, 0, none⟩) 1 1 rfl A82 r84.2.2.length c83 rfl (hm196.give [2, 0] [.sl (Kd.int .i64) (some ⟨b52, 0, none⟩) 1 ([(x0.length : Int)] : List Int), .sl Kd.float A82 c83 r84.2.2] rfl rfl) r193 hr193) ?_)
        rintro _ w201 a202 ⟨A197, c198, A199, c200, rfl, hk204⟩ hf203
        have hm205 : Mem [] M w0 [.ow (Kd.int .i64) 3 A197 c198 r193.1.Shape, .ow Kd.float 47 A199 c200 r193.1.Data, .sl Kd.float A82 c83 r84.2.2, .bx b61 [.slice (some ⟨b52, 0, none⟩) 1 1, .slice A82 r84.2.2.length c83] 42, .sl (Kd.int .i64) (some ⟨b52, 0, none⟩) 1 ([(x0.length : Int)] : List Int), .sl (Kd.int .i16) A0 c0 x0] w201 := hm196.back hk204
        have hm206 : Mem [] M w0 [.sl (Kd.int .i64) A197 c198 r193.1.Shape, .ow Kd.float 47 A199 c200 r193.1.Data, .sl Kd.float A82 c83 r84.2.2, .bx b61 [.slice (some ⟨b52, 0, none⟩) 1 1, .slice A82 r84.2.2.length c83] 42, .sl (Kd.int .i64) (some ⟨b52, 0, none⟩) 1 ([(x0.length : Int)] : List Int), .sl (Kd.int .i16) A0 c0 x0] w201 := hm205.seal 0 _ rfl rfl
        have hm207 : Mem [] M w0 [.sl (Kd.int .i64) A197 c198 r193.1.Shape, .sl Kd.float A199 c200 r193.1.Data, .sl Kd.float A82 c83 r84.2.2, .bx b61 [.slice (some ⟨b52, 0, none⟩) 1 1, .slice A82 r84.2.2.length c83] 42, .sl (Kd.int .i64) (some ⟨b52, 0, none⟩) 1 ([(x0.length : Int)] : List Int), .sl (Kd.int .i16) A0 c0 x0] w201 := hm206.seal 1 _ rfl rfl
        refine go 3 [] [0, 5, 6, 8, 57, 58] [(0, .slice A0 x0.length c0), (5, .pointer (some ⟨b61, 0, none⟩)), (6, .int .i64 r84.1), (8, .int .i64 (w64 (1 + (Int.tmod (w64 (x1)) 9)))), (57, .agg #[.slice A197 r193.1.Shape.length c198, .slice A199 r193.1.Data.length c200]), (58, .int .i64 r193.2)] [] hf203 (by kernel_rfl) trivial fun a208 hf209 => ?_
        refine listOf hf209 rfl (by kernel_rfl) (aNew (cs := [.slice none 0 0, .slice none 0 0]) (T := 42) (d := 9) hf209 (by kernel_rfl) (by kernel_rfl) ?_)
        intro b210 w211 a212 hbb210 hx214 hg215 hf213
        have hm216 : Mem [] M w0 [.bx b210 [.slice none 0 0, .slice none 0 0] 42, .sl (Kd.int .i64) A197 c198 r193.1.Shape, .sl Kd.float A199 c200 r193.1.Data, .sl Kd.float A82 c83 r84.2.2, .bx b61 [.slice (some ⟨b52, 0, none⟩) 1 1, .slice A82 r84.2.2.length c83] 42, .sl (Kd.int .i64) (some ⟨b52, 0, none⟩) 1 ([(x0.length : Int)] : List Int), .sl (Kd.int .i16) A0 c0 x0] w211 := hm207.box hbb210 hx214 hg215
        refine listOf hf213 rfl (by kernel_rfl) (aStoreB (b := b210) (j := 0) (T := 42) (cs := [.slice none 0 0, .slice none 0 0]) (us := [.slice A197 r193.1.Shape.length c198, .slice A199 r193.1.Data.length c200]) (cs' := [.slice A197 r193.1.Shape.length c198, .slice A199 r193.1.Data.length c200]) hf213 (by kernel_rfl) (hm216.bxAt 0 rfl) (by kernel_rfl) (by kernel_rfl) (by kernel_rfl) ?_)
        intro w217 hx218 hg219
        have hm220 : Mem [] M w0 [.bx b210 [.slice A197 r193.1.Shape.length c198, .slice A199 r193.1.Data.length c200] 42, .sl (Kd.int .i64) A197 c198 r193.1.Shape, .sl Kd.float A199 c200 r193.1.Data, .sl Kd.float A82 c83 r84.2.2, .bx b61 [.slice (some ⟨b52, 0, none⟩) 1 1, .slice A82 r84.2.2.length c83] 42, .sl (Kd.int .i64) (some ⟨b52, 0, none⟩) 1 ([(x0.length : Int)] : List Int), .sl (Kd.int .i16) A0 c0 x0] w217 := hm216.setBox 0 _ rfl rfl hx218 hg219
        refine go 1 [] [0, 5, 6, 8, 9, 10] [(0, .slice A0 x0.length c0), (5, .pointer (some ⟨b61, 0, none⟩)), (6, .int .i64 r84.1), (8, .int .i64 (w64 (1 + (Int.tmod (w64 (x1)) 9)))), (9, .pointer (some ⟨b210, 0, none⟩)), (10, .int .i64 r193.2)] [] hf213 (by kernel_rfl) trivial fun a221 hf222 => ?_
        refine endL rfl ?_
        refine thenN ?_
        refine wp_seq ?_
        refine wp_seq ?_
        rcases if_split H0 with ⟨c223, H0⟩ | ⟨c223, H0⟩
        · obtain ⟨r224, hr224, H0⟩ := ob_split H0
          rcases ifb_split H0 with ⟨c225, H0⟩ | ⟨c225, H0⟩
          · obtain ⟨g226, H0⟩ := if_guard H0
            rcases ifb_split H0 with ⟨c227, H0⟩ | ⟨c227, H0⟩
            · refine inReg ?_
              refine go 5 [.bool false, .slice A197 r193.1.Shape.length c198] [0, 5, 6, 8, 9, 61, 63] [(0, .slice A0 x0.length c0), (5, .pointer (some ⟨b61, 0, none⟩)), (6, .int .i64 r84.1), (8, .int .i64 (w64 (1 + (Int.tmod (w64 (x1)) 9)))), (9, .pointer (some ⟨b210, 0, none⟩)), (61, .bool false), (63, .slice A197 r193.1.Shape.length c198)] [.is (((r193.2 : Int) != 0) = false), .cell ⟨b210, 0, none⟩ (.slice A197 r193.1.Shape.length c198)] hf222 (by kernel_rfl) ⟨(neF c223), (hm220.cell 0 rfl rfl), trivial⟩ fun a228 hf229 => ?_
              refine listOf hf229 rfl (by kernel_rfl) (aLit (cs := [.int .i64 1]) (E := 3) (len := 1) (d := 64) hf229 (by kernel_rfl) (by kernel_rfl) ?_)
              intro b230 w231 a232 hbb230 hx234 hg235 hf233
              have hm220s := hm220.still hg235
              have hm236 : Mem [] M w0 [.sl (Kd.int .i64) (some ⟨b230, 0, none⟩) 1 ([1] : List Int), .bx b210 [.slice A197 r193.1.Shape.length c198, .slice A199 r193.1.Data.length c200] 42, .sl (Kd.int .i64) A197 c198 r193.1.Shape, .sl Kd.float A199 c200 r193.1.Data, .sl Kd.float A82 c83 r84.2.2, .bx b61 [.slice (some ⟨b52, 0, none⟩) 1 1, .slice A82 r84.2.2.length c83] 42, .sl (Kd.int .i64) (some ⟨b52, 0, none⟩) 1 ([(x0.length : Int)] : List Int), .sl (Kd.int .i16) A0 c0 x0] w231 := Mem.lit (kd := (Kd.int .i64)) (xs := ([1] : List Int)) hm220 hbb230 hx234 hg235 (Els.one (kd := (Kd.int .i64)) (us := [.int .i64 1]) (x := 1) rfl)
              refine listOf hf233 rfl (by kernel_rfl) (aCall (fid := 18) (args := [.slice A197 r193.1.Shape.length c198, .slice (some ⟨b230, 0, none⟩) 1 1]) (d := 65) hf233 (by kernel_rfl) (by kernel_rfl) callable18 (ref1_SameInts.calls _ _ r193.1.Shape A197 r193.1.Shape.length c198 rfl ([1] : List Int) (some ⟨b230, 0, none⟩) 1 1 rfl (hm236.give [2, 0] [.sl (Kd.int .i64) A197 c198 r193.1.Shape, .sl (Kd.int .i64) (some ⟨b230, 0, none⟩) 1 ([1] : List Int)] rfl rfl) r224 hr224) ?_)
              rintro _ w237 a238 ⟨rfl, hk240⟩ hf239
              have hm241 : Mem [] M w0 [.sl (Kd.int .i64) (some ⟨b230, 0, none⟩) 1 ([1] : List Int), .bx b210 [.slice A197 r193.1.Shape.length c198, .slice A199 r193.1.Data.length c200] 42, .sl (Kd.int .i64) A197 c198 r193.1.Shape, .sl Kd.float A199 c200 r193.1.Data, .sl Kd.float A82 c83 r84.2.2, .bx b61 [.slice (some ⟨b52, 0, none⟩) 1 1, .slice A82 r84.2.2.length c83] 42, .sl (Kd.int .i64) (some ⟨b52, 0, none⟩) 1 ([(x0.length : Int)] : List Int), .sl (Kd.int .i16) A0 c0 x0] w237 := hm236.still hk240.cum.none
              rw [c225] at hf239
              have q242 := (hm241.slAt 3 rfl).float 0 g226.1 g226.2
              obtain ⟨b243, hb243, kb243⟩ := q242.2
              refine go 11 [.slice A199 r193.1.Data.length c200, .float .f64 b243, .bool true] [0, 5, 8, 9, 76] [(0, .slice A0 x0.length c0), (5, .pointer (some ⟨b61, 0, none⟩)), (8, .int .i64 (w64 (1 + (Int.tmod (w64 (x1)) 9)))), (9, .pointer (some ⟨b210, 0, none⟩)), (76, .bool true)] [.cell ⟨b210, 1, none⟩ (.slice A199 r193.1.Data.length c200), .is (Option.isSome A199 = true), .is ((0 : Int) ≤ 0 ∧ 0 < (r193.1.Data.length : Int)), .cell ((ad A199).add ((0 : Int).toNat * 1)) (.float .f64 b243), .is ((FloatKind.f64.format.order b243 (FloatKind.f64.nearest r84.1) != some .eq) = true)] hf239 (by kernel_rfl) ⟨(hm241.cell 1 rfl rfl), q242.1, g226, kb243, (ftNe hb243 (FR.ofInt r84.1) c227), trivial⟩ fun a244 hf245 => ?_
              refine endL rfl ?_
              have hm246 : Mem [] M w0 [.bx b210 [.slice A197 r193.1.Shape.length c198, .slice A199 r193.1.Data.length c200] 42, .sl (Kd.int .i64) A197 c198 r193.1.Shape, .sl Kd.float A199 c200 r193.1.Data, .sl Kd.float A82 c83 r84.2.2, .bx b61 [.slice (some ⟨b52, 0, none⟩) 1 1, .slice A82 r84.2.2.length c83] 42, .sl (Kd.int .i64) (some ⟨b52, 0, none⟩) 1 ([(x0.length : Int)] : List Int), .sl (Kd.int .i16) A0 c0 x0] w237 := hm241.sel [1, 2, 3, 4, 5, 6, 7] _ rfl (by kernel_rfl)
              refine thenN ?_
              refine condT hf245 (by kernel_rfl) ?_
              refine wp_seq ?_
              refine reg [] [4] [(4, .bool false)] [] hf245 (by kernel_rfl) trivial fun a247 hf248 => ?_
              have hm249 : Mem [] M w0 [] w237 := hm246.sel [] _ rfl (by kernel_rfl)
              refine thenN ?_
              refine wp_ret ?_
              refine thenR ?_
              have hm250 : Mem [] M w0 [] w237 := hm249.sel [] _ rfl (by kernel_rfl)
              obtain rfl := Option.some.inj H0
              refine ret [] [.bool false] [] hf248 (by kernel_rfl) trivial ?_
              exact ⟨_, rfl, rfl, hm250⟩
            · refine inReg ?_
              refine go 5 [.bool false, .slice A197 r193.1.Shape.length c198] [0, 5, 6, 8, 9, 61, 63] [(0, .slice A0 x0.length c0), (5, .pointer (some ⟨b61, 0, none⟩)), (6, .int .i64 r84.1), (8, .int .i64 (w64 (1 + (Int.tmod (w64 (x1)) 9)))), (9, .pointer (some ⟨b210, 0, none⟩)), (61, .bool false), (63, .slice A197 r193.1.Shape.length c198)] [.is (((r193.2 : Int) != 0) = false), .cell ⟨b210, 0, none⟩ (.slice A197 r193.1.Shape.length c198)] hf222 (by kernel_rfl) ⟨(neF c223), (hm220.cell 0 rfl rfl), trivial⟩ fun a252 hf253 => ?_
              refine listOf hf253 rfl (by kernel_rfl) (aLit (cs := [.int .i64 1]) (E := 3) (len := 1) (d := 64) hf253 (by kernel_rfl) (by kernel_rfl) ?_)
              intro b254 w255 a256 hbb254 hx258 hg259 hf257
              have hm220s := hm220.still hg259
              have hm260 : Mem [] M w0 [.sl (Kd.int .i64) (some ⟨b254, 0, none⟩) 1 ([1] : List Int), .bx b210 [.slice A197 r193.1.Shape.length c198, .slice A199 r193.1.Data.length c200] 42, .sl (Kd.int .i64) A197 c198 r193.1.Shape, .sl Kd.float A199 c200 r193.1.Data, .sl Kd.float A82 c83 r84.2.2, .bx b61 [.slice (some ⟨b52, 0, none⟩) 1 1, .slice A82 r84.2.2.length c83] 42, .sl (Kd.int .i64) (some ⟨b52, 0, none⟩) 1 ([(x0.length : Int)] : List Int), .sl (Kd.int .i16) A0 c0 x0] w255 := Mem.lit (kd := (Kd.int .i64)) (xs := ([1] : List Int)) hm220 hbb254 hx258 hg259 (Els.one (kd := (Kd.int .i64)) (us := [.int .i64 1]) (x := 1) rfl)
              refine listOf hf257 rfl (by kernel_rfl) (aCall (fid := 18) (args := [.slice A197 r193.1.Shape.length c198, .slice (some ⟨b254, 0, none⟩) 1 1]) (d := 65) hf257 (by kernel_rfl) (by kernel_rfl) callable18 (ref1_SameInts.calls _ _ r193.1.Shape A197 r193.1.Shape.length c198 rfl ([1] : List Int) (some ⟨b254, 0, none⟩) 1 1 rfl (hm260.give [2, 0] [.sl (Kd.int .i64) A197 c198 r193.1.Shape, .sl (Kd.int .i64) (some ⟨b254, 0, none⟩) 1 ([1] : List Int)] rfl rfl) r224 hr224) ?_)
              rintro _ w261 a262 ⟨rfl, hk264⟩ hf263
              have hm265 : Mem [] M w0 [.sl (Kd.int .i64) (some ⟨b254, 0, none⟩) 1 ([1] : List Int), .bx b210 [.slice A197 r193.1.Shape.length c198, .slice A199 r193.1.Data.length c200] 42, .sl (Kd.int .i64) A197 c198 r193.1.Shape, .sl Kd.float A199 c200 r193.1.Data, .sl Kd.float A82 c83 r84.2.2, .bx b61 [.slice (some ⟨b52, 0, none⟩) 1 1, .slice A82 r84.2.2.length c83] 42, .sl (Kd.int .i64) (some ⟨b52, 0, none⟩) 1 ([(x0.length : Int)] : List Int), .sl (Kd.int .i16) A0 c0 x0] w261 := hm260.still hk264.cum.none
              rw [c225] at hf263
              have q266 := (hm265.slAt 3 rfl).float 0 g226.1 g226.2
              obtain ⟨b267, hb267, kb267⟩ := q266.2
              refine go 11 [.slice A199 r193.1.Data.length c200, .float .f64 b267, .bool false] [0, 5, 8, 9, 76] [(0, .slice A0 x0.length c0), (5, .pointer (some ⟨b61, 0, none⟩)), (8, .int .i64 (w64 (1 + (Int.tmod (w64 (x1)) 9)))), (9, .pointer (some ⟨b210, 0, none⟩)), (76, .bool false)] [.cell ⟨b210, 1, none⟩ (.slice A199 r193.1.Data.length c200), .is (Option.isSome A199 = true), .is ((0 : Int) ≤ 0 ∧ 0 < (r193.1.Data.length : Int)), .cell ((ad A199).add ((0 : Int).toNat * 1)) (.float .f64 b267), .is ((FloatKind.f64.format.order b267 (FloatKind.f64.nearest r84.1) != some .eq) = false)] hf263 (by kernel_rfl) ⟨(hm265.cell 1 rfl rfl), q266.1, g226, kb267, (ftNe hb267 (FR.ofInt r84.1) c227), trivial⟩ fun a268 hf269 => ?_
              refine endL rfl ?_
              have hm270 : Mem [] M w0 [.bx b210 [.slice A197 r193.1.Shape.length c198, .slice A199 r193.1.Data.length c200] 42, .sl (Kd.int .i64) A197 c198 r193.1.Shape, .sl Kd.float A199 c200 r193.1.Data, .sl Kd.float A82 c83 r84.2.2, .bx b61 [.slice (some ⟨b52, 0, none⟩) 1 1, .slice A82 r84.2.2.length c83] 42, .sl (Kd.int .i64) (some ⟨b52, 0, none⟩) 1 ([(x0.length : Int)] : List Int), .sl (Kd.int .i16) A0 c0 x0] w261 := hm265.sel [1, 2, 3, 4, 5, 6, 7] _ rfl (by kernel_rfl)
              refine thenN ?_
              refine condF hf269 (by kernel_rfl) ?_
              refine wp_skip ?_
              refine thenN ?_
              refine wp_seq ?_
              refine wp_seq ?_
              obtain ⟨g271, H0⟩ := if_guard H0
              rcases if_split H0 with ⟨c272, H0⟩ | ⟨c272, H0⟩
              · refine reg [.bool false] [0, 5, 8, 9, 81] [(0, .slice A0 x0.length c0), (5, .pointer (some ⟨b61, 0, none⟩)), (8, .int .i64 (w64 (1 + (Int.tmod (w64 (x1)) 9)))), (9, .pointer (some ⟨b210, 0, none⟩)), (81, .bool false)] [.is ((w64 (1 + (Int.tmod (w64 (x1)) 9))) ≠ 0), .is ((((Int.tmod (x0.length : Int) (w64 (1 + (Int.tmod (w64 (x1)) 9)))) : Int) != 0) = false)] hf269 (by kernel_rfl) ⟨g271, (neF c272), trivial⟩ fun a273 hf274 => ?_
                refine thenN ?_
                refine condF hf274 (by kernel_rfl) ?_
                refine wp_skip ?_
                refine thenN ?_
                refine wp_seq ?_
                obtain ⟨r275, hr275, H0⟩ := ob_split H0
                refine midReg (fun (a : Act) (w : World) => ∃ (b294 : Nat) (A283 : Option Addr) (c284 : Nat) (A285 : Option Addr) (c286 : Nat), Fr 102 a [(9, .pointer (some ⟨b210, 0, none⟩)), (11, .pointer (some ⟨b294, 0, none⟩)), (12, .int .i64 r275.2)] ∧ Mem [] M w0 [.bx b294 [.slice A283 r275.1.Shape.length c284, .slice A285 r275.1.Data.length c286] 42, .sl (Kd.int .i64) A283 c284 r275.1.Shape, .sl Kd.float A285 c286 r275.1.Data, .bx b210 [.slice A197 r193.1.Shape.length c198, .slice A199 r193.1.Data.length c200] 42, .sl (Kd.int .i64) A197 c198 r193.1.Shape, .sl Kd.float A199 c200 r193.1.Data] w) ?_ ?_
                · refine anyG [14] (by kernel_rfl) fun w306 hg307 => ?_
                  have hm308 : Mem [] M w0 [.bx b210 [.slice A197 r193.1.Shape.length c198, .slice A199 r193.1.Data.length c200] 42, .sl (Kd.int .i64) A197 c198 r193.1.Shape, .sl Kd.float A199 c200 r193.1.Data, .sl Kd.float A82 c83 r84.2.2, .bx b61 [.slice (some ⟨b52, 0, none⟩) 1 1, .slice A82 r84.2.2.length c83] 42, .sl (Kd.int .i64) (some ⟨b52, 0, none⟩) 1 ([(x0.length : Int)] : List Int), .sl (Kd.int .i16) A0 c0 x0] w306 := hm270.still hg307
                  refine quiet0 [0, 1, 2, 3, 4, 6, 7] [.slice A82 r84.2.2.length c83] [9, 83, 87, 90] #[true, true, true, true, true, false, true, true, false, false, false, false, false, false, false, false] [(9, .pointer (some ⟨b210, 0, none⟩)), (83, .int .i64 (w64 (1 + (Int.tmod (w64 (x1)) 9)))), (87, .int .i64 (w64 (Int.tdiv (x0.length : Int) (w64 (1 + (Int.tmod (w64 (x1)) 9)))))), (90, .slice A82 r84.2.2.length c83)] [.is ((w64 (1 + (Int.tmod (w64 (x1)) 9))) ≠ 0), .cell ⟨b61, 1, none⟩ (.slice A82 r84.2.2.length c83)] 9 rfl (by kernel_rfl) (fun _ _ _ _ _ h => nomatch h.1) hf274 (by kernel_rfl) ⟨g271, (hm308.cell 4 rfl rfl), trivial⟩ fun a407 hf408 => ?_
                  refine all2 5 13 (by kernel_rfl) ?_ ?_
                  · refine opOf hf408 rfl (by kernel_rfl) (aLit (cs := [.int .i64 (w64 (1 + (Int.tmod (w64 (x1)) 9))), .int .i64 (w64 (Int.tdiv (x0.length : Int) (w64 (1 + (Int.tmod (w64 (x1)) 9)))))]) (E := 3) (len := 2) (d := 88) hf408 (by kernel_rfl) (by kernel_rfl) ?_)
                    intro b409 w410 a411 hbb409 hx413 hg414 hf412
                    refine ⟨.inr (Gr.still hg414), ?_⟩
                    have hm308s := hm308.still hg414
                    have hm415 : Mem [] M w0 [.sl (Kd.int .i64) (some ⟨b409, 0, none⟩) 2 ([(w64 (1 + (Int.tmod (w64 (x1)) 9))), (w64 (Int.tdiv (x0.length : Int) (w64 (1 + (Int.tmod (w64 (x1)) 9)))))] : List Int), .bx b210 [.slice A197 r193.1.Shape.length c198, .slice A199 r193.1.Data.length c200] 42, .sl (Kd.int .i64) A197 c198 r193.1.Shape, .sl Kd.float A199 c200 r193.1.Data, .sl Kd.float A82 c83 r84.2.2, .bx b61 [.slice (some ⟨b52, 0, none⟩) 1 1, .slice A82 r84.2.2.length c83] 42, .sl (Kd.int .i64) (some ⟨b52, 0, none⟩) 1 ([(x0.length : Int)] : List Int), .sl (Kd.int .i16) A0 c0 x0] w410 := Mem.lit (kd := (Kd.int .i64)) (xs := ([(w64 (1 + (Int.tmod (w64 (x1)) 9))), (w64 (Int.tdiv (x0.length : Int) (w64 (1 + (Int.tmod (w64 (x1)) 9)))))] : List Int)) hm308 hbb409 hx413 hg414 (Els.append (Els.one (kd := (Kd.int .i64)) (us := [.int .i64 (w64 (1 + (Int.tmod (w64 (x1)) 9)))]) (x := (w64 (1 + (Int.tmod (w64 (x1)) 9)))) rfl) (Els.one (kd := (Kd.int .i64)) (us := [.int .i64 (w64 (Int.tdiv (x0.length : Int) (w64 (1 + (Int.tmod (w64 (x1)) 9)))))]) (x := (w64 (Int.tdiv (x0.length : Int) (w64 (1 + (Int.tmod (w64 (x1)) 9)))))) rfl))
                    refine quiet0 [8] [] [9, 91] #[true, true, true, true, true, true, true, true, true, false, false, false, false, false, false, false] [(9, .pointer (some ⟨b210, 0, none⟩)), (91, .agg #[.slice (some ⟨b409, 0, none⟩) 2 2, .slice A82 r84.2.2.length c83])] [] 7 rfl (by kernel_rfl) (fun _ _ _ _ _ h => nomatch h.1) hf412 (by kernel_rfl) trivial fun a416 hf417 => ?_
                    refine all2 9 13 (by kernel_rfl) ?_ ?_
                    · refine opOf hf417 rfl (by kernel_rfl) (aCall (fid := 39) (args := [.agg #[.slice (some ⟨b409, 0, none⟩) 2 2, .slice A82 r84.2.2.length c83]]) (d := 92) hf417 (by kernel_rfl) (by kernel_rfl) callable39 (matrix_Sum.calls _ _ (⟨([(w64 (1 + (Int.tmod (w64 (x1)) 9))), (w64 (Int.tdiv (x0.length : Int) (w64 (1 + (Int.tmod (w64 (x1)) 9)))))] : List Int), r84.2.2⟩ : Tensor) (some ⟨b409, 0, none⟩) 2 2 rfl A82 r84.2.2.length c83 rfl (hm415.give [0, 4] [.sl (Kd.int .i64) (some ⟨b409, 0, none⟩) 2 ([(w64 (1 + (Int.tmod (w64 (x1)) 9))), (w64 (Int.tdiv (x0.length : Int) (w64 (1 + (Int.tmod (w64 (x1)) 9)))))] : List Int), .sl Kd.float A82 c83 r84.2.2] rfl rfl) r275 hr275) ?_)
                      rintro _ w422 a423 ⟨A418, c419, A420, c421, rfl, hk425⟩ hf424
                      refine ⟨.inr (Gr.still hk425.cum.none), ?_⟩
                      have hm426 : Mem [] M w0 [.ow (Kd.int .i64) 3 A418 c419 r275.1.Shape, .ow Kd.float 47 A420 c421 r275.1.Data, .sl (Kd.int .i64) (some ⟨b409, 0, none⟩) 2 ([(w64 (1 + (Int.tmod (w64 (x1)) 9))), (w64 (Int.tdiv (x0.length : Int) (w64 (1 + (Int.tmod (w64 (x1)) 9)))))] : List Int), .bx b210 [.slice A197 r193.1.Shape.length c198, .slice A199 r193.1.Data.length c200] 42, .sl (Kd.int .i64) A197 c198 r193.1.Shape, .sl Kd.float A199 c200 r193.1.Data, .sl Kd.float A82 c83 r84.2.2, .bx b61 [.slice (some ⟨b52, 0, none⟩) 1 1, .slice A82 r84.2.2.length c83] 42, .sl (Kd.int .i64) (some ⟨b52, 0, none⟩) 1 ([(x0.length : Int)] : List Int), .sl (Kd.int .i16) A0 c0 x0] w422 := hm415.back hk425
                      have hm427 : Mem [] M w0 [.sl (Kd.int .i64) A418 c419 r275.1.Shape, .ow Kd.float 47 A420 c421 r275.1.Data, .sl (Kd.int .i64) (some ⟨b409, 0, none⟩) 2 ([(w64 (1 + (Int.tmod (w64 (x1)) 9))), (w64 (Int.tdiv (x0.length : Int) (w64 (1 + (Int.tmod (w64 (x1)) 9)))))] : List Int), .bx b210 [.slice A197 r193.1.Shape.length c198, .slice A199 r193.1.Data.length c200] 42, .sl (Kd.int .i64) A197 c198 r193.1.Shape, .sl Kd.float A199 c200 r193.1.Data, .sl Kd.float A82 c83 r84.2.2, .bx b61 [.slice (some ⟨b52, 0, none⟩) 1 1, .slice A82 r84.2.2.length c83] 42, .sl (Kd.int .i64) (some ⟨b52, 0, none⟩) 1 ([(x0.length : Int)] : List Int), .sl (Kd.int .i16) A0 c0 x0] w422 := hm426.seal 0 _ rfl rfl
                      have hm428 : Mem [] M w0 [.sl (Kd.int .i64) A418 c419 r275.1.Shape, .sl Kd.float A420 c421 r275.1.Data, .sl (Kd.int .i64) (some ⟨b409, 0, none⟩) 2 ([(w64 (1 + (Int.tmod (w64 (x1)) 9))), (w64 (Int.tdiv (x0.length : Int) (w64 (1 + (Int.tmod (w64 (x1)) 9)))))] : List Int), .bx b210 [.slice A197 r193.1.Shape.length c198, .slice A199 r193.1.Data.length c200] 42, .sl (Kd.int .i64) A197 c198 r193.1.Shape, .sl Kd.float A199 c200 r193.1.Data, .sl Kd.float A82 c83 r84.2.2, .bx b61 [.slice (some ⟨b52, 0, none⟩) 1 1, .slice A82 r84.2.2.length c83] 42, .sl (Kd.int .i64) (some ⟨b52, 0, none⟩) 1 ([(x0.length : Int)] : List Int), .sl (Kd.int .i16) A0 c0 x0] w422 := hm427.seal 1 _ rfl rfl
                      refine quiet0 [10, 11, 12] [] [9, 93, 94] #[true, true, true, true, true, true, true, true, true, true, true, true, true, false, false, false] [(9, .pointer (some ⟨b210, 0, none⟩)), (93, .agg #[.slice A418 r275.1.Shape.length c419, .slice A420 r275.1.Data.length c421]), (94, .int .i64 r275.2)] [] 3 rfl (by kernel_rfl) (fun _ _ _ _ _ h => nomatch h.1) hf424 (by kernel_rfl) trivial fun a429 hf430 => ?_
                      refine all1 13 (by kernel_rfl) ?_
                      refine opOf hf430 rfl (by kernel_rfl) (aNew (cs := [.slice none 0 0, .slice none 0 0]) (T := 42) (d := 11) hf430 (by kernel_rfl) (by kernel_rfl) ?_)
                      intro b431 w432 a433 hbb431 hx435 hg436 hf434
                      refine ⟨.inr (Gr.still hg436), ?_⟩
                      have hm437 : Mem [] M w0 [.bx b431 [.slice none 0 0, .slice none 0 0] 42, .sl (Kd.int .i64) A418 c419 r275.1.Shape, .sl Kd.float A420 c421 r275.1.Data, .sl (Kd.int .i64) (some ⟨b409, 0, none⟩) 2 ([(w64 (1 + (Int.tmod (w64 (x1)) 9))), (w64 (Int.tdiv (x0.length : Int) (w64 (1 + (Int.tmod (w64 (x1)) 9)))))] : List Int), .bx b210 [.slice A197 r193.1.Shape.length c198, .slice A199 r193.1.Data.length c200] 42, .sl (Kd.int .i64) A197 c198 r193.1.Shape, .sl Kd.float A199 c200 r193.1.Data, .sl Kd.float A82 c83 r84.2.2, .bx b61 [.slice (some ⟨b52, 0, none⟩) 1 1, .slice A82 r84.2.2.length c83] 42, .sl (Kd.int .i64) (some ⟨b52, 0, none⟩) 1 ([(x0.length : Int)] : List Int), .sl (Kd.int .i16) A0 c0 x0] w432 := hm428.box hbb431 hx435 hg436
                      refine all1 14 (by kernel_rfl) ?_
                      refine opOf hf434 rfl (by kernel_rfl) (aStoreB (b := b431) (j := 0) (T := 42) (cs := [.slice none 0 0, .slice none 0 0]) (us := [.slice A418 r275.1.Shape.length c419, .slice A420 r275.1.Data.length c421]) (cs' := [.slice A418 r275.1.Shape.length c419, .slice A420 r275.1.Data.length c421]) hf434 (by kernel_rfl) (hm437.bxAt 0 rfl) (by kernel_rfl) (by kernel_rfl) (by kernel_rfl) ?_)
                      intro w438 hx439 hg440
                      refine ⟨.inl (by decide), ?_⟩
                      have hm441 : Mem [] M w0 [.bx b431 [.slice A418 r275.1.Shape.length c419, .slice A420 r275.1.Data.length c421] 42, .sl (Kd.int .i64) A418 c419 r275.1.Shape, .sl Kd.float A420 c421 r275.1.Data, .sl (Kd.int .i64) (some ⟨b409, 0, none⟩) 2 ([(w64 (1 + (Int.tmod (w64 (x1)) 9))), (w64 (Int.tdiv (x0.length : Int) (w64 (1 + (Int.tmod (w64 (x1)) 9)))))] : List Int), .bx b210 [.slice A197 r193.1.Shape.length c198, .slice A199 r193.1.Data.length c200] 42, .sl (Kd.int .i64) A197 c198 r193.1.Shape, .sl Kd.float A199 c200 r193.1.Data, .sl Kd.float A82 c83 r84.2.2, .bx b61 [.slice (some ⟨b52, 0, none⟩) 1 1, .slice A82 r84.2.2.length c83] 42, .sl (Kd.int .i64) (some ⟨b52, 0, none⟩) 1 ([(x0.length : Int)] : List Int), .sl (Kd.int .i16) A0 c0 x0] w438 := hm437.setBox 0 _ rfl rfl hx439 hg440
                      refine quiet0 [15] [] [9, 11, 12] #[true, true, true, true, true, true, true, true, true, true, true, true, true, true, true, true] [(9, .pointer (some ⟨b210, 0, none⟩)), (11, .pointer (some ⟨b431, 0, none⟩)), (12, .int .i64 r275.2)] [] 0 rfl (by kernel_rfl) (fun _ _ _ _ _ h => nomatch h.1) hf434 (by kernel_rfl) trivial fun a442 hf443 => ?_
                      refine allDone (by kernel_rfl) ⟨rfl, b431, A418, c419, A420, c421, hf443.sel (l := [9, 11, 12]) (by kernel_rfl), hm441.sel [0, 1, 2, 4, 5, 6] _ rfl (by kernel_rfl)⟩
                    · refine opOf hf417 rfl (by kernel_rfl) (aNew (cs := [.slice none 0 0, .slice none 0 0]) (T := 42) (d := 11) hf417 (by kernel_rfl) (by kernel_rfl) ?_)
                      intro b444 w445 a446 hbb444 hx448 hg449 hf447
                      refine ⟨.inr (Gr.still hg449), ?_⟩
                      have hm450 : Mem [] M w0 [.bx b444 [.slice none 0 0, .slice none 0 0] 42, .sl (Kd.int .i64) (some ⟨b409, 0, none⟩) 2 ([(w64 (1 + (Int.tmod (w64 (x1)) 9))), (w64 (Int.tdiv (x0.length : Int) (w64 (1 + (Int.tmod (w64 (x1)) 9)))))] : List Int), .bx b210 [.slice A197 r193.1.Shape.length c198, .slice A199 r193.1.Data.length c200] 42, .sl (Kd.int .i64) A197 c198 r193.1.Shape, .sl Kd.float A199 c200 r193.1.Data, .sl Kd.float A82 c83 r84.2.2, .bx b61 [.slice (some ⟨b52, 0, none⟩) 1 1, .slice A82 r84.2.2.length c83] 42, .sl (Kd.int .i64) (some ⟨b52, 0, none⟩) 1 ([(x0.length : Int)] : List Int), .sl (Kd.int .i16) A0 c0 x0] w445 := hm415.box hbb444 hx448 hg449
                      refine all1 9 (by kernel_rfl) ?_
                      refine opOf hf447 rfl (by kernel_rfl) (aCall (fid := 39) (args := [.agg #[.slice (some ⟨b409, 0, none⟩) 2 2, .slice A82 r84.2.2.length c83]]) (d := 92) hf447 (by kernel_rfl) (by kernel_rfl) callable39 (matrix_Sum.calls _ _ (⟨([(w64 (1 + (Int.tmod (w64 (x1)) 9))), (w64 (Int.tdiv (x0.length : Int) (w64 (1 + (Int.tmod (w64 (x1)) 9)))))] : List Int), r84.2.2⟩ : Tensor) (some ⟨b409, 0, none⟩) 2 2 rfl A82 r84.2.2.length c83 rfl (hm450.give [1, 5] [.sl (Kd.int .i64) (some ⟨b409, 0, none⟩) 2 ([(w64 (1 + (Int.tmod (w64 (x1)) 9))), (w64 (Int.tdiv (x0.length : Int) (w64 (1 + (Int.tmod (w64 (x1)) 9)))))] : List Int), .sl Kd.float A82 c83 r84.2.2] rfl rfl) r275 hr275) ?_)
                      rintro _ w455 a456 ⟨A451, c452, A453, c454, rfl, hk458⟩ hf457
                      refine ⟨.inr (Gr.still hk458.cum.none), ?_⟩
                      have hm459 : Mem [] M w0 [.ow (Kd.int .i64) 3 A451 c452 r275.1.Shape, .ow Kd.float 47 A453 c454 r275.1.Data, .bx b444 [.slice none 0 0, .slice none 0 0] 42, .sl (Kd.int .i64) (some ⟨b409, 0, none⟩) 2 ([(w64 (1 + (Int.tmod (w64 (x1)) 9))), (w64 (Int.tdiv (x0.length : Int) (w64 (1 + (Int.tmod (w64 (x1)) 9)))))] : List Int), .bx b210 [.slice A197 r193.1.Shape.length c198, .slice A199 r193.1.Data.length c200] 42, .sl (Kd.int .i64) A197 c198 r193.1.Shape, .sl Kd.float A199 c200 r193.1.Data, .sl Kd.float A82 c83 r84.2.2, .bx b61 [.slice (some ⟨b52, 0, none⟩) 1 1, .slice A82 r84.2.2.length c83] 42, .sl (Kd.int .i64) (some ⟨b52, 0, none⟩) 1 ([(x0.length : Int)] : List Int), .sl (Kd.int .i16) A0 c0 x0] w455 := hm450.back hk458
                      have hm460 : Mem [] M w0 [.sl (Kd.int .i64) A451 c452 r275.1.Shape, .ow Kd.float 47 A453 c454 r275.1.Data, .bx b444 [.slice none 0 0, .slice none 0 0] 42, .sl (Kd.int .i64) (some ⟨b409, 0, none⟩) 2 ([(w64 (1 + (Int.tmod (w64 (x1)) 9))), (w64 (Int.tdiv (x0.length : Int) (w64 (1 + (Int.tmod (w64 (x1)) 9)))))] : List Int), .bx b210 [.slice A197 r193.1.Shape.length c198, .slice A199 r193.1.Data.length c200] 42, .sl (Kd.int .i64) A197 c198 r193.1.Shape, .sl Kd.float A199 c200 r193.1.Data, .sl Kd.float A82 c83 r84.2.2, .bx b61 [.slice (some ⟨b52, 0, none⟩) 1 1, .slice A82 r84.2.2.length c83] 42, .sl (Kd.int .i64) (some ⟨b52, 0, none⟩) 1 ([(x0.length : Int)] : List Int), .sl (Kd.int .i16) A0 c0 x0] w455 := hm459.seal 0 _ rfl rfl
                      have hm461 : Mem [] M w0 [.sl (Kd.int .i64) A451 c452 r275.1.Shape, .sl Kd.float A453 c454 r275.1.Data, .bx b444 [.slice none 0 0, .slice none 0 0] 42, .sl (Kd.int .i64) (some ⟨b409, 0, none⟩) 2 ([(w64 (1 + (Int.tmod (w64 (x1)) 9))), (w64 (Int.tdiv (x0.length : Int) (w64 (1 + (Int.tmod (w64 (x1)) 9)))))] : List Int), .bx b210 [.slice A197 r193.1.Shape.length c198, .slice A199 r193.1.Data.length c200] 42, .sl (Kd.int .i64) A197 c198 r193.1.Shape, .sl Kd.float A199 c200 r193.1.Data, .sl Kd.float A82 c83 r84.2.2, .bx b61 [.slice (some ⟨b52, 0, none⟩) 1 1, .slice A82 r84.2.2.length c83] 42, .sl (Kd.int .i64) (some ⟨b52, 0, none⟩) 1 ([(x0.length : Int)] : List Int), .sl (Kd.int .i16) A0 c0 x0] w455 := hm460.seal 1 _ rfl rfl
                      refine quiet0 [10, 11, 12] [] [9, 11, 93, 94] #[true, true, true, true, true, true, true, true, true, true, true, true, true, true, false, false] [(9, .pointer (some ⟨b210, 0, none⟩)), (11, .pointer (some ⟨b444, 0, none⟩)), (93, .agg #[.slice A451 r275.1.Shape.length c452, .slice A453 r275.1.Data.length c454]), (94, .int .i64 r275.2)] [] 2 rfl (by kernel_rfl) (fun _ _ _ _ _ h => nomatch h.1) hf457 (by kernel_rfl) trivial fun a462 hf463 => ?_
                      refine all1 14 (by kernel_rfl) ?_
                      refine opOf hf463 rfl (by kernel_rfl) (aStoreB (b := b444) (j := 0) (T := 42) (cs := [.slice none 0 0, .slice none 0 0]) (us := [.slice A451 r275.1.Shape.length c452, .slice A453 r275.1.Data.length c454]) (cs' := [.slice A451 r275.1.Shape.length c452, .slice A453 r275.1.Data.length c454]) hf463 (by kernel_rfl) (hm461.bxAt 2 rfl) (by kernel_rfl) (by kernel_rfl) (by kernel_rfl) ?_)
                      intro w464 hx465 hg466
                      refine ⟨.inl (by decide), ?_⟩
                      have hm467 : Mem [] M w0 [.sl (Kd.int .i64) A451 c452 r275.1.Shape, .sl Kd.float A453 c454 r275.1.Data, .bx b444 [.slice A451 r275.1.Shape.length c452, .slice A453 r275.1.Data.length c454] 42, .sl (Kd.int .i64) (some ⟨b409, 0, none⟩) 2 ([(w64 (1 + (Int.tmod (w64 (x1)) 9))), (w64 (Int.tdiv (x0.length : Int) (w64 (1 + (Int.tmod (w64 (x1)) 9)))))] : List Int), .bx b210 [.slice A197 r193.1.Shape.length c198, .slice A199 r193.1.Data.length c200] 42, .sl (Kd.int .i64) A197 c198 r193.1.Shape, .sl Kd.float A199 c200 r193.1.Data, .sl Kd.float A82 c83 r84.2.2, .bx b61 [.slice (some ⟨b52, 0, none⟩) 1 1, .slice A82 r84.2.2.length c83] 42, .sl (Kd.int .i64) (some ⟨b52, 0, none⟩) 1 ([(x0.length : Int)] : List Int), .sl (Kd.int .i16) A0 c0 x0] w464 := hm461.setBox 2 _ rfl rfl hx465 hg466
                      refine quiet0 [15] [] [9, 11, 12] #[true, true, true, true, true, true, true, true, true, true, true, true, true, true, true, true] [(9, .pointer (some ⟨b210, 0, none⟩)), (11, .pointer (some ⟨b444, 0, none⟩)), (12, .int .i64 r275.2)] [] 0 rfl (by kernel_rfl) (fun _ _ _ _ _ h => nomatch h.1) hf463 (by kernel_rfl) trivial fun a468 hf469 => ?_
                      refine allDone (by kernel_rfl) ⟨rfl, b444, A451, c452, A453, c454, hf469.sel (l := [9, 11, 12]) (by kernel_rfl), hm467.sel [2, 0, 1, 4, 5, 6] _ rfl (by kernel_rfl)⟩
                  · refine opOf hf408 rfl (by kernel_rfl) (aNew (cs := [.slice none 0 0, .slice none 0 0]) (T := 42) (d := 11) hf408 (by kernel_rfl) (by kernel_rfl) ?_)
                    intro b470 w471 a472 hbb470 hx474 hg475 hf473
                    refine ⟨.inr (Gr.still hg475), ?_⟩
                    have hm476 : Mem [] M w0 [.bx b470 [.slice none 0 0, .slice none 0 0] 42, .bx b210 [.slice A197 r193.1.Shape.length c198, .slice A199 r193.1.Data.length c200] 42, .sl (Kd.int .i64) A197 c198 r193.1.Shape, .sl Kd.float A199 c200 r193.1.Data, .sl Kd.float A82 c83 r84.2.2, .bx b61 [.slice (some ⟨b52, 0, none⟩) 1 1, .slice A82 r84.2.2.length c83] 42, .sl (Kd.int .i64) (some ⟨b52, 0, none⟩) 1 ([(x0.length : Int)] : List Int), .sl (Kd.int .i16) A0 c0 x0] w471 := hm308.box hbb470 hx474 hg475
                    refine all1 5 (by kernel_rfl) ?_
                    refine opOf hf473 rfl (by kernel_rfl) (aLit (cs := [.int .i64 (w64 (1 + (Int.tmod (w64 (x1)) 9))), .int .i64 (w64 (Int.tdiv (x0.length : Int) (w64 (1 + (Int.tmod (w64 (x1)) 9)))))]) (E := 3) (len := 2) (d := 88) hf473 (by kernel_rfl) (by kernel_rfl) ?_)
                    intro b477 w478 a479 hbb477 hx481 hg482 hf480
                    refine ⟨.inr (Gr.still hg482), ?_⟩
                    have hm476s := hm476.still hg482
                    have hm483 : Mem [] M w0 [.sl (Kd.int .i64) (some ⟨b477, 0, none⟩) 2 ([(w64 (1 + (Int.tmod (w64 (x1)) 9))), (w64 (Int.tdiv (x0.length : Int) (w64 (1 + (Int.tmod (w64 (x1)) 9)))))] : List Int), .bx b470 [.slice none 0 0, .slice none 0 0] 42, .bx b210 [.slice A197 r193.1.Shape.length c198, .slice A199 r193.1.Data.length c200] 42, .sl (Kd.int .i64) A197 c198 r193.1.Shape, .sl Kd.float A199 c200 r193.1.Data, .sl Kd.float A82 c83 r84.2.2, .bx b61 [.slice (some ⟨b52, 0, none⟩) 1 1, .slice A82 r84.2.2.length c83] 42, .sl (Kd.int .i64) (some ⟨b52, 0, none⟩) 1 ([(x0.length : Int)] : List Int), .sl (Kd.int .i16) A0 c0 x0] w478 := Mem.lit (kd := (Kd.int .i64)) (xs := ([(w64 (1 + (Int.tmod (w64 (x1)) 9))), (w64 (Int.tdiv (x0.length : Int) (w64 (1 + (Int.tmod (w64 (x1)) 9)))))] : List Int)) hm476 hbb477 hx481 hg482 (Els.append (Els.one (kd := (Kd.int .i64)) (us := [.int .i64 (w64 (1 + (Int.tmod (w64 (x1)) 9)))]) (x := (w64 (1 + (Int.tmod (w64 (x1)) 9)))) rfl) (Els.one (kd := (Kd.int .i64)) (us := [.int .i64 (w64 (Int.tdiv (x0.length : Int) (w64 (1 + (Int.tmod (w64 (x1)) 9)))))]) (x := (w64 (Int.tdiv (x0.length : Int) (w64 (1 + (Int.tmod (w64 (x1)) 9)))))) rfl))
                    refine quiet0 [8] [] [9, 11, 91] #[true, true, true, true, true, true, true, true, true, false, false, false, false, true, false, false] [(9, .pointer (some ⟨b210, 0, none⟩)), (11, .pointer (some ⟨b470, 0, none⟩)), (91, .agg #[.slice (some ⟨b477, 0, none⟩) 2 2, .slice A82 r84.2.2.length c83])] [] 6 rfl (by kernel_rfl) (fun _ _ _ _ _ h => nomatch h.1) hf480 (by kernel_rfl) trivial fun a484 hf485 => ?_
                    refine all1 9 (by kernel_rfl) ?_
                    refine opOf hf485 rfl (by kernel_rfl) (aCall (fid := 39) (args := [.agg #[.slice (some ⟨b477, 0, none⟩) 2 2, .slice A82 r84.2.2.length c83]]) (d := 92) hf485 (by kernel_rfl) (by kernel_rfl) callable39 (matrix_Sum.calls _ _ (⟨([(w64 (1 + (Int.tmod (w64 (x1)) 9))), (w64 (Int.tdiv (x0.length : Int) (w64 (1 + (Int.tmod (w64 (x1)) 9)))))] : List Int), r84.2.2⟩ : Tensor) (some ⟨b477, 0, none⟩) 2 2 rfl A82 r84.2.2.length c83 rfl (hm483.give [0, 5] [.sl (Kd.int .i64) (some ⟨b477, 0, none⟩) 2 ([(w64 (1 + (Int.tmod (w64 (x1)) 9))), (w64 (Int.tdiv (x0.length : Int) (w64 (1 + (Int.tmod (w64 (x1)) 9)))))] : List Int), .sl Kd.float A82 c83 r84.2.2] rfl rfl) r275 hr275) ?_)
                    rintro _ w490 a491 ⟨A486, c487, A488, c489, rfl, hk493⟩ hf492
                    refine ⟨.inr (Gr.still hk493.cum.none), ?_⟩
                    have hm494 : Mem [] M w0 [.ow (Kd.int .i64) 3 A486 c487 r275.1.Shape, .ow Kd.float 47 A488 c489 r275.1.Data, .sl (Kd.int .i64) (some ⟨b477, 0, none⟩) 2 ([(w64 (1 + (Int.tmod (w64 (x1)) 9))), (w64 (Int.tdiv (x0.length : Int) (w64 (1 + (Int.tmod (w64 (x1)) 9)))))] : List Int), .bx b470 [.slice none 0 0, .slice none 0 0] 42, .bx b210 [.slice A197 r193.1.Shape.length c198, .slice A199 r193.1.Data.length c200] 42, .sl (Kd.int .i64) A197 c198 r193.1.Shape, .sl Kd.float A199 c200 r193.1.Data, .sl Kd.float A82 c83 r84.2.2, .bx b61 [.slice (some ⟨b52, 0, none⟩) 1 1, .slice A82 r84.2.2.length c83] 42, .sl (Kd.int .i64) (some ⟨b52, 0, none⟩) 1 ([(x0.length : Int)] : List Int), .sl (Kd.int .i16) A0 c0 x0] w490 := hm483.back hk493
                    have hm495 : Mem [] M w0 [.sl (Kd.int .i64) A486 c487 r275.1.Shape, .ow Kd.float 47 A488 c489 r275.1.Data, .sl (Kd.int .i64) (some ⟨b477, 0, none⟩) 2 ([(w64 (1 + (Int.tmod (w64 (x1)) 9))), (w64 (Int.tdiv (x0.length : Int) (w64 (1 + (Int.tmod (w64 (x1)) 9)))))] : List Int), .bx b470 [.slice none 0 0, .slice none 0 0] 42, .bx b210 [.slice A197 r193.1.Shape.length c198, .slice A199 r193.1.Data.length c200] 42, .sl (Kd.int .i64) A197 c198 r193.1.Shape, .sl Kd.float A199 c200 r193.1.Data, .sl Kd.float A82 c83 r84.2.2, .bx b61 [.slice (some ⟨b52, 0, none⟩) 1 1, .slice A82 r84.2.2.length c83] 42, .sl (Kd.int .i64) (some ⟨b52, 0, none⟩) 1 ([(x0.length : Int)] : List Int), .sl (Kd.int .i16) A0 c0 x0] w490 := hm494.seal 0 _ rfl rfl
                    have hm496 : Mem [] M w0 [.sl (Kd.int .i64) A486 c487 r275.1.Shape, .sl Kd.float A488 c489 r275.1.Data, .sl (Kd.int .i64) (some ⟨b477, 0, none⟩) 2 ([(w64 (1 + (Int.tmod (w64 (x1)) 9))), (w64 (Int.tdiv (x0.length : Int) (w64 (1 + (Int.tmod (w64 (x1)) 9)))))] : List Int), .bx b470 [.slice none 0 0, .slice none 0 0] 42, .bx b210 [.slice A197 r193.1.Shape.length c198, .slice A199 r193.1.Data.length c200] 42, .sl (Kd.int .i64) A197 c198 r193.1.Shape, .sl Kd.float A199 c200 r193.1.Data, .sl Kd.float A82 c83 r84.2.2, .bx b61 [.slice (some ⟨b52, 0, none⟩) 1 1, .slice A82 r84.2.2.length c83] 42, .sl (Kd.int .i64) (some ⟨b52, 0, none⟩) 1 ([(x0.length : Int)] : List Int), .sl (Kd.int .i16) A0 c0 x0] w490 := hm495.seal 1 _ rfl rfl
                    refine quiet0 [10, 11, 12] [] [9, 11, 93, 94] #[true, true, true, true, true, true, true, true, true, true, true, true, true, true, false, false] [(9, .pointer (some ⟨b210, 0, none⟩)), (11, .pointer (some ⟨b470, 0, none⟩)), (93, .agg #[.slice A486 r275.1.Shape.length c487, .slice A488 r275.1.Data.length c489]), (94, .int .i64 r275.2)] [] 2 rfl (by kernel_rfl) (fun _ _ _ _ _ h => nomatch h.1) hf492 (by kernel_rfl) trivial fun a497 hf498 => ?_
                    refine all1 14 (by kernel_rfl) ?_
                    refine opOf hf498 rfl (by kernel_rfl) (aStoreB (b := b470) (j := 0) (T := 42) (cs := [.slice none 0 0, .slice none 0 0]) (us := [.slice A486 r275.1.Shape.length c487, .slice A488 r275.1.Data.length c489]) (cs' := [.slice A486 r275.1.Shape.length c487, .slice A488 r275.1.Data.length c489]) hf498 (by kernel_rfl) (hm496.bxAt 3 rfl) (by kernel_rfl) (by kernel_rfl) (by kernel_rfl) ?_)
                    intro w499 hx500 hg501
                    refine ⟨.inl (by decide), ?_⟩
                    have hm502 : Mem [] M w0 [.sl (Kd.int .i64) A486 c487 r275.1.Shape, .sl Kd.float A488 c489 r275.1.Data, .sl (Kd.int .i64) (some ⟨b477, 0, none⟩) 2 ([(w64 (1 + (Int.tmod (w64 (x1)) 9))), (w64 (Int.tdiv (x0.length : Int) (w64 (1 + (Int.tmod (w64 (x1)) 9)))))] : List Int), .bx b470 [.slice A486 r275.1.Shape.length c487, .slice A488 r275.1.Data.length c489] 42, .bx b210 [.slice A197 r193.1.Shape.length c198, .slice A199 r193.1.Data.length c200] 42, .sl (Kd.int .i64) A197 c198 r193.1.Shape, .sl Kd.float A199 c200 r193.1.Data, .sl Kd.float A82 c83 r84.2.2, .bx b61 [.slice (some ⟨b52, 0, none⟩) 1 1, .slice A82 r84.2.2.length c83] 42, .sl (Kd.int .i64) (some ⟨b52, 0, none⟩) 1 ([(x0.length : Int)] : List Int), .sl (Kd.int .i16) A0 c0 x0] w499 := hm496.setBox 3 _ rfl rfl hx500 hg501
                    refine quiet0 [15] [] [9, 11, 12] #[true, true, true, true, true, true, true, true, true, true, true, true, true, true, true, true] [(9, .pointer (some ⟨b210, 0, none⟩)), (11, .pointer (some ⟨b470, 0, none⟩)), (12, .int .i64 r275.2)] [] 0 rfl (by kernel_rfl) (fun _ _ _ _ _ h => nomatch h.1) hf498 (by kernel_rfl) trivial fun a503 hf504 => ?_
                    refine allDone (by kernel_rfl) ⟨rfl, b470, A486, c487, A488, c489, hf504.sel (l := [9, 11, 12]) (by kernel_rfl), hm502.sel [3, 0, 1, 4, 5, 6] _ rfl (by kernel_rfl)⟩
                rintro a505 w506 ⟨b294, A283, c284, A285, c286, hf507, hm508⟩
                refine thenN ?_
                refine wp_seq ?_
                rcases if_split H0 with ⟨c509, H0⟩ | ⟨c509, H0⟩
                · obtain ⟨r510, hr510, H0⟩ := ob_split H0
                  refine inReg ?_
                  refine go 5 [.bool true, .agg #[.slice A197 r193.1.Shape.length c198, .slice A199 r193.1.Data.length c200], .agg #[.slice A283 r275.1.Shape.length c284, .slice A285 r275.1.Data.length c286]] [97, 98, 99] [(97, .bool true), (98, .agg #[.slice A197 r193.1.Shape.length c198, .slice A199 r193.1.Data.length c200]), (99, .agg #[.slice A283 r275.1.Shape.length c284, .slice A285 r275.1.Data.length c286])] [.is (((r275.2 : Int) == 0) = true), .cell ⟨b210, 0, none⟩ (.slice A197 r193.1.Shape.length c198), .cell ⟨b210, 1, none⟩ (.slice A199 r193.1.Data.length c200), .cell ⟨b294, 0, none⟩ (.slice A283 r275.1.Shape.length c284), .cell ⟨b294, 1, none⟩ (.slice A285 r275.1.Data.length c286)] hf507 (by kernel_rfl) ⟨(eqT c509), (hm508.cell 3 rfl rfl), (hm508.cell 3 rfl rfl), (hm508.cell 0 rfl rfl), (hm508.cell 0 rfl rfl), trivial⟩ fun a511 hf512 => ?_
                  refine listOf hf512 rfl (by kernel_rfl) (aCall (fid := 40) (args := [.agg #[.slice A197 r193.1.Shape.length c198, .slice A199 r193.1.Data.length c200], .agg #[.slice A283 r275.1.Shape.length c284, .slice A285 r275.1.Data.length c286]]) (d := 100) hf512 (by kernel_rfl) (by kernel_rfl) callable40 (ref1_SameTensor.calls _ _ r193.1 A197 r193.1.Shape.length c198 rfl A199 r193.1.Data.length c200 rfl r275.1 A283 r275.1.Shape.length c284 rfl A285 r275.1.Data.length c286 rfl (hm508.give [4, 5, 1, 2] [.sl (Kd.int .i64) A197 c198 r193.1.Shape, .sl Kd.float A199 c200 r193.1.Data, .sl (Kd.int .i64) A283 c284 r275.1.Shape, .sl Kd.float A285 c286 r275.1.Data] rfl rfl) r510 hr510) ?_)
                  rintro _ w513 a514 ⟨rfl, hk516⟩ hf515
                  have hm517 : Mem [] M w0 [.bx b294 [.slice A283 r275.1.Shape.length c284, .slice A285 r275.1.Data.length c286] 42, .sl (Kd.int .i64) A283 c284 r275.1.Shape, .sl Kd.float A285 c286 r275.1.Data, .bx b210 [.slice A197 r193.1.Shape.length c198, .slice A199 r193.1.Data.length c200] 42, .sl (Kd.int .i64) A197 c198 r193.1.Shape, .sl Kd.float A199 c200 r193.1.Data] w513 := hm508.still hk516.cum.none
                  refine go 2 [] [4] [(4, .bool r510)] [] hf515 (by kernel_rfl) trivial fun a518 hf519 => ?_
                  refine endL rfl ?_
                  have hm520 : Mem [] M w0 [] w513 := hm517.sel [] _ rfl (by kernel_rfl)
                  refine thenN ?_
                  refine wp_ret ?_
                  have hm521 : Mem [] M w0 [] w513 := hm520.sel [] _ rfl (by kernel_rfl)
                  obtain rfl := Option.some.inj H0
                  refine ret [] [.bool r510] [] hf519 (by kernel_rfl) trivial ?_
                  exact ⟨_, rfl, rfl, hm521⟩
                · refine reg [.bool false] [4] [(4, .bool false)] [.is (((r275.2 : Int) == 0) = false)] hf507 (by kernel_rfl) ⟨(eqF c509), trivial⟩ fun a523 hf524 => ?_
                  have hm525 : Mem [] M w0 [] w506 := hm508.sel [] _ rfl (by kernel_rfl)
                  refine thenN ?_
                  refine wp_ret ?_
                  have hm526 : Mem [] M w0 [] w506 := hm525.sel [] _ rfl (by kernel_rfl)
                  obtain rfl := Option.some.inj H0
                  refine ret [] [.bool false] [] hf524 (by kernel_rfl) trivial ?_
                  exact ⟨_, rfl, rfl, hm526⟩
              · refine reg [.bool true] [0, 5, 8, 9, 81] [(0, .slice A0 x0.length c0), (5, .pointer (some ⟨b61, 0, none⟩)), (8, .int .i64 (w64 (1 + (Int.tmod (w64 (x1)) 9)))), (9, .pointer (some ⟨b210, 0, none⟩)), (81, .bool true)] [.is ((w64 (1 + (Int.tmod (w64 (x1)) 9))) ≠ 0), .is ((((Int.tmod (x0.length : Int) (w64 (1 + (Int.tmod (w64 (x1)) 9)))) : Int) != 0) = true)] hf269 (by kernel_rfl) ⟨g271, (neT c272), trivial⟩ fun a528 hf529 => ?_
                refine thenN ?_
                refine condT hf529 (by kernel_rfl) ?_
                refine wp_seq ?_
                refine reg [] [4] [(4, .bool true)] [] hf529 (by kernel_rfl) trivial fun a530 hf531 => ?_
                have hm532 : Mem [] M w0 [] w261 := hm270.sel [] _ rfl (by kernel_rfl)
                refine thenN ?_
                refine wp_ret ?_
                refine thenR ?_
                have hm533 : Mem [] M w0 [] w261 := hm532.sel [] _ rfl (by kernel_rfl)
                obtain rfl := Option.some.inj H0
                refine ret [] [.bool true] [] hf531 (by kernel_rfl) trivial ?_
                exact ⟨_, rfl, rfl, hm533⟩
          · refine inReg ?_
            refine go 5 [.bool false, .slice A197 r193.1.Shape.length c198] [0, 5, 6, 8, 9, 61, 63] [(0, .slice A0 x0.length c0), (5, .pointer (some ⟨b61, 0, none⟩)), (6, .int .i64 r84.1), (8, .int .i64 (w64 (1 + (Int.tmod (w64 (x1)) 9)))), (9, .pointer (some ⟨b210, 0, none⟩)), (61, .bool false), (63, .slice A197 r193.1.Shape.length c198)] [.is (((r193.2 : Int) != 0) = false), .cell ⟨b210, 0, none⟩ (.slice A197 r193.1.Shape.length c198)] hf222 (by kernel_rfl) ⟨(neF c223), (hm220.cell 0 rfl rfl), trivial⟩ fun a535 hf536 => ?_
            refine listOf hf536 rfl (by kernel_rfl) (aLit (cs := [.int .i64 1]) (E := 3) (len := 1) (d := 64) hf536 (by kernel_rfl) (by kernel_rfl) ?_)
            intro b537 w538 a539 hbb537 hx541 hg542 hf540
            have hm220s := hm220.still hg542
            have hm543 : Mem [] M w0 [.sl (Kd.int .i64) (some ⟨b537, 0, none⟩) 1 ([1] : List Int), .bx b210 [.slice A197 r193.1.Shape.length c198, .slice A199 r193.1.Data.length c200] 42, .sl (Kd.int .i64) A197 c198 r193.1.Shape, .sl Kd.float A199 c200 r193.1.Data, .sl Kd.float A82 c83 r84.2.2, .bx b61 [.slice (some ⟨b52, 0, none⟩) 1 1, .slice A82 r84.2.2.length c83] 42, .sl (Kd.int .i64) (some ⟨b52, 0, none⟩) 1 ([(x0.length : Int)] : List Int), .sl (Kd.int .i16) A0 c0 x0] w538 := Mem.lit (kd := (Kd.int .i64)) (xs := ([1] : List Int)) hm220 hbb537 hx541 hg542 (Els.one (kd := (Kd.int .i64)) (us := [.int .i64 1]) (x := 1) rfl)
            refine listOf hf540 rfl (by kernel_rfl) (aCall (fid := 18) (args := [.slice A197 r193.1.Shape.length c198, .slice (some ⟨b537, 0, none⟩) 1 1]) (d := 65) hf540 (by kernel_rfl) (by kernel_rfl) callable18 (ref1_SameInts.calls _ _ r193.1.Shape A197 r193.1.Shape.length c198 rfl ([1] : List Int) (some ⟨b537, 0, none⟩) 1 1 rfl (hm543.give [2, 0] [.sl (Kd.int .i64) A197 c198 r193.1.Shape, .sl (Kd.int .i64) (some ⟨b537, 0, none⟩) 1 ([1] : List Int)] rfl rfl) r224 hr224) ?_)
            rintro _ w544 a545 ⟨rfl, hk547⟩ hf546
            have hm548 : Mem [] M w0 [.sl (Kd.int .i64) (some ⟨b537, 0, none⟩) 1 ([1] : List Int), .bx b210 [.slice A197 r193.1.Shape.length c198, .slice A199 r193.1.Data.length c200] 42, .sl (Kd.int .i64) A197 c198 r193.1.Shape, .sl Kd.float A199 c200 r193.1.Data, .sl Kd.float A82 c83 r84.2.2, .bx b61 [.slice (some ⟨b52, 0, none⟩) 1 1, .slice A82 r84.2.2.length c83] 42, .sl (Kd.int .i64) (some ⟨b52, 0, none⟩) 1 ([(x0.length : Int)] : List Int), .sl (Kd.int .i16) A0 c0 x0] w544 := hm543.still hk547.cum.none
            rw [c225] at hf546
            refine go 11 [] [0, 5, 8, 9, 76] [(0, .slice A0 x0.length c0), (5, .pointer (some ⟨b61, 0, none⟩)), (8, .int .i64 (w64 (1 + (Int.tmod (w64 (x1)) 9)))), (9, .pointer (some ⟨b210, 0, none⟩)), (76, .bool true)] [] hf546 (by kernel_rfl) trivial fun a549 hf550 => ?_
            refine endL rfl ?_
            have hm551 : Mem [] M w0 [.bx b210 [.slice A197 r193.1.Shape.length c198, .slice A199 r193.1.Data.length c200] 42, .sl (Kd.int .i64) A197 c198 r193.1.Shape, .sl Kd.float A199 c200 r193.1.Data, .sl Kd.float A82 c83 r84.2.2, .bx b61 [.slice (some ⟨b52, 0, none⟩) 1 1, .slice A82 r84.2.2.length c83] 42, .sl (Kd.int .i64) (some ⟨b52, 0, none⟩) 1 ([(x0.length : Int)] : List Int), .sl (Kd.int .i16) A0 c0 x0] w544 := hm548.sel [1, 2, 3, 4, 5, 6, 7] _ rfl (by kernel_rfl)
            refine thenN ?_
            refine condT hf550 (by kernel_rfl) ?_
            refine wp_seq ?_
            refine reg [] [4] [(4, .bool false)] [] hf550 (by kernel_rfl) trivial fun a552 hf553 => ?_
            have hm554 : Mem [] M w0 [] w544 := hm551.sel [] _ rfl (by kernel_rfl)
            refine thenN ?_
            refine wp_ret ?_
            refine thenR ?_
            have hm555 : Mem [] M w0 [] w544 := hm554.sel [] _ rfl (by kernel_rfl)
            obtain rfl := Option.some.inj H0
            refine ret [] [.bool false] [] hf553 (by kernel_rfl) trivial ?_
            exact ⟨_, rfl, rfl, hm555⟩
        · refine reg [.bool true] [0, 5, 8, 9, 76] [(0, .slice A0 x0.length c0), (5, .pointer (some ⟨b61, 0, none⟩)), (8, .int .i64 (w64 (1 + (Int.tmod (w64 (x1)) 9)))), (9, .pointer (some ⟨b210, 0, none⟩)), (76, .bool true)] [.is (((r193.2 : Int) != 0) = true)] hf222 (by kernel_rfl) ⟨(neT c223), trivial⟩ fun a557 hf558 => ?_
          refine thenN ?_
          refine condT hf558 (by kernel_rfl) ?_
          refine wp_seq ?_
          refine reg [] [4] [(4, .bool false)] [] hf558 (by kernel_rfl) trivial fun a559 hf560 => ?_
          have hm561 : Mem [] M w0 [] w217 := hm220.sel [] _ rfl (by kernel_rfl)
          refine thenN ?_
          refine wp_ret ?_
          refine thenR ?_
          have hm562 : Mem [] M w0 [] w217 := hm561.sel [] _ rfl (by kernel_rfl)
          obtain rfl := Option.some.inj H0
          refine ret [] [.bool false] [] hf560 (by kernel_rfl) trivial ?_
          exact ⟨_, rfl, rfl, hm562⟩
  · refine inReg ?_
    refine listOf hf22 rfl (by kernel_rfl) (aCall (fid := 32) (args := []) (d := 13) hf22 (by kernel_rfl) (by kernel_rfl) callable32 (law5_awake.calls _ _  (hm0.give [] [] rfl rfl) r23 hr23) ?_)
    rintro _ w564 a565 ⟨rfl, hk567⟩ hf566
    have hm568 : Mem [] M w0 [.sl (Kd.int .i16) A0 c0 x0] w564 := hm0.still hk567.cum.none
    rw [c24] at hf566
    refine go 1 [] [0, 1, 14] [(0, .slice A0 x0.length c0), (1, .int .u8 x1), (14, .bool true)] [] hf566 (by kernel_rfl) trivial fun a569 hf570 => ?_
    refine endL rfl ?_
    refine thenN ?_
    refine condT hf570 (by kernel_rfl) ?_
    refine wp_seq ?_
    refine reg [] [4] [(4, .bool false)] [] hf570 (by kernel_rfl) trivial fun a571 hf572 => ?_
    have hm573 : Mem [] M w0 [] w564 := hm568.sel [] _ rfl (by kernel_rfl)
    refine thenN ?_
    refine wp_ret ?_
    refine thenR ?_
    have hm574 : Mem [] M w0 [] w564 := hm573.sel [] _ rfl (by kernel_rfl)
    obtain rfl := Option.some.inj H0
    refine ret [] [.bool false] [] hf572 (by kernel_rfl) trivial ?_
    exact ⟨_, rfl, rfl, hm574⟩
end Go.Proofs.Ytkcgiolledmbnaa
