/- Printed by gen.py. -/
import Derived.Test.YtkcgiolledmbnabF11
import Derived.Test.YtkcgiolledmbnabF18
import Derived.Test.YtkcgiolledmbnabF7
namespace Go.Proofs.Ytkcgiolledmbnab
open Go Go.RowKit
set_option linter.unusedSimpArgs false
set_option linter.unusedVariables false
set_option linter.unnecessarySimpa false
/-! ### backstitch/backstitchlaw3.TensorHands -/
noncomputable def law3_TensorHands.l0 (x1 : Nat) (s1606 : (Int × (List Nat) × (List Nat))) : Step (Int × (List Nat) × (List Nat)) (Int × (List Nat) × (List Nat)) :=
  if s1606.1 < (s1606.2.2.length : Int) then (if 0 ≤ s1606.1 ∧ s1606.1 < (s1606.2.2.length : Int) then (if 0 ≤ s1606.1 ∧ s1606.1 < (s1606.2.1.length : Int) then (.next ((w64 (s1606.1 + 1)), (put s1606.2.1 s1606.1 x1), (put s1606.2.2 s1606.1 x1)))
  else .bad)
  else .bad)
  else (.done (s1606.1, s1606.2.1, s1606.2.2))
noncomputable def law3_TensorHands.l1  (s1713 : (Int × (List Int) × (List Int))) : Step (Int × (List Int) × (List Int)) (Int × (List Int) × (List Int)) :=
  if s1713.1 < (s1713.2.2.length : Int) then (if 0 ≤ s1713.1 ∧ s1713.1 < (s1713.2.2.length : Int) then (if 0 ≤ s1713.1 ∧ s1713.1 < (s1713.2.1.length : Int) then (.next ((w64 (s1713.1 + 1)), (put s1713.2.1 s1713.1 77), (put s1713.2.2 s1713.1 77)))
  else .bad)
  else .bad)
  else (.done (s1713.1, s1713.2.1, s1713.2.2))
noncomputable def law3_TensorHands.f (x0 : Tensor) (x1 : Nat) : Option Bool :=
  (law3_awake.f).bind fun r30 =>
  if r30 = true then ((law3_Small.f x0).bind fun r39 =>
  if r39 = true then ((ref1_TensorMay.f x0).bind fun r41 =>
  if r41 = true then (if 0 + x0.Shape.length ≤ 549755813888 then (if 0 + x0.Data.length ≤ 549755813888 then ((tensor_Of.f x0.Shape x0.Data).bind fun r1551 =>
  (tensor_Map_math_Abs.f x0).bind fun r1578 =>
  if r1551.2 = 0 then ((loop (law3_TensorHands.l0 x1) (0, r1578.Data, r1551.1.Data)).bind fun r1607 =>
  (loop (law3_TensorHands.l1) (0, r1578.Shape, r1551.1.Shape)).bind fun r1714 =>
  (ref1_SameTensor.f x0 (⟨(([] : List Int) ++ x0.Shape), (([] : List Nat) ++ x0.Data)⟩ : Tensor)).bind fun r1810 =>
  some r1810)
  else (some false))
  else none)
  else none)
  else (some true))
  else (some true))
  else (some false)
set_option maxRecDepth 100000 in
set_option maxHeartbeats 4000000 in
theorem law3_TensorHands.calls (M : List (Option Nat)) (w0 : World) (x0 : Tensor) (A0_0 : Option Addr) (n0_0 c0_0 : Nat) (e0_0 : n0_0 = x0.Shape.length) (A0_1 : Option Addr) (n0_1 c0_1 : Nat) (e0_1 : n0_1 = x0.Data.length) (x1 : Nat) (b1 : Nat) (h1 : FR b1 x1) (hm0 : Mem [] M w0 [.sl (Kd.int .i64) A0_0 c0_0 x0.Shape, .sl Kd.float A0_1 c0_1 x0.Data] w0) (r : Bool) (H0 : law3_TensorHands.f x0 x1 = some r) :
    Calls Try.prog 11 [.agg #[.slice A0_0 n0_0 c0_0, .slice A0_1 n0_1 c0_1], .float .f64 b1].toArray w0 (fun x w' => ∃ v, x = .returned v ∧ v = .bool r ∧ Mem [] M w0 [] w') := by
  subst e0_0
  subst e0_1
  unfold law3_TensorHands.f at H0
  refine enter (n := 77) Try.func11 rfl rfl (by kernel_rfl) fun a0 (hf0 : Fr 77 a0 [(0, .agg #[.slice A0_0 x0.Shape.length c0_0, .slice A0_1 x0.Data.length c0_1]), (1, .float .f64 b1)]) => ?_
  refine wp_seq ?_
  refine inReg ?_
  refine listOf hf0 rfl (by kernel_rfl) (aNew (cs := [.slice A0_0 x0.Shape.length c0_0, .slice A0_1 x0.Data.length c0_1]) (T := 28) (d := 2) hf0 (by kernel_rfl) (by kernel_rfl) ?_)
  intro b21 w22 a23 hbb21 hx25 hg26 hf24
  have hm27 := hm0.box hbb21 hx25 hg26
  refine go 1 [] [1, 2] [(1, .float .f64 b1), (2, .pointer (some ⟨b21, 0, none⟩))] [] hf24 (by kernel_rfl) trivial fun a28 hf29 => ?_
  refine endL rfl ?_
  refine thenN ?_
  refine wp_seq ?_
  refine wp_seq ?_
  obtain ⟨r30, hr30, H0⟩ := ob_split H0
  rcases ifb_split H0 with ⟨c31, H0⟩ | ⟨c31, H0⟩
  · refine inReg ?_
    refine listOf hf29 rfl (by kernel_rfl) (aCall (fid := 26) (args := []) (d := 11) hf29 (by kernel_rfl) (by kernel_rfl) callable26 (law3_awake.calls _ _  (hm27.give [] [] rfl rfl) r30 hr30) ?_)
    rintro _ w32 a33 ⟨rfl, hk35⟩ hf34
    have hm36 := hm27.still hk35.cum.none
    rw [c31] at hf34
    refine go 1 [] [1, 2, 12] [(1, .float .f64 b1), (2, .pointer (some ⟨b21, 0, none⟩)), (12, .bool false)] [] hf34 (by kernel_rfl) trivial fun a37 hf38 => ?_
    refine endL rfl ?_
    refine thenN ?_
    refine condF hf38 (by kernel_rfl) ?_
    refine wp_skip ?_
    refine thenN ?_
    refine wp_seq ?_
    refine wp_seq ?_
    obtain ⟨r39, hr39, H0⟩ := ob_split H0
    rcases ifb_split H0 with ⟨c40, H0⟩ | ⟨c40, H0⟩
    · obtain ⟨r41, hr41, H0⟩ := ob_split H0
      rcases ifb_split H0 with ⟨c42, H0⟩ | ⟨c42, H0⟩
      · refine inReg ?_
        refine go 1 [.agg #[.slice A0_0 x0.Shape.length c0_0, .slice A0_1 x0.Data.length c0_1]] [1, 2, 13] [(1, .float .f64 b1), (2, .pointer (some ⟨b21, 0, none⟩)), (13, .agg #[.slice A0_0 x0.Shape.length c0_0, .slice A0_1 x0.Data.length c0_1])] [.cell ⟨b21, 0, none⟩ (.slice A0_0 x0.Shape.length c0_0), .cell ⟨b21, 1, none⟩ (.slice A0_1 x0.Data.length c0_1)] hf38 (by kernel_rfl) ⟨(hm36.cell 0 rfl rfl), (hm36.cell 0 rfl rfl), trivial⟩ fun a43 hf44 => ?_
        refine listOf hf44 rfl (by kernel_rfl) (aCall (fid := 31) (args := [.agg #[.slice A0_0 x0.Shape.length c0_0, .slice A0_1 x0.Data.length c0_1]]) (d := 14) hf44 (by kernel_rfl) (by kernel_rfl) callable31 (law3_Small.calls _ _ x0 A0_0 x0.Shape.length c0_0 rfl A0_1 x0.Data.length c0_1 rfl (hm36.give [1, 2] [.sl (Kd.int .i64) A0_0 c0_0 x0.Shape, .sl Kd.float A0_1 c0_1 x0.Data] rfl rfl) r39 hr39) ?_)
        rintro _ w45 a46 ⟨rfl, hk48⟩ hf47
        have hm49 := hm36.still hk48.cum.none
        rw [c40] at hf47
        refine go 3 [.agg #[.slice A0_0 x0.Shape.length c0_0, .slice A0_1 x0.Data.length c0_1]] [1, 2, 16, 17] [(1, .float .f64 b1), (2, .pointer (some ⟨b21, 0, none⟩)), (16, .bool false), (17, .agg #[.slice A0_0 x0.Shape.length c0_0, .slice A0_1 x0.Data.length c0_1])] [.cell ⟨b21, 0, none⟩ (.slice A0_0 x0.Shape.length c0_0), .cell ⟨b21, 1, none⟩ (.slice A0_1 x0.Data.length c0_1)] hf47 (by kernel_rfl) ⟨(hm49.cell 0 rfl rfl), (hm49.cell 0 rfl rfl), trivial⟩ fun a50 hf51 => ?_
        refine listOf hf51 rfl (by kernel_rfl) (aCall (fid := 32) (args := [.agg #[.slice A0_0 x0.Shape.length c0_0, .slice A0_1 x0.Data.length c0_1]]) (d := 18) hf51 (by kernel_rfl) (by kernel_rfl) callable32 (ref1_TensorMay.calls _ _ x0 A0_0 x0.Shape.length c0_0 rfl A0_1 x0.Data.length c0_1 rfl (hm49.give [1, 2] [.sl (Kd.int .i64) A0_0 c0_0 x0.Shape, .sl Kd.float A0_1 c0_1 x0.Data] rfl rfl) r41 hr41) ?_)
        rintro _ w52 a53 ⟨rfl, hk55⟩ hf54
        have hm56 := hm49.still hk55.cum.none
        rw [c42] at hf54
        refine go 2 [] [1, 2, 20] [(1, .float .f64 b1), (2, .pointer (some ⟨b21, 0, none⟩)), (20, .bool false)] [] hf54 (by kernel_rfl) trivial fun a57 hf58 => ?_
        refine endL rfl ?_
        refine thenN ?_
        refine condF hf58 (by kernel_rfl) ?_
        refine wp_skip ?_
        refine thenN ?_
        refine wp_seq ?_
        obtain ⟨g59, H0⟩ := if_guard H0
        obtain ⟨g60, H0⟩ := if_guard H0
        refine midReg (fun (a : Act) (w : World) => ∃ (b98 : Nat) (A69 : Option Addr) (c70 : Nat) (A87 : Option Addr) (c88 : Nat), Fr 77 a [(1, .float .f64 b1), (2, .pointer (some ⟨b21, 0, none⟩)), (5, .pointer (some ⟨b98, 0, none⟩))] ∧ Mem [] M w0 [.bx b98 [.slice A69 ((([] : List Int) ++ x0.Shape).length) c70, .slice A87 ((([] : List Nat) ++ x0.Data).length) c88] 28, .ow Kd.float 44 A87 c88 (([] : List Nat) ++ x0.Data), .ow (Kd.int .i64) 3 A69 c70 (([] : List Int) ++ x0.Shape), .bx b21 [.slice A0_0 x0.Shape.length c0_0, .slice A0_1 x0.Data.length c0_1] 28, .sl (Kd.int .i64) A0_0 c0_0 x0.Shape, .sl Kd.float A0_1 c0_1 x0.Data] w) ?_ ?_
        · refine anyG [3, 7, 10] (by kernel_rfl) fun w109 hg110 => ?_
          have hm111 := hm56.still hg110
          refine memoStep (R := fun (a : Act) (w : World) => ∃ (A121 : Option Addr) (c122 : Nat) (b132 : Nat), Fr 77 a [(1, .float .f64 b1), (2, .pointer (some ⟨b21, 0, none⟩)), (23, .slice A0_0 x0.Shape.length c0_0), (24, .slice A121 ((([] : List Int) ++ x0.Shape).length) c122), (25, .slice (some ⟨b132, 0, none⟩) 0 0), (26, .pointer (some ⟨b21, 1, none⟩)), (27, .slice A0_1 x0.Data.length c0_1)] ∧ Mem [] M w0 [.ow Kd.float 44 (some ⟨b132, 0, none⟩) 0 ([] : List Nat), .ow (Kd.int .i64) 3 A121 c122 (([] : List Int) ++ x0.Shape), .bx b21 [.slice A0_0 x0.Shape.length c0_0, .slice A0_1 x0.Data.length c0_1] 28, .sl (Kd.int .i64) A0_0 c0_0 x0.Shape, .sl Kd.float A0_1 c0_1 x0.Data] w) #[true, true, true, true, true, true, true, false, false, false, false] 4 ?_ fun L782 => ?_
          · rintro a783 w784 ⟨A121, c122, b132, hf785, hm786⟩
            refine all2 7 9 (by kernel_rfl) ?_ ?_
            · have e795 : 0 = ([] : List Nat).length := rfl
              have e796 : x0.Data.length = x0.Data.length := rfl
              refine opOf hf785 rfl (by kernel_rfl) (aApp (kd := Kd.float) (base := 0) (E := 44) (A := (some ⟨b132, 0, none⟩)) (B := A0_1) (c := 0) (c2 := c0_1) (xs := ([] : List Nat)) (ys := x0.Data) (k := 0) (m := x0.Data.length) (sz := 1) (d := 28) hf785 (by kernel_rfl) e795 e796 (by kernel_rfl) rfl (by kernel_rfl) (hm786.at 0 rfl) (hm786.at2 0 4 rfl rfl).2 (hm786.cpAt 4 rfl) (Nat.zero_le _) (by have := g60; omega) ?_)
              intro A787 c788 w789 a790 ho792 hg793 hr794 hf791
              refine ⟨.inl (by decide), ?_⟩
              have hm797 : Mem [] M w0 [.ow Kd.float 44 A787 c788 (([] : List Nat) ++ x0.Data), .ow (Kd.int .i64) 3 A121 c122 (([] : List Int) ++ x0.Shape), .bx b21 [.slice A0_0 x0.Shape.length c0_0, .slice A0_1 x0.Data.length c0_1] 28, .sl (Kd.int .i64) A0_0 c0_0 x0.Shape, .sl Kd.float A0_1 c0_1 x0.Data] w789 := hm786.setOwn 0 _ rfl rfl ho792 hg793 hr794
              refine quiet0 [8] [] [1, 2, 29] #[true, true, true, true, true, true, true, true, true, false, false] [(1, .float .f64 b1), (2, .pointer (some ⟨b21, 0, none⟩)), (29, .agg #[.slice A121 ((([] : List Int) ++ x0.Shape).length) c122, .slice A787 ((([] : List Nat) ++ x0.Data).length) c788])] [] 2 rfl (by kernel_rfl) (fun _ _ _ _ _ h => nomatch h.1) hf791 (by kernel_rfl) trivial fun a798 hf799 => ?_
              refine all1 9 (by kernel_rfl) ?_
              refine opOf hf799 rfl (by kernel_rfl) (aNew (cs := [.slice none 0 0, .slice none 0 0]) (T := 28) (d := 5) hf799 (by kernel_rfl) (by kernel_rfl) ?_)
              intro b800 w801 a802 hbb800 hx804 hg805 hf803
              refine ⟨.inr (Gr.still hg805), ?_⟩
              have hm806 := hm797.box hbb800 hx804 hg805
              refine all1 10 (by kernel_rfl) ?_
              refine opOf hf803 rfl (by kernel_rfl) (aStoreB (b := b800) (j := 0) (T := 28) (cs := [.slice none 0 0, .slice none 0 0]) (us := [.slice A121 ((([] : List Int) ++ x0.Shape).length) c122, .slice A787 ((([] : List Nat) ++ x0.Data).length) c788]) (cs' := [.slice A121 ((([] : List Int) ++ x0.Shape).length) c122, .slice A787 ((([] : List Nat) ++ x0.Data).length) c788]) hf803 (by kernel_rfl) (hm806.bxAt 0 rfl) (by kernel_rfl) (by kernel_rfl) (by kernel_rfl) ?_)
              intro w807 hx808 hg809
              refine ⟨.inl (by decide), ?_⟩
              have hm810 := hm806.setBox 0 _ rfl rfl hx808 hg809
              refine allDone (by kernel_rfl) ⟨rfl, b800, A121, c122, A787, c788, hf803.sel (l := [1, 2, 5]) (by kernel_rfl), hm810.sel [0, 1, 2, 3, 4, 5] _ rfl (by kernel_rfl)⟩
            · refine opOf hf785 rfl (by kernel_rfl) (aNew (cs := [.slice none 0 0, .slice none 0 0]) (T := 28) (d := 5) hf785 (by kernel_rfl) (by kernel_rfl) ?_)
              intro b811 w812 a813 hbb811 hx815 hg816 hf814
              refine ⟨.inr (Gr.still hg816), ?_⟩
              have hm817 := hm786.box hbb811 hx815 hg816
              refine all1 7 (by kernel_rfl) ?_
              have e826 : 0 = ([] : List Nat).length := rfl
              have e827 : x0.Data.length = x0.Data.length := rfl
              refine opOf hf814 rfl (by kernel_rfl) (aApp (kd := Kd.float) (base := 0) (E := 44) (A := (some ⟨b132, 0, none⟩)) (B := A0_1) (c := 0) (c2 := c0_1) (xs := ([] : List Nat)) (ys := x0.Data) (k := 0) (m := x0.Data.length) (sz := 1) (d := 28) hf814 (by kernel_rfl) e826 e827 (by kernel_rfl) rfl (by kernel_rfl) (hm817.at 1 rfl) (hm817.at2 1 5 rfl rfl).2 (hm817.cpAt 5 rfl) (Nat.zero_le _) (by have := g60; omega) ?_)
              intro A818 c819 w820 a821 ho823 hg824 hr825 hf822
              refine ⟨.inl (by decide), ?_⟩
              have hm828 : Mem [] M w0 [.bx b811 [.slice none 0 0, .slice none 0 0] 28, .ow Kd.float 44 A818 c819 (([] : List Nat) ++ x0.Data), .ow (Kd.int .i64) 3 A121 c122 (([] : List Int) ++ x0.Shape), .bx b21 [.slice A0_0 x0.Shape.length c0_0, .slice A0_1 x0.Data.length c0_1] 28, .sl (Kd.int .i64) A0_0 c0_0 x0.Shape, .sl Kd.float A0_1 c0_1 x0.Data] w820 := hm817.setOwn 1 _ rfl rfl ho823 hg824 hr825
              refine quiet0 [8] [] [1, 2, 5, 29] #[true, true, true, true, true, true, true, true, true, true, false] [(1, .float .f64 b1), (2, .pointer (some ⟨b21, 0, none⟩)), (5, .pointer (some ⟨b811, 0, none⟩)), (29, .agg #[.slice A121 ((([] : List Int) ++ x0.Shape).length) c122, .slice A818 ((([] : List Nat) ++ x0.Data).length) c819])] [] 1 rfl (by kernel_rfl) (fun _ _ _ _ _ h => nomatch h.1) hf822 (by kernel_rfl) trivial fun a829 hf830 => ?_
              refine all1 10 (by kernel_rfl) ?_
              refine opOf hf830 rfl (by kernel_rfl) (aStoreB (b := b811) (j := 0) (T := 28) (cs := [.slice none 0 0, .slice none 0 0]) (us := [.slice A121 ((([] : List Int) ++ x0.Shape).length) c122, .slice A818 ((([] : List Nat) ++ x0.Data).length) c819]) (cs' := [.slice A121 ((([] : List Int) ++ x0.Shape).length) c122, .slice A818 ((([] : List Nat) ++ x0.Data).length) c819]) hf830 (by kernel_rfl) (hm828.bxAt 0 rfl) (by kernel_rfl) (by kernel_rfl) (by kernel_rfl) ?_)
              intro w831 hx832 hg833
              refine ⟨.inl (by decide), ?_⟩
              have hm834 := hm828.setBox 0 _ rfl rfl hx832 hg833
              refine allDone (by kernel_rfl) ⟨rfl, b811, A121, c122, A818, c819, hf830.sel (l := [1, 2, 5]) (by kernel_rfl), hm834.sel [0, 1, 2, 3, 4, 5] _ rfl (by kernel_rfl)⟩
          refine memoStep (R := fun (a : Act) (w : World) => ∃ (A121 : Option Addr) (c122 : Nat) (b132 : Nat), Fr 77 a [(1, .float .f64 b1), (2, .pointer (some ⟨b21, 0, none⟩)), (23, .slice A0_0 x0.Shape.length c0_0), (24, .slice A121 ((([] : List Int) ++ x0.Shape).length) c122), (25, .slice (some ⟨b132, 0, none⟩) 0 0), (26, .pointer (some ⟨b21, 1, none⟩))] ∧ Mem [] M w0 [.ow Kd.float 44 (some ⟨b132, 0, none⟩) 0 ([] : List Nat), .ow (Kd.int .i64) 3 A121 c122 (([] : List Int) ++ x0.Shape), .bx b21 [.slice A0_0 x0.Shape.length c0_0, .slice A0_1 x0.Data.length c0_1] 28, .sl (Kd.int .i64) A0_0 c0_0 x0.Shape, .sl Kd.float A0_1 c0_1 x0.Data] w) #[true, true, true, true, true, true, false, false, false, false, false] 5 ?_ fun L835 => ?_
          · rintro a836 w837 ⟨A121, c122, b132, hf838, hm839⟩
            refine all2 6 9 (by kernel_rfl) ?_ ?_
            · refine opOf hf838 rfl (by kernel_rfl) (aOne [.slice A0_1 x0.Data.length c0_1] (.slice A0_1 x0.Data.length c0_1) [.cell ⟨b21, 1, none⟩ (.slice A0_1 x0.Data.length c0_1)] 27 hf838 (by kernel_rfl) rfl (by kernel_rfl) ⟨(hm839.cell 2 rfl rfl), trivial⟩ fun a840 hf841 => ?_)
              refine ⟨.inr (Gr.refl _ _), ?_⟩
              exact L782 _ _ ⟨A121, c122, b132, hf841.sel (l := [1, 2, 23, 24, 25, 26, 27]) (by kernel_rfl), hm839.sel [0, 1, 2, 3, 4] _ rfl (by kernel_rfl)⟩
            · refine opOf hf838 rfl (by kernel_rfl) (aNew (cs := [.slice none 0 0, .slice none 0 0]) (T := 28) (d := 5) hf838 (by kernel_rfl) (by kernel_rfl) ?_)
              intro b842 w843 a844 hbb842 hx846 hg847 hf845
              refine ⟨.inr (Gr.still hg847), ?_⟩
              have hm848 := hm839.box hbb842 hx846 hg847
              refine all1 6 (by kernel_rfl) ?_
              refine opOf hf845 rfl (by kernel_rfl) (aOne [.slice A0_1 x0.Data.length c0_1] (.slice A0_1 x0.Data.length c0_1) [.cell ⟨b21, 1, none⟩ (.slice A0_1 x0.Data.length c0_1)] 27 hf845 (by kernel_rfl) rfl (by kernel_rfl) ⟨(hm848.cell 3 rfl rfl), trivial⟩ fun a849 hf850 => ?_)
              refine ⟨.inr (Gr.refl _ _), ?_⟩
              refine all1 7 (by kernel_rfl) ?_
              have e859 : 0 = ([] : List Nat).length := rfl
              have e860 : x0.Data.length = x0.Data.length := rfl
              refine opOf hf850 rfl (by kernel_rfl) (aApp (kd := Kd.float) (base := 0) (E := 44) (A := (some ⟨b132, 0, none⟩)) (B := A0_1) (c := 0) (c2 := c0_1) (xs := ([] : List Nat)) (ys := x0.Data) (k := 0) (m := x0.Data.length) (sz := 1) (d := 28) hf850 (by kernel_rfl) e859 e860 (by kernel_rfl) rfl (by kernel_rfl) (hm848.at 1 rfl) (hm848.at2 1 5 rfl rfl).2 (hm848.cpAt 5 rfl) (Nat.zero_le _) (by have := g60; omega) ?_)
              intro A851 c852 w853 a854 ho856 hg857 hr858 hf855
              refine ⟨.inl (by decide), ?_⟩
              have hm861 : Mem [] M w0 [.bx b842 [.slice none 0 0, .slice none 0 0] 28, .ow Kd.float 44 A851 c852 (([] : List Nat) ++ x0.Data), .ow (Kd.int .i64) 3 A121 c122 (([] : List Int) ++ x0.Shape), .bx b21 [.slice A0_0 x0.Shape.length c0_0, .slice A0_1 x0.Data.length c0_1] 28, .sl (Kd.int .i64) A0_0 c0_0 x0.Shape, .sl Kd.float A0_1 c0_1 x0.Data] w853 := hm848.setOwn 1 _ rfl rfl ho856 hg857 hr858
              refine quiet0 [8] [] [1, 2, 5, 29] #[true, true, true, true, true, true, true, true, true, true, false] [(1, .float .f64 b1), (2, .pointer (some ⟨b21, 0, none⟩)), (5, .pointer (some ⟨b842, 0, none⟩)), (29, .agg #[.slice A121 ((([] : List Int) ++ x0.Shape).length) c122, .slice A851 ((([] : List Nat) ++ x0.Data).length) c852])] [] 1 rfl (by kernel_rfl) (fun _ _ _ _ _ h => nomatch h.1) hf855 (by kernel_rfl) trivial fun a862 hf863 => ?_
              refine all1 10 (by kernel_rfl) ?_
              refine opOf hf863 rfl (by kernel_rfl) (aStoreB (b := b842) (j := 0) (T := 28) (cs := [.slice none 0 0, .slice none 0 0]) (us := [.slice A121 ((([] : List Int) ++ x0.Shape).length) c122, .slice A851 ((([] : List Nat) ++ x0.Data).length) c852]) (cs' := [.slice A121 ((([] : List Int) ++ x0.Shape).length) c122, .slice A851 ((([] : List Nat) ++ x0.Data).length) c852]) hf863 (by kernel_rfl) (hm861.bxAt 0 rfl) (by kernel_rfl) (by kernel_rfl) (by kernel_rfl) ?_)
              intro w864 hx865 hg866
              refine ⟨.inl (by decide), ?_⟩
              have hm867 := hm861.setBox 0 _ rfl rfl hx865 hg866
              refine allDone (by kernel_rfl) ⟨rfl, b842, A121, c122, A851, c852, hf863.sel (l := [1, 2, 5]) (by kernel_rfl), hm867.sel [0, 1, 2, 3, 4, 5] _ rfl (by kernel_rfl)⟩
          refine memoStep (R := fun (a : Act) (w : World) => ∃ (A121 : Option Addr) (c122 : Nat), Fr 77 a [(1, .float .f64 b1), (2, .pointer (some ⟨b21, 0, none⟩)), (23, .slice A0_0 x0.Shape.length c0_0), (24, .slice A121 ((([] : List Int) ++ x0.Shape).length) c122), (26, .pointer (some ⟨b21, 1, none⟩)), (27, .slice A0_1 x0.Data.length c0_1)] ∧ Mem [] M w0 [.ow (Kd.int .i64) 3 A121 c122 (([] : List Int) ++ x0.Shape), .bx b21 [.slice A0_0 x0.Shape.length c0_0, .slice A0_1 x0.Data.length c0_1] 28, .sl (Kd.int .i64) A0_0 c0_0 x0.Shape, .sl Kd.float A0_1 c0_1 x0.Data] w) #[true, true, true, true, false, true, true, false, false, false, false] 5 ?_ fun L868 => ?_
          · rintro a869 w870 ⟨A121, c122, hf871, hm872⟩
            refine all2 4 9 (by kernel_rfl) ?_ ?_
            · refine opOf hf871 rfl (by kernel_rfl) (aLit (cs := []) (E := 44) (len := 0) (d := 25) hf871 (by kernel_rfl) (by kernel_rfl) ?_)
              intro b873 w874 a875 hbb873 hx877 hg878 hf876
              refine ⟨.inr (Gr.still hg878), ?_⟩
              have hm879 : Mem [] M w0 [.ow Kd.float 44 (some ⟨b873, 0, none⟩) 0 ([] : List Nat), .ow (Kd.int .i64) 3 A121 c122 (([] : List Int) ++ x0.Shape), .bx b21 [.slice A0_0 x0.Shape.length c0_0, .slice A0_1 x0.Data.length c0_1] 28, .sl (Kd.int .i64) A0_0 c0_0 x0.Shape, .sl Kd.float A0_1 c0_1 x0.Data] w874 := Mem.litOwn (kd := Kd.float) (xs := ([] : List Nat)) hm872 hbb873 hx877 hg878 (Els.nil) (by simp [maxLen])
              exact L782 _ _ ⟨A121, c122, b873, hf876.sel (l := [1, 2, 23, 24, 25, 26, 27]) (by kernel_rfl), hm879.sel [0, 1, 2, 3, 4] _ rfl (by kernel_rfl)⟩
            · refine opOf hf871 rfl (by kernel_rfl) (aNew (cs := [.slice none 0 0, .slice none 0 0]) (T := 28) (d := 5) hf871 (by kernel_rfl) (by kernel_rfl) ?_)
              intro b880 w881 a882 hbb880 hx884 hg885 hf883
              refine ⟨.inr (Gr.still hg885), ?_⟩
              have hm886 := hm872.box hbb880 hx884 hg885
              refine all1 4 (by kernel_rfl) ?_
              refine opOf hf883 rfl (by kernel_rfl) (aLit (cs := []) (E := 44) (len := 0) (d := 25) hf883 (by kernel_rfl) (by kernel_rfl) ?_)
              intro b887 w888 a889 hbb887 hx891 hg892 hf890
              refine ⟨.inr (Gr.still hg892), ?_⟩
              have hm893 : Mem [] M w0 [.ow Kd.float 44 (some ⟨b887, 0, none⟩) 0 ([] : List Nat), .bx b880 [.slice none 0 0, .slice none 0 0] 28, .ow (Kd.int .i64) 3 A121 c122 (([] : List Int) ++ x0.Shape), .bx b21 [.slice A0_0 x0.Shape.length c0_0, .slice A0_1 x0.Data.length c0_1] 28, .sl (Kd.int .i64) A0_0 c0_0 x0.Shape, .sl Kd.float A0_1 c0_1 x0.Data] w888 := Mem.litOwn (kd := Kd.float) (xs := ([] : List Nat)) hm886 hbb887 hx891 hg892 (Els.nil) (by simp [maxLen])
              refine all1 7 (by kernel_rfl) ?_
              have e902 : 0 = ([] : List Nat).length := rfl
              have e903 : x0.Data.length = x0.Data.length := rfl
              refine opOf hf890 rfl (by kernel_rfl) (aApp (kd := Kd.float) (base := 0) (E := 44) (A := (some ⟨b887, 0, none⟩)) (B := A0_1) (c := 0) (c2 := c0_1) (xs := ([] : List Nat)) (ys := x0.Data) (k := 0) (m := x0.Data.length) (sz := 1) (d := 28) hf890 (by kernel_rfl) e902 e903 (by kernel_rfl) rfl (by kernel_rfl) (hm893.at 0 rfl) (hm893.at2 0 5 rfl rfl).2 (hm893.cpAt 5 rfl) (Nat.zero_le _) (by have := g60; omega) ?_)
              intro A894 c895 w896 a897 ho899 hg900 hr901 hf898
              refine ⟨.inl (by decide), ?_⟩
              have hm904 : Mem [] M w0 [.ow Kd.float 44 A894 c895 (([] : List Nat) ++ x0.Data), .bx b880 [.slice none 0 0, .slice none 0 0] 28, .ow (Kd.int .i64) 3 A121 c122 (([] : List Int) ++ x0.Shape), .bx b21 [.slice A0_0 x0.Shape.length c0_0, .slice A0_1 x0.Data.length c0_1] 28, .sl (Kd.int .i64) A0_0 c0_0 x0.Shape, .sl Kd.float A0_1 c0_1 x0.Data] w896 := hm893.setOwn 0 _ rfl rfl ho899 hg900 hr901
              refine quiet0 [8] [] [1, 2, 5, 29] #[true, true, true, true, true, true, true, true, true, true, false] [(1, .float .f64 b1), (2, .pointer (some ⟨b21, 0, none⟩)), (5, .pointer (some ⟨b880, 0, none⟩)), (29, .agg #[.slice A121 ((([] : List Int) ++ x0.Shape).length) c122, .slice A894 ((([] : List Nat) ++ x0.Data).length) c895])] [] 1 rfl (by kernel_rfl) (fun _ _ _ _ _ h => nomatch h.1) hf898 (by kernel_rfl) trivial fun a905 hf906 => ?_
              refine all1 10 (by kernel_rfl) ?_
              refine opOf hf906 rfl (by kernel_rfl) (aStoreB (b := b880) (j := 0) (T := 28) (cs := [.slice none 0 0, .slice none 0 0]) (us := [.slice A121 ((([] : List Int) ++ x0.Shape).length) c122, .slice A894 ((([] : List Nat) ++ x0.Data).length) c895]) (cs' := [.slice A121 ((([] : List Int) ++ x0.Shape).length) c122, .slice A894 ((([] : List Nat) ++ x0.Data).length) c895]) hf906 (by kernel_rfl) (hm904.bxAt 1 rfl) (by kernel_rfl) (by kernel_rfl) (by kernel_rfl) ?_)
              intro w907 hx908 hg909
              refine ⟨.inl (by decide), ?_⟩
              have hm910 := hm904.setBox 1 _ rfl rfl hx908 hg909
              refine allDone (by kernel_rfl) ⟨rfl, b880, A121, c122, A894, c895, hf906.sel (l := [1, 2, 5]) (by kernel_rfl), hm910.sel [1, 0, 2, 3, 4, 5] _ rfl (by kernel_rfl)⟩
          refine memoStep (R := fun (a : Act) (w : World) => ∃ (b255 : Nat) (A121 : Option Addr) (c122 : Nat), Fr 77 a [(1, .float .f64 b1), (2, .pointer (some ⟨b21, 0, none⟩)), (5, .pointer (some ⟨b255, 0, none⟩)), (23, .slice A0_0 x0.Shape.length c0_0), (24, .slice A121 ((([] : List Int) ++ x0.Shape).length) c122), (26, .pointer (some ⟨b21, 1, none⟩))] ∧ Mem [] M w0 [.bx b255 [.slice none 0 0, .slice none 0 0] 28, .ow (Kd.int .i64) 3 A121 c122 (([] : List Int) ++ x0.Shape), .bx b21 [.slice A0_0 x0.Shape.length c0_0, .slice A0_1 x0.Data.length c0_1] 28, .sl (Kd.int .i64) A0_0 c0_0 x0.Shape, .sl Kd.float A0_1 c0_1 x0.Data] w) #[true, true, true, true, false, true, false, false, false, true, false] 5 ?_ fun L911 => ?_
          · rintro a912 w913 ⟨b255, A121, c122, hf914, hm915⟩
            refine all2 4 6 (by kernel_rfl) ?_ ?_
            · refine opOf hf914 rfl (by kernel_rfl) (aLit (cs := []) (E := 44) (len := 0) (d := 25) hf914 (by kernel_rfl) (by kernel_rfl) ?_)
              intro b916 w917 a918 hbb916 hx920 hg921 hf919
              refine ⟨.inr (Gr.still hg921), ?_⟩
              have hm922 : Mem [] M w0 [.ow Kd.float 44 (some ⟨b916, 0, none⟩) 0 ([] : List Nat), .bx b255 [.slice none 0 0, .slice none 0 0] 28, .ow (Kd.int .i64) 3 A121 c122 (([] : List Int) ++ x0.Shape), .bx b21 [.slice A0_0 x0.Shape.length c0_0, .slice A0_1 x0.Data.length c0_1] 28, .sl (Kd.int .i64) A0_0 c0_0 x0.Shape, .sl Kd.float A0_1 c0_1 x0.Data] w917 := Mem.litOwn (kd := Kd.float) (xs := ([] : List Nat)) hm915 hbb916 hx920 hg921 (Els.nil) (by simp [maxLen])
              refine all1 6 (by kernel_rfl) ?_
              refine opOf hf919 rfl (by kernel_rfl) (aOne [.slice A0_1 x0.Data.length c0_1] (.slice A0_1 x0.Data.length c0_1) [.cell ⟨b21, 1, none⟩ (.slice A0_1 x0.Data.length c0_1)] 27 hf919 (by kernel_rfl) rfl (by kernel_rfl) ⟨(hm922.cell 3 rfl rfl), trivial⟩ fun a923 hf924 => ?_)
              refine ⟨.inr (Gr.refl _ _), ?_⟩
              refine all1 7 (by kernel_rfl) ?_
              have e933 : 0 = ([] : List Nat).length := rfl
              have e934 : x0.Data.length = x0.Data.length := rfl
              refine opOf hf924 rfl (by kernel_rfl) (aApp (kd := Kd.float) (base := 0) (E := 44) (A := (some ⟨b916, 0, none⟩)) (B := A0_1) (c := 0) (c2 := c0_1) (xs := ([] : List Nat)) (ys := x0.Data) (k := 0) (m := x0.Data.length) (sz := 1) (d := 28) hf924 (by kernel_rfl) e933 e934 (by kernel_rfl) rfl (by kernel_rfl) (hm922.at 0 rfl) (hm922.at2 0 5 rfl rfl).2 (hm922.cpAt 5 rfl) (Nat.zero_le _) (by have := g60; omega) ?_)
              intro A925 c926 w927 a928 ho930 hg931 hr932 hf929
              refine ⟨.inl (by decide), ?_⟩
              have hm935 : Mem [] M w0 [.ow Kd.float 44 A925 c926 (([] : List Nat) ++ x0.Data), .bx b255 [.slice none 0 0, .slice none 0 0] 28, .ow (Kd.int .i64) 3 A121 c122 (([] : List Int) ++ x0.Shape), .bx b21 [.slice A0_0 x0.Shape.length c0_0, .slice A0_1 x0.Data.length c0_1] 28, .sl (Kd.int .i64) A0_0 c0_0 x0.Shape, .sl Kd.float A0_1 c0_1 x0.Data] w927 := hm922.setOwn 0 _ rfl rfl ho930 hg931 hr932
              refine quiet0 [8] [] [1, 2, 5, 29] #[true, true, true, true, true, true, true, true, true, true, false] [(1, .float .f64 b1), (2, .pointer (some ⟨b21, 0, none⟩)), (5, .pointer (some ⟨b255, 0, none⟩)), (29, .agg #[.slice A121 ((([] : List Int) ++ x0.Shape).length) c122, .slice A925 ((([] : List Nat) ++ x0.Data).length) c926])] [] 1 rfl (by kernel_rfl) (fun _ _ _ _ _ h => nomatch h.1) hf929 (by kernel_rfl) trivial fun a936 hf937 => ?_
              refine all1 10 (by kernel_rfl) ?_
              refine opOf hf937 rfl (by kernel_rfl) (aStoreB (b := b255) (j := 0) (T := 28) (cs := [.slice none 0 0, .slice none 0 0]) (us := [.slice A121 ((([] : List Int) ++ x0.Shape).length) c122, .slice A925 ((([] : List Nat) ++ x0.Data).length) c926]) (cs' := [.slice A121 ((([] : List Int) ++ x0.Shape).length) c122, .slice A925 ((([] : List Nat) ++ x0.Data).length) c926]) hf937 (by kernel_rfl) (hm935.bxAt 1 rfl) (by kernel_rfl) (by kernel_rfl) (by kernel_rfl) ?_)
              intro w938 hx939 hg940
              refine ⟨.inl (by decide), ?_⟩
              have hm941 := hm935.setBox 1 _ rfl rfl hx939 hg940
              refine allDone (by kernel_rfl) ⟨rfl, b255, A121, c122, A925, c926, hf937.sel (l := [1, 2, 5]) (by kernel_rfl), hm941.sel [1, 0, 2, 3, 4, 5] _ rfl (by kernel_rfl)⟩
            · refine opOf hf914 rfl (by kernel_rfl) (aOne [.slice A0_1 x0.Data.length c0_1] (.slice A0_1 x0.Data.length c0_1) [.cell ⟨b21, 1, none⟩ (.slice A0_1 x0.Data.length c0_1)] 27 hf914 (by kernel_rfl) rfl (by kernel_rfl) ⟨(hm915.cell 2 rfl rfl), trivial⟩ fun a942 hf943 => ?_)
              refine ⟨.inr (Gr.refl _ _), ?_⟩
              refine all1 4 (by kernel_rfl) ?_
              refine opOf hf943 rfl (by kernel_rfl) (aLit (cs := []) (E := 44) (len := 0) (d := 25) hf943 (by kernel_rfl) (by kernel_rfl) ?_)
              intro b944 w945 a946 hbb944 hx948 hg949 hf947
              refine ⟨.inr (Gr.still hg949), ?_⟩
              have hm950 : Mem [] M w0 [.ow Kd.float 44 (some ⟨b944, 0, none⟩) 0 ([] : List Nat), .bx b255 [.slice none 0 0, .slice none 0 0] 28, .ow (Kd.int .i64) 3 A121 c122 (([] : List Int) ++ x0.Shape), .bx b21 [.slice A0_0 x0.Shape.length c0_0, .slice A0_1 x0.Data.length c0_1] 28, .sl (Kd.int .i64) A0_0 c0_0 x0.Shape, .sl Kd.float A0_1 c0_1 x0.Data] w945 := Mem.litOwn (kd := Kd.float) (xs := ([] : List Nat)) hm915 hbb944 hx948 hg949 (Els.nil) (by simp [maxLen])
              refine all1 7 (by kernel_rfl) ?_
              have e959 : 0 = ([] : List Nat).length := rfl
              have e960 : x0.Data.length = x0.Data.length := rfl
              refine opOf hf947 rfl (by kernel_rfl) (aApp (kd := Kd.float) (base := 0) (E := 44) (A := (some ⟨b944, 0, none⟩)) (B := A0_1) (c := 0) (c2 := c0_1) (xs := ([] : List Nat)) (ys := x0.Data) (k := 0) (m := x0.Data.length) (sz := 1) (d := 28) hf947 (by kernel_rfl) e959 e960 (by kernel_rfl) rfl (by kernel_rfl) (hm950.at 0 rfl) (hm950.at2 0 5 rfl rfl).2 (hm950.cpAt 5 rfl) (Nat.zero_le _) (by have := g60; omega) ?_)
              intro A951 c952 w953 a954 ho956 hg957 hr958 hf955
              refine ⟨.inl (by decide), ?_⟩
              have hm961 : Mem [] M w0 [.ow Kd.float 44 A951 c952 (([] : List Nat) ++ x0.Data), .bx b255 [.slice none 0 0, .slice none 0 0] 28, .ow (Kd.int .i64) 3 A121 c122 (([] : List Int) ++ x0.Shape), .bx b21 [.slice A0_0 x0.Shape.length c0_0, .slice A0_1 x0.Data.length c0_1] 28, .sl (Kd.int .i64) A0_0 c0_0 x0.Shape, .sl Kd.float A0_1 c0_1 x0.Data] w953 := hm950.setOwn 0 _ rfl rfl ho956 hg957 hr958
              refine quiet0 [8] [] [1, 2, 5, 29] #[true, true, true, true, true, true, true, true, true, true, false] [(1, .float .f64 b1), (2, .pointer (some ⟨b21, 0, none⟩)), (5, .pointer (some ⟨b255, 0, none⟩)), (29, .agg #[.slice A121 ((([] : List Int) ++ x0.Shape).length) c122, .slice A951 ((([] : List Nat) ++ x0.Data).length) c952])] [] 1 rfl (by kernel_rfl) (fun _ _ _ _ _ h => nomatch h.1) hf955 (by kernel_rfl) trivial fun a962 hf963 => ?_
              refine all1 10 (by kernel_rfl) ?_
              refine opOf hf963 rfl (by kernel_rfl) (aStoreB (b := b255) (j := 0) (T := 28) (cs := [.slice none 0 0, .slice none 0 0]) (us := [.slice A121 ((([] : List Int) ++ x0.Shape).length) c122, .slice A951 ((([] : List Nat) ++ x0.Data).length) c952]) (cs' := [.slice A121 ((([] : List Int) ++ x0.Shape).length) c122, .slice A951 ((([] : List Nat) ++ x0.Data).length) c952]) hf963 (by kernel_rfl) (hm961.bxAt 1 rfl) (by kernel_rfl) (by kernel_rfl) (by kernel_rfl) ?_)
              intro w964 hx965 hg966
              refine ⟨.inl (by decide), ?_⟩
              have hm967 := hm961.setBox 1 _ rfl rfl hx965 hg966
              refine allDone (by kernel_rfl) ⟨rfl, b255, A121, c122, A951, c952, hf963.sel (l := [1, 2, 5]) (by kernel_rfl), hm967.sel [1, 0, 2, 3, 4, 5] _ rfl (by kernel_rfl)⟩
          refine memoStep (R := fun (a : Act) (w : World) => ∃ (b114 : Nat) (b314 : Nat), Fr 77 a [(1, .float .f64 b1), (2, .pointer (some ⟨b21, 0, none⟩)), (21, .slice (some ⟨b114, 0, none⟩) 0 0), (23, .slice A0_0 x0.Shape.length c0_0), (25, .slice (some ⟨b314, 0, none⟩) 0 0), (26, .pointer (some ⟨b21, 1, none⟩)), (27, .slice A0_1 x0.Data.length c0_1)] ∧ Mem [] M w0 [.ow Kd.float 44 (some ⟨b314, 0, none⟩) 0 ([] : List Nat), .ow (Kd.int .i64) 3 (some ⟨b114, 0, none⟩) 0 ([] : List Int), .bx b21 [.slice A0_0 x0.Shape.length c0_0, .slice A0_1 x0.Data.length c0_1] 28, .sl (Kd.int .i64) A0_0 c0_0 x0.Shape, .sl Kd.float A0_1 c0_1 x0.Data] w) #[true, true, true, false, true, true, true, false, false, false, false] 5 ?_ fun L968 => ?_
          · rintro a969 w970 ⟨b114, b314, hf971, hm972⟩
            refine all2 3 9 (by kernel_rfl) ?_ ?_
            · have e981 : 0 = ([] : List Int).length := rfl
              have e982 : x0.Shape.length = x0.Shape.length := rfl
              refine opOf hf971 rfl (by kernel_rfl) (aApp (kd := (Kd.int .i64)) (base := 0) (E := 3) (A := (some ⟨b114, 0, none⟩)) (B := A0_0) (c := 0) (c2 := c0_0) (xs := ([] : List Int)) (ys := x0.Shape) (k := 0) (m := x0.Shape.length) (sz := 1) (d := 24) hf971 (by kernel_rfl) e981 e982 (by kernel_rfl) rfl (by kernel_rfl) (hm972.at 1 rfl) (hm972.at2 1 3 rfl rfl).2 (hm972.cpAt 3 rfl) (Nat.zero_le _) (by have := g59; omega) ?_)
              intro A973 c974 w975 a976 ho978 hg979 hr980 hf977
              refine ⟨.inl (by decide), ?_⟩
              have hm983 : Mem [] M w0 [.ow Kd.float 44 (some ⟨b314, 0, none⟩) 0 ([] : List Nat), .ow (Kd.int .i64) 3 A973 c974 (([] : List Int) ++ x0.Shape), .bx b21 [.slice A0_0 x0.Shape.length c0_0, .slice A0_1 x0.Data.length c0_1] 28, .sl (Kd.int .i64) A0_0 c0_0 x0.Shape, .sl Kd.float A0_1 c0_1 x0.Data] w975 := hm972.setOwn 1 _ rfl rfl ho978 hg979 hr980
              exact L782 _ _ ⟨A973, c974, b314, hf977.sel (l := [1, 2, 23, 24, 25, 26, 27]) (by kernel_rfl), hm983.sel [0, 1, 2, 3, 4] _ rfl (by kernel_rfl)⟩
            · refine opOf hf971 rfl (by kernel_rfl) (aNew (cs := [.slice none 0 0, .slice none 0 0]) (T := 28) (d := 5) hf971 (by kernel_rfl) (by kernel_rfl) ?_)
              intro b984 w985 a986 hbb984 hx988 hg989 hf987
              refine ⟨.inr (Gr.still hg989), ?_⟩
              have hm990 := hm972.box hbb984 hx988 hg989
              refine all1 3 (by kernel_rfl) ?_
              have e999 : 0 = ([] : List Int).length := rfl
              have e1000 : x0.Shape.length = x0.Shape.length := rfl
              refine opOf hf987 rfl (by kernel_rfl) (aApp (kd := (Kd.int .i64)) (base := 0) (E := 3) (A := (some ⟨b114, 0, none⟩)) (B := A0_0) (c := 0) (c2 := c0_0) (xs := ([] : List Int)) (ys := x0.Shape) (k := 0) (m := x0.Shape.length) (sz := 1) (d := 24) hf987 (by kernel_rfl) e999 e1000 (by kernel_rfl) rfl (by kernel_rfl) (hm990.at 2 rfl) (hm990.at2 2 4 rfl rfl).2 (hm990.cpAt 4 rfl) (Nat.zero_le _) (by have := g59; omega) ?_)
              intro A991 c992 w993 a994 ho996 hg997 hr998 hf995
              refine ⟨.inl (by decide), ?_⟩
              have hm1001 : Mem [] M w0 [.bx b984 [.slice none 0 0, .slice none 0 0] 28, .ow Kd.float 44 (some ⟨b314, 0, none⟩) 0 ([] : List Nat), .ow (Kd.int .i64) 3 A991 c992 (([] : List Int) ++ x0.Shape), .bx b21 [.slice A0_0 x0.Shape.length c0_0, .slice A0_1 x0.Data.length c0_1] 28, .sl (Kd.int .i64) A0_0 c0_0 x0.Shape, .sl Kd.float A0_1 c0_1 x0.Data] w993 := hm990.setOwn 2 _ rfl rfl ho996 hg997 hr998
              refine all1 7 (by kernel_rfl) ?_
              have e1010 : 0 = ([] : List Nat).length := rfl
              have e1011 : x0.Data.length = x0.Data.length := rfl
              refine opOf hf995 rfl (by kernel_rfl) (aApp (kd := Kd.float) (base := 0) (E := 44) (A := (some ⟨b314, 0, none⟩)) (B := A0_1) (c := 0) (c2 := c0_1) (xs := ([] : List Nat)) (ys := x0.Data) (k := 0) (m := x0.Data.length) (sz := 1) (d := 28) hf995 (by kernel_rfl) e1010 e1011 (by kernel_rfl) rfl (by kernel_rfl) (hm1001.at 1 rfl) (hm1001.at2 1 5 rfl rfl).2 (hm1001.cpAt 5 rfl) (Nat.zero_le _) (by have := g60; omega) ?_)
              intro A1002 c1003 w1004 a1005 ho1007 hg1008 hr1009 hf1006
              refine ⟨.inl (by decide), ?_⟩
              have hm1012 : Mem [] M w0 [.bx b984 [.slice none 0 0, .slice none 0 0] 28, .ow Kd.float 44 A1002 c1003 (([] : List Nat) ++ x0.Data), .ow (Kd.int .i64) 3 A991 c992 (([] : List Int) ++ x0.Shape), .bx b21 [.slice A0_0 x0.Shape.length c0_0, .slice A0_1 x0.Data.length c0_1] 28, .sl (Kd.int .i64) A0_0 c0_0 x0.Shape, .sl Kd.float A0_1 c0_1 x0.Data] w1004 := hm1001.setOwn 1 _ rfl rfl ho1007 hg1008 hr1009
              refine quiet0 [8] [] [1, 2, 5, 29] #[true, true, true, true, true, true, true, true, true, true, false] [(1, .float .f64 b1), (2, .pointer (some ⟨b21, 0, none⟩)), (5, .pointer (some ⟨b984, 0, none⟩)), (29, .agg #[.slice A991 ((([] : List Int) ++ x0.Shape).length) c992, .slice A1002 ((([] : List Nat) ++ x0.Data).length) c1003])] [] 1 rfl (by kernel_rfl) (fun _ _ _ _ _ h => nomatch h.1) hf1006 (by kernel_rfl) trivial fun a1013 hf1014 => ?_
              refine all1 10 (by kernel_rfl) ?_
              refine opOf hf1014 rfl (by kernel_rfl) (aStoreB (b := b984) (j := 0) (T := 28) (cs := [.slice none 0 0, .slice none 0 0]) (us := [.slice A991 ((([] : List Int) ++ x0.Shape).length) c992, .slice A1002 ((([] : List Nat) ++ x0.Data).length) c1003]) (cs' := [.slice A991 ((([] : List Int) ++ x0.Shape).length) c992, .slice A1002 ((([] : List Nat) ++ x0.Data).length) c1003]) hf1014 (by kernel_rfl) (hm1012.bxAt 0 rfl) (by kernel_rfl) (by kernel_rfl) (by kernel_rfl) ?_)
              intro w1015 hx1016 hg1017
              refine ⟨.inl (by decide), ?_⟩
              have hm1018 := hm1012.setBox 0 _ rfl rfl hx1016 hg1017
              refine allDone (by kernel_rfl) ⟨rfl, b984, A991, c992, A1002, c1003, hf1014.sel (l := [1, 2, 5]) (by kernel_rfl), hm1018.sel [0, 1, 2, 3, 4, 5] _ rfl (by kernel_rfl)⟩
          refine memoStep (R := fun (a : Act) (w : World) => ∃ (b380 : Nat) (b114 : Nat) (b314 : Nat), Fr 77 a [(1, .float .f64 b1), (2, .pointer (some ⟨b21, 0, none⟩)), (5, .pointer (some ⟨b380, 0, none⟩)), (21, .slice (some ⟨b114, 0, none⟩) 0 0), (23, .slice A0_0 x0.Shape.length c0_0), (25, .slice (some ⟨b314, 0, none⟩) 0 0), (26, .pointer (some ⟨b21, 1, none⟩))] ∧ Mem [] M w0 [.bx b380 [.slice none 0 0, .slice none 0 0] 28, .ow Kd.float 44 (some ⟨b314, 0, none⟩) 0 ([] : List Nat), .ow (Kd.int .i64) 3 (some ⟨b114, 0, none⟩) 0 ([] : List Int), .bx b21 [.slice A0_0 x0.Shape.length c0_0, .slice A0_1 x0.Data.length c0_1] 28, .sl (Kd.int .i64) A0_0 c0_0 x0.Shape, .sl Kd.float A0_1 c0_1 x0.Data] w) #[true, true, true, false, true, true, false, false, false, true, false] 5 ?_ fun L1019 => ?_
          · rintro a1020 w1021 ⟨b380, b114, b314, hf1022, hm1023⟩
            refine all2 3 6 (by kernel_rfl) ?_ ?_
            · have e1032 : 0 = ([] : List Int).length := rfl
              have e1033 : x0.Shape.length = x0.Shape.length := rfl
              refine opOf hf1022 rfl (by kernel_rfl) (aApp (kd := (Kd.int .i64)) (base := 0) (E := 3) (A := (some ⟨b114, 0, none⟩)) (B := A0_0) (c := 0) (c2 := c0_0) (xs := ([] : List Int)) (ys := x0.Shape) (k := 0) (m := x0.Shape.length) (sz := 1) (d := 24) hf1022 (by kernel_rfl) e1032 e1033 (by kernel_rfl) rfl (by kernel_rfl) (hm1023.at 2 rfl) (hm1023.at2 2 4 rfl rfl).2 (hm1023.cpAt 4 rfl) (Nat.zero_le _) (by have := g59; omega) ?_)
              intro A1024 c1025 w1026 a1027 ho1029 hg1030 hr1031 hf1028
              refine ⟨.inl (by decide), ?_⟩
              have hm1034 : Mem [] M w0 [.bx b380 [.slice none 0 0, .slice none 0 0] 28, .ow Kd.float 44 (some ⟨b314, 0, none⟩) 0 ([] : List Nat), .ow (Kd.int .i64) 3 A1024 c1025 (([] : List Int) ++ x0.Shape), .bx b21 [.slice A0_0 x0.Shape.length c0_0, .slice A0_1 x0.Data.length c0_1] 28, .sl (Kd.int .i64) A0_0 c0_0 x0.Shape, .sl Kd.float A0_1 c0_1 x0.Data] w1026 := hm1023.setOwn 2 _ rfl rfl ho1029 hg1030 hr1031
              refine all1 6 (by kernel_rfl) ?_
              refine opOf hf1028 rfl (by kernel_rfl) (aOne [.slice A0_1 x0.Data.length c0_1] (.slice A0_1 x0.Data.length c0_1) [.cell ⟨b21, 1, none⟩ (.slice A0_1 x0.Data.length c0_1)] 27 hf1028 (by kernel_rfl) rfl (by kernel_rfl) ⟨(hm1034.cell 3 rfl rfl), trivial⟩ fun a1035 hf1036 => ?_)
              refine ⟨.inr (Gr.refl _ _), ?_⟩
              refine all1 7 (by kernel_rfl) ?_
              have e1045 : 0 = ([] : List Nat).length := rfl
              have e1046 : x0.Data.length = x0.Data.length := rfl
              refine opOf hf1036 rfl (by kernel_rfl) (aApp (kd := Kd.float) (base := 0) (E := 44) (A := (some ⟨b314, 0, none⟩)) (B := A0_1) (c := 0) (c2 := c0_1) (xs := ([] : List Nat)) (ys := x0.Data) (k := 0) (m := x0.Data.length) (sz := 1) (d := 28) hf1036 (by kernel_rfl) e1045 e1046 (by kernel_rfl) rfl (by kernel_rfl) (hm1034.at 1 rfl) (hm1034.at2 1 5 rfl rfl).2 (hm1034.cpAt 5 rfl) (Nat.zero_le _) (by have := g60; omega) ?_)
              intro A1037 c1038 w1039 a1040 ho1042 hg1043 hr1044 hf1041
              refine ⟨.inl (by decide), ?_⟩
              have hm1047 : Mem [] M w0 [.bx b380 [.slice none 0 0, .slice none 0 0] 28, .ow Kd.float 44 A1037 c1038 (([] : List Nat) ++ x0.Data), .ow (Kd.int .i64) 3 A1024 c1025 (([] : List Int) ++ x0.Shape), .bx b21 [.slice A0_0 x0.Shape.length c0_0, .slice A0_1 x0.Data.length c0_1] 28, .sl (Kd.int .i64) A0_0 c0_0 x0.Shape, .sl Kd.float A0_1 c0_1 x0.Data] w1039 := hm1034.setOwn 1 _ rfl rfl ho1042 hg1043 hr1044
              refine quiet0 [8] [] [1, 2, 5, 29] #[true, true, true, true, true, true, true, true, true, true, false] [(1, .float .f64 b1), (2, .pointer (some ⟨b21, 0, none⟩)), (5, .pointer (some ⟨b380, 0, none⟩)), (29, .agg #[.slice A1024 ((([] : List Int) ++ x0.Shape).length) c1025, .slice A1037 ((([] : List Nat) ++ x0.Data).length) c1038])] [] 1 rfl (by kernel_rfl) (fun _ _ _ _ _ h => nomatch h.1) hf1041 (by kernel_rfl) trivial fun a1048 hf1049 => ?_
              refine all1 10 (by kernel_rfl) ?_
              refine opOf hf1049 rfl (by kernel_rfl) (aStoreB (b := b380) (j := 0) (T := 28) (cs := [.slice none 0 0, .slice none 0 0]) (us := [.slice A1024 ((([] : List Int) ++ x0.Shape).length) c1025, .slice A1037 ((([] : List Nat) ++ x0.Data).length) c1038]) (cs' := [.slice A1024 ((([] : List Int) ++ x0.Shape).length) c1025, .slice A1037 ((([] : List Nat) ++ x0.Data).length) c1038]) hf1049 (by kernel_rfl) (hm1047.bxAt 0 rfl) (by kernel_rfl) (by kernel_rfl) (by kernel_rfl) ?_)
              intro w1050 hx1051 hg1052
              refine ⟨.inl (by decide), ?_⟩
              have hm1053 := hm1047.setBox 0 _ rfl rfl hx1051 hg1052
              refine allDone (by kernel_rfl) ⟨rfl, b380, A1024, c1025, A1037, c1038, hf1049.sel (l := [1, 2, 5]) (by kernel_rfl), hm1053.sel [0, 1, 2, 3, 4, 5] _ rfl (by kernel_rfl)⟩
            · refine opOf hf1022 rfl (by kernel_rfl) (aOne [.slice A0_1 x0.Data.length c0_1] (.slice A0_1 x0.Data.length c0_1) [.cell ⟨b21, 1, none⟩ (.slice A0_1 x0.Data.length c0_1)] 27 hf1022 (by kernel_rfl) rfl (by kernel_rfl) ⟨(hm1023.cell 3 rfl rfl), trivial⟩ fun a1054 hf1055 => ?_)
              refine ⟨.inr (Gr.refl _ _), ?_⟩
              refine all1 3 (by kernel_rfl) ?_
              have e1064 : 0 = ([] : List Int).length := rfl
              have e1065 : x0.Shape.length = x0.Shape.length := rfl
              refine opOf hf1055 rfl (by kernel_rfl) (aApp (kd := (Kd.int .i64)) (base := 0) (E := 3) (A := (some ⟨b114, 0, none⟩)) (B := A0_0) (c := 0) (c2 := c0_0) (xs := ([] : List Int)) (ys := x0.Shape) (k := 0) (m := x0.Shape.length) (sz := 1) (d := 24) hf1055 (by kernel_rfl) e1064 e1065 (by kernel_rfl) rfl (by kernel_rfl) (hm1023.at 2 rfl) (hm1023.at2 2 4 rfl rfl).2 (hm1023.cpAt 4 rfl) (Nat.zero_le _) (by have := g59; omega) ?_)
              intro A1056 c1057 w1058 a1059 ho1061 hg1062 hr1063 hf1060
              refine ⟨.inl (by decide), ?_⟩
              have hm1066 : Mem [] M w0 [.bx b380 [.slice none 0 0, .slice none 0 0] 28, .ow Kd.float 44 (some ⟨b314, 0, none⟩) 0 ([] : List Nat), .ow (Kd.int .i64) 3 A1056 c1057 (([] : List Int) ++ x0.Shape), .bx b21 [.slice A0_0 x0.Shape.length c0_0, .slice A0_1 x0.Data.length c0_1] 28, .sl (Kd.int .i64) A0_0 c0_0 x0.Shape, .sl Kd.float A0_1 c0_1 x0.Data] w1058 := hm1023.setOwn 2 _ rfl rfl ho1061 hg1062 hr1063
              refine all1 7 (by kernel_rfl) ?_
              have e1075 : 0 = ([] : List Nat).length := rfl
              have e1076 : x0.Data.length = x0.Data.length := rfl
              refine opOf hf1060 rfl (by kernel_rfl) (aApp (kd := Kd.float) (base := 0) (E := 44) (A := (some ⟨b314, 0, none⟩)) (B := A0_1) (c := 0) (c2 := c0_1) (xs := ([] : List Nat)) (ys := x0.Data) (k := 0) (m := x0.Data.length) (sz := 1) (d := 28) hf1060 (by kernel_rfl) e1075 e1076 (by kernel_rfl) rfl (by kernel_rfl) (hm1066.at 1 rfl) (hm1066.at2 1 5 rfl rfl).2 (hm1066.cpAt 5 rfl) (Nat.zero_le _) (by have := g60; omega) ?_)
              intro A1067 c1068 w1069 a1070 ho1072 hg1073 hr1074 hf1071
              refine ⟨.inl (by decide), ?_⟩
              have hm1077 : Mem [] M w0 [.bx b380 [.slice none 0 0, .slice none 0 0] 28, .ow Kd.float 44 A1067 c1068 (([] : List Nat) ++ x0.Data), .ow (Kd.int .i64) 3 A1056 c1057 (([] : List Int) ++ x0.Shape), .bx b21 [.slice A0_0 x0.Shape.length c0_0, .slice A0_1 x0.Data.length c0_1] 28, .sl (Kd.int .i64) A0_0 c0_0 x0.Shape, .sl Kd.float A0_1 c0_1 x0.Data] w1069 := hm1066.setOwn 1 _ rfl rfl ho1072 hg1073 hr1074
              refine quiet0 [8] [] [1, 2, 5, 29] #[true, true, true, true, true, true, true, true, true, true, false] [(1, .float .f64 b1), (2, .pointer (some ⟨b21, 0, none⟩)), (5, .pointer (some ⟨b380, 0, none⟩)), (29, .agg #[.slice A1056 ((([] : List Int) ++ x0.Shape).length) c1057, .slice A1067 ((([] : List Nat) ++ x0.Data).length) c1068])] [] 1 rfl (by kernel_rfl) (fun _ _ _ _ _ h => nomatch h.1) hf1071 (by kernel_rfl) trivial fun a1078 hf1079 => ?_
              refine all1 10 (by kernel_rfl) ?_
              refine opOf hf1079 rfl (by kernel_rfl) (aStoreB (b := b380) (j := 0) (T := 28) (cs := [.slice none 0 0, .slice none 0 0]) (us := [.slice A1056 ((([] : List Int) ++ x0.Shape).length) c1057, .slice A1067 ((([] : List Nat) ++ x0.Data).length) c1068]) (cs' := [.slice A1056 ((([] : List Int) ++ x0.Shape).length) c1057, .slice A1067 ((([] : List Nat) ++ x0.Data).length) c1068]) hf1079 (by kernel_rfl) (hm1077.bxAt 0 rfl) (by kernel_rfl) (by kernel_rfl) (by kernel_rfl) ?_)
              intro w1080 hx1081 hg1082
              refine ⟨.inl (by decide), ?_⟩
              have hm1083 := hm1077.setBox 0 _ rfl rfl hx1081 hg1082
              refine allDone (by kernel_rfl) ⟨rfl, b380, A1056, c1057, A1067, c1068, hf1079.sel (l := [1, 2, 5]) (by kernel_rfl), hm1083.sel [0, 1, 2, 3, 4, 5] _ rfl (by kernel_rfl)⟩
          refine memoStep (R := fun (a : Act) (w : World) => ∃ (b467 : Nat) (b114 : Nat), Fr 77 a [(1, .float .f64 b1), (2, .pointer (some ⟨b21, 0, none⟩)), (5, .pointer (some ⟨b467, 0, none⟩)), (21, .slice (some ⟨b114, 0, none⟩) 0 0), (23, .slice A0_0 x0.Shape.length c0_0), (26, .pointer (some ⟨b21, 1, none⟩)), (27, .slice A0_1 x0.Data.length c0_1)] ∧ Mem [] M w0 [.bx b467 [.slice none 0 0, .slice none 0 0] 28, .ow (Kd.int .i64) 3 (some ⟨b114, 0, none⟩) 0 ([] : List Int), .bx b21 [.slice A0_0 x0.Shape.length c0_0, .slice A0_1 x0.Data.length c0_1] 28, .sl (Kd.int .i64) A0_0 c0_0 x0.Shape, .sl Kd.float A0_1 c0_1 x0.Data] w) #[true, true, true, false, false, true, true, false, false, true, false] 5 ?_ fun L1084 => ?_
          · rintro a1085 w1086 ⟨b467, b114, hf1087, hm1088⟩
            refine all2 3 4 (by kernel_rfl) ?_ ?_
            · have e1097 : 0 = ([] : List Int).length := rfl
              have e1098 : x0.Shape.length = x0.Shape.length := rfl
              refine opOf hf1087 rfl (by kernel_rfl) (aApp (kd := (Kd.int .i64)) (base := 0) (E := 3) (A := (some ⟨b114, 0, none⟩)) (B := A0_0) (c := 0) (c2 := c0_0) (xs := ([] : List Int)) (ys := x0.Shape) (k := 0) (m := x0.Shape.length) (sz := 1) (d := 24) hf1087 (by kernel_rfl) e1097 e1098 (by kernel_rfl) rfl (by kernel_rfl) (hm1088.at 1 rfl) (hm1088.at2 1 3 rfl rfl).2 (hm1088.cpAt 3 rfl) (Nat.zero_le _) (by have := g59; omega) ?_)
              intro A1089 c1090 w1091 a1092 ho1094 hg1095 hr1096 hf1093
              refine ⟨.inl (by decide), ?_⟩
              have hm1099 : Mem [] M w0 [.bx b467 [.slice none 0 0, .slice none 0 0] 28, .ow (Kd.int .i64) 3 A1089 c1090 (([] : List Int) ++ x0.Shape), .bx b21 [.slice A0_0 x0.Shape.length c0_0, .slice A0_1 x0.Data.length c0_1] 28, .sl (Kd.int .i64) A0_0 c0_0 x0.Shape, .sl Kd.float A0_1 c0_1 x0.Data] w1091 := hm1088.setOwn 1 _ rfl rfl ho1094 hg1095 hr1096
              refine all1 4 (by kernel_rfl) ?_
              refine opOf hf1093 rfl (by kernel_rfl) (aLit (cs := []) (E := 44) (len := 0) (d := 25) hf1093 (by kernel_rfl) (by kernel_rfl) ?_)
              intro b1100 w1101 a1102 hbb1100 hx1104 hg1105 hf1103
              refine ⟨.inr (Gr.still hg1105), ?_⟩
              have hm1106 : Mem [] M w0 [.ow Kd.float 44 (some ⟨b1100, 0, none⟩) 0 ([] : List Nat), .bx b467 [.slice none 0 0, .slice none 0 0] 28, .ow (Kd.int .i64) 3 A1089 c1090 (([] : List Int) ++ x0.Shape), .bx b21 [.slice A0_0 x0.Shape.length c0_0, .slice A0_1 x0.Data.length c0_1] 28, .sl (Kd.int .i64) A0_0 c0_0 x0.Shape, .sl Kd.float A0_1 c0_1 x0.Data] w1101 := Mem.litOwn (kd := Kd.float) (xs := ([] : List Nat)) hm1099 hbb1100 hx1104 hg1105 (Els.nil) (by simp [maxLen])
              refine all1 7 (by kernel_rfl) ?_
              have e1115 : 0 = ([] : List Nat).length := rfl
              have e1116 : x0.Data.length = x0.Data.length := rfl
              refine opOf hf1103 rfl (by kernel_rfl) (aApp (kd := Kd.float) (base := 0) (E := 44) (A := (some ⟨b1100, 0, none⟩)) (B := A0_1) (c := 0) (c2 := c0_1) (xs := ([] : List Nat)) (ys := x0.Data) (k := 0) (m := x0.Data.length) (sz := 1) (d := 28) hf1103 (by kernel_rfl) e1115 e1116 (by kernel_rfl) rfl (by kernel_rfl) (hm1106.at 0 rfl) (hm1106.at2 0 5 rfl rfl).2 (hm1106.cpAt 5 rfl) (Nat.zero_le _) (by have := g60; omega) ?_)
              intro A1107 c1108 w1109 a1110 ho1112 hg1113 hr1114 hf1111
              refine ⟨.inl (by decide), ?_⟩
              have hm1117 : Mem [] M w0 [.ow Kd.float 44 A1107 c1108 (([] : List Nat) ++ x0.Data), .bx b467 [.slice none 0 0, .slice none 0 0] 28, .ow (Kd.int .i64) 3 A1089 c1090 (([] : List Int) ++ x0.Shape), .bx b21 [.slice A0_0 x0.Shape.length c0_0, .slice A0_1 x0.Data.length c0_1] 28, .sl (Kd.int .i64) A0_0 c0_0 x0.Shape, .sl Kd.float A0_1 c0_1 x0.Data] w1109 := hm1106.setOwn 0 _ rfl rfl ho1112 hg1113 hr1114
              refine quiet0 [8] [] [1, 2, 5, 29] #[true, true, true, true, true, true, true, true, true, true, false] [(1, .float .f64 b1), (2, .pointer (some ⟨b21, 0, none⟩)), (5, .pointer (some ⟨b467, 0, none⟩)), (29, .agg #[.slice A1089 ((([] : List Int) ++ x0.Shape).length) c1090, .slice A1107 ((([] : List Nat) ++ x0.Data).length) c1108])] [] 1 rfl (by kernel_rfl) (fun _ _ _ _ _ h => nomatch h.1) hf1111 (by kernel_rfl) trivial fun a1118 hf1119 => ?_
              refine all1 10 (by kernel_rfl) ?_
              refine opOf hf1119 rfl (by kernel_rfl) (aStoreB (b := b467) (j := 0) (T := 28) (cs := [.slice none 0 0, .slice none 0 0]) (us := [.slice A1089 ((([] : List Int) ++ x0.Shape).length) c1090, .slice A1107 ((([] : List Nat) ++ x0.Data).length) c1108]) (cs' := [.slice A1089 ((([] : List Int) ++ x0.Shape).length) c1090, .slice A1107 ((([] : List Nat) ++ x0.Data).length) c1108]) hf1119 (by kernel_rfl) (hm1117.bxAt 1 rfl) (by kernel_rfl) (by kernel_rfl) (by kernel_rfl) ?_)
              intro w1120 hx1121 hg1122
              refine ⟨.inl (by decide), ?_⟩
              have hm1123 := hm1117.setBox 1 _ rfl rfl hx1121 hg1122
              refine allDone (by kernel_rfl) ⟨rfl, b467, A1089, c1090, A1107, c1108, hf1119.sel (l := [1, 2, 5]) (by kernel_rfl), hm1123.sel [1, 0, 2, 3, 4, 5] _ rfl (by kernel_rfl)⟩
            · refine opOf hf1087 rfl (by kernel_rfl) (aLit (cs := []) (E := 44) (len := 0) (d := 25) hf1087 (by kernel_rfl) (by kernel_rfl) ?_)
              intro b1124 w1125 a1126 hbb1124 hx1128 hg1129 hf1127
              refine ⟨.inr (Gr.still hg1129), ?_⟩
              have hm1130 : Mem [] M w0 [.ow Kd.float 44 (some ⟨b1124, 0, none⟩) 0 ([] : List Nat), .bx b467 [.slice none 0 0, .slice none 0 0] 28, .ow (Kd.int .i64) 3 (some ⟨b114, 0, none⟩) 0 ([] : List Int), .bx b21 [.slice A0_0 x0.Shape.length c0_0, .slice A0_1 x0.Data.length c0_1] 28, .sl (Kd.int .i64) A0_0 c0_0 x0.Shape, .sl Kd.float A0_1 c0_1 x0.Data] w1125 := Mem.litOwn (kd := Kd.float) (xs := ([] : List Nat)) hm1088 hbb1124 hx1128 hg1129 (Els.nil) (by simp [maxLen])
              refine all1 3 (by kernel_rfl) ?_
              have e1139 : 0 = ([] : List Int).length := rfl
              have e1140 : x0.Shape.length = x0.Shape.length := rfl
              refine opOf hf1127 rfl (by kernel_rfl) (aApp (kd := (Kd.int .i64)) (base := 0) (E := 3) (A := (some ⟨b114, 0, none⟩)) (B := A0_0) (c := 0) (c2 := c0_0) (xs := ([] : List Int)) (ys := x0.Shape) (k := 0) (m := x0.Shape.length) (sz := 1) (d := 24) hf1127 (by kernel_rfl) e1139 e1140 (by kernel_rfl) rfl (by kernel_rfl) (hm1130.at 2 rfl) (hm1130.at2 2 4 rfl rfl).2 (hm1130.cpAt 4 rfl) (Nat.zero_le _) (by have := g59; omega) ?_)
              intro A1131 c1132 w1133 a1134 ho1136 hg1137 hr1138 hf1135
              refine ⟨.inl (by decide), ?_⟩
              have hm1141 : Mem [] M w0 [.ow Kd.float 44 (some ⟨b1124, 0, none⟩) 0 ([] : List Nat), .bx b467 [.slice none 0 0, .slice none 0 0] 28, .ow (Kd.int .i64) 3 A1131 c1132 (([] : List Int) ++ x0.Shape), .bx b21 [.slice A0_0 x0.Shape.length c0_0, .slice A0_1 x0.Data.length c0_1] 28, .sl (Kd.int .i64) A0_0 c0_0 x0.Shape, .sl Kd.float A0_1 c0_1 x0.Data] w1133 := hm1130.setOwn 2 _ rfl rfl ho1136 hg1137 hr1138
              refine all1 7 (by kernel_rfl) ?_
              have e1150 : 0 = ([] : List Nat).length := rfl
              have e1151 : x0.Data.length = x0.Data.length := rfl
              refine opOf hf1135 rfl (by kernel_rfl) (aApp (kd := Kd.float) (base := 0) (E := 44) (A := (some ⟨b1124, 0, none⟩)) (B := A0_1) (c := 0) (c2 := c0_1) (xs := ([] : List Nat)) (ys := x0.Data) (k := 0) (m := x0.Data.length) (sz := 1) (d := 28) hf1135 (by kernel_rfl) e1150 e1151 (by kernel_rfl) rfl (by kernel_rfl) (hm1141.at 0 rfl) (hm1141.at2 0 5 rfl rfl).2 (hm1141.cpAt 5 rfl) (Nat.zero_le _) (by have := g60; omega) ?_)
              intro A1142 c1143 w1144 a1145 ho1147 hg1148 hr1149 hf1146
              refine ⟨.inl (by decide), ?_⟩
              have hm1152 : Mem [] M w0 [.ow Kd.float 44 A1142 c1143 (([] : List Nat) ++ x0.Data), .bx b467 [.slice none 0 0, .slice none 0 0] 28, .ow (Kd.int .i64) 3 A1131 c1132 (([] : List Int) ++ x0.Shape), .bx b21 [.slice A0_0 x0.Shape.length c0_0, .slice A0_1 x0.Data.length c0_1] 28, .sl (Kd.int .i64) A0_0 c0_0 x0.Shape, .sl Kd.float A0_1 c0_1 x0.Data] w1144 := hm1141.setOwn 0 _ rfl rfl ho1147 hg1148 hr1149
              refine quiet0 [8] [] [1, 2, 5, 29] #[true, true, true, true, true, true, true, true, true, true, false] [(1, .float .f64 b1), (2, .pointer (some ⟨b21, 0, none⟩)), (5, .pointer (some ⟨b467, 0, none⟩)), (29, .agg #[.slice A1131 ((([] : List Int) ++ x0.Shape).length) c1132, .slice A1142 ((([] : List Nat) ++ x0.Data).length) c1143])] [] 1 rfl (by kernel_rfl) (fun _ _ _ _ _ h => nomatch h.1) hf1146 (by kernel_rfl) trivial fun a1153 hf1154 => ?_
              refine all1 10 (by kernel_rfl) ?_
              refine opOf hf1154 rfl (by kernel_rfl) (aStoreB (b := b467) (j := 0) (T := 28) (cs := [.slice none 0 0, .slice none 0 0]) (us := [.slice A1131 ((([] : List Int) ++ x0.Shape).length) c1132, .slice A1142 ((([] : List Nat) ++ x0.Data).length) c1143]) (cs' := [.slice A1131 ((([] : List Int) ++ x0.Shape).length) c1132, .slice A1142 ((([] : List Nat) ++ x0.Data).length) c1143]) hf1154 (by kernel_rfl) (hm1152.bxAt 1 rfl) (by kernel_rfl) (by kernel_rfl) (by kernel_rfl) ?_)
              intro w1155 hx1156 hg1157
              refine ⟨.inl (by decide), ?_⟩
              have hm1158 := hm1152.setBox 1 _ rfl rfl hx1156 hg1157
              refine allDone (by kernel_rfl) ⟨rfl, b467, A1131, c1132, A1142, c1143, hf1154.sel (l := [1, 2, 5]) (by kernel_rfl), hm1158.sel [1, 0, 2, 3, 4, 5] _ rfl (by kernel_rfl)⟩
          refine memoStep (R := fun (a : Act) (w : World) => ∃ (A121 : Option Addr) (c122 : Nat), Fr 77 a [(1, .float .f64 b1), (2, .pointer (some ⟨b21, 0, none⟩)), (23, .slice A0_0 x0.Shape.length c0_0), (24, .slice A121 ((([] : List Int) ++ x0.Shape).length) c122), (26, .pointer (some ⟨b21, 1, none⟩))] ∧ Mem [] M w0 [.ow (Kd.int .i64) 3 A121 c122 (([] : List Int) ++ x0.Shape), .bx b21 [.slice A0_0 x0.Shape.length c0_0, .slice A0_1 x0.Data.length c0_1] 28, .sl (Kd.int .i64) A0_0 c0_0 x0.Shape, .sl Kd.float A0_1 c0_1 x0.Data] w) #[true, true, true, true, false, true, false, false, false, false, false] 6 ?_ fun L1159 => ?_
          · rintro a1160 w1161 ⟨A121, c122, hf1162, hm1163⟩
            refine all3 4 6 9 (by kernel_rfl) ?_ ?_ ?_
            · refine opOf hf1162 rfl (by kernel_rfl) (aLit (cs := []) (E := 44) (len := 0) (d := 25) hf1162 (by kernel_rfl) (by kernel_rfl) ?_)
              intro b1164 w1165 a1166 hbb1164 hx1168 hg1169 hf1167
              refine ⟨.inr (Gr.still hg1169), ?_⟩
              have hm1170 : Mem [] M w0 [.ow Kd.float 44 (some ⟨b1164, 0, none⟩) 0 ([] : List Nat), .ow (Kd.int .i64) 3 A121 c122 (([] : List Int) ++ x0.Shape), .bx b21 [.slice A0_0 x0.Shape.length c0_0, .slice A0_1 x0.Data.length c0_1] 28, .sl (Kd.int .i64) A0_0 c0_0 x0.Shape, .sl Kd.float A0_1 c0_1 x0.Data] w1165 := Mem.litOwn (kd := Kd.float) (xs := ([] : List Nat)) hm1163 hbb1164 hx1168 hg1169 (Els.nil) (by simp [maxLen])
              exact L835 _ _ ⟨A121, c122, b1164, hf1167.sel (l := [1, 2, 23, 24, 25, 26]) (by kernel_rfl), hm1170.sel [0, 1, 2, 3, 4] _ rfl (by kernel_rfl)⟩
            · refine opOf hf1162 rfl (by kernel_rfl) (aOne [.slice A0_1 x0.Data.length c0_1] (.slice A0_1 x0.Data.length c0_1) [.cell ⟨b21, 1, none⟩ (.slice A0_1 x0.Data.length c0_1)] 27 hf1162 (by kernel_rfl) rfl (by kernel_rfl) ⟨(hm1163.cell 1 rfl rfl), trivial⟩ fun a1171 hf1172 => ?_)
              refine ⟨.inr (Gr.refl _ _), ?_⟩
              exact L868 _ _ ⟨A121, c122, hf1172.sel (l := [1, 2, 23, 24, 26, 27]) (by kernel_rfl), hm1163.sel [0, 1, 2, 3] _ rfl (by kernel_rfl)⟩
            · refine opOf hf1162 rfl (by kernel_rfl) (aNew (cs := [.slice none 0 0, .slice none 0 0]) (T := 28) (d := 5) hf1162 (by kernel_rfl) (by kernel_rfl) ?_)
              intro b1173 w1174 a1175 hbb1173 hx1177 hg1178 hf1176
              refine ⟨.inr (Gr.still hg1178), ?_⟩
              have hm1179 := hm1163.box hbb1173 hx1177 hg1178
              exact L911 _ _ ⟨b1173, A121, c122, hf1176.sel (l := [1, 2, 5, 23, 24, 26]) (by kernel_rfl), hm1179.sel [0, 1, 2, 3, 4] _ rfl (by kernel_rfl)⟩
          refine memoStep (R := fun (a : Act) (w : World) => ∃ (b114 : Nat) (b314 : Nat), Fr 77 a [(1, .float .f64 b1), (2, .pointer (some ⟨b21, 0, none⟩)), (21, .slice (some ⟨b114, 0, none⟩) 0 0), (23, .slice A0_0 x0.Shape.length c0_0), (25, .slice (some ⟨b314, 0, none⟩) 0 0), (26, .pointer (some ⟨b21, 1, none⟩))] ∧ Mem [] M w0 [.ow Kd.float 44 (some ⟨b314, 0, none⟩) 0 ([] : List Nat), .ow (Kd.int .i64) 3 (some ⟨b114, 0, none⟩) 0 ([] : List Int), .bx b21 [.slice A0_0 x0.Shape.length c0_0, .slice A0_1 x0.Data.length c0_1] 28, .sl (Kd.int .i64) A0_0 c0_0 x0.Shape, .sl Kd.float A0_1 c0_1 x0.Data] w) #[true, true, true, false, true, true, false, false, false, false, false] 6 ?_ fun L1180 => ?_
          · rintro a1181 w1182 ⟨b114, b314, hf1183, hm1184⟩
            refine all3 3 6 9 (by kernel_rfl) ?_ ?_ ?_
            · have e1193 : 0 = ([] : List Int).length := rfl
              have e1194 : x0.Shape.length = x0.Shape.length := rfl
              refine opOf hf1183 rfl (by kernel_rfl) (aApp (kd := (Kd.int .i64)) (base := 0) (E := 3) (A := (some ⟨b114, 0, none⟩)) (B := A0_0) (c := 0) (c2 := c0_0) (xs := ([] : List Int)) (ys := x0.Shape) (k := 0) (m := x0.Shape.length) (sz := 1) (d := 24) hf1183 (by kernel_rfl) e1193 e1194 (by kernel_rfl) rfl (by kernel_rfl) (hm1184.at 1 rfl) (hm1184.at2 1 3 rfl rfl).2 (hm1184.cpAt 3 rfl) (Nat.zero_le _) (by have := g59; omega) ?_)
              intro A1185 c1186 w1187 a1188 ho1190 hg1191 hr1192 hf1189
              refine ⟨.inl (by decide), ?_⟩
              have hm1195 : Mem [] M w0 [.ow Kd.float 44 (some ⟨b314, 0, none⟩) 0 ([] : List Nat), .ow (Kd.int .i64) 3 A1185 c1186 (([] : List Int) ++ x0.Shape), .bx b21 [.slice A0_0 x0.Shape.length c0_0, .slice A0_1 x0.Data.length c0_1] 28, .sl (Kd.int .i64) A0_0 c0_0 x0.Shape, .sl Kd.float A0_1 c0_1 x0.Data] w1187 := hm1184.setOwn 1 _ rfl rfl ho1190 hg1191 hr1192
              exact L835 _ _ ⟨A1185, c1186, b314, hf1189.sel (l := [1, 2, 23, 24, 25, 26]) (by kernel_rfl), hm1195.sel [0, 1, 2, 3, 4] _ rfl (by kernel_rfl)⟩
            · refine opOf hf1183 rfl (by kernel_rfl) (aOne [.slice A0_1 x0.Data.length c0_1] (.slice A0_1 x0.Data.length c0_1) [.cell ⟨b21, 1, none⟩ (.slice A0_1 x0.Data.length c0_1)] 27 hf1183 (by kernel_rfl) rfl (by kernel_rfl) ⟨(hm1184.cell 2 rfl rfl), trivial⟩ fun a1196 hf1197 => ?_)
              refine ⟨.inr (Gr.refl _ _), ?_⟩
              exact L968 _ _ ⟨b114, b314, hf1197.sel (l := [1, 2, 21, 23, 25, 26, 27]) (by kernel_rfl), hm1184.sel [0, 1, 2, 3, 4] _ rfl (by kernel_rfl)⟩
            · refine opOf hf1183 rfl (by kernel_rfl) (aNew (cs := [.slice none 0 0, .slice none 0 0]) (T := 28) (d := 5) hf1183 (by kernel_rfl) (by kernel_rfl) ?_)
              intro b1198 w1199 a1200 hbb1198 hx1202 hg1203 hf1201
              refine ⟨.inr (Gr.still hg1203), ?_⟩
              have hm1204 := hm1184.box hbb1198 hx1202 hg1203
              exact L1019 _ _ ⟨b1198, b114, b314, hf1201.sel (l := [1, 2, 5, 21, 23, 25, 26]) (by kernel_rfl), hm1204.sel [0, 1, 2, 3, 4, 5] _ rfl (by kernel_rfl)⟩
          refine memoStep (R := fun (a : Act) (w : World) => ∃ (b114 : Nat), Fr 77 a [(1, .float .f64 b1), (2, .pointer (some ⟨b21, 0, none⟩)), (21, .slice (some ⟨b114, 0, none⟩) 0 0), (23, .slice A0_0 x0.Shape.length c0_0), (26, .pointer (some ⟨b21, 1, none⟩)), (27, .slice A0_1 x0.Data.length c0_1)] ∧ Mem [] M w0 [.ow (Kd.int .i64) 3 (some ⟨b114, 0, none⟩) 0 ([] : List Int), .bx b21 [.slice A0_0 x0.Shape.length c0_0, .slice A0_1 x0.Data.length c0_1] 28, .sl (Kd.int .i64) A0_0 c0_0 x0.Shape, .sl Kd.float A0_1 c0_1 x0.Data] w) #[true, true, true, false, false, true, true, false, false, false, false] 6 ?_ fun L1205 => ?_
          · rintro a1206 w1207 ⟨b114, hf1208, hm1209⟩
            refine all3 3 4 9 (by kernel_rfl) ?_ ?_ ?_
            · have e1218 : 0 = ([] : List Int).length := rfl
              have e1219 : x0.Shape.length = x0.Shape.length := rfl
              refine opOf hf1208 rfl (by kernel_rfl) (aApp (kd := (Kd.int .i64)) (base := 0) (E := 3) (A := (some ⟨b114, 0, none⟩)) (B := A0_0) (c := 0) (c2 := c0_0) (xs := ([] : List Int)) (ys := x0.Shape) (k := 0) (m := x0.Shape.length) (sz := 1) (d := 24) hf1208 (by kernel_rfl) e1218 e1219 (by kernel_rfl) rfl (by kernel_rfl) (hm1209.at 0 rfl) (hm1209.at2 0 2 rfl rfl).2 (hm1209.cpAt 2 rfl) (Nat.zero_le _) (by have := g59; omega) ?_)
              intro A1210 c1211 w1212 a1213 ho1215 hg1216 hr1217 hf1214
              refine ⟨.inl (by decide), ?_⟩
              have hm1220 : Mem [] M w0 [.ow (Kd.int .i64) 3 A1210 c1211 (([] : List Int) ++ x0.Shape), .bx b21 [.slice A0_0 x0.Shape.length c0_0, .slice A0_1 x0.Data.length c0_1] 28, .sl (Kd.int .i64) A0_0 c0_0 x0.Shape, .sl Kd.float A0_1 c0_1 x0.Data] w1212 := hm1209.setOwn 0 _ rfl rfl ho1215 hg1216 hr1217
              exact L868 _ _ ⟨A1210, c1211, hf1214.sel (l := [1, 2, 23, 24, 26, 27]) (by kernel_rfl), hm1220.sel [0, 1, 2, 3] _ rfl (by kernel_rfl)⟩
            · refine opOf hf1208 rfl (by kernel_rfl) (aLit (cs := []) (E := 44) (len := 0) (d := 25) hf1208 (by kernel_rfl) (by kernel_rfl) ?_)
              intro b1221 w1222 a1223 hbb1221 hx1225 hg1226 hf1224
              refine ⟨.inr (Gr.still hg1226), ?_⟩
              have hm1227 : Mem [] M w0 [.ow Kd.float 44 (some ⟨b1221, 0, none⟩) 0 ([] : List Nat), .ow (Kd.int .i64) 3 (some ⟨b114, 0, none⟩) 0 ([] : List Int), .bx b21 [.slice A0_0 x0.Shape.length c0_0, .slice A0_1 x0.Data.length c0_1] 28, .sl (Kd.int .i64) A0_0 c0_0 x0.Shape, .sl Kd.float A0_1 c0_1 x0.Data] w1222 := Mem.litOwn (kd := Kd.float) (xs := ([] : List Nat)) hm1209 hbb1221 hx1225 hg1226 (Els.nil) (by simp [maxLen])
              exact L968 _ _ ⟨b114, b1221, hf1224.sel (l := [1, 2, 21, 23, 25, 26, 27]) (by kernel_rfl), hm1227.sel [0, 1, 2, 3, 4] _ rfl (by kernel_rfl)⟩
            · refine opOf hf1208 rfl (by kernel_rfl) (aNew (cs := [.slice none 0 0, .slice none 0 0]) (T := 28) (d := 5) hf1208 (by kernel_rfl) (by kernel_rfl) ?_)
              intro b1228 w1229 a1230 hbb1228 hx1232 hg1233 hf1231
              refine ⟨.inr (Gr.still hg1233), ?_⟩
              have hm1234 := hm1209.box hbb1228 hx1232 hg1233
              exact L1084 _ _ ⟨b1228, b114, hf1231.sel (l := [1, 2, 5, 21, 23, 26, 27]) (by kernel_rfl), hm1234.sel [0, 1, 2, 3, 4] _ rfl (by kernel_rfl)⟩
          refine memoStep (R := fun (a : Act) (w : World) => ∃ (b544 : Nat) (b114 : Nat), Fr 77 a [(1, .float .f64 b1), (2, .pointer (some ⟨b21, 0, none⟩)), (5, .pointer (some ⟨b544, 0, none⟩)), (21, .slice (some ⟨b114, 0, none⟩) 0 0), (23, .slice A0_0 x0.Shape.length c0_0), (26, .pointer (some ⟨b21, 1, none⟩))] ∧ Mem [] M w0 [.bx b544 [.slice none 0 0, .slice none 0 0] 28, .ow (Kd.int .i64) 3 (some ⟨b114, 0, none⟩) 0 ([] : List Int), .bx b21 [.slice A0_0 x0.Shape.length c0_0, .slice A0_1 x0.Data.length c0_1] 28, .sl (Kd.int .i64) A0_0 c0_0 x0.Shape, .sl Kd.float A0_1 c0_1 x0.Data] w) #[true, true, true, false, false, true, false, false, false, true, false] 6 ?_ fun L1235 => ?_
          · rintro a1236 w1237 ⟨b544, b114, hf1238, hm1239⟩
            refine all3 3 4 6 (by kernel_rfl) ?_ ?_ ?_
            · have e1248 : 0 = ([] : List Int).length := rfl
              have e1249 : x0.Shape.length = x0.Shape.length := rfl
              refine opOf hf1238 rfl (by kernel_rfl) (aApp (kd := (Kd.int .i64)) (base := 0) (E := 3) (A := (some ⟨b114, 0, none⟩)) (B := A0_0) (c := 0) (c2 := c0_0) (xs := ([] : List Int)) (ys := x0.Shape) (k := 0) (m := x0.Shape.length) (sz := 1) (d := 24) hf1238 (by kernel_rfl) e1248 e1249 (by kernel_rfl) rfl (by kernel_rfl) (hm1239.at 1 rfl) (hm1239.at2 1 3 rfl rfl).2 (hm1239.cpAt 3 rfl) (Nat.zero_le _) (by have := g59; omega) ?_)
              intro A1240 c1241 w1242 a1243 ho1245 hg1246 hr1247 hf1244
              refine ⟨.inl (by decide), ?_⟩
              have hm1250 : Mem [] M w0 [.bx b544 [.slice none 0 0, .slice none 0 0] 28, .ow (Kd.int .i64) 3 A1240 c1241 (([] : List Int) ++ x0.Shape), .bx b21 [.slice A0_0 x0.Shape.length c0_0, .slice A0_1 x0.Data.length c0_1] 28, .sl (Kd.int .i64) A0_0 c0_0 x0.Shape, .sl Kd.float A0_1 c0_1 x0.Data] w1242 := hm1239.setOwn 1 _ rfl rfl ho1245 hg1246 hr1247
              exact L911 _ _ ⟨b544, A1240, c1241, hf1244.sel (l := [1, 2, 5, 23, 24, 26]) (by kernel_rfl), hm1250.sel [0, 1, 2, 3, 4] _ rfl (by kernel_rfl)⟩
            · refine opOf hf1238 rfl (by kernel_rfl) (aLit (cs := []) (E := 44) (len := 0) (d := 25) hf1238 (by kernel_rfl) (by kernel_rfl) ?_)
              intro b1251 w1252 a1253 hbb1251 hx1255 hg1256 hf1254
              refine ⟨.inr (Gr.still hg1256), ?_⟩
              have hm1257 : Mem [] M w0 [.ow Kd.float 44 (some ⟨b1251, 0, none⟩) 0 ([] : List Nat), .bx b544 [.slice none 0 0, .slice none 0 0] 28, .ow (Kd.int .i64) 3 (some ⟨b114, 0, none⟩) 0 ([] : List Int), .bx b21 [.slice A0_0 x0.Shape.length c0_0, .slice A0_1 x0.Data.length c0_1] 28, .sl (Kd.int .i64) A0_0 c0_0 x0.Shape, .sl Kd.float A0_1 c0_1 x0.Data] w1252 := Mem.litOwn (kd := Kd.float) (xs := ([] : List Nat)) hm1239 hbb1251 hx1255 hg1256 (Els.nil) (by simp [maxLen])
              exact L1019 _ _ ⟨b544, b114, b1251, hf1254.sel (l := [1, 2, 5, 21, 23, 25, 26]) (by kernel_rfl), hm1257.sel [1, 0, 2, 3, 4, 5] _ rfl (by kernel_rfl)⟩
            · refine opOf hf1238 rfl (by kernel_rfl) (aOne [.slice A0_1 x0.Data.length c0_1] (.slice A0_1 x0.Data.length c0_1) [.cell ⟨b21, 1, none⟩ (.slice A0_1 x0.Data.length c0_1)] 27 hf1238 (by kernel_rfl) rfl (by kernel_rfl) ⟨(hm1239.cell 2 rfl rfl), trivial⟩ fun a1258 hf1259 => ?_)
              refine ⟨.inr (Gr.refl _ _), ?_⟩
              exact L1084 _ _ ⟨b544, b114, hf1259.sel (l := [1, 2, 5, 21, 23, 26, 27]) (by kernel_rfl), hm1239.sel [0, 1, 2, 3, 4] _ rfl (by kernel_rfl)⟩
          refine memoStep (R := fun (a : Act) (w : World) => ∃ (b571 : Nat), Fr 77 a [(1, .float .f64 b1), (2, .pointer (some ⟨b21, 0, none⟩)), (23, .slice A0_0 x0.Shape.length c0_0), (25, .slice (some ⟨b571, 0, none⟩) 0 0), (26, .pointer (some ⟨b21, 1, none⟩)), (27, .slice A0_1 x0.Data.length c0_1)] ∧ Mem [] M w0 [.ow Kd.float 44 (some ⟨b571, 0, none⟩) 0 ([] : List Nat), .bx b21 [.slice A0_0 x0.Shape.length c0_0, .slice A0_1 x0.Data.length c0_1] 28, .sl (Kd.int .i64) A0_0 c0_0 x0.Shape, .sl Kd.float A0_1 c0_1 x0.Data] w) #[false, true, true, false, true, true, true, false, false, false, false] 6 ?_ fun L1260 => ?_
          · rintro a1261 w1262 ⟨b571, hf1263, hm1264⟩
            refine all2 0 9 (by kernel_rfl) ?_ ?_
            · refine opOf hf1263 rfl (by kernel_rfl) (aLit (cs := []) (E := 3) (len := 0) (d := 21) hf1263 (by kernel_rfl) (by kernel_rfl) ?_)
              intro b1265 w1266 a1267 hbb1265 hx1269 hg1270 hf1268
              refine ⟨.inr (Gr.still hg1270), ?_⟩
              have hm1271 : Mem [] M w0 [.ow (Kd.int .i64) 3 (some ⟨b1265, 0, none⟩) 0 ([] : List Int), .ow Kd.float 44 (some ⟨b571, 0, none⟩) 0 ([] : List Nat), .bx b21 [.slice A0_0 x0.Shape.length c0_0, .slice A0_1 x0.Data.length c0_1] 28, .sl (Kd.int .i64) A0_0 c0_0 x0.Shape, .sl Kd.float A0_1 c0_1 x0.Data] w1266 := Mem.litOwn (kd := (Kd.int .i64)) (xs := ([] : List Int)) hm1264 hbb1265 hx1269 hg1270 (Els.nil) (by simp [maxLen])
              exact L968 _ _ ⟨b1265, b571, hf1268.sel (l := [1, 2, 21, 23, 25, 26, 27]) (by kernel_rfl), hm1271.sel [1, 0, 2, 3, 4] _ rfl (by kernel_rfl)⟩
            · refine opOf hf1263 rfl (by kernel_rfl) (aNew (cs := [.slice none 0 0, .slice none 0 0]) (T := 28) (d := 5) hf1263 (by kernel_rfl) (by kernel_rfl) ?_)
              intro b1272 w1273 a1274 hbb1272 hx1276 hg1277 hf1275
              refine ⟨.inr (Gr.still hg1277), ?_⟩
              have hm1278 := hm1264.box hbb1272 hx1276 hg1277
              refine all1 0 (by kernel_rfl) ?_
              refine opOf hf1275 rfl (by kernel_rfl) (aLit (cs := []) (E := 3) (len := 0) (d := 21) hf1275 (by kernel_rfl) (by kernel_rfl) ?_)
              intro b1279 w1280 a1281 hbb1279 hx1283 hg1284 hf1282
              refine ⟨.inr (Gr.still hg1284), ?_⟩
              have hm1285 : Mem [] M w0 [.ow (Kd.int .i64) 3 (some ⟨b1279, 0, none⟩) 0 ([] : List Int), .bx b1272 [.slice none 0 0, .slice none 0 0] 28, .ow Kd.float 44 (some ⟨b571, 0, none⟩) 0 ([] : List Nat), .bx b21 [.slice A0_0 x0.Shape.length c0_0, .slice A0_1 x0.Data.length c0_1] 28, .sl (Kd.int .i64) A0_0 c0_0 x0.Shape, .sl Kd.float A0_1 c0_1 x0.Data] w1280 := Mem.litOwn (kd := (Kd.int .i64)) (xs := ([] : List Int)) hm1278 hbb1279 hx1283 hg1284 (Els.nil) (by simp [maxLen])
              refine all1 3 (by kernel_rfl) ?_
              have e1294 : 0 = ([] : List Int).length := rfl
              have e1295 : x0.Shape.length = x0.Shape.length := rfl
              refine opOf hf1282 rfl (by kernel_rfl) (aApp (kd := (Kd.int .i64)) (base := 0) (E := 3) (A := (some ⟨b1279, 0, none⟩)) (B := A0_0) (c := 0) (c2 := c0_0) (xs := ([] : List Int)) (ys := x0.Shape) (k := 0) (m := x0.Shape.length) (sz := 1) (d := 24) hf1282 (by kernel_rfl) e1294 e1295 (by kernel_rfl) rfl (by kernel_rfl) (hm1285.at 0 rfl) (hm1285.at2 0 4 rfl rfl).2 (hm1285.cpAt 4 rfl) (Nat.zero_le _) (by have := g59; omega) ?_)
              intro A1286 c1287 w1288 a1289 ho1291 hg1292 hr1293 hf1290
              refine ⟨.inl (by decide), ?_⟩
              have hm1296 : Mem [] M w0 [.ow (Kd.int .i64) 3 A1286 c1287 (([] : List Int) ++ x0.Shape), .bx b1272 [.slice none 0 0, .slice none 0 0] 28, .ow Kd.float 44 (some ⟨b571, 0, none⟩) 0 ([] : List Nat), .bx b21 [.slice A0_0 x0.Shape.length c0_0, .slice A0_1 x0.Data.length c0_1] 28, .sl (Kd.int .i64) A0_0 c0_0 x0.Shape, .sl Kd.float A0_1 c0_1 x0.Data] w1288 := hm1285.setOwn 0 _ rfl rfl ho1291 hg1292 hr1293
              refine all1 7 (by kernel_rfl) ?_
              have e1305 : 0 = ([] : List Nat).length := rfl
              have e1306 : x0.Data.length = x0.Data.length := rfl
              refine opOf hf1290 rfl (by kernel_rfl) (aApp (kd := Kd.float) (base := 0) (E := 44) (A := (some ⟨b571, 0, none⟩)) (B := A0_1) (c := 0) (c2 := c0_1) (xs := ([] : List Nat)) (ys := x0.Data) (k := 0) (m := x0.Data.length) (sz := 1) (d := 28) hf1290 (by kernel_rfl) e1305 e1306 (by kernel_rfl) rfl (by kernel_rfl) (hm1296.at 2 rfl) (hm1296.at2 2 5 rfl rfl).2 (hm1296.cpAt 5 rfl) (Nat.zero_le _) (by have := g60; omega) ?_)
              intro A1297 c1298 w1299 a1300 ho1302 hg1303 hr1304 hf1301
              refine ⟨.inl (by decide), ?_⟩
              have hm1307 : Mem [] M w0 [.ow (Kd.int .i64) 3 A1286 c1287 (([] : List Int) ++ x0.Shape), .bx b1272 [.slice none 0 0, .slice none 0 0] 28, .ow Kd.float 44 A1297 c1298 (([] : List Nat) ++ x0.Data), .bx b21 [.slice A0_0 x0.Shape.length c0_0, .slice A0_1 x0.Data.length c0_1] 28, .sl (Kd.int .i64) A0_0 c0_0 x0.Shape, .sl Kd.float A0_1 c0_1 x0.Data] w1299 := hm1296.setOwn 2 _ rfl rfl ho1302 hg1303 hr1304
              refine quiet0 [8] [] [1, 2, 5, 29] #[true, true, true, true, true, true, true, true, true, true, false] [(1, .float .f64 b1), (2, .pointer (some ⟨b21, 0, none⟩)), (5, .pointer (some ⟨b1272, 0, none⟩)), (29, .agg #[.slice A1286 ((([] : List Int) ++ x0.Shape).length) c1287, .slice A1297 ((([] : List Nat) ++ x0.Data).length) c1298])] [] 1 rfl (by kernel_rfl) (fun _ _ _ _ _ h => nomatch h.1) hf1301 (by kernel_rfl) trivial fun a1308 hf1309 => ?_
              refine all1 10 (by kernel_rfl) ?_
              refine opOf hf1309 rfl (by kernel_rfl) (aStoreB (b := b1272) (j := 0) (T := 28) (cs := [.slice none 0 0, .slice none 0 0]) (us := [.slice A1286 ((([] : List Int) ++ x0.Shape).length) c1287, .slice A1297 ((([] : List Nat) ++ x0.Data).length) c1298]) (cs' := [.slice A1286 ((([] : List Int) ++ x0.Shape).length) c1287, .slice A1297 ((([] : List Nat) ++ x0.Data).length) c1298]) hf1309 (by kernel_rfl) (hm1307.bxAt 1 rfl) (by kernel_rfl) (by kernel_rfl) (by kernel_rfl) ?_)
              intro w1310 hx1311 hg1312
              refine ⟨.inl (by decide), ?_⟩
              have hm1313 := hm1307.setBox 1 _ rfl rfl hx1311 hg1312
              refine allDone (by kernel_rfl) ⟨rfl, b1272, A1286, c1287, A1297, c1298, hf1309.sel (l := [1, 2, 5]) (by kernel_rfl), hm1313.sel [1, 2, 0, 3, 4, 5] _ rfl (by kernel_rfl)⟩
          refine memoStep (R := fun (a : Act) (w : World) => ∃ (b636 : Nat) (b571 : Nat), Fr 77 a [(1, .float .f64 b1), (2, .pointer (some ⟨b21, 0, none⟩)), (5, .pointer (some ⟨b636, 0, none⟩)), (23, .slice A0_0 x0.Shape.length c0_0), (25, .slice (some ⟨b571, 0, none⟩) 0 0), (26, .pointer (some ⟨b21, 1, none⟩))] ∧ Mem [] M w0 [.bx b636 [.slice none 0 0, .slice none 0 0] 28, .ow Kd.float 44 (some ⟨b571, 0, none⟩) 0 ([] : List Nat), .bx b21 [.slice A0_0 x0.Shape.length c0_0, .slice A0_1 x0.Data.length c0_1] 28, .sl (Kd.int .i64) A0_0 c0_0 x0.Shape, .sl Kd.float A0_1 c0_1 x0.Data] w) #[false, true, true, false, true, true, false, false, false, true, false] 6 ?_ fun L1314 => ?_
          · rintro a1315 w1316 ⟨b636, b571, hf1317, hm1318⟩
            refine all2 0 6 (by kernel_rfl) ?_ ?_
            · refine opOf hf1317 rfl (by kernel_rfl) (aLit (cs := []) (E := 3) (len := 0) (d := 21) hf1317 (by kernel_rfl) (by kernel_rfl) ?_)
              intro b1319 w1320 a1321 hbb1319 hx1323 hg1324 hf1322
              refine ⟨.inr (Gr.still hg1324), ?_⟩
              have hm1325 : Mem [] M w0 [.ow (Kd.int .i64) 3 (some ⟨b1319, 0, none⟩) 0 ([] : List Int), .bx b636 [.slice none 0 0, .slice none 0 0] 28, .ow Kd.float 44 (some ⟨b571, 0, none⟩) 0 ([] : List Nat), .bx b21 [.slice A0_0 x0.Shape.length c0_0, .slice A0_1 x0.Data.length c0_1] 28, .sl (Kd.int .i64) A0_0 c0_0 x0.Shape, .sl Kd.float A0_1 c0_1 x0.Data] w1320 := Mem.litOwn (kd := (Kd.int .i64)) (xs := ([] : List Int)) hm1318 hbb1319 hx1323 hg1324 (Els.nil) (by simp [maxLen])
              exact L1019 _ _ ⟨b636, b1319, b571, hf1322.sel (l := [1, 2, 5, 21, 23, 25, 26]) (by kernel_rfl), hm1325.sel [1, 2, 0, 3, 4, 5] _ rfl (by kernel_rfl)⟩
            · refine opOf hf1317 rfl (by kernel_rfl) (aOne [.slice A0_1 x0.Data.length c0_1] (.slice A0_1 x0.Data.length c0_1) [.cell ⟨b21, 1, none⟩ (.slice A0_1 x0.Data.length c0_1)] 27 hf1317 (by kernel_rfl) rfl (by kernel_rfl) ⟨(hm1318.cell 2 rfl rfl), trivial⟩ fun a1326 hf1327 => ?_)
              refine ⟨.inr (Gr.refl _ _), ?_⟩
              refine all1 0 (by kernel_rfl) ?_
              refine opOf hf1327 rfl (by kernel_rfl) (aLit (cs := []) (E := 3) (len := 0) (d := 21) hf1327 (by kernel_rfl) (by kernel_rfl) ?_)
              intro b1328 w1329 a1330 hbb1328 hx1332 hg1333 hf1331
              refine ⟨.inr (Gr.still hg1333), ?_⟩
              have hm1334 : Mem [] M w0 [.ow (Kd.int .i64) 3 (some ⟨b1328, 0, none⟩) 0 ([] : List Int), .bx b636 [.slice none 0 0, .slice none 0 0] 28, .ow Kd.float 44 (some ⟨b571, 0, none⟩) 0 ([] : List Nat), .bx b21 [.slice A0_0 x0.Shape.length c0_0, .slice A0_1 x0.Data.length c0_1] 28, .sl (Kd.int .i64) A0_0 c0_0 x0.Shape, .sl Kd.float A0_1 c0_1 x0.Data] w1329 := Mem.litOwn (kd := (Kd.int .i64)) (xs := ([] : List Int)) hm1318 hbb1328 hx1332 hg1333 (Els.nil) (by simp [maxLen])
              refine all1 3 (by kernel_rfl) ?_
              have e1343 : 0 = ([] : List Int).length := rfl
              have e1344 : x0.Shape.length = x0.Shape.length := rfl
              refine opOf hf1331 rfl (by kernel_rfl) (aApp (kd := (Kd.int .i64)) (base := 0) (E := 3) (A := (some ⟨b1328, 0, none⟩)) (B := A0_0) (c := 0) (c2 := c0_0) (xs := ([] : List Int)) (ys := x0.Shape) (k := 0) (m := x0.Shape.length) (sz := 1) (d := 24) hf1331 (by kernel_rfl) e1343 e1344 (by kernel_rfl) rfl (by kernel_rfl) (hm1334.at 0 rfl) (hm1334.at2 0 4 rfl rfl).2 (hm1334.cpAt 4 rfl) (Nat.zero_le _) (by have := g59; omega) ?_)
              intro A1335 c1336 w1337 a1338 ho1340 hg1341 hr1342 hf1339
              refine ⟨.inl (by decide), ?_⟩
              have hm1345 : Mem [] M w0 [.ow (Kd.int .i64) 3 A1335 c1336 (([] : List Int) ++ x0.Shape), .bx b636 [.slice none 0 0, .slice none 0 0] 28, .ow Kd.float 44 (some ⟨b571, 0, none⟩) 0 ([] : List Nat), .bx b21 [.slice A0_0 x0.Shape.length c0_0, .slice A0_1 x0.Data.length c0_1] 28, .sl (Kd.int .i64) A0_0 c0_0 x0.Shape, .sl Kd.float A0_1 c0_1 x0.Data] w1337 := hm1334.setOwn 0 _ rfl rfl ho1340 hg1341 hr1342
              refine all1 7 (by kernel_rfl) ?_
              have e1354 : 0 = ([] : List Nat).length := rfl
              have e1355 : x0.Data.length = x0.Data.length := rfl
              refine opOf hf1339 rfl (by kernel_rfl) (aApp (kd := Kd.float) (base := 0) (E := 44) (A := (some ⟨b571, 0, none⟩)) (B := A0_1) (c := 0) (c2 := c0_1) (xs := ([] : List Nat)) (ys := x0.Data) (k := 0) (m := x0.Data.length) (sz := 1) (d := 28) hf1339 (by kernel_rfl) e1354 e1355 (by kernel_rfl) rfl (by kernel_rfl) (hm1345.at 2 rfl) (hm1345.at2 2 5 rfl rfl).2 (hm1345.cpAt 5 rfl) (Nat.zero_le _) (by have := g60; omega) ?_)
              intro A1346 c1347 w1348 a1349 ho1351 hg1352 hr1353 hf1350
              refine ⟨.inl (by decide), ?_⟩
              have hm1356 : Mem [] M w0 [.ow (Kd.int .i64) 3 A1335 c1336 (([] : List Int) ++ x0.Shape), .bx b636 [.slice none 0 0, .slice none 0 0] 28, .ow Kd.float 44 A1346 c1347 (([] : List Nat) ++ x0.Data), .bx b21 [.slice A0_0 x0.Shape.length c0_0, .slice A0_1 x0.Data.length c0_1] 28, .sl (Kd.int .i64) A0_0 c0_0 x0.Shape, .sl Kd.float A0_1 c0_1 x0.Data] w1348 := hm1345.setOwn 2 _ rfl rfl ho1351 hg1352 hr1353
              refine quiet0 [8] [] [1, 2, 5, 29] #[true, true, true, true, true, true, true, true, true, true, false] [(1, .float .f64 b1), (2, .pointer (some ⟨b21, 0, none⟩)), (5, .pointer (some ⟨b636, 0, none⟩)), (29, .agg #[.slice A1335 ((([] : List Int) ++ x0.Shape).length) c1336, .slice A1346 ((([] : List Nat) ++ x0.Data).length) c1347])] [] 1 rfl (by kernel_rfl) (fun _ _ _ _ _ h => nomatch h.1) hf1350 (by kernel_rfl) trivial fun a1357 hf1358 => ?_
              refine all1 10 (by kernel_rfl) ?_
              refine opOf hf1358 rfl (by kernel_rfl) (aStoreB (b := b636) (j := 0) (T := 28) (cs := [.slice none 0 0, .slice none 0 0]) (us := [.slice A1335 ((([] : List Int) ++ x0.Shape).length) c1336, .slice A1346 ((([] : List Nat) ++ x0.Data).length) c1347]) (cs' := [.slice A1335 ((([] : List Int) ++ x0.Shape).length) c1336, .slice A1346 ((([] : List Nat) ++ x0.Data).length) c1347]) hf1358 (by kernel_rfl) (hm1356.bxAt 1 rfl) (by kernel_rfl) (by kernel_rfl) (by kernel_rfl) ?_)
              intro w1359 hx1360 hg1361
              refine ⟨.inl (by decide), ?_⟩
              have hm1362 := hm1356.setBox 1 _ rfl rfl hx1360 hg1361
              refine allDone (by kernel_rfl) ⟨rfl, b636, A1335, c1336, A1346, c1347, hf1358.sel (l := [1, 2, 5]) (by kernel_rfl), hm1362.sel [1, 2, 0, 3, 4, 5] _ rfl (by kernel_rfl)⟩
          refine memoStep (R := fun (a : Act) (w : World) => ∃ (b703 : Nat), Fr 77 a [(1, .float .f64 b1), (2, .pointer (some ⟨b21, 0, none⟩)), (5, .pointer (some ⟨b703, 0, none⟩)), (23, .slice A0_0 x0.Shape.length c0_0), (26, .pointer (some ⟨b21, 1, none⟩)), (27, .slice A0_1 x0.Data.length c0_1)] ∧ Mem [] M w0 [.bx b703 [.slice none 0 0, .slice none 0 0] 28, .bx b21 [.slice A0_0 x0.Shape.length c0_0, .slice A0_1 x0.Data.length c0_1] 28, .sl (Kd.int .i64) A0_0 c0_0 x0.Shape, .sl Kd.float A0_1 c0_1 x0.Data] w) #[false, true, true, false, false, true, true, false, false, true, false] 6 ?_ fun L1363 => ?_
          · rintro a1364 w1365 ⟨b703, hf1366, hm1367⟩
            refine all2 0 4 (by kernel_rfl) ?_ ?_
            · refine opOf hf1366 rfl (by kernel_rfl) (aLit (cs := []) (E := 3) (len := 0) (d := 21) hf1366 (by kernel_rfl) (by kernel_rfl) ?_)
              intro b1368 w1369 a1370 hbb1368 hx1372 hg1373 hf1371
              refine ⟨.inr (Gr.still hg1373), ?_⟩
              have hm1374 : Mem [] M w0 [.ow (Kd.int .i64) 3 (some ⟨b1368, 0, none⟩) 0 ([] : List Int), .bx b703 [.slice none 0 0, .slice none 0 0] 28, .bx b21 [.slice A0_0 x0.Shape.length c0_0, .slice A0_1 x0.Data.length c0_1] 28, .sl (Kd.int .i64) A0_0 c0_0 x0.Shape, .sl Kd.float A0_1 c0_1 x0.Data] w1369 := Mem.litOwn (kd := (Kd.int .i64)) (xs := ([] : List Int)) hm1367 hbb1368 hx1372 hg1373 (Els.nil) (by simp [maxLen])
              exact L1084 _ _ ⟨b703, b1368, hf1371.sel (l := [1, 2, 5, 21, 23, 26, 27]) (by kernel_rfl), hm1374.sel [1, 0, 2, 3, 4] _ rfl (by kernel_rfl)⟩
            · refine opOf hf1366 rfl (by kernel_rfl) (aLit (cs := []) (E := 44) (len := 0) (d := 25) hf1366 (by kernel_rfl) (by kernel_rfl) ?_)
              intro b1375 w1376 a1377 hbb1375 hx1379 hg1380 hf1378
              refine ⟨.inr (Gr.still hg1380), ?_⟩
              have hm1381 : Mem [] M w0 [.ow Kd.float 44 (some ⟨b1375, 0, none⟩) 0 ([] : List Nat), .bx b703 [.slice none 0 0, .slice none 0 0] 28, .bx b21 [.slice A0_0 x0.Shape.length c0_0, .slice A0_1 x0.Data.length c0_1] 28, .sl (Kd.int .i64) A0_0 c0_0 x0.Shape, .sl Kd.float A0_1 c0_1 x0.Data] w1376 := Mem.litOwn (kd := Kd.float) (xs := ([] : List Nat)) hm1367 hbb1375 hx1379 hg1380 (Els.nil) (by simp [maxLen])
              refine all1 0 (by kernel_rfl) ?_
              refine opOf hf1378 rfl (by kernel_rfl) (aLit (cs := []) (E := 3) (len := 0) (d := 21) hf1378 (by kernel_rfl) (by kernel_rfl) ?_)
              intro b1382 w1383 a1384 hbb1382 hx1386 hg1387 hf1385
              refine ⟨.inr (Gr.still hg1387), ?_⟩
              have hm1388 : Mem [] M w0 [.ow (Kd.int .i64) 3 (some ⟨b1382, 0, none⟩) 0 ([] : List Int), .ow Kd.float 44 (some ⟨b1375, 0, none⟩) 0 ([] : List Nat), .bx b703 [.slice none 0 0, .slice none 0 0] 28, .bx b21 [.slice A0_0 x0.Shape.length c0_0, .slice A0_1 x0.Data.length c0_1] 28, .sl (Kd.int .i64) A0_0 c0_0 x0.Shape, .sl Kd.float A0_1 c0_1 x0.Data] w1383 := Mem.litOwn (kd := (Kd.int .i64)) (xs := ([] : List Int)) hm1381 hbb1382 hx1386 hg1387 (Els.nil) (by simp [maxLen])
              refine all1 3 (by kernel_rfl) ?_
              have e1397 : 0 = ([] : List Int).length := rfl
              have e1398 : x0.Shape.length = x0.Shape.length := rfl
              refine opOf hf1385 rfl (by kernel_rfl) (aApp (kd := (Kd.int .i64)) (base := 0) (E := 3) (A := (some ⟨b1382, 0, none⟩)) (B := A0_0) (c := 0) (c2 := c0_0) (xs := ([] : List Int)) (ys := x0.Shape) (k := 0) (m := x0.Shape.length) (sz := 1) (d := 24) hf1385 (by kernel_rfl) e1397 e1398 (by kernel_rfl) rfl (by kernel_rfl) (hm1388.at 0 rfl) (hm1388.at2 0 4 rfl rfl).2 (hm1388.cpAt 4 rfl) (Nat.zero_le _) (by have := g59; omega) ?_)
              intro A1389 c1390 w1391 a1392 ho1394 hg1395 hr1396 hf1393
              refine ⟨.inl (by decide), ?_⟩
              have hm1399 : Mem [] M w0 [.ow (Kd.int .i64) 3 A1389 c1390 (([] : List Int) ++ x0.Shape), .ow Kd.float 44 (some ⟨b1375, 0, none⟩) 0 ([] : List Nat), .bx b703 [.slice none 0 0, .slice none 0 0] 28, .bx b21 [.slice A0_0 x0.Shape.length c0_0, .slice A0_1 x0.Data.length c0_1] 28, .sl (Kd.int .i64) A0_0 c0_0 x0.Shape, .sl Kd.float A0_1 c0_1 x0.Data] w1391 := hm1388.setOwn 0 _ rfl rfl ho1394 hg1395 hr1396
              refine all1 7 (by kernel_rfl) ?_
              have e1408 : 0 = ([] : List Nat).length := rfl
              have e1409 : x0.Data.length = x0.Data.length := rfl
              refine opOf hf1393 rfl (by kernel_rfl) (aApp (kd := Kd.float) (base := 0) (E := 44) (A := (some ⟨b1375, 0, none⟩)) (B := A0_1) (c := 0) (c2 := c0_1) (xs := ([] : List Nat)) (ys := x0.Data) (k := 0) (m := x0.Data.length) (sz := 1) (d := 28) hf1393 (by kernel_rfl) e1408 e1409 (by kernel_rfl) rfl (by kernel_rfl) (hm1399.at 1 rfl) (hm1399.at2 1 5 rfl rfl).2 (hm1399.cpAt 5 rfl) (Nat.zero_le _) (by have := g60; omega) ?_)
              intro A1400 c1401 w1402 a1403 ho1405 hg1406 hr1407 hf1404
              refine ⟨.inl (by decide), ?_⟩
              have hm1410 : Mem [] M w0 [.ow (Kd.int .i64) 3 A1389 c1390 (([] : List Int) ++ x0.Shape), .ow Kd.float 44 A1400 c1401 (([] : List Nat) ++ x0.Data), .bx b703 [.slice none 0 0, .slice none 0 0] 28, .bx b21 [.slice A0_0 x0.Shape.length c0_0, .slice A0_1 x0.Data.length c0_1] 28, .sl (Kd.int .i64) A0_0 c0_0 x0.Shape, .sl Kd.float A0_1 c0_1 x0.Data] w1402 := hm1399.setOwn 1 _ rfl rfl ho1405 hg1406 hr1407
              refine quiet0 [8] [] [1, 2, 5, 29] #[true, true, true, true, true, true, true, true, true, true, false] [(1, .float .f64 b1), (2, .pointer (some ⟨b21, 0, none⟩)), (5, .pointer (some ⟨b703, 0, none⟩)), (29, .agg #[.slice A1389 ((([] : List Int) ++ x0.Shape).length) c1390, .slice A1400 ((([] : List Nat) ++ x0.Data).length) c1401])] [] 1 rfl (by kernel_rfl) (fun _ _ _ _ _ h => nomatch h.1) hf1404 (by kernel_rfl) trivial fun a1411 hf1412 => ?_
              refine all1 10 (by kernel_rfl) ?_
              refine opOf hf1412 rfl (by kernel_rfl) (aStoreB (b := b703) (j := 0) (T := 28) (cs := [.slice none 0 0, .slice none 0 0]) (us := [.slice A1389 ((([] : List Int) ++ x0.Shape).length) c1390, .slice A1400 ((([] : List Nat) ++ x0.Data).length) c1401]) (cs' := [.slice A1389 ((([] : List Int) ++ x0.Shape).length) c1390, .slice A1400 ((([] : List Nat) ++ x0.Data).length) c1401]) hf1412 (by kernel_rfl) (hm1410.bxAt 2 rfl) (by kernel_rfl) (by kernel_rfl) (by kernel_rfl) ?_)
              intro w1413 hx1414 hg1415
              refine ⟨.inl (by decide), ?_⟩
              have hm1416 := hm1410.setBox 2 _ rfl rfl hx1414 hg1415
              refine allDone (by kernel_rfl) ⟨rfl, b703, A1389, c1390, A1400, c1401, hf1412.sel (l := [1, 2, 5]) (by kernel_rfl), hm1416.sel [2, 1, 0, 3, 4, 5] _ rfl (by kernel_rfl)⟩
          refine memoStep (R := fun (a : Act) (w : World) => ∃ (b114 : Nat), Fr 77 a [(1, .float .f64 b1), (2, .pointer (some ⟨b21, 0, none⟩)), (21, .slice (some ⟨b114, 0, none⟩) 0 0), (23, .slice A0_0 x0.Shape.length c0_0), (26, .pointer (some ⟨b21, 1, none⟩))] ∧ Mem [] M w0 [.ow (Kd.int .i64) 3 (some ⟨b114, 0, none⟩) 0 ([] : List Int), .bx b21 [.slice A0_0 x0.Shape.length c0_0, .slice A0_1 x0.Data.length c0_1] 28, .sl (Kd.int .i64) A0_0 c0_0 x0.Shape, .sl Kd.float A0_1 c0_1 x0.Data] w) #[true, true, true, false, false, true, false, false, false, false, false] 7 ?_ fun L1417 => ?_
          · rintro a1418 w1419 ⟨b114, hf1420, hm1421⟩
            refine all4 3 4 6 9 (by kernel_rfl) ?_ ?_ ?_ ?_
            · have e1430 : 0 = ([] : List Int).length := rfl
              have e1431 : x0.Shape.length = x0.Shape.length := rfl
              refine opOf hf1420 rfl (by kernel_rfl) (aApp (kd := (Kd.int .i64)) (base := 0) (E := 3) (A := (some ⟨b114, 0, none⟩)) (B := A0_0) (c := 0) (c2 := c0_0) (xs := ([] : List Int)) (ys := x0.Shape) (k := 0) (m := x0.Shape.length) (sz := 1) (d := 24) hf1420 (by kernel_rfl) e1430 e1431 (by kernel_rfl) rfl (by kernel_rfl) (hm1421.at 0 rfl) (hm1421.at2 0 2 rfl rfl).2 (hm1421.cpAt 2 rfl) (Nat.zero_le _) (by have := g59; omega) ?_)
              intro A1422 c1423 w1424 a1425 ho1427 hg1428 hr1429 hf1426
              refine ⟨.inl (by decide), ?_⟩
              have hm1432 : Mem [] M w0 [.ow (Kd.int .i64) 3 A1422 c1423 (([] : List Int) ++ x0.Shape), .bx b21 [.slice A0_0 x0.Shape.length c0_0, .slice A0_1 x0.Data.length c0_1] 28, .sl (Kd.int .i64) A0_0 c0_0 x0.Shape, .sl Kd.float A0_1 c0_1 x0.Data] w1424 := hm1421.setOwn 0 _ rfl rfl ho1427 hg1428 hr1429
              exact L1159 _ _ ⟨A1422, c1423, hf1426.sel (l := [1, 2, 23, 24, 26]) (by kernel_rfl), hm1432.sel [0, 1, 2, 3] _ rfl (by kernel_rfl)⟩
            · refine opOf hf1420 rfl (by kernel_rfl) (aLit (cs := []) (E := 44) (len := 0) (d := 25) hf1420 (by kernel_rfl) (by kernel_rfl) ?_)
              intro b1433 w1434 a1435 hbb1433 hx1437 hg1438 hf1436
              refine ⟨.inr (Gr.still hg1438), ?_⟩
              have hm1439 : Mem [] M w0 [.ow Kd.float 44 (some ⟨b1433, 0, none⟩) 0 ([] : List Nat), .ow (Kd.int .i64) 3 (some ⟨b114, 0, none⟩) 0 ([] : List Int), .bx b21 [.slice A0_0 x0.Shape.length c0_0, .slice A0_1 x0.Data.length c0_1] 28, .sl (Kd.int .i64) A0_0 c0_0 x0.Shape, .sl Kd.float A0_1 c0_1 x0.Data] w1434 := Mem.litOwn (kd := Kd.float) (xs := ([] : List Nat)) hm1421 hbb1433 hx1437 hg1438 (Els.nil) (by simp [maxLen])
              exact L1180 _ _ ⟨b114, b1433, hf1436.sel (l := [1, 2, 21, 23, 25, 26]) (by kernel_rfl), hm1439.sel [0, 1, 2, 3, 4] _ rfl (by kernel_rfl)⟩
            · refine opOf hf1420 rfl (by kernel_rfl) (aOne [.slice A0_1 x0.Data.length c0_1] (.slice A0_1 x0.Data.length c0_1) [.cell ⟨b21, 1, none⟩ (.slice A0_1 x0.Data.length c0_1)] 27 hf1420 (by kernel_rfl) rfl (by kernel_rfl) ⟨(hm1421.cell 1 rfl rfl), trivial⟩ fun a1440 hf1441 => ?_)
              refine ⟨.inr (Gr.refl _ _), ?_⟩
              exact L1205 _ _ ⟨b114, hf1441.sel (l := [1, 2, 21, 23, 26, 27]) (by kernel_rfl), hm1421.sel [0, 1, 2, 3] _ rfl (by kernel_rfl)⟩
            · refine opOf hf1420 rfl (by kernel_rfl) (aNew (cs := [.slice none 0 0, .slice none 0 0]) (T := 28) (d := 5) hf1420 (by kernel_rfl) (by kernel_rfl) ?_)
              intro b1442 w1443 a1444 hbb1442 hx1446 hg1447 hf1445
              refine ⟨.inr (Gr.still hg1447), ?_⟩
              have hm1448 := hm1421.box hbb1442 hx1446 hg1447
              exact L1235 _ _ ⟨b1442, b114, hf1445.sel (l := [1, 2, 5, 21, 23, 26]) (by kernel_rfl), hm1448.sel [0, 1, 2, 3, 4] _ rfl (by kernel_rfl)⟩
          refine memoStep (R := fun (a : Act) (w : World) => ∃ (b571 : Nat), Fr 77 a [(1, .float .f64 b1), (2, .pointer (some ⟨b21, 0, none⟩)), (23, .slice A0_0 x0.Shape.length c0_0), (25, .slice (some ⟨b571, 0, none⟩) 0 0), (26, .pointer (some ⟨b21, 1, none⟩))] ∧ Mem [] M w0 [.ow Kd.float 44 (some ⟨b571, 0, none⟩) 0 ([] : List Nat), .bx b21 [.slice A0_0 x0.Shape.length c0_0, .slice A0_1 x0.Data.length c0_1] 28, .sl (Kd.int .i64) A0_0 c0_0 x0.Shape, .sl Kd.float A0_1 c0_1 x0.Data] w) #[false, true, true, false, true, true, false, false, false, false, false] 7 ?_ fun L1449 => ?_
          · rintro a1450 w1451 ⟨b571, hf1452, hm1453⟩
            refine all3 0 6 9 (by kernel_rfl) ?_ ?_ ?_
            · refine opOf hf1452 rfl (by kernel_rfl) (aLit (cs := []) (E := 3) (len := 0) (d := 21) hf1452 (by kernel_rfl) (by kernel_rfl) ?_)
              intro b1454 w1455 a1456 hbb1454 hx1458 hg1459 hf1457
              refine ⟨.inr (Gr.still hg1459), ?_⟩
              have hm1460 : Mem [] M w0 [.ow (Kd.int .i64) 3 (some ⟨b1454, 0, none⟩) 0 ([] : List Int), .ow Kd.float 44 (some ⟨b571, 0, none⟩) 0 ([] : List Nat), .bx b21 [.slice A0_0 x0.Shape.length c0_0, .slice A0_1 x0.Data.length c0_1] 28, .sl (Kd.int .i64) A0_0 c0_0 x0.Shape, .sl Kd.float A0_1 c0_1 x0.Data] w1455 := Mem.litOwn (kd := (Kd.int .i64)) (xs := ([] : List Int)) hm1453 hbb1454 hx1458 hg1459 (Els.nil) (by simp [maxLen])
              exact L1180 _ _ ⟨b1454, b571, hf1457.sel (l := [1, 2, 21, 23, 25, 26]) (by kernel_rfl), hm1460.sel [1, 0, 2, 3, 4] _ rfl (by kernel_rfl)⟩
            · refine opOf hf1452 rfl (by kernel_rfl) (aOne [.slice A0_1 x0.Data.length c0_1] (.slice A0_1 x0.Data.length c0_1) [.cell ⟨b21, 1, none⟩ (.slice A0_1 x0.Data.length c0_1)] 27 hf1452 (by kernel_rfl) rfl (by kernel_rfl) ⟨(hm1453.cell 1 rfl rfl), trivial⟩ fun a1461 hf1462 => ?_)
              refine ⟨.inr (Gr.refl _ _), ?_⟩
              exact L1260 _ _ ⟨b571, hf1462.sel (l := [1, 2, 23, 25, 26, 27]) (by kernel_rfl), hm1453.sel [0, 1, 2, 3] _ rfl (by kernel_rfl)⟩
            · refine opOf hf1452 rfl (by kernel_rfl) (aNew (cs := [.slice none 0 0, .slice none 0 0]) (T := 28) (d := 5) hf1452 (by kernel_rfl) (by kernel_rfl) ?_)
              intro b1463 w1464 a1465 hbb1463 hx1467 hg1468 hf1466
              refine ⟨.inr (Gr.still hg1468), ?_⟩
              have hm1469 := hm1453.box hbb1463 hx1467 hg1468
              exact L1314 _ _ ⟨b1463, b571, hf1466.sel (l := [1, 2, 5, 23, 25, 26]) (by kernel_rfl), hm1469.sel [0, 1, 2, 3, 4] _ rfl (by kernel_rfl)⟩
          refine memoStep (R := fun (a : Act) (w : World) => Fr 77 a [(1, .float .f64 b1), (2, .pointer (some ⟨b21, 0, none⟩)), (23, .slice A0_0 x0.Shape.length c0_0), (26, .pointer (some ⟨b21, 1, none⟩)), (27, .slice A0_1 x0.Data.length c0_1)] ∧ Mem [] M w0 [.bx b21 [.slice A0_0 x0.Shape.length c0_0, .slice A0_1 x0.Data.length c0_1] 28, .sl (Kd.int .i64) A0_0 c0_0 x0.Shape, .sl Kd.float A0_1 c0_1 x0.Data] w) #[false, true, true, false, false, true, true, false, false, false, false] 7 ?_ fun L1470 => ?_
          · rintro a1471 w1472 ⟨hf1473, hm1474⟩
            refine all3 0 4 9 (by kernel_rfl) ?_ ?_ ?_
            · refine opOf hf1473 rfl (by kernel_rfl) (aLit (cs := []) (E := 3) (len := 0) (d := 21) hf1473 (by kernel_rfl) (by kernel_rfl) ?_)
              intro b1475 w1476 a1477 hbb1475 hx1479 hg1480 hf1478
              refine ⟨.inr (Gr.still hg1480), ?_⟩
              have hm1481 : Mem [] M w0 [.ow (Kd.int .i64) 3 (some ⟨b1475, 0, none⟩) 0 ([] : List Int), .bx b21 [.slice A0_0 x0.Shape.length c0_0, .slice A0_1 x0.Data.length c0_1] 28, .sl (Kd.int .i64) A0_0 c0_0 x0.Shape, .sl Kd.float A0_1 c0_1 x0.Data] w1476 := Mem.litOwn (kd := (Kd.int .i64)) (xs := ([] : List Int)) hm1474 hbb1475 hx1479 hg1480 (Els.nil) (by simp [maxLen])
              exact L1205 _ _ ⟨b1475, hf1478.sel (l := [1, 2, 21, 23, 26, 27]) (by kernel_rfl), hm1481.sel [0, 1, 2, 3] _ rfl (by kernel_rfl)⟩
            · refine opOf hf1473 rfl (by kernel_rfl) (aLit (cs := []) (E := 44) (len := 0) (d := 25) hf1473 (by kernel_rfl) (by kernel_rfl) ?_)
              intro b1482 w1483 a1484 hbb1482 hx1486 hg1487 hf1485
              refine ⟨.inr (Gr.still hg1487), ?_⟩
              have hm1488 : Mem [] M w0 [.ow Kd.float 44 (some ⟨b1482, 0, none⟩) 0 ([] : List Nat), .bx b21 [.slice A0_0 x0.Shape.length c0_0, .slice A0_1 x0.Data.length c0_1] 28, .sl (Kd.int .i64) A0_0 c0_0 x0.Shape, .sl Kd.float A0_1 c0_1 x0.Data] w1483 := Mem.litOwn (kd := Kd.float) (xs := ([] : List Nat)) hm1474 hbb1482 hx1486 hg1487 (Els.nil) (by simp [maxLen])
              exact L1260 _ _ ⟨b1482, hf1485.sel (l := [1, 2, 23, 25, 26, 27]) (by kernel_rfl), hm1488.sel [0, 1, 2, 3] _ rfl (by kernel_rfl)⟩
            · refine opOf hf1473 rfl (by kernel_rfl) (aNew (cs := [.slice none 0 0, .slice none 0 0]) (T := 28) (d := 5) hf1473 (by kernel_rfl) (by kernel_rfl) ?_)
              intro b1489 w1490 a1491 hbb1489 hx1493 hg1494 hf1492
              refine ⟨.inr (Gr.still hg1494), ?_⟩
              have hm1495 := hm1474.box hbb1489 hx1493 hg1494
              exact L1363 _ _ ⟨b1489, hf1492.sel (l := [1, 2, 5, 23, 26, 27]) (by kernel_rfl), hm1495.sel [0, 1, 2, 3] _ rfl (by kernel_rfl)⟩
          refine memoStep (R := fun (a : Act) (w : World) => ∃ (b759 : Nat), Fr 77 a [(1, .float .f64 b1), (2, .pointer (some ⟨b21, 0, none⟩)), (5, .pointer (some ⟨b759, 0, none⟩)), (23, .slice A0_0 x0.Shape.length c0_0), (26, .pointer (some ⟨b21, 1, none⟩))] ∧ Mem [] M w0 [.bx b759 [.slice none 0 0, .slice none 0 0] 28, .bx b21 [.slice A0_0 x0.Shape.length c0_0, .slice A0_1 x0.Data.length c0_1] 28, .sl (Kd.int .i64) A0_0 c0_0 x0.Shape, .sl Kd.float A0_1 c0_1 x0.Data] w) #[false, true, true, false, false, true, false, false, false, true, false] 7 ?_ fun L1496 => ?_
          · rintro a1497 w1498 ⟨b759, hf1499, hm1500⟩
            refine all3 0 4 6 (by kernel_rfl) ?_ ?_ ?_
            · refine opOf hf1499 rfl (by kernel_rfl) (aLit (cs := []) (E := 3) (len := 0) (d := 21) hf1499 (by kernel_rfl) (by kernel_rfl) ?_)
              intro b1501 w1502 a1503 hbb1501 hx1505 hg1506 hf1504
              refine ⟨.inr (Gr.still hg1506), ?_⟩
              have hm1507 : Mem [] M w0 [.ow (Kd.int .i64) 3 (some ⟨b1501, 0, none⟩) 0 ([] : List Int), .bx b759 [.slice none 0 0, .slice none 0 0] 28, .bx b21 [.slice A0_0 x0.Shape.length c0_0, .slice A0_1 x0.Data.length c0_1] 28, .sl (Kd.int .i64) A0_0 c0_0 x0.Shape, .sl Kd.float A0_1 c0_1 x0.Data] w1502 := Mem.litOwn (kd := (Kd.int .i64)) (xs := ([] : List Int)) hm1500 hbb1501 hx1505 hg1506 (Els.nil) (by simp [maxLen])
              exact L1235 _ _ ⟨b759, b1501, hf1504.sel (l := [1, 2, 5, 21, 23, 26]) (by kernel_rfl), hm1507.sel [1, 0, 2, 3, 4] _ rfl (by kernel_rfl)⟩
            · refine opOf hf1499 rfl (by kernel_rfl) (aLit (cs := []) (E := 44) (len := 0) (d := 25) hf1499 (by kernel_rfl) (by kernel_rfl) ?_)
              intro b1508 w1509 a1510 hbb1508 hx1512 hg1513 hf1511
              refine ⟨.inr (Gr.still hg1513), ?_⟩
              have hm1514 : Mem [] M w0 [.ow Kd.float 44 (some ⟨b1508, 0, none⟩) 0 ([] : List Nat), .bx b759 [.slice none 0 0, .slice none 0 0] 28, .bx b21 [.slice A0_0 x0.Shape.length c0_0, .slice A0_1 x0.Data.length c0_1] 28, .sl (Kd.int .i64) A0_0 c0_0 x0.Shape, .sl Kd.float A0_1 c0_1 x0.Data] w1509 := Mem.litOwn (kd := Kd.float) (xs := ([] : List Nat)) hm1500 hbb1508 hx1512 hg1513 (Els.nil) (by simp [maxLen])
              exact L1314 _ _ ⟨b759, b1508, hf1511.sel (l := [1, 2, 5, 23, 25, 26]) (by kernel_rfl), hm1514.sel [1, 0, 2, 3, 4] _ rfl (by kernel_rfl)⟩
            · refine opOf hf1499 rfl (by kernel_rfl) (aOne [.slice A0_1 x0.Data.length c0_1] (.slice A0_1 x0.Data.length c0_1) [.cell ⟨b21, 1, none⟩ (.slice A0_1 x0.Data.length c0_1)] 27 hf1499 (by kernel_rfl) rfl (by kernel_rfl) ⟨(hm1500.cell 1 rfl rfl), trivial⟩ fun a1515 hf1516 => ?_)
              refine ⟨.inr (Gr.refl _ _), ?_⟩
              exact L1363 _ _ ⟨b759, hf1516.sel (l := [1, 2, 5, 23, 26, 27]) (by kernel_rfl), hm1500.sel [0, 1, 2, 3] _ rfl (by kernel_rfl)⟩
          refine memoStep (R := fun (a : Act) (w : World) => Fr 77 a [(1, .float .f64 b1), (2, .pointer (some ⟨b21, 0, none⟩)), (23, .slice A0_0 x0.Shape.length c0_0), (26, .pointer (some ⟨b21, 1, none⟩))] ∧ Mem [] M w0 [.bx b21 [.slice A0_0 x0.Shape.length c0_0, .slice A0_1 x0.Data.length c0_1] 28, .sl (Kd.int .i64) A0_0 c0_0 x0.Shape, .sl Kd.float A0_1 c0_1 x0.Data] w) #[false, true, true, false, false, true, false, false, false, false, false] 8 ?_ fun L1517 => ?_
          · rintro a1518 w1519 ⟨hf1520, hm1521⟩
            refine all4 0 4 6 9 (by kernel_rfl) ?_ ?_ ?_ ?_
            · refine opOf hf1520 rfl (by kernel_rfl) (aLit (cs := []) (E := 3) (len := 0) (d := 21) hf1520 (by kernel_rfl) (by kernel_rfl) ?_)
              intro b1522 w1523 a1524 hbb1522 hx1526 hg1527 hf1525
              refine ⟨.inr (Gr.still hg1527), ?_⟩
              have hm1528 : Mem [] M w0 [.ow (Kd.int .i64) 3 (some ⟨b1522, 0, none⟩) 0 ([] : List Int), .bx b21 [.slice A0_0 x0.Shape.length c0_0, .slice A0_1 x0.Data.length c0_1] 28, .sl (Kd.int .i64) A0_0 c0_0 x0.Shape, .sl Kd.float A0_1 c0_1 x0.Data] w1523 := Mem.litOwn (kd := (Kd.int .i64)) (xs := ([] : List Int)) hm1521 hbb1522 hx1526 hg1527 (Els.nil) (by simp [maxLen])
              exact L1417 _ _ ⟨b1522, hf1525.sel (l := [1, 2, 21, 23, 26]) (by kernel_rfl), hm1528.sel [0, 1, 2, 3] _ rfl (by kernel_rfl)⟩
            · refine opOf hf1520 rfl (by kernel_rfl) (aLit (cs := []) (E := 44) (len := 0) (d := 25) hf1520 (by kernel_rfl) (by kernel_rfl) ?_)
              intro b1529 w1530 a1531 hbb1529 hx1533 hg1534 hf1532
              refine ⟨.inr (Gr.still hg1534), ?_⟩
              have hm1535 : Mem [] M w0 [.ow Kd.float 44 (some ⟨b1529, 0, none⟩) 0 ([] : List Nat), .bx b21 [.slice A0_0 x0.Shape.length c0_0, .slice A0_1 x0.Data.length c0_1] 28, .sl (Kd.int .i64) A0_0 c0_0 x0.Shape, .sl Kd.float A0_1 c0_1 x0.Data] w1530 := Mem.litOwn (kd := Kd.float) (xs := ([] : List Nat)) hm1521 hbb1529 hx1533 hg1534 (Els.nil) (by simp [maxLen])
              exact L1449 _ _ ⟨b1529, hf1532.sel (l := [1, 2, 23, 25, 26]) (by kernel_rfl), hm1535.sel [0, 1, 2, 3] _ rfl (by kernel_rfl)⟩
            · refine opOf hf1520 rfl (by kernel_rfl) (aOne [.slice A0_1 x0.Data.length c0_1] (.slice A0_1 x0.Data.length c0_1) [.cell ⟨b21, 1, none⟩ (.slice A0_1 x0.Data.length c0_1)] 27 hf1520 (by kernel_rfl) rfl (by kernel_rfl) ⟨(hm1521.cell 0 rfl rfl), trivial⟩ fun a1536 hf1537 => ?_)
              refine ⟨.inr (Gr.refl _ _), ?_⟩
              exact L1470 _ _ ⟨hf1537.sel (l := [1, 2, 23, 26, 27]) (by kernel_rfl), hm1521.sel [0, 1, 2] _ rfl (by kernel_rfl)⟩
            · refine opOf hf1520 rfl (by kernel_rfl) (aNew (cs := [.slice none 0 0, .slice none 0 0]) (T := 28) (d := 5) hf1520 (by kernel_rfl) (by kernel_rfl) ?_)
              intro b1538 w1539 a1540 hbb1538 hx1542 hg1543 hf1541
              refine ⟨.inr (Gr.still hg1543), ?_⟩
              have hm1544 := hm1521.box hbb1538 hx1542 hg1543
              exact L1496 _ _ ⟨b1538, hf1541.sel (l := [1, 2, 5, 23, 26]) (by kernel_rfl), hm1544.sel [0, 1, 2, 3] _ rfl (by kernel_rfl)⟩
          refine quiet0 [1, 2, 5] [.slice A0_0 x0.Shape.length c0_0] [1, 2, 23, 26] #[false, true, true, false, false, true, false, false, false, false, false] [(1, .float .f64 b1), (2, .pointer (some ⟨b21, 0, none⟩)), (23, .slice A0_0 x0.Shape.length c0_0), (26, .pointer (some ⟨b21, 1, none⟩))] [.cell ⟨b21, 0, none⟩ (.slice A0_0 x0.Shape.length c0_0)] 8 rfl (by kernel_rfl) (fun _ _ _ _ _ h => nomatch h.1) hf58 (by kernel_rfl) ⟨(hm111.cell 0 rfl rfl), trivial⟩ fun a1545 hf1546 => ?_
          exact L1517 _ _ ⟨hf1546.sel (l := [1, 2, 23, 26]) (by kernel_rfl), hm111.sel [0, 1, 2] _ rfl (by kernel_rfl)⟩
        rintro a1547 w1548 ⟨b98, A69, c70, A87, c88, hf1549, hm1550⟩
        refine thenN ?_
        refine wp_seq ?_
        obtain ⟨r1551, hr1551, H0⟩ := ob_split H0
        refine inReg ?_
        refine go 4 [.slice A0_0 x0.Shape.length c0_0, .slice A0_1 x0.Data.length c0_1] [1, 2, 5, 32, 34] [(1, .float .f64 b1), (2, .pointer (some ⟨b21, 0, none⟩)), (5, .pointer (some ⟨b98, 0, none⟩)), (32, .slice A0_0 x0.Shape.length c0_0), (34, .slice A0_1 x0.Data.length c0_1)] [.cell ⟨b21, 0, none⟩ (.slice A0_0 x0.Shape.length c0_0), .cell ⟨b21, 1, none⟩ (.slice A0_1 x0.Data.length c0_1)] hf1549 (by kernel_rfl) ⟨(hm1550.cell 3 rfl rfl), (hm1550.cell 3 rfl rfl), trivial⟩ fun a1552 hf1553 => ?_
        refine listOf hf1553 rfl (by kernel_rfl) (aCall (fid := 29) (args := [.slice A0_0 x0.Shape.length c0_0, .slice A0_1 x0.Data.length c0_1]) (d := 35) hf1553 (by kernel_rfl) (by kernel_rfl) callable29 (tensor_Of.calls _ _ x0.Shape A0_0 x0.Shape.length c0_0 rfl x0.Data A0_1 x0.Data.length c0_1 rfl (hm1550.give [4, 5] [.sl (Kd.int .i64) A0_0 c0_0 x0.Shape, .sl Kd.float A0_1 c0_1 x0.Data] rfl rfl) r1551 hr1551) ?_)
        rintro _ w1558 a1559 ⟨A1554, c1555, A1556, c1557, rfl, hk1561⟩ hf1560
        have hm1562 := hm1550.back hk1561
        refine go 3 [] [1, 2, 5, 36, 37] [(1, .float .f64 b1), (2, .pointer (some ⟨b21, 0, none⟩)), (5, .pointer (some ⟨b98, 0, none⟩)), (36, .agg #[.slice A1554 r1551.1.Shape.length c1555, .slice A1556 r1551.1.Data.length c1557]), (37, .int .i64 r1551.2)] [] hf1560 (by kernel_rfl) trivial fun a1563 hf1564 => ?_
        refine listOf hf1564 rfl (by kernel_rfl) (aNew (cs := [.slice none 0 0, .slice none 0 0]) (T := 28) (d := 6) hf1564 (by kernel_rfl) (by kernel_rfl) ?_)
        intro b1565 w1566 a1567 hbb1565 hx1569 hg1570 hf1568
        have hm1571 := hm1562.box hbb1565 hx1569 hg1570
        refine listOf hf1568 rfl (by kernel_rfl) (aStoreB (b := b1565) (j := 0) (T := 28) (cs := [.slice none 0 0, .slice none 0 0]) (us := [.slice A1554 r1551.1.Shape.length c1555, .slice A1556 r1551.1.Data.length c1557]) (cs' := [.slice A1554 r1551.1.Shape.length c1555, .slice A1556 r1551.1.Data.length c1557]) hf1568 (by kernel_rfl) (hm1571.bxAt 0 rfl) (by kernel_rfl) (by kernel_rfl) (by kernel_rfl) ?_)
        intro w1572 hx1573 hg1574
        have hm1575 := hm1571.setBox 0 _ rfl rfl hx1573 hg1574
        refine go 1 [] [1, 2, 5, 6, 7] [(1, .float .f64 b1), (2, .pointer (some ⟨b21, 0, none⟩)), (5, .pointer (some ⟨b98, 0, none⟩)), (6, .pointer (some ⟨b1565, 0, none⟩)), (7, .int .i64 r1551.2)] [] hf1568 (by kernel_rfl) trivial fun a1576 hf1577 => ?_
        refine endL rfl ?_
        refine thenN ?_
        refine wp_seq ?_
        obtain ⟨r1578, hr1578, H0⟩ := ob_split H0
        refine inReg ?_
        refine go 1 [.agg #[.slice A0_0 x0.Shape.length c0_0, .slice A0_1 x0.Data.length c0_1]] [1, 2, 5, 6, 7, 38] [(1, .float .f64 b1), (2, .pointer (some ⟨b21, 0, none⟩)), (5, .pointer (some ⟨b98, 0, none⟩)), (6, .pointer (some ⟨b1565, 0, none⟩)), (7, .int .i64 r1551.2), (38, .agg #[.slice A0_0 x0.Shape.length c0_0, .slice A0_1 x0.Data.length c0_1])] [.cell ⟨b21, 0, none⟩ (.slice A0_0 x0.Shape.length c0_0), .cell ⟨b21, 1, none⟩ (.slice A0_1 x0.Data.length c0_1)] hf1577 (by kernel_rfl) ⟨(hm1575.cell 6 rfl rfl), (hm1575.cell 6 rfl rfl), trivial⟩ fun a1579 hf1580 => ?_
        refine listOf hf1580 rfl (by kernel_rfl) (aCall (fid := 36) (args := [.agg #[.slice A0_0 x0.Shape.length c0_0, .slice A0_1 x0.Data.length c0_1], .func (.func 37) #[] #[]]) (d := 39) hf1580 (by kernel_rfl) (by kernel_rfl) callable36 (tensor_Map_math_Abs.calls _ _ x0 A0_0 x0.Shape.length c0_0 rfl A0_1 x0.Data.length c0_1 rfl (hm1575.give [7, 8] [.sl (Kd.int .i64) A0_0 c0_0 x0.Shape, .sl Kd.float A0_1 c0_1 x0.Data] rfl rfl) r1578 hr1578) ?_)
        rintro _ w1585 a1586 ⟨A1581, c1582, A1583, c1584, rfl, hk1588⟩ hf1587
        have hm1589 := hm1575.back hk1588
        refine listOf hf1587 rfl (by kernel_rfl) (aNew (cs := [.slice none 0 0, .slice none 0 0]) (T := 28) (d := 8) hf1587 (by kernel_rfl) (by kernel_rfl) ?_)
        intro b1590 w1591 a1592 hbb1590 hx1594 hg1595 hf1593
        have hm1596 := hm1589.box hbb1590 hx1594 hg1595
        refine listOf hf1593 rfl (by kernel_rfl) (aStoreB (b := b1590) (j := 0) (T := 28) (cs := [.slice none 0 0, .slice none 0 0]) (us := [.slice A1581 r1578.Shape.length c1582, .slice A1583 r1578.Data.length c1584]) (cs' := [.slice A1581 r1578.Shape.length c1582, .slice A1583 r1578.Data.length c1584]) hf1593 (by kernel_rfl) (hm1596.bxAt 0 rfl) (by kernel_rfl) (by kernel_rfl) (by kernel_rfl) ?_)
        intro w1597 hx1598 hg1599
        have hm1600 := hm1596.setBox 0 _ rfl rfl hx1598 hg1599
        refine endL rfl ?_
        refine thenN ?_
        refine wp_seq ?_
        refine wp_seq ?_
        rcases if_split H0 with ⟨c1601, H0⟩ | ⟨c1601, H0⟩
        · refine reg [.bool false] [1, 2, 5, 6, 8, 41] [(1, .float .f64 b1), (2, .pointer (some ⟨b21, 0, none⟩)), (5, .pointer (some ⟨b98, 0, none⟩)), (6, .pointer (some ⟨b1565, 0, none⟩)), (8, .pointer (some ⟨b1590, 0, none⟩)), (41, .bool false)] [.is (((r1551.2 : Int) != 0) = false)] hf1593 (by kernel_rfl) ⟨(neF c1601), trivial⟩ fun a1602 hf1603 => ?_
          refine thenN ?_
          refine condF hf1603 (by kernel_rfl) ?_
          refine wp_skip ?_
          refine thenN ?_
          refine wp_seq ?_
          refine wp_seq ?_
          refine reg [] [1, 2, 5, 6, 8, 9] [(1, .float .f64 b1), (2, .pointer (some ⟨b21, 0, none⟩)), (5, .pointer (some ⟨b98, 0, none⟩)), (6, .pointer (some ⟨b1565, 0, none⟩)), (8, .pointer (some ⟨b1590, 0, none⟩)), (9, .int .i64 0)] [] hf1603 (by kernel_rfl) trivial fun a1604 hf1605 => ?_
          refine thenN ?_
          obtain ⟨r1607, hr1607, H0⟩ := ob_split H0
          refine wpBlock (Mid := fun (a : Act) (w : World) => Fr 77 a [(1, .float .f64 b1), (2, .pointer (some ⟨b21, 0, none⟩)), (5, .pointer (some ⟨b98, 0, none⟩)), (6, .pointer (some ⟨b1565, 0, none⟩)), (8, .pointer (some ⟨b1590, 0, none⟩)), (9, .int .i64 r1607.1)] ∧ Mem [] M w0 [.bx b1590 [.slice A1581 r1578.Shape.length c1582, .slice A1583 r1607.2.1.length c1584] 28, .ow (Kd.int .i64) 3 A1581 c1582 r1578.Shape, .ow Kd.float 44 A1583 c1584 r1607.2.1, .bx b1565 [.slice A1554 r1551.1.Shape.length c1555, .slice A1556 r1607.2.2.length c1557] 28, .ow (Kd.int .i64) 3 A1554 c1555 r1551.1.Shape, .ow Kd.float 44 A1556 c1557 r1607.2.2, .bx b98 [.slice A69 ((([] : List Int) ++ x0.Shape).length) c70, .slice A87 ((([] : List Nat) ++ x0.Data).length) c88] 28, .ow Kd.float 44 A87 c88 (([] : List Nat) ++ x0.Data), .ow (Kd.int .i64) 3 A69 c70 (([] : List Int) ++ x0.Shape), .bx b21 [.slice A0_0 x0.Shape.length c0_0, .slice A0_1 x0.Data.length c0_1] 28, .sl (Kd.int .i64) A0_0 c0_0 x0.Shape, .sl Kd.float A0_1 c0_1 x0.Data] w) ?_ ?_
          · refine wpLoop (law3_TensorHands.l0 x1) r1607 (fun (s1606 : (Int × (List Nat) × (List Nat))) (a : Act) (w : World) => Fr 77 a [(1, .float .f64 b1), (2, .pointer (some ⟨b21, 0, none⟩)), (5, .pointer (some ⟨b98, 0, none⟩)), (6, .pointer (some ⟨b1565, 0, none⟩)), (8, .pointer (some ⟨b1590, 0, none⟩)), (9, .int .i64 s1606.1)] ∧ Mem [] M w0 [.bx b1590 [.slice A1581 r1578.Shape.length c1582, .slice A1583 s1606.2.1.length c1584] 28, .ow (Kd.int .i64) 3 A1581 c1582 r1578.Shape, .ow Kd.float 44 A1583 c1584 s1606.2.1, .bx b1565 [.slice A1554 r1551.1.Shape.length c1555, .slice A1556 s1606.2.2.length c1557] 28, .ow (Kd.int .i64) 3 A1554 c1555 r1551.1.Shape, .ow Kd.float 44 A1556 c1557 s1606.2.2, .bx b98 [.slice A69 ((([] : List Int) ++ x0.Shape).length) c70, .slice A87 ((([] : List Nat) ++ x0.Data).length) c88] 28, .ow Kd.float 44 A87 c88 (([] : List Nat) ++ x0.Data), .ow (Kd.int .i64) 3 A69 c70 (([] : List Int) ++ x0.Shape), .bx b21 [.slice A0_0 x0.Shape.length c0_0, .slice A0_1 x0.Data.length c0_1] 28, .sl (Kd.int .i64) A0_0 c0_0 x0.Shape, .sl Kd.float A0_1 c0_1 x0.Data] w) (0, r1578.Data, r1551.1.Data) hr1607 ⟨hf1605.sel (l := [1, 2, 5, 6, 8, 9]) (by kernel_rfl), hm1600.sel [0, 1, 2, 3, 4, 5, 6, 7, 8, 9, 10, 11] _ rfl (by kernel_rfl)⟩ ?_
            rintro g1608 s1606 a1609 w1610 H1 ⟨hf1611, hm1612⟩
            unfold law3_TensorHands.l0 at H1
            refine wp_seq ?_
            refine wp_seq ?_
            rcases ifS_split H1 with ⟨c1613, H1⟩ | ⟨c1613, H1⟩
            · refine reg [.slice A1556 s1606.2.2.length c1557, .bool true] [1, 2, 5, 6, 8, 9, 46] [(1, .float .f64 b1), (2, .pointer (some ⟨b21, 0, none⟩)), (5, .pointer (some ⟨b98, 0, none⟩)), (6, .pointer (some ⟨b1565, 0, none⟩)), (8, .pointer (some ⟨b1590, 0, none⟩)), (9, .int .i64 s1606.1), (46, .bool true)] [.cell ⟨b1565, 1, none⟩ (.slice A1556 s1606.2.2.length c1557), .is (decide (s1606.1 < (s1606.2.2.length : Int)) = true)] hf1611 (by kernel_rfl) ⟨(hm1612.cell 3 rfl rfl), (decide_eq_true c1613), trivial⟩ fun a1614 hf1615 => ?_
              refine thenN ?_
              refine condT hf1615 (by kernel_rfl) ?_
              refine wp_skip ?_
              refine thenN ?_
              refine wp_seq ?_
              refine wp_block ?_
              obtain ⟨g1616, H1⟩ := ifS_guard H1
              obtain ⟨g1617, H1⟩ := ifS_guard H1
              refine midReg (fun (a : Act) (w : World) => Fr 77 a [(1, .float .f64 b1), (2, .pointer (some ⟨b21, 0, none⟩)), (5, .pointer (some ⟨b98, 0, none⟩)), (6, .pointer (some ⟨b1565, 0, none⟩)), (8, .pointer (some ⟨b1590, 0, none⟩)), (9, .int .i64 s1606.1)] ∧ Mem [] M w0 [.bx b1590 [.slice A1581 r1578.Shape.length c1582, .slice A1583 s1606.2.1.length c1584] 28, .ow (Kd.int .i64) 3 A1581 c1582 r1578.Shape, .ow Kd.float 44 A1583 c1584 (put s1606.2.1 s1606.1 x1), .bx b1565 [.slice A1554 r1551.1.Shape.length c1555, .slice A1556 s1606.2.2.length c1557] 28, .ow (Kd.int .i64) 3 A1554 c1555 r1551.1.Shape, .ow Kd.float 44 A1556 c1557 (put s1606.2.2 s1606.1 x1), .bx b98 [.slice A69 ((([] : List Int) ++ x0.Shape).length) c70, .slice A87 ((([] : List Nat) ++ x0.Data).length) c88] 28, .ow Kd.float 44 A87 c88 (([] : List Nat) ++ x0.Data), .ow (Kd.int .i64) 3 A69 c70 (([] : List Int) ++ x0.Shape), .bx b21 [.slice A0_0 x0.Shape.length c0_0, .slice A0_1 x0.Data.length c0_1] 28, .sl (Kd.int .i64) A0_0 c0_0 x0.Shape, .sl Kd.float A0_1 c0_1 x0.Data] w) ?_ ?_
              · refine anyG [9, 11] (by kernel_rfl) fun w1630 hg1631 => ?_
                have hm1632 := hm1612.still hg1631
                have q1665 := (hm1632.owAt 5 rfl).float s1606.1 g1616.1 g1616.2
                obtain ⟨b1666, hb1666, kb1666⟩ := q1665.2
                refine quiet0 [0, 1, 2, 3, 5, 6, 7, 8] [.slice A1556 s1606.2.2.length c1557] [1, 2, 5, 6, 8, 9, 52, 54, 55, 56, 57] #[true, true, true, true, false, true, true, true, true, false, false, false] [(1, .float .f64 b1), (2, .pointer (some ⟨b21, 0, none⟩)), (5, .pointer (some ⟨b98, 0, none⟩)), (6, .pointer (some ⟨b1565, 0, none⟩)), (8, .pointer (some ⟨b1590, 0, none⟩)), (9, .int .i64 s1606.1), (52, .pointer (some ⟨b1590, 1, none⟩)), (54, .int .i64 s1606.1), (55, .float .f64 b1), (56, .float .f64 b1), (57, .pointer (some ((ad A1556).add ((s1606.1).toNat * 1))))] [.cell ⟨b1565, 1, none⟩ (.slice A1556 s1606.2.2.length c1557), .is (Option.isSome A1556 = true), .is (0 ≤ s1606.1 ∧ s1606.1 < (s1606.2.2.length : Int))] 4 rfl (by kernel_rfl) (fun _ _ _ _ _ h => nomatch h.1) hf1615 (by kernel_rfl) ⟨(hm1632.cell 3 rfl rfl), q1665.1, g1616, trivial⟩ fun a1667 hf1668 => ?_
                refine all2 4 9 (by kernel_rfl) ?_ ?_
                · refine opOf hf1668 rfl (by kernel_rfl) (aOne [.slice A1583 s1606.2.1.length c1584] (.slice A1583 s1606.2.1.length c1584) [.cell ⟨b1590, 1, none⟩ (.slice A1583 s1606.2.1.length c1584)] 53 hf1668 (by kernel_rfl) rfl (by kernel_rfl) ⟨(hm1632.cell 0 rfl rfl), trivial⟩ fun a1669 hf1670 => ?_)
                  refine ⟨.inr (Gr.refl _ _), ?_⟩
                  refine all1 9 (by kernel_rfl) ?_
                  refine opOf hf1670 rfl (by kernel_rfl) (aStoreO (kd := Kd.float) (base := 0) (E := 44) (A := A1556) (c := c1557) (xs := s1606.2.2) (i := s1606.1) (x := x1) (us := [.float .f64 b1]) (sz := 1) hf1670 (by kernel_rfl) rfl (by kernel_rfl) (hm1632.at 5 rfl) ⟨_, rfl, h1⟩ g1616.1 g1616.2 ?_)
                  intro w1671 hx1672 hg1673
                  refine ⟨.inl (by decide), ?_⟩
                  have hm1674 : Mem [] M w0 [.bx b1590 [.slice A1581 r1578.Shape.length c1582, .slice A1583 s1606.2.1.length c1584] 28, .ow (Kd.int .i64) 3 A1581 c1582 r1578.Shape, .ow Kd.float 44 A1583 c1584 s1606.2.1, .bx b1565 [.slice A1554 r1551.1.Shape.length c1555, .slice A1556 s1606.2.2.length c1557] 28, .ow (Kd.int .i64) 3 A1554 c1555 r1551.1.Shape, .ow Kd.float 44 A1556 c1557 (put s1606.2.2 s1606.1 x1), .bx b98 [.slice A69 ((([] : List Int) ++ x0.Shape).length) c70, .slice A87 ((([] : List Nat) ++ x0.Data).length) c88] 28, .ow Kd.float 44 A87 c88 (([] : List Nat) ++ x0.Data), .ow (Kd.int .i64) 3 A69 c70 (([] : List Int) ++ x0.Shape), .bx b21 [.slice A0_0 x0.Shape.length c0_0, .slice A0_1 x0.Data.length c0_1] 28, .sl (Kd.int .i64) A0_0 c0_0 x0.Shape, .sl Kd.float A0_1 c0_1 x0.Data] w1671 := hm1632.setOwn 5 _ rfl rfl hx1672 hg1673 (.inl rfl)
                  have q1675 := (hm1674.owAt 2 rfl).float s1606.1 g1617.1 g1617.2
                  obtain ⟨b1676, hb1676, kb1676⟩ := q1675.2
                  refine quiet0 [10] [] [1, 2, 5, 6, 8, 9, 56, 58] #[true, true, true, true, true, true, true, true, true, true, true, false] [(1, .float .f64 b1), (2, .pointer (some ⟨b21, 0, none⟩)), (5, .pointer (some ⟨b98, 0, none⟩)), (6, .pointer (some ⟨b1565, 0, none⟩)), (8, .pointer (some ⟨b1590, 0, none⟩)), (9, .int .i64 s1606.1), (56, .float .f64 b1), (58, .pointer (some ((ad A1583).add ((s1606.1).toNat * 1))))] [.is (Option.isSome A1583 = true), .is (0 ≤ s1606.1 ∧ s1606.1 < (s1606.2.1.length : Int))] 1 rfl (by kernel_rfl) (fun _ _ _ _ _ h => nomatch h.1) hf1670 (by kernel_rfl) ⟨q1675.1, g1617, trivial⟩ fun a1677 hf1678 => ?_
                  refine all1 11 (by kernel_rfl) ?_
                  refine opOf hf1678 rfl (by kernel_rfl) (aStoreO (kd := Kd.float) (base := 0) (E := 44) (A := A1583) (c := c1584) (xs := s1606.2.1) (i := s1606.1) (x := x1) (us := [.float .f64 b1]) (sz := 1) hf1678 (by kernel_rfl) rfl (by kernel_rfl) (hm1674.at 2 rfl) ⟨_, rfl, h1⟩ g1617.1 g1617.2 ?_)
                  intro w1679 hx1680 hg1681
                  refine ⟨.inl (by decide), ?_⟩
                  have hm1682 : Mem [] M w0 [.bx b1590 [.slice A1581 r1578.Shape.length c1582, .slice A1583 s1606.2.1.length c1584] 28, .ow (Kd.int .i64) 3 A1581 c1582 r1578.Shape, .ow Kd.float 44 A1583 c1584 (put s1606.2.1 s1606.1 x1), .bx b1565 [.slice A1554 r1551.1.Shape.length c1555, .slice A1556 s1606.2.2.length c1557] 28, .ow (Kd.int .i64) 3 A1554 c1555 r1551.1.Shape, .ow Kd.float 44 A1556 c1557 (put s1606.2.2 s1606.1 x1), .bx b98 [.slice A69 ((([] : List Int) ++ x0.Shape).length) c70, .slice A87 ((([] : List Nat) ++ x0.Data).length) c88] 28, .ow Kd.float 44 A87 c88 (([] : List Nat) ++ x0.Data), .ow (Kd.int .i64) 3 A69 c70 (([] : List Int) ++ x0.Shape), .bx b21 [.slice A0_0 x0.Shape.length c0_0, .slice A0_1 x0.Data.length c0_1] 28, .sl (Kd.int .i64) A0_0 c0_0 x0.Shape, .sl Kd.float A0_1 c0_1 x0.Data] w1679 := hm1674.setOwn 2 _ rfl rfl hx1680 hg1681 (.inl rfl)
                  refine allDone (by kernel_rfl) ⟨rfl, hf1678.sel (l := [1, 2, 5, 6, 8, 9]) (by kernel_rfl), hm1682.sel [0, 1, 2, 3, 4, 5, 6, 7, 8, 9, 10, 11] _ rfl (by kernel_rfl)⟩
                · refine opOf hf1668 rfl (by kernel_rfl) (aStoreO (kd := Kd.float) (base := 0) (E := 44) (A := A1556) (c := c1557) (xs := s1606.2.2) (i := s1606.1) (x := x1) (us := [.float .f64 b1]) (sz := 1) hf1668 (by kernel_rfl) rfl (by kernel_rfl) (hm1632.at 5 rfl) ⟨_, rfl, h1⟩ g1616.1 g1616.2 ?_)
                  intro w1683 hx1684 hg1685
                  refine ⟨.inl (by decide), ?_⟩
                  have hm1686 : Mem [] M w0 [.bx b1590 [.slice A1581 r1578.Shape.length c1582, .slice A1583 s1606.2.1.length c1584] 28, .ow (Kd.int .i64) 3 A1581 c1582 r1578.Shape, .ow Kd.float 44 A1583 c1584 s1606.2.1, .bx b1565 [.slice A1554 r1551.1.Shape.length c1555, .slice A1556 s1606.2.2.length c1557] 28, .ow (Kd.int .i64) 3 A1554 c1555 r1551.1.Shape, .ow Kd.float 44 A1556 c1557 (put s1606.2.2 s1606.1 x1), .bx b98 [.slice A69 ((([] : List Int) ++ x0.Shape).length) c70, .slice A87 ((([] : List Nat) ++ x0.Data).length) c88] 28, .ow Kd.float 44 A87 c88 (([] : List Nat) ++ x0.Data), .ow (Kd.int .i64) 3 A69 c70 (([] : List Int) ++ x0.Shape), .bx b21 [.slice A0_0 x0.Shape.length c0_0, .slice A0_1 x0.Data.length c0_1] 28, .sl (Kd.int .i64) A0_0 c0_0 x0.Shape, .sl Kd.float A0_1 c0_1 x0.Data] w1683 := hm1632.setOwn 5 _ rfl rfl hx1684 hg1685 (.inl rfl)
                  refine all1 4 (by kernel_rfl) ?_
                  refine opOf hf1668 rfl (by kernel_rfl) (aOne [.slice A1583 s1606.2.1.length c1584] (.slice A1583 s1606.2.1.length c1584) [.cell ⟨b1590, 1, none⟩ (.slice A1583 s1606.2.1.length c1584)] 53 hf1668 (by kernel_rfl) rfl (by kernel_rfl) ⟨(hm1686.cell 0 rfl rfl), trivial⟩ fun a1687 hf1688 => ?_)
                  refine ⟨.inr (Gr.refl _ _), ?_⟩
                  have q1689 := (hm1686.owAt 2 rfl).float s1606.1 g1617.1 g1617.2
                  obtain ⟨b1690, hb1690, kb1690⟩ := q1689.2
                  refine quiet0 [10] [] [1, 2, 5, 6, 8, 9, 56, 58] #[true, true, true, true, true, true, true, true, true, true, true, false] [(1, .float .f64 b1), (2, .pointer (some ⟨b21, 0, none⟩)), (5, .pointer (some ⟨b98, 0, none⟩)), (6, .pointer (some ⟨b1565, 0, none⟩)), (8, .pointer (some ⟨b1590, 0, none⟩)), (9, .int .i64 s1606.1), (56, .float .f64 b1), (58, .pointer (some ((ad A1583).add ((s1606.1).toNat * 1))))] [.is (Option.isSome A1583 = true), .is (0 ≤ s1606.1 ∧ s1606.1 < (s1606.2.1.length : Int))] 1 rfl (by kernel_rfl) (fun _ _ _ _ _ h => nomatch h.1) hf1688 (by kernel_rfl) ⟨q1689.1, g1617, trivial⟩ fun a1691 hf1692 => ?_
                  refine all1 11 (by kernel_rfl) ?_
                  refine opOf hf1692 rfl (by kernel_rfl) (aStoreO (kd := Kd.float) (base := 0) (E := 44) (A := A1583) (c := c1584) (xs := s1606.2.1) (i := s1606.1) (x := x1) (us := [.float .f64 b1]) (sz := 1) hf1692 (by kernel_rfl) rfl (by kernel_rfl) (hm1686.at 2 rfl) ⟨_, rfl, h1⟩ g1617.1 g1617.2 ?_)
                  intro w1693 hx1694 hg1695
                  refine ⟨.inl (by decide), ?_⟩
                  have hm1696 : Mem [] M w0 [.bx b1590 [.slice A1581 r1578.Shape.length c1582, .slice A1583 s1606.2.1.length c1584] 28, .ow (Kd.int .i64) 3 A1581 c1582 r1578.Shape, .ow Kd.float 44 A1583 c1584 (put s1606.2.1 s1606.1 x1), .bx b1565 [.slice A1554 r1551.1.Shape.length c1555, .slice A1556 s1606.2.2.length c1557] 28, .ow (Kd.int .i64) 3 A1554 c1555 r1551.1.Shape, .ow Kd.float 44 A1556 c1557 (put s1606.2.2 s1606.1 x1), .bx b98 [.slice A69 ((([] : List Int) ++ x0.Shape).length) c70, .slice A87 ((([] : List Nat) ++ x0.Data).length) c88] 28, .ow Kd.float 44 A87 c88 (([] : List Nat) ++ x0.Data), .ow (Kd.int .i64) 3 A69 c70 (([] : List Int) ++ x0.Shape), .bx b21 [.slice A0_0 x0.Shape.length c0_0, .slice A0_1 x0.Data.length c0_1] 28, .sl (Kd.int .i64) A0_0 c0_0 x0.Shape, .sl Kd.float A0_1 c0_1 x0.Data] w1693 := hm1686.setOwn 2 _ rfl rfl hx1694 hg1695 (.inl rfl)
                  refine allDone (by kernel_rfl) ⟨rfl, hf1692.sel (l := [1, 2, 5, 6, 8, 9]) (by kernel_rfl), hm1696.sel [0, 1, 2, 3, 4, 5, 6, 7, 8, 9, 10, 11] _ rfl (by kernel_rfl)⟩
              rintro a1697 w1698 ⟨hf1699, hm1700⟩
              refine blkN ?_
              refine thenN ?_
              refine reg [] [1, 2, 5, 6, 8, 9] [(1, .float .f64 b1), (2, .pointer (some ⟨b21, 0, none⟩)), (5, .pointer (some ⟨b98, 0, none⟩)), (6, .pointer (some ⟨b1565, 0, none⟩)), (8, .pointer (some ⟨b1590, 0, none⟩)), (9, .int .i64 (w64 (s1606.1 + 1)))] [] hf1699 (by kernel_rfl) trivial fun a1701 hf1702 => ?_
              have hf1703 : Fr 77 a1701 [(1, .float .f64 b1), (2, .pointer (some ⟨b21, 0, none⟩)), (5, .pointer (some ⟨b98, 0, none⟩)), (6, .pointer (some ⟨b1565, 0, none⟩)), (8, .pointer (some ⟨b1590, 0, none⟩)), (9, .int .i64 (w64 (s1606.1 + 1)))] := hf1702.sel (l := [1, 2, 5, 6, 8, 9]) (by kernel_rfl)
              have hm1704 : Mem [] M w0 [.bx b1590 [.slice A1581 r1578.Shape.length c1582, .slice A1583 s1606.2.1.length c1584] 28, .ow (Kd.int .i64) 3 A1581 c1582 r1578.Shape, .ow Kd.float 44 A1583 c1584 (put s1606.2.1 s1606.1 x1), .bx b1565 [.slice A1554 r1551.1.Shape.length c1555, .slice A1556 s1606.2.2.length c1557] 28, .ow (Kd.int .i64) 3 A1554 c1555 r1551.1.Shape, .ow Kd.float 44 A1556 c1557 (put s1606.2.2 s1606.1 x1), .bx b98 [.slice A69 ((([] : List Int) ++ x0.Shape).length) c70, .slice A87 ((([] : List Nat) ++ x0.Data).length) c88] 28, .ow Kd.float 44 A87 c88 (([] : List Nat) ++ x0.Data), .ow (Kd.int .i64) 3 A69 c70 (([] : List Int) ++ x0.Shape), .bx b21 [.slice A0_0 x0.Shape.length c0_0, .slice A0_1 x0.Data.length c0_1] 28, .sl (Kd.int .i64) A0_0 c0_0 x0.Shape, .sl Kd.float A0_1 c0_1 x0.Data] w1698 := hm1700.sel [0, 1, 2, 3, 4, 5, 6, 7, 8, 9, 10, 11] _ rfl (by kernel_rfl)
              exact ⟨((w64 (s1606.1 + 1)), (put s1606.2.1 s1606.1 x1), (put s1606.2.2 s1606.1 x1)), H1, (by simpa only [put_length, List.length_nil] using hf1703), (by simpa only [put_length, List.length_nil] using hm1704)⟩
            · refine reg [.slice A1556 s1606.2.2.length c1557, .bool false] [1, 2, 5, 6, 8, 9, 46] [(1, .float .f64 b1), (2, .pointer (some ⟨b21, 0, none⟩)), (5, .pointer (some ⟨b98, 0, none⟩)), (6, .pointer (some ⟨b1565, 0, none⟩)), (8, .pointer (some ⟨b1590, 0, none⟩)), (9, .int .i64 s1606.1), (46, .bool false)] [.cell ⟨b1565, 1, none⟩ (.slice A1556 s1606.2.2.length c1557), .is (decide (s1606.1 < (s1606.2.2.length : Int)) = false)] hf1611 (by kernel_rfl) ⟨(hm1612.cell 3 rfl rfl), (decide_eq_false c1613), trivial⟩ fun a1705 hf1706 => ?_
              refine thenN ?_
              refine condF hf1706 (by kernel_rfl) ?_
              refine wp_exit ?_
              refine thenE ?_
              refine thenE ?_
              obtain rfl := Option.some.inj H1
              exact .inl ⟨rfl, hf1706.sel (l := [1, 2, 5, 6, 8, 9]) (by kernel_rfl), hm1612.sel [0, 1, 2, 3, 4, 5, 6, 7, 8, 9, 10, 11] _ rfl (by kernel_rfl)⟩
          rintro a1707 w1708 ⟨hf1709, hm1710⟩
          refine thenN ?_
          refine wp_seq ?_
          refine wp_seq ?_
          refine reg [] [2, 5, 6, 8, 10] [(2, .pointer (some ⟨b21, 0, none⟩)), (5, .pointer (some ⟨b98, 0, none⟩)), (6, .pointer (some ⟨b1565, 0, none⟩)), (8, .pointer (some ⟨b1590, 0, none⟩)), (10, .int .i64 0)] [] hf1709 (by kernel_rfl) trivial fun a1711 hf1712 => ?_
          refine thenN ?_
          obtain ⟨r1714, hr1714, H0⟩ := ob_split H0
          refine wpBlock (Mid := fun (a : Act) (w : World) => Fr 77 a [(2, .pointer (some ⟨b21, 0, none⟩)), (5, .pointer (some ⟨b98, 0, none⟩)), (6, .pointer (some ⟨b1565, 0, none⟩)), (8, .pointer (some ⟨b1590, 0, none⟩)), (10, .int .i64 r1714.1)] ∧ Mem [] M w0 [.bx b1590 [.slice A1581 r1714.2.1.length c1582, .slice A1583 r1607.2.1.length c1584] 28, .ow (Kd.int .i64) 3 A1581 c1582 r1714.2.1, .ow Kd.float 44 A1583 c1584 r1607.2.1, .bx b1565 [.slice A1554 r1714.2.2.length c1555, .slice A1556 r1607.2.2.length c1557] 28, .ow (Kd.int .i64) 3 A1554 c1555 r1714.2.2, .ow Kd.float 44 A1556 c1557 r1607.2.2, .bx b98 [.slice A69 ((([] : List Int) ++ x0.Shape).length) c70, .slice A87 ((([] : List Nat) ++ x0.Data).length) c88] 28, .ow Kd.float 44 A87 c88 (([] : List Nat) ++ x0.Data), .ow (Kd.int .i64) 3 A69 c70 (([] : List Int) ++ x0.Shape), .bx b21 [.slice A0_0 x0.Shape.length c0_0, .slice A0_1 x0.Data.length c0_1] 28, .sl (Kd.int .i64) A0_0 c0_0 x0.Shape, .sl Kd.float A0_1 c0_1 x0.Data] w) ?_ ?_
          · refine wpLoop (law3_TensorHands.l1) r1714 (fun (s1713 : (Int × (List Int) × (List Int))) (a : Act) (w : World) => Fr 77 a [(2, .pointer (some ⟨b21, 0, none⟩)), (5, .pointer (some ⟨b98, 0, none⟩)), (6, .pointer (some ⟨b1565, 0, none⟩)), (8, .pointer (some ⟨b1590, 0, none⟩)), (10, .int .i64 s1713.1)] ∧ Mem [] M w0 [.bx b1590 [.slice A1581 s1713.2.1.length c1582, .slice A1583 r1607.2.1.length c1584] 28, .ow (Kd.int .i64) 3 A1581 c1582 s1713.2.1, .ow Kd.float 44 A1583 c1584 r1607.2.1, .bx b1565 [.slice A1554 s1713.2.2.length c1555, .slice A1556 r1607.2.2.length c1557] 28, .ow (Kd.int .i64) 3 A1554 c1555 s1713.2.2, .ow Kd.float 44 A1556 c1557 r1607.2.2, .bx b98 [.slice A69 ((([] : List Int) ++ x0.Shape).length) c70, .slice A87 ((([] : List Nat) ++ x0.Data).length) c88] 28, .ow Kd.float 44 A87 c88 (([] : List Nat) ++ x0.Data), .ow (Kd.int .i64) 3 A69 c70 (([] : List Int) ++ x0.Shape), .bx b21 [.slice A0_0 x0.Shape.length c0_0, .slice A0_1 x0.Data.length c0_1] 28, .sl (Kd.int .i64) A0_0 c0_0 x0.Shape, .sl Kd.float A0_1 c0_1 x0.Data] w) (0, r1578.Shape, r1551.1.Shape) hr1714 ⟨hf1712.sel (l := [2, 5, 6, 8, 10]) (by kernel_rfl), hm1710.sel [0, 1, 2, 3, 4, 5, 6, 7, 8, 9, 10, 11] _ rfl (by kernel_rfl)⟩ ?_
            rintro g1715 s1713 a1716 w1717 H1 ⟨hf1718, hm1719⟩
            unfold law3_TensorHands.l1 at H1
            refine wp_seq ?_
            refine wp_seq ?_
            rcases ifS_split H1 with ⟨c1720, H1⟩ | ⟨c1720, H1⟩
            · refine reg [.slice A1554 s1713.2.2.length c1555, .bool true] [2, 5, 6, 8, 10, 63] [(2, .pointer (some ⟨b21, 0, none⟩)), (5, .pointer (some ⟨b98, 0, none⟩)), (6, .pointer (some ⟨b1565, 0, none⟩)), (8, .pointer (some ⟨b1590, 0, none⟩)), (10, .int .i64 s1713.1), (63, .bool true)] [.cell ⟨b1565, 0, none⟩ (.slice A1554 s1713.2.2.length c1555), .is (decide (s1713.1 < (s1713.2.2.length : Int)) = true)] hf1718 (by kernel_rfl) ⟨(hm1719.cell 3 rfl rfl), (decide_eq_true c1720), trivial⟩ fun a1721 hf1722 => ?_
              refine thenN ?_
              refine condT hf1722 (by kernel_rfl) ?_
              refine wp_skip ?_
              refine thenN ?_
              refine wp_seq ?_
              refine wp_block ?_
              obtain ⟨g1723, H1⟩ := ifS_guard H1
              obtain ⟨g1724, H1⟩ := ifS_guard H1
              refine midReg (fun (a : Act) (w : World) => Fr 77 a [(2, .pointer (some ⟨b21, 0, none⟩)), (5, .pointer (some ⟨b98, 0, none⟩)), (6, .pointer (some ⟨b1565, 0, none⟩)), (8, .pointer (some ⟨b1590, 0, none⟩)), (10, .int .i64 s1713.1)] ∧ Mem [] M w0 [.bx b1590 [.slice A1581 s1713.2.1.length c1582, .slice A1583 r1607.2.1.length c1584] 28, .ow (Kd.int .i64) 3 A1581 c1582 (put s1713.2.1 s1713.1 77), .ow Kd.float 44 A1583 c1584 r1607.2.1, .bx b1565 [.slice A1554 s1713.2.2.length c1555, .slice A1556 r1607.2.2.length c1557] 28, .ow (Kd.int .i64) 3 A1554 c1555 (put s1713.2.2 s1713.1 77), .ow Kd.float 44 A1556 c1557 r1607.2.2, .bx b98 [.slice A69 ((([] : List Int) ++ x0.Shape).length) c70, .slice A87 ((([] : List Nat) ++ x0.Data).length) c88] 28, .ow Kd.float 44 A87 c88 (([] : List Nat) ++ x0.Data), .ow (Kd.int .i64) 3 A69 c70 (([] : List Int) ++ x0.Shape), .bx b21 [.slice A0_0 x0.Shape.length c0_0, .slice A0_1 x0.Data.length c0_1] 28, .sl (Kd.int .i64) A0_0 c0_0 x0.Shape, .sl Kd.float A0_1 c0_1 x0.Data] w) ?_ ?_
              · refine anyG [7, 9] (by kernel_rfl) fun w1735 hg1736 => ?_
                have hm1737 := hm1719.still hg1736
                have q1767 := (hm1737.owAt 4 rfl).int s1713.1 g1723.1 g1723.2
                refine quiet0 [0, 1, 2, 3, 5, 6] [.slice A1554 s1713.2.2.length c1555] [2, 5, 6, 8, 10, 69, 71, 72] #[true, true, true, true, false, true, true, false, false, false] [(2, .pointer (some ⟨b21, 0, none⟩)), (5, .pointer (some ⟨b98, 0, none⟩)), (6, .pointer (some ⟨b1565, 0, none⟩)), (8, .pointer (some ⟨b1590, 0, none⟩)), (10, .int .i64 s1713.1), (69, .pointer (some ⟨b1590, 0, none⟩)), (71, .int .i64 s1713.1), (72, .pointer (some ((ad A1554).add ((s1713.1).toNat * 1))))] [.cell ⟨b1565, 0, none⟩ (.slice A1554 s1713.2.2.length c1555), .is (Option.isSome A1554 = true), .is (0 ≤ s1713.1 ∧ s1713.1 < (s1713.2.2.length : Int))] 4 rfl (by kernel_rfl) (fun _ _ _ _ _ h => nomatch h.1) hf1722 (by kernel_rfl) ⟨(hm1737.cell 3 rfl rfl), q1767.1, g1723, trivial⟩ fun a1768 hf1769 => ?_
                refine all2 4 7 (by kernel_rfl) ?_ ?_
                · refine opOf hf1769 rfl (by kernel_rfl) (aOne [.slice A1581 s1713.2.1.length c1582] (.slice A1581 s1713.2.1.length c1582) [.cell ⟨b1590, 0, none⟩ (.slice A1581 s1713.2.1.length c1582)] 70 hf1769 (by kernel_rfl) rfl (by kernel_rfl) ⟨(hm1737.cell 0 rfl rfl), trivial⟩ fun a1770 hf1771 => ?_)
                  refine ⟨.inr (Gr.refl _ _), ?_⟩
                  refine all1 7 (by kernel_rfl) ?_
                  refine opOf hf1771 rfl (by kernel_rfl) (aStoreO (kd := (Kd.int .i64)) (base := 0) (E := 3) (A := A1554) (c := c1555) (xs := s1713.2.2) (i := s1713.1) (x := 77) (us := [.int .i64 77]) (sz := 1) hf1771 (by kernel_rfl) rfl (by kernel_rfl) (hm1737.at 4 rfl) rfl g1723.1 g1723.2 ?_)
                  intro w1772 hx1773 hg1774
                  refine ⟨.inl (by decide), ?_⟩
                  have hm1775 : Mem [] M w0 [.bx b1590 [.slice A1581 s1713.2.1.length c1582, .slice A1583 r1607.2.1.length c1584] 28, .ow (Kd.int .i64) 3 A1581 c1582 s1713.2.1, .ow Kd.float 44 A1583 c1584 r1607.2.1, .bx b1565 [.slice A1554 s1713.2.2.length c1555, .slice A1556 r1607.2.2.length c1557] 28, .ow (Kd.int .i64) 3 A1554 c1555 (put s1713.2.2 s1713.1 77), .ow Kd.float 44 A1556 c1557 r1607.2.2, .bx b98 [.slice A69 ((([] : List Int) ++ x0.Shape).length) c70, .slice A87 ((([] : List Nat) ++ x0.Data).length) c88] 28, .ow Kd.float 44 A87 c88 (([] : List Nat) ++ x0.Data), .ow (Kd.int .i64) 3 A69 c70 (([] : List Int) ++ x0.Shape), .bx b21 [.slice A0_0 x0.Shape.length c0_0, .slice A0_1 x0.Data.length c0_1] 28, .sl (Kd.int .i64) A0_0 c0_0 x0.Shape, .sl Kd.float A0_1 c0_1 x0.Data] w1772 := hm1737.setOwn 4 _ rfl rfl hx1773 hg1774 (.inl rfl)
                  have q1776 := (hm1775.owAt 1 rfl).int s1713.1 g1724.1 g1724.2
                  refine quiet0 [8] [] [2, 5, 6, 8, 10, 73] #[true, true, true, true, true, true, true, true, true, false] [(2, .pointer (some ⟨b21, 0, none⟩)), (5, .pointer (some ⟨b98, 0, none⟩)), (6, .pointer (some ⟨b1565, 0, none⟩)), (8, .pointer (some ⟨b1590, 0, none⟩)), (10, .int .i64 s1713.1), (73, .pointer (some ((ad A1581).add ((s1713.1).toNat * 1))))] [.is (Option.isSome A1581 = true), .is (0 ≤ s1713.1 ∧ s1713.1 < (s1713.2.1.length : Int))] 1 rfl (by kernel_rfl) (fun _ _ _ _ _ h => nomatch h.1) hf1771 (by kernel_rfl) ⟨q1776.1, g1724, trivial⟩ fun a1777 hf1778 => ?_
                  refine all1 9 (by kernel_rfl) ?_
                  refine opOf hf1778 rfl (by kernel_rfl) (aStoreO (kd := (Kd.int .i64)) (base := 0) (E := 3) (A := A1581) (c := c1582) (xs := s1713.2.1) (i := s1713.1) (x := 77) (us := [.int .i64 77]) (sz := 1) hf1778 (by kernel_rfl) rfl (by kernel_rfl) (hm1775.at 1 rfl) rfl g1724.1 g1724.2 ?_)
                  intro w1779 hx1780 hg1781
                  refine ⟨.inl (by decide), ?_⟩
                  have hm1782 : Mem [] M w0 [.bx b1590 [.slice A1581 s1713.2.1.length c1582, .slice A1583 r1607.2.1.length c1584] 28, .ow (Kd.int .i64) 3 A1581 c1582 (put s1713.2.1 s1713.1 77), .ow Kd.float 44 A1583 c1584 r1607.2.1, .bx b1565 [.slice A1554 s1713.2.2.length c1555, .slice A1556 r1607.2.2.length c1557] 28, .ow (Kd.int .i64) 3 A1554 c1555 (put s1713.2.2 s1713.1 77), .ow Kd.float 44 A1556 c1557 r1607.2.2, .bx b98 [.slice A69 ((([] : List Int) ++ x0.Shape).length) c70, .slice A87 ((([] : List Nat) ++ x0.Data).length) c88] 28, .ow Kd.float 44 A87 c88 (([] : List Nat) ++ x0.Data), .ow (Kd.int .i64) 3 A69 c70 (([] : List Int) ++ x0.Shape), .bx b21 [.slice A0_0 x0.Shape.length c0_0, .slice A0_1 x0.Data.length c0_1] 28, .sl (Kd.int .i64) A0_0 c0_0 x0.Shape, .sl Kd.float A0_1 c0_1 x0.Data] w1779 := hm1775.setOwn 1 _ rfl rfl hx1780 hg1781 (.inl rfl)
                  refine allDone (by kernel_rfl) ⟨rfl, hf1778.sel (l := [2, 5, 6, 8, 10]) (by kernel_rfl), hm1782.sel [0, 1, 2, 3, 4, 5, 6, 7, 8, 9, 10, 11] _ rfl (by kernel_rfl)⟩
                · refine opOf hf1769 rfl (by kernel_rfl) (aStoreO (kd := (Kd.int .i64)) (base := 0) (E := 3) (A := A1554) (c := c1555) (xs := s1713.2.2) (i := s1713.1) (x := 77) (us := [.int .i64 77]) (sz := 1) hf1769 (by kernel_rfl) rfl (by kernel_rfl) (hm1737.at 4 rfl) rfl g1723.1 g1723.2 ?_)
                  intro w1783 hx1784 hg1785
                  refine ⟨.inl (by decide), ?_⟩
                  have hm1786 : Mem [] M w0 [.bx b1590 [.slice A1581 s1713.2.1.length c1582, .slice A1583 r1607.2.1.length c1584] 28, .ow (Kd.int .i64) 3 A1581 c1582 s1713.2.1, .ow Kd.float 44 A1583 c1584 r1607.2.1, .bx b1565 [.slice A1554 s1713.2.2.length c1555, .slice A1556 r1607.2.2.length c1557] 28, .ow (Kd.int .i64) 3 A1554 c1555 (put s1713.2.2 s1713.1 77), .ow Kd.float 44 A1556 c1557 r1607.2.2, .bx b98 [.slice A69 ((([] : List Int) ++ x0.Shape).length) c70, .slice A87 ((([] : List Nat) ++ x0.Data).length) c88] 28, .ow Kd.float 44 A87 c88 (([] : List Nat) ++ x0.Data), .ow (Kd.int .i64) 3 A69 c70 (([] : List Int) ++ x0.Shape), .bx b21 [.slice A0_0 x0.Shape.length c0_0, .slice A0_1 x0.Data.length c0_1] 28, .sl (Kd.int .i64) A0_0 c0_0 x0.Shape, .sl Kd.float A0_1 c0_1 x0.Data] w1783 := hm1737.setOwn 4 _ rfl rfl hx1784 hg1785 (.inl rfl)
                  refine all1 4 (by kernel_rfl) ?_
                  refine opOf hf1769 rfl (by kernel_rfl) (aOne [.slice A1581 s1713.2.1.length c1582] (.slice A1581 s1713.2.1.length c1582) [.cell ⟨b1590, 0, none⟩ (.slice A1581 s1713.2.1.length c1582)] 70 hf1769 (by kernel_rfl) rfl (by kernel_rfl) ⟨(hm1786.cell 0 rfl rfl), trivial⟩ fun a1787 hf1788 => ?_)
                  refine ⟨.inr (Gr.refl _ _), ?_⟩
                  have q1789 := (hm1786.owAt 1 rfl).int s1713.1 g1724.1 g1724.2
                  refine quiet0 [8] [] [2, 5, 6, 8, 10, 73] #[true, true, true, true, true, true, true, true, true, false] [(2, .pointer (some ⟨b21, 0, none⟩)), (5, .pointer (some ⟨b98, 0, none⟩)), (6, .pointer (some ⟨b1565, 0, none⟩)), (8, .pointer (some ⟨b1590, 0, none⟩)), (10, .int .i64 s1713.1), (73, .pointer (some ((ad A1581).add ((s1713.1).toNat * 1))))] [.is (Option.isSome A1581 = true), .is (0 ≤ s1713.1 ∧ s1713.1 < (s1713.2.1.length : Int))] 1 rfl (by kernel_rfl) (fun _ _ _ _ _ h => nomatch h.1) hf1788 (by kernel_rfl) ⟨q1789.1, g1724, trivial⟩ fun a1790 hf1791 => ?_
                  refine all1 9 (by kernel_rfl) ?_
                  refine opOf hf1791 rfl (by kernel_rfl) (aStoreO (kd := (Kd.int .i64)) (base := 0) (E := 3) (A := A1581) (c := c1582) (xs := s1713.2.1) (i := s1713.1) (x := 77) (us := [.int .i64 77]) (sz := 1) hf1791 (by kernel_rfl) rfl (by kernel_rfl) (hm1786.at 1 rfl) rfl g1724.1 g1724.2 ?_)
                  intro w1792 hx1793 hg1794
                  refine ⟨.inl (by decide), ?_⟩
                  have hm1795 : Mem [] M w0 [.bx b1590 [.slice A1581 s1713.2.1.length c1582, .slice A1583 r1607.2.1.length c1584] 28, .ow (Kd.int .i64) 3 A1581 c1582 (put s1713.2.1 s1713.1 77), .ow Kd.float 44 A1583 c1584 r1607.2.1, .bx b1565 [.slice A1554 s1713.2.2.length c1555, .slice A1556 r1607.2.2.length c1557] 28, .ow (Kd.int .i64) 3 A1554 c1555 (put s1713.2.2 s1713.1 77), .ow Kd.float 44 A1556 c1557 r1607.2.2, .bx b98 [.slice A69 ((([] : List Int) ++ x0.Shape).length) c70, .slice A87 ((([] : List Nat) ++ x0.Data).length) c88] 28, .ow Kd.float 44 A87 c88 (([] : List Nat) ++ x0.Data), .ow (Kd.int .i64) 3 A69 c70 (([] : List Int) ++ x0.Shape), .bx b21 [.slice A0_0 x0.Shape.length c0_0, .slice A0_1 x0.Data.length c0_1] 28, .sl (Kd.int .i64) A0_0 c0_0 x0.Shape, .sl Kd.float A0_1 c0_1 x0.Data] w1792 := hm1786.setOwn 1 _ rfl rfl hx1793 hg1794 (.inl rfl)
                  refine allDone (by kernel_rfl) ⟨rfl, hf1791.sel (l := [2, 5, 6, 8, 10]) (by kernel_rfl), hm1795.sel [0, 1, 2, 3, 4, 5, 6, 7, 8, 9, 10, 11] _ rfl (by kernel_rfl)⟩
              rintro a1796 w1797 ⟨hf1798, hm1799⟩
              refine blkN ?_
              refine thenN ?_
              refine reg [] [2, 5, 6, 8, 10] [(2, .pointer (some ⟨b21, 0, none⟩)), (5, .pointer (some ⟨b98, 0, none⟩)), (6, .pointer (some ⟨b1565, 0, none⟩)), (8, .pointer (some ⟨b1590, 0, none⟩)), (10, .int .i64 (w64 (s1713.1 + 1)))] [] hf1798 (by kernel_rfl) trivial fun a1800 hf1801 => ?_
              have hf1802 : Fr 77 a1800 [(2, .pointer (some ⟨b21, 0, none⟩)), (5, .pointer (some ⟨b98, 0, none⟩)), (6, .pointer (some ⟨b1565, 0, none⟩)), (8, .pointer (some ⟨b1590, 0, none⟩)), (10, .int .i64 (w64 (s1713.1 + 1)))] := hf1801.sel (l := [2, 5, 6, 8, 10]) (by kernel_rfl)
              have hm1803 : Mem [] M w0 [.bx b1590 [.slice A1581 s1713.2.1.length c1582, .slice A1583 r1607.2.1.length c1584] 28, .ow (Kd.int .i64) 3 A1581 c1582 (put s1713.2.1 s1713.1 77), .ow Kd.float 44 A1583 c1584 r1607.2.1, .bx b1565 [.slice A1554 s1713.2.2.length c1555, .slice A1556 r1607.2.2.length c1557] 28, .ow (Kd.int .i64) 3 A1554 c1555 (put s1713.2.2 s1713.1 77), .ow Kd.float 44 A1556 c1557 r1607.2.2, .bx b98 [.slice A69 ((([] : List Int) ++ x0.Shape).length) c70, .slice A87 ((([] : List Nat) ++ x0.Data).length) c88] 28, .ow Kd.float 44 A87 c88 (([] : List Nat) ++ x0.Data), .ow (Kd.int .i64) 3 A69 c70 (([] : List Int) ++ x0.Shape), .bx b21 [.slice A0_0 x0.Shape.length c0_0, .slice A0_1 x0.Data.length c0_1] 28, .sl (Kd.int .i64) A0_0 c0_0 x0.Shape, .sl Kd.float A0_1 c0_1 x0.Data] w1797 := hm1799.sel [0, 1, 2, 3, 4, 5, 6, 7, 8, 9, 10, 11] _ rfl (by kernel_rfl)
              exact ⟨((w64 (s1713.1 + 1)), (put s1713.2.1 s1713.1 77), (put s1713.2.2 s1713.1 77)), H1, (by simpa only [put_length, List.length_nil] using hf1802), (by simpa only [put_length, List.length_nil] using hm1803)⟩
            · refine reg [.slice A1554 s1713.2.2.length c1555, .bool false] [2, 5, 6, 8, 10, 63] [(2, .pointer (some ⟨b21, 0, none⟩)), (5, .pointer (some ⟨b98, 0, none⟩)), (6, .pointer (some ⟨b1565, 0, none⟩)), (8, .pointer (some ⟨b1590, 0, none⟩)), (10, .int .i64 s1713.1), (63, .bool false)] [.cell ⟨b1565, 0, none⟩ (.slice A1554 s1713.2.2.length c1555), .is (decide (s1713.1 < (s1713.2.2.length : Int)) = false)] hf1718 (by kernel_rfl) ⟨(hm1719.cell 3 rfl rfl), (decide_eq_false c1720), trivial⟩ fun a1804 hf1805 => ?_
              refine thenN ?_
              refine condF hf1805 (by kernel_rfl) ?_
              refine wp_exit ?_
              refine thenE ?_
              refine thenE ?_
              obtain rfl := Option.some.inj H1
              exact .inl ⟨rfl, hf1805.sel (l := [2, 5, 6, 8, 10]) (by kernel_rfl), hm1719.sel [0, 1, 2, 3, 4, 5, 6, 7, 8, 9, 10, 11] _ rfl (by kernel_rfl)⟩
          rintro a1806 w1807 ⟨hf1808, hm1809⟩
          refine thenN ?_
          refine wp_seq ?_
          obtain ⟨r1810, hr1810, H0⟩ := ob_split H0
          refine inReg ?_
          refine go 2 [.agg #[.slice A0_0 x0.Shape.length c0_0, .slice A0_1 x0.Data.length c0_1], .agg #[.slice A69 ((([] : List Int) ++ x0.Shape).length) c70, .slice A87 ((([] : List Nat) ++ x0.Data).length) c88]] [74, 75] [(74, .agg #[.slice A0_0 x0.Shape.length c0_0, .slice A0_1 x0.Data.length c0_1]), (75, .agg #[.slice A69 ((([] : List Int) ++ x0.Shape).length) c70, .slice A87 ((([] : List Nat) ++ x0.Data).length) c88])] [.cell ⟨b21, 0, none⟩ (.slice A0_0 x0.Shape.length c0_0), .cell ⟨b21, 1, none⟩ (.slice A0_1 x0.Data.length c0_1), .cell ⟨b98, 0, none⟩ (.slice A69 ((([] : List Int) ++ x0.Shape).length) c70), .cell ⟨b98, 1, none⟩ (.slice A87 ((([] : List Nat) ++ x0.Data).length) c88)] hf1808 (by kernel_rfl) ⟨(hm1809.cell 9 rfl rfl), (hm1809.cell 9 rfl rfl), (hm1809.cell 6 rfl rfl), (hm1809.cell 6 rfl rfl), trivial⟩ fun a1811 hf1812 => ?_
          have hm1813 : Mem [] M w0 [.bx b1590 [.slice A1581 r1714.2.1.length c1582, .slice A1583 r1607.2.1.length c1584] 28, .ow (Kd.int .i64) 3 A1581 c1582 r1714.2.1, .ow Kd.float 44 A1583 c1584 r1607.2.1, .bx b1565 [.slice A1554 r1714.2.2.length c1555, .slice A1556 r1607.2.2.length c1557] 28, .ow (Kd.int .i64) 3 A1554 c1555 r1714.2.2, .ow Kd.float 44 A1556 c1557 r1607.2.2, .bx b98 [.slice A69 ((([] : List Int) ++ x0.Shape).length) c70, .slice A87 ((([] : List Nat) ++ x0.Data).length) c88] 28, .ow Kd.float 44 A87 c88 (([] : List Nat) ++ x0.Data), .sl (Kd.int .i64) A69 c70 (([] : List Int) ++ x0.Shape), .bx b21 [.slice A0_0 x0.Shape.length c0_0, .slice A0_1 x0.Data.length c0_1] 28, .sl (Kd.int .i64) A0_0 c0_0 x0.Shape, .sl Kd.float A0_1 c0_1 x0.Data] w1807 := hm1809.seal 8 _ rfl rfl
          have hm1814 : Mem [] M w0 [.bx b1590 [.slice A1581 r1714.2.1.length c1582, .slice A1583 r1607.2.1.length c1584] 28, .ow (Kd.int .i64) 3 A1581 c1582 r1714.2.1, .ow Kd.float 44 A1583 c1584 r1607.2.1, .bx b1565 [.slice A1554 r1714.2.2.length c1555, .slice A1556 r1607.2.2.length c1557] 28, .ow (Kd.int .i64) 3 A1554 c1555 r1714.2.2, .ow Kd.float 44 A1556 c1557 r1607.2.2, .bx b98 [.slice A69 ((([] : List Int) ++ x0.Shape).length) c70, .slice A87 ((([] : List Nat) ++ x0.Data).length) c88] 28, .sl Kd.float A87 c88 (([] : List Nat) ++ x0.Data), .sl (Kd.int .i64) A69 c70 (([] : List Int) ++ x0.Shape), .bx b21 [.slice A0_0 x0.Shape.length c0_0, .slice A0_1 x0.Data.length c0_1] 28, .sl (Kd.int .i64) A0_0 c0_0 x0.Shape, .sl Kd.float A0_1 c0_1 x0.Data] w1807 := hm1813.seal 7 _ rfl rfl
          refine listOf hf1812 rfl (by kernel_rfl) (aCall (fid := 19) (args := [.agg #[.slice A0_0 x0.Shape.length c0_0, .slice A0_1 x0.Data.length c0_1], .agg #[.slice A69 ((([] : List Int) ++ x0.Shape).length) c70, .slice A87 ((([] : List Nat) ++ x0.Data).length) c88]]) (d := 76) hf1812 (by kernel_rfl) (by kernel_rfl) callable19 (ref1_SameTensor.calls _ _ x0 A0_0 x0.Shape.length c0_0 rfl A0_1 x0.Data.length c0_1 rfl (⟨(([] : List Int) ++ x0.Shape), (([] : List Nat) ++ x0.Data)⟩ : Tensor) A69 ((([] : List Int) ++ x0.Shape).length) c70 rfl A87 ((([] : List Nat) ++ x0.Data).length) c88 rfl (hm1814.give [10, 11, 8, 7] [.sl (Kd.int .i64) A0_0 c0_0 x0.Shape, .sl Kd.float A0_1 c0_1 x0.Data, .sl (Kd.int .i64) A69 c70 (([] : List Int) ++ x0.Shape), .sl Kd.float A87 c88 (([] : List Nat) ++ x0.Data)] rfl rfl) r1810 hr1810) ?_)
          rintro _ w1815 a1816 ⟨rfl, hk1818⟩ hf1817
          have hm1819 := hm1809.still hk1818.cum.none
          refine go 1 [] [4] [(4, .bool r1810)] [] hf1817 (by kernel_rfl) trivial fun a1820 hf1821 => ?_
          refine endL rfl ?_
          have hm1822 := hm1819.sel [] _ rfl (by kernel_rfl)
          refine thenN ?_
          refine wp_ret ?_
          have hm1823 : Mem [] M w0 [] w1815 := hm1822.sel [] _ rfl (by kernel_rfl)
          obtain rfl := Option.some.inj H0
          refine ret [] [.bool r1810] [] hf1821 (by kernel_rfl) trivial ?_
          exact ⟨_, rfl, rfl, hm1823⟩
        · refine reg [.bool true] [1, 2, 5, 6, 8, 41] [(1, .float .f64 b1), (2, .pointer (some ⟨b21, 0, none⟩)), (5, .pointer (some ⟨b98, 0, none⟩)), (6, .pointer (some ⟨b1565, 0, none⟩)), (8, .pointer (some ⟨b1590, 0, none⟩)), (41, .bool true)] [.is (((r1551.2 : Int) != 0) = true)] hf1593 (by kernel_rfl) ⟨(neT c1601), trivial⟩ fun a1825 hf1826 => ?_
          refine thenN ?_
          refine condT hf1826 (by kernel_rfl) ?_
          refine wp_seq ?_
          refine reg [] [4] [(4, .bool false)] [] hf1826 (by kernel_rfl) trivial fun a1827 hf1828 => ?_
          have hm1829 := hm1600.sel [] _ rfl (by kernel_rfl)
          refine thenN ?_
          refine wp_ret ?_
          refine thenR ?_
          have hm1830 : Mem [] M w0 [] w1597 := hm1829.sel [] _ rfl (by kernel_rfl)
          obtain rfl := Option.some.inj H0
          refine ret [] [.bool false] [] hf1828 (by kernel_rfl) trivial ?_
          exact ⟨_, rfl, rfl, hm1830⟩
      · refine inReg ?_
        refine go 1 [.agg #[.slice A0_0 x0.Shape.length c0_0, .slice A0_1 x0.Data.length c0_1]] [1, 2, 13] [(1, .float .f64 b1), (2, .pointer (some ⟨b21, 0, none⟩)), (13, .agg #[.slice A0_0 x0.Shape.length c0_0, .slice A0_1 x0.Data.length c0_1])] [.cell ⟨b21, 0, none⟩ (.slice A0_0 x0.Shape.length c0_0), .cell ⟨b21, 1, none⟩ (.slice A0_1 x0.Data.length c0_1)] hf38 (by kernel_rfl) ⟨(hm36.cell 0 rfl rfl), (hm36.cell 0 rfl rfl), trivial⟩ fun a1832 hf1833 => ?_
        refine listOf hf1833 rfl (by kernel_rfl) (aCall (fid := 31) (args := [.agg #[.slice A0_0 x0.Shape.length c0_0, .slice A0_1 x0.Data.length c0_1]]) (d := 14) hf1833 (by kernel_rfl) (by kernel_rfl) callable31 (law3_Small.calls _ _ x0 A0_0 x0.Shape.length c0_0 rfl A0_1 x0.Data.length c0_1 rfl (hm36.give [1, 2] [.sl (Kd.int .i64) A0_0 c0_0 x0.Shape, .sl Kd.float A0_1 c0_1 x0.Data] rfl rfl) r39 hr39) ?_)
        rintro _ w1834 a1835 ⟨rfl, hk1837⟩ hf1836
        have hm1838 := hm36.still hk1837.cum.none
        rw [c40] at hf1836
        refine go 3 [.agg #[.slice A0_0 x0.Shape.length c0_0, .slice A0_1 x0.Data.length c0_1]] [1, 2, 16, 17] [(1, .float .f64 b1), (2, .pointer (some ⟨b21, 0, none⟩)), (16, .bool false), (17, .agg #[.slice A0_0 x0.Shape.length c0_0, .slice A0_1 x0.Data.length c0_1])] [.cell ⟨b21, 0, none⟩ (.slice A0_0 x0.Shape.length c0_0), .cell ⟨b21, 1, none⟩ (.slice A0_1 x0.Data.length c0_1)] hf1836 (by kernel_rfl) ⟨(hm1838.cell 0 rfl rfl), (hm1838.cell 0 rfl rfl), trivial⟩ fun a1839 hf1840 => ?_
        refine listOf hf1840 rfl (by kernel_rfl) (aCall (fid := 32) (args := [.agg #[.slice A0_0 x0.Shape.length c0_0, .slice A0_1 x0.Data.length c0_1]]) (d := 18) hf1840 (by kernel_rfl) (by kernel_rfl) callable32 (ref1_TensorMay.calls _ _ x0 A0_0 x0.Shape.length c0_0 rfl A0_1 x0.Data.length c0_1 rfl (hm1838.give [1, 2] [.sl (Kd.int .i64) A0_0 c0_0 x0.Shape, .sl Kd.float A0_1 c0_1 x0.Data] rfl rfl) r41 hr41) ?_)
        rintro _ w1841 a1842 ⟨rfl, hk1844⟩ hf1843
        have hm1845 := hm1838.still hk1844.cum.none
        rw [c42] at hf1843
        refine go 2 [] [1, 2, 20] [(1, .float .f64 b1), (2, .pointer (some ⟨b21, 0, none⟩)), (20, .bool true)] [] hf1843 (by kernel_rfl) trivial fun a1846 hf1847 => ?_
        refine endL rfl ?_
        refine thenN ?_
        refine condT hf1847 (by kernel_rfl) ?_
        refine wp_seq ?_
        refine reg [] [4] [(4, .bool true)] [] hf1847 (by kernel_rfl) trivial fun a1848 hf1849 => ?_
        have hm1850 := hm1845.sel [] _ rfl (by kernel_rfl)
        refine thenN ?_
        refine wp_ret ?_
        refine thenR ?_
        have hm1851 : Mem [] M w0 [] w1841 := hm1850.sel [] _ rfl (by kernel_rfl)
        obtain rfl := Option.some.inj H0
        refine ret [] [.bool true] [] hf1849 (by kernel_rfl) trivial ?_
        exact ⟨_, rfl, rfl, hm1851⟩
    · refine inReg ?_
      refine go 1 [.agg #[.slice A0_0 x0.Shape.length c0_0, .slice A0_1 x0.Data.length c0_1]] [1, 2, 13] [(1, .float .f64 b1), (2, .pointer (some ⟨b21, 0, none⟩)), (13, .agg #[.slice A0_0 x0.Shape.length c0_0, .slice A0_1 x0.Data.length c0_1])] [.cell ⟨b21, 0, none⟩ (.slice A0_0 x0.Shape.length c0_0), .cell ⟨b21, 1, none⟩ (.slice A0_1 x0.Data.length c0_1)] hf38 (by kernel_rfl) ⟨(hm36.cell 0 rfl rfl), (hm36.cell 0 rfl rfl), trivial⟩ fun a1853 hf1854 => ?_
      refine listOf hf1854 rfl (by kernel_rfl) (aCall (fid := 31) (args := [.agg #[.slice A0_0 x0.Shape.length c0_0, .slice A0_1 x0.Data.length c0_1]]) (d := 14) hf1854 (by kernel_rfl) (by kernel_rfl) callable31 (law3_Small.calls _ _ x0 A0_0 x0.Shape.length c0_0 rfl A0_1 x0.Data.length c0_1 rfl (hm36.give [1, 2] [.sl (Kd.int .i64) A0_0 c0_0 x0.Shape, .sl Kd.float A0_1 c0_1 x0.Data] rfl rfl) r39 hr39) ?_)
      rintro _ w1855 a1856 ⟨rfl, hk1858⟩ hf1857
      have hm1859 := hm36.still hk1858.cum.none
      rw [c40] at hf1857
      refine go 6 [] [1, 2, 20] [(1, .float .f64 b1), (2, .pointer (some ⟨b21, 0, none⟩)), (20, .bool true)] [] hf1857 (by kernel_rfl) trivial fun a1860 hf1861 => ?_
      refine endL rfl ?_
      refine thenN ?_
      refine condT hf1861 (by kernel_rfl) ?_
      refine wp_seq ?_
      refine reg [] [4] [(4, .bool true)] [] hf1861 (by kernel_rfl) trivial fun a1862 hf1863 => ?_
      have hm1864 := hm1859.sel [] _ rfl (by kernel_rfl)
      refine thenN ?_
      refine wp_ret ?_
      refine thenR ?_
      have hm1865 : Mem [] M w0 [] w1855 := hm1864.sel [] _ rfl (by kernel_rfl)
      obtain rfl := Option.some.inj H0
      refine ret [] [.bool true] [] hf1863 (by kernel_rfl) trivial ?_
      exact ⟨_, rfl, rfl, hm1865⟩
  · refine inReg ?_
    refine listOf hf29 rfl (by kernel_rfl) (aCall (fid := 26) (args := []) (d := 11) hf29 (by kernel_rfl) (by kernel_rfl) callable26 (law3_awake.calls _ _  (hm27.give [] [] rfl rfl) r30 hr30) ?_)
    rintro _ w1867 a1868 ⟨rfl, hk1870⟩ hf1869
    have hm1871 := hm27.still hk1870.cum.none
    rw [c31] at hf1869
    refine go 1 [] [1, 2, 12] [(1, .float .f64 b1), (2, .pointer (some ⟨b21, 0, none⟩)), (12, .bool true)] [] hf1869 (by kernel_rfl) trivial fun a1872 hf1873 => ?_
    refine endL rfl ?_
    refine thenN ?_
    refine condT hf1873 (by kernel_rfl) ?_
    refine wp_seq ?_
    refine reg [] [4] [(4, .bool false)] [] hf1873 (by kernel_rfl) trivial fun a1874 hf1875 => ?_
    have hm1876 := hm1871.sel [] _ rfl (by kernel_rfl)
    refine thenN ?_
    refine wp_ret ?_
    refine thenR ?_
    have hm1877 : Mem [] M w0 [] w1867 := hm1876.sel [] _ rfl (by kernel_rfl)
    obtain rfl := Option.some.inj H0
    refine ret [] [.bool false] [] hf1875 (by kernel_rfl) trivial ?_
    exact ⟨_, rfl, rfl, hm1877⟩
end Go.Proofs.Ytkcgiolledmbnab
