/- Printed by gen.py. -/
import Derived.Test.YteaoijahdinciaaF11
import Derived.Test.YteaoijahdinciaaF12
import Derived.Test.YteaoijahdinciaaF13
import Derived.Test.YteaoijahdinciaaF14
import Derived.Test.YteaoijahdinciaaF15
import Derived.Test.YteaoijahdinciaaF16
import Derived.Test.YteaoijahdinciaaF2
import Derived.Test.YteaoijahdinciaaF20
import Derived.Test.YteaoijahdinciaaF21
import Derived.Test.YteaoijahdinciaaF7
import Derived.Test.YteaoijahdinciaaF8
import Derived.Test.YteaoijahdinciaaF9
namespace Go.Proofs.Yteaoijahdinciaa
open Go Go.RowKit
set_option linter.unusedSimpArgs false
set_option linter.unusedVariables false
set_option linter.unnecessarySimpa false
/-! ### backstitch/backstitchlaw19.ShelfPlays -/
noncomputable def law19_ShelfPlays.l0  (s90 : Unit) : Step Unit Unit :=
  .done ()
noncomputable def law19_ShelfPlays.l2 (x1 : (List Deed)) (x0 : (List Tensor)) (s222 : (Int × (List Tensor) × (List Tensor) × (List Int) × (List Tensor) × (List Int) × (List Tensor))) : Step (Int × (List Tensor) × (List Tensor) × (List Int) × (List Tensor) × (List Int) × (List Tensor)) (Out2 (Int × (List Tensor) × (List Tensor) × (List Int) × (List Tensor) × (List Int) × (List Tensor)) Bool) :=
  bindS (if s222.1 < (x1.length : Int) then (some true)
  else (some false) : Option Bool) fun r241 =>
  if r241 = true then (if 0 ≤ s222.1 ∧ s222.1 < (x1.length : Int) then (bindS (if 0 ≤ (rd x1 s222.1).I then (if (rd x1 s222.1).I < (x0.length : Int) then (some true)
  else (some false))
  else (some false) : Option Bool) fun r274 =>
  bindS ((if (rd x1 s222.1).Do = 0 then (some true)
  else (some false) : Option Bool).bind fun r336 =>
  (if r336 = true then (some true)
  else (if (rd x1 s222.1).Do = 1 then (some true)
  else (some false)) : Option Bool).bind fun r341 =>
  if r341 = true then ((shelf_Shelf_Set.f (⟨s222.2.2.2.2.1, s222.2.2.2.2.2.1, s222.2.2.2.2.2.2⟩ : Shelf) (rd x1 s222.1).I (⟨(rd x1 s222.1).T.Shape, (rd x1 s222.1).T.Data⟩ : Tensor)).bind fun r347 =>
  (ref19_Shelf_Set.f (⟨s222.2.1, s222.2.2.1, s222.2.2.2.1⟩ : Shelf65) (rd x1 s222.1).I (⟨(rd x1 s222.1).T.Shape, (rd x1 s222.1).T.Data⟩ : Tensor)).bind fun r348 =>
  if r347.2.2 = r348.2.2 then (some (true, r348.1, s222.2.2.1, r348.2.1, r347.1, r347.2.1, s222.2.2.2.2.2.2))
  else (some (false, r348.1, s222.2.2.1, r348.2.1, r347.1, r347.2.1, s222.2.2.2.2.2.2)))
  else ((if (rd x1 s222.1).Do = 2 then (some true)
  else (some false) : Option Bool).bind fun r948 =>
  if r948 = true then ((shelf_Shelf_Get.f (⟨s222.2.2.2.2.1, s222.2.2.2.2.2.1, s222.2.2.2.2.2.2⟩ : Shelf) (rd x1 s222.1).I).bind fun r954 =>
  if r274 = true then (if r954.2.2 = 0 then (if 0 ≤ (rd x1 s222.1).I ∧ (rd x1 s222.1).I < (s222.2.2.2.1.length : Int) then (if r954.2.1 = (rd s222.2.2.2.1 (rd x1 s222.1).I) then (if 0 ≤ (rd x1 s222.1).I ∧ (rd x1 s222.1).I < (s222.2.1.length : Int) then ((ref1_SameTensor.f r954.1 (⟨(rd s222.2.1 (rd x1 s222.1).I).Shape, (rd s222.2.1 (rd x1 s222.1).I).Data⟩ : Tensor)).bind fun r988 =>
  if r988 = true then (some (true, s222.2.1, s222.2.2.1, s222.2.2.2.1, s222.2.2.2.2.1, s222.2.2.2.2.2.1, s222.2.2.2.2.2.2))
  else (some (false, s222.2.1, s222.2.2.1, s222.2.2.2.1, s222.2.2.2.2.1, s222.2.2.2.2.2.1, s222.2.2.2.2.2.2)))
  else none)
  else (some (false, s222.2.1, s222.2.2.1, s222.2.2.2.1, s222.2.2.2.2.1, s222.2.2.2.2.2.1, s222.2.2.2.2.2.2)))
  else none)
  else (some (false, s222.2.1, s222.2.2.1, s222.2.2.2.1, s222.2.2.2.2.1, s222.2.2.2.2.2.1, s222.2.2.2.2.2.2)))
  else (if r954.2.2 = 7 then (if r954.2.1 = 0 then (if (r954.1.Data.length : Int) = 0 then (some (true, s222.2.1, s222.2.2.1, s222.2.2.2.1, s222.2.2.2.2.1, s222.2.2.2.2.2.1, s222.2.2.2.2.2.2))
  else (some (false, s222.2.1, s222.2.2.1, s222.2.2.2.1, s222.2.2.2.2.1, s222.2.2.2.2.2.1, s222.2.2.2.2.2.2)))
  else (some (false, s222.2.1, s222.2.2.1, s222.2.2.2.1, s222.2.2.2.2.1, s222.2.2.2.2.2.1, s222.2.2.2.2.2.2)))
  else (some (false, s222.2.1, s222.2.2.1, s222.2.2.2.1, s222.2.2.2.2.1, s222.2.2.2.2.2.1, s222.2.2.2.2.2.2))))
  else ((if (rd x1 s222.1).Do = 3 then (some true)
  else (some false) : Option Bool).bind fun r1158 =>
  (if r1158 = true then (some true)
  else (if (rd x1 s222.1).Do = 4 then (some true)
  else (some false)) : Option Bool).bind fun r1163 =>
  if r1163 = true then ((shelf_Shelf_Commit.f (⟨s222.2.2.2.2.1, s222.2.2.2.2.2.1, s222.2.2.2.2.2.2⟩ : Shelf) (rd x1 s222.1).L).bind fun r1169 =>
  (ref19_Shelf_Commit.f (⟨s222.2.1, s222.2.2.1, s222.2.2.2.1⟩ : Shelf65) (rd x1 s222.1).L).bind fun r1170 =>
  if r1169.2 = r1170.2 then (some (true, s222.2.1, r1170.1, s222.2.2.2.1, s222.2.2.2.2.1, s222.2.2.2.2.2.1, r1169.1))
  else (some (false, s222.2.1, r1170.1, s222.2.2.2.1, s222.2.2.2.2.1, s222.2.2.2.2.2.1, r1169.1)))
  else ((if (rd x1 s222.1).Do = 5 then (some true)
  else (some false) : Option Bool).bind fun r1356 =>
  if r1356 = true then ((shelf_Shelf_Grad.f (⟨s222.2.2.2.2.1, s222.2.2.2.2.2.1, s222.2.2.2.2.2.2⟩ : Shelf) (rd x1 s222.1).I).bind fun r1362 =>
  if r274 = true then (if r1362.2 = 0 then (if 0 ≤ (rd x1 s222.1).I ∧ (rd x1 s222.1).I < (s222.2.2.1.length : Int) then ((ref1_SameTensor.f r1362.1 (⟨(rd s222.2.2.1 (rd x1 s222.1).I).Shape, (rd s222.2.2.1 (rd x1 s222.1).I).Data⟩ : Tensor)).bind fun r1394 =>
  if r1394 = true then (some (true, s222.2.1, s222.2.2.1, s222.2.2.2.1, s222.2.2.2.2.1, s222.2.2.2.2.2.1, s222.2.2.2.2.2.2))
  else (some (false, s222.2.1, s222.2.2.1, s222.2.2.2.1, s222.2.2.2.2.1, s222.2.2.2.2.2.1, s222.2.2.2.2.2.2)))
  else none)
  else (some (false, s222.2.1, s222.2.2.1, s222.2.2.2.1, s222.2.2.2.2.1, s222.2.2.2.2.2.1, s222.2.2.2.2.2.2)))
  else (if r1362.2 = 7 then (if (r1362.1.Data.length : Int) = 0 then (some (true, s222.2.1, s222.2.2.1, s222.2.2.2.1, s222.2.2.2.2.1, s222.2.2.2.2.2.1, s222.2.2.2.2.2.2))
  else (some (false, s222.2.1, s222.2.2.1, s222.2.2.2.1, s222.2.2.2.2.1, s222.2.2.2.2.2.1, s222.2.2.2.2.2.2)))
  else (some (false, s222.2.1, s222.2.2.1, s222.2.2.2.1, s222.2.2.2.2.1, s222.2.2.2.2.2.1, s222.2.2.2.2.2.2))))
  else ((if (rd x1 s222.1).Do = 6 then (some true)
  else (some false) : Option Bool).bind fun r1544 =>
  if r1544 = true then ((shelf_Shelf_Zero.f (⟨s222.2.2.2.2.1, s222.2.2.2.2.2.1, s222.2.2.2.2.2.2⟩ : Shelf) (rd x1 s222.1).I).bind fun r1550 =>
  (ref19_Shelf_Zero.f (⟨s222.2.1, s222.2.2.1, s222.2.2.2.1⟩ : Shelf65) (rd x1 s222.1).I).bind fun r1551 =>
  if r1550.2 = r1551.2 then (some (true, s222.2.1, r1551.1, s222.2.2.2.1, s222.2.2.2.2.1, s222.2.2.2.2.2.1, r1550.1))
  else (some (false, s222.2.1, r1551.1, s222.2.2.2.1, s222.2.2.2.2.1, s222.2.2.2.2.2.1, r1550.1)))
  else (some (true, s222.2.1, s222.2.2.1, s222.2.2.2.1, s222.2.2.2.2.1, s222.2.2.2.2.2.1, s222.2.2.2.2.2.2)))))) : Option (Bool × (List Tensor) × (List Tensor) × (List Int) × (List Tensor) × (List Int) × (List Tensor))) fun r283 =>
  if r283.1 = true then (bindS (law19_Same.f (⟨r283.2.2.2.2.1, r283.2.2.2.2.2.1, r283.2.2.2.2.2.2⟩ : Shelf) (⟨r283.2.1, r283.2.2.1, r283.2.2.2.1⟩ : Shelf65)) fun r301 =>
  if r301 = true then (.next ((w64 (s222.1 + 1)), r283.2.1, r283.2.2.1, r283.2.2.2.1, r283.2.2.2.2.1, r283.2.2.2.2.2.1, r283.2.2.2.2.2.2))
  else (.done (.ret false)))
  else (.done (.ret false)))
  else .bad)
  else (.done (.go (s222.1, s222.2.1, s222.2.2.1, s222.2.2.2.1, s222.2.2.2.2.1, s222.2.2.2.2.2.1, s222.2.2.2.2.2.2)))
noncomputable def law19_ShelfPlays.f (x0 : (List Tensor)) (x1 : (List Deed)) : Option Bool :=
  (law19_awake.f).bind fun r23 =>
  if r23 = true then ((law12_Small.f x0).bind fun r32 =>
  if r32 = true then ((law19_Small.f x1).bind fun r34 =>
  if r34 = true then ((shelf_New.f x0).bind fun r52 =>
  onPtr r52.1 (fun y54 =>
  (ref19_New.f x0).bind fun r185 =>
  onPtr r185.1 (fun y187 =>
  if r52.2 = r185.2 then (if r52.2 = 0 then ((loop (law19_ShelfPlays.l2 x1 x0) (0, y187.T, y187.G, y187.V, y54.l, y54.vers, y54.grads)).bind fun r235 =>
  r235.on (fun yr235 =>
  some true) (fun y => some y))
  else (some false))
  else (some false)) none) ((ref19_New.f x0).bind fun r65 =>
  onPtr r65.1 (fun y67 =>
  if r52.2 = r65.2 then (if r52.2 = 0 then (some false)
  else ((loop (law19_ShelfPlays.l0) ()).bind fun r145 =>
  some true))
  else (some false)) (if r52.2 = r65.2 then (if r52.2 = 0 then (some false)
  else ((loop (law19_ShelfPlays.l0) ()).bind fun r91 =>
  some true))
  else (some false))))
  else (some true))
  else (some true))
  else (some false)
set_option maxRecDepth 100000 in
set_option maxHeartbeats 4000000 in
theorem law19_ShelfPlays.calls (M : List (Option Nat)) (w0 : World) (x0 : (List Tensor)) (A0 : Option Addr) (n0 c0 : Nat) (e0 : n0 = x0.length) (x1 : (List Deed)) (A1 : Option Addr) (n1 c1 : Nat) (e1 : n1 = x1.length) (hm0 : Mem [] M w0 [.sl kTensor A0 c0 x0, .sl kDeed A1 c1 x1] w0) (r : Bool) (H0 : law19_ShelfPlays.f x0 x1 = some r) :
    Calls Try.prog 8 [.slice A0 n0 c0, .slice A1 n1 c1].toArray w0 (fun x w' => ∃ v, x = .returned v ∧ v = .bool r ∧ Mem [] M w0 [] w') := by
  subst e0
  subst e1
  unfold law19_ShelfPlays.f at H0
  refine enter (n := 218) Try.func8 rfl rfl (by kernel_rfl) fun a0 (hf0 : Fr 218 a0 [(0, .slice A0 x0.length c0), (1, .slice A1 x1.length c1)]) => ?_
  refine wp_seq ?_
  refine rg [] [(0, .slice A0 x0.length c0), (1, .slice A1 x1.length c1)] hf0 ot fun a21 hf22 => ?_
  refine thenN ?_
  refine wp_seq ?_
  refine wp_seq ?_
  obtain ⟨r23, hr23, H0⟩ := ob_split H0
  rcases ifb_split H0 with ⟨c24, H0⟩ | ⟨c24, H0⟩
  rotate_left
  · refine inReg ?_
    refine lo hf22 rfl (cl 18 hf22 callable9 (law19_awake.calls _ _ (hm0.give [] [] rfl rfl) r23 hr23) ?_)
    rintro _ w1854 a1855 ⟨rfl, hk1857⟩ hf1856
    have hm1858 := hm0.still hk1857.cum.none
    rw [c24] at hf1856
    refine gg 1 [] [(0, .slice A0 x0.length c0), (1, .slice A1 x1.length c1), (19, .bool true)] hf1856 ot fun a1859 hf1860 => ?_
    refine endL rfl ?_
    refine thenN ?_
    refine cT hf1860 ?_
    refine wp_seq ?_
    refine rg [] [(4, .bool false)] hf1860 ot fun a1861 hf1862 => ?_
    have hm1863 := hm1858.se [] _ rfl
    refine thenN ?_
    refine wp_ret ?_
    refine thenR ?_
    have hm1864 : Mem [] M w0 [] w1854 := hm1863.se [] _ rfl
    obtain rfl := Option.some.inj H0
    refine rt [] [.bool false] hf1862 ot ?_
    exact ⟨_, rfl, rfl, hm1864⟩
  refine inReg ?_
  refine lo hf22 rfl (cl 18 hf22 callable9 (law19_awake.calls _ _ (hm0.give [] [] rfl rfl) r23 hr23) ?_)
  rintro _ w25 a26 ⟨rfl, hk28⟩ hf27
  have hm29 := hm0.still hk28.cum.none
  rw [c24] at hf27
  refine gg 1 [] [(0, .slice A0 x0.length c0), (1, .slice A1 x1.length c1), (19, .bool false)] hf27 ot fun a30 hf31 => ?_
  refine endL rfl ?_
  refine thenN ?_
  refine cF hf31 ?_
  refine wp_skip ?_
  refine thenN ?_
  refine wp_seq ?_
  refine wp_seq ?_
  obtain ⟨r32, hr32, H0⟩ := ob_split H0
  rcases ifb_split H0 with ⟨c33, H0⟩ | ⟨c33, H0⟩
  rotate_left
  · refine inReg ?_
    refine gg 1 [] [(0, .slice A0 x0.length c0), (1, .slice A1 x1.length c1), (20, .slice A0 x0.length c0)] hf31 ot fun a1840 hf1841 => ?_
    refine lo hf1841 rfl (cl 21 hf1841 callable15 (law12_Small.calls _ _ _ _ _ _ rfl (hm29.give [0] [.sl kTensor A0 c0 x0] rfl rfl) r32 hr32) ?_)
    rintro _ w1842 a1843 ⟨rfl, hk1845⟩ hf1844
    have hm1846 := hm29.still hk1845.cum.none
    rw [c33] at hf1844
    refine gg 6 [] [(0, .slice A0 x0.length c0), (1, .slice A1 x1.length c1), (27, .bool true)] hf1844 ot fun a1847 hf1848 => ?_
    refine endL rfl ?_
    refine thenN ?_
    refine cT hf1848 ?_
    refine wp_seq ?_
    refine rg [] [(4, .bool true)] hf1848 ot fun a1849 hf1850 => ?_
    have hm1851 := hm1846.se [] _ rfl
    refine thenN ?_
    refine wp_ret ?_
    refine thenR ?_
    have hm1852 : Mem [] M w0 [] w1842 := hm1851.se [] _ rfl
    obtain rfl := Option.some.inj H0
    refine rt [] [.bool true] hf1850 ot ?_
    exact ⟨_, rfl, rfl, hm1852⟩
  obtain ⟨r34, hr34, H0⟩ := ob_split H0
  rcases ifb_split H0 with ⟨c35, H0⟩ | ⟨c35, H0⟩
  rotate_left
  · refine inReg ?_
    refine gg 1 [] [(0, .slice A0 x0.length c0), (1, .slice A1 x1.length c1), (20, .slice A0 x0.length c0)] hf31 ot fun a1819 hf1820 => ?_
    refine lo hf1820 rfl (cl 21 hf1820 callable15 (law12_Small.calls _ _ _ _ _ _ rfl (hm29.give [0] [.sl kTensor A0 c0 x0] rfl rfl) r32 hr32) ?_)
    rintro _ w1821 a1822 ⟨rfl, hk1824⟩ hf1823
    have hm1825 := hm29.still hk1824.cum.none
    rw [c33] at hf1823
    refine gg 3 [] [(0, .slice A0 x0.length c0), (1, .slice A1 x1.length c1), (23, .bool false), (24, .slice A1 x1.length c1)] hf1823 ot fun a1826 hf1827 => ?_
    refine lo hf1827 rfl (cl 25 hf1827 callable25 (law19_Small.calls _ _ _ _ _ _ rfl (hm1825.give [1] [.sl kDeed A1 c1 x1] rfl rfl) r34 hr34) ?_)
    rintro _ w1828 a1829 ⟨rfl, hk1831⟩ hf1830
    have hm1832 := hm1825.still hk1831.cum.none
    rw [c35] at hf1830
    refine gg 2 [] [(0, .slice A0 x0.length c0), (1, .slice A1 x1.length c1), (27, .bool true)] hf1830 ot fun a1833 hf1834 => ?_
    refine endL rfl ?_
    refine thenN ?_
    refine cT hf1834 ?_
    refine wp_seq ?_
    refine rg [] [(4, .bool true)] hf1834 ot fun a1835 hf1836 => ?_
    have hm1837 := hm1832.se [] _ rfl
    refine thenN ?_
    refine wp_ret ?_
    refine thenR ?_
    have hm1838 : Mem [] M w0 [] w1828 := hm1837.se [] _ rfl
    obtain rfl := Option.some.inj H0
    refine rt [] [.bool true] hf1836 ot ?_
    exact ⟨_, rfl, rfl, hm1838⟩
  refine inReg ?_
  refine gg 1 [] [(0, .slice A0 x0.length c0), (1, .slice A1 x1.length c1), (20, .slice A0 x0.length c0)] hf31 ot fun a36 hf37 => ?_
  refine lo hf37 rfl (cl 21 hf37 callable15 (law12_Small.calls _ _ _ _ _ _ rfl (hm29.give [0] [.sl kTensor A0 c0 x0] rfl rfl) r32 hr32) ?_)
  rintro _ w38 a39 ⟨rfl, hk41⟩ hf40
  have hm42 := hm29.still hk41.cum.none
  rw [c33] at hf40
  refine gg 3 [] [(0, .slice A0 x0.length c0), (1, .slice A1 x1.length c1), (23, .bool false), (24, .slice A1 x1.length c1)] hf40 ot fun a43 hf44 => ?_
  refine lo hf44 rfl (cl 25 hf44 callable25 (law19_Small.calls _ _ _ _ _ _ rfl (hm42.give [1] [.sl kDeed A1 c1 x1] rfl rfl) r34 hr34) ?_)
  rintro _ w45 a46 ⟨rfl, hk48⟩ hf47
  have hm49 := hm42.still hk48.cum.none
  rw [c35] at hf47
  refine gg 2 [] [(0, .slice A0 x0.length c0), (1, .slice A1 x1.length c1), (27, .bool false)] hf47 ot fun a50 hf51 => ?_
  refine endL rfl ?_
  refine thenN ?_
  refine cF hf51 ?_
  refine wp_skip ?_
  refine thenN ?_
  refine wp_seq ?_
  obtain ⟨r52, hr52, H0⟩ := ob_split H0
  rcases ptr_split H0 with ⟨c53, H0⟩ | ⟨y54, c53, H0⟩
  · refine inReg ?_
    refine gg 1 [] [(0, .slice A0 x0.length c0), (1, .slice A1 x1.length c1), (29, .slice A0 x0.length c0)] hf51 ot fun a55 hf56 => ?_
    refine lo hf56 rfl (cl 30 hf56 callable10 (shelf_New.calls_n _ _ _ _ _ _ rfl (hm49.give [0] [.sl kTensor A0 c0 x0] rfl rfl) r52 c53 hr52) ?_)
    rintro _ w57 a58 ⟨rfl, hk60⟩ hf59
    have hm61 := hm49.still hk60.cum.none
    refine gg 5 [] [(0, .slice A0 x0.length c0), (1, .slice A1 x1.length c1), (5, .pointer none), (6, vi r52.2)] hf59 ot fun a62 hf63 => ?_
    refine endL rfl ?_
    refine thenN ?_
    refine wp_seq ?_
    obtain ⟨r65, hr65, H0⟩ := ob_split H0
    rcases ptr_split H0 with ⟨c66, H0⟩ | ⟨y67, c66, H0⟩
    · refine inReg ?_
      refine gg 1 [] [(0, .slice A0 x0.length c0), (1, .slice A1 x1.length c1), (5, .pointer none), (6, vi r52.2), (34, .slice A0 x0.length c0)] hf63 ot fun a68 hf69 => ?_
      refine lo hf69 rfl (cl 35 hf69 callable16 (ref19_New.calls_n _ _ _ _ _ _ rfl (hm61.give [0] [.sl kTensor A0 c0 x0] rfl rfl) r65 c66 hr65) ?_)
      rintro _ w70 a71 ⟨rfl, hk73⟩ hf72
      have hm74 := hm61.still hk73.cum.none
      refine gg 5 [] [(0, .slice A0 x0.length c0), (1, .slice A1 x1.length c1), (5, .pointer none), (6, vi r52.2), (7, .pointer none), (8, vi r65.2)] hf72 ot fun a75 hf76 => ?_
      refine endL rfl ?_
      refine thenN ?_
      refine wp_seq ?_
      refine wp_seq ?_
      rcases if_split H0 with ⟨c77, H0⟩ | ⟨c77, H0⟩
      rotate_left
      · refine rg [.bool true] [(0, .slice A0 x0.length c0), (1, .slice A1 x1.length c1), (5, .pointer none), (6, vi r52.2), (7, .pointer none), (47, .bool true)] hf76 (oi (neT c77) ot) fun a108 hf109 => ?_
        refine thenN ?_
        refine cT hf109 ?_
        refine wp_seq ?_
        refine rg [] [(4, .bool false)] hf109 ot fun a110 hf111 => ?_
        have hm112 := hm74.se [] _ rfl
        refine thenN ?_
        refine wp_ret ?_
        refine thenR ?_
        have hm113 : Mem [] M w0 [] w70 := hm112.se [] _ rfl
        obtain rfl := Option.some.inj H0
        refine rt [] [.bool false] hf111 ot ?_
        exact ⟨_, rfl, rfl, hm113⟩
      rcases if_split H0 with ⟨c78, H0⟩ | ⟨c78, H0⟩
      · refine rg (ob := [.is (((r52.2 : Int) != r65.2) = false), .is (((r52.2 : Int) == 0) = true), .is ((true != false) = true)]) [.bool false, .bool true, .bool true] [(0, .slice A0 x0.length c0), (1, .slice A1 x1.length c1), (5, .pointer none), (6, vi r52.2), (7, .pointer none), (47, .bool true)] hf76 ⟨(neF c77), (eqT c78), (okIs (by decide)), trivial⟩ fun a79 hf80 => ?_
        refine thenN ?_
        refine cT hf80 ?_
        refine wp_seq ?_
        refine rg [] [(4, .bool false)] hf80 ot fun a81 hf82 => ?_
        have hm83 := hm74.se [] _ rfl
        refine thenN ?_
        refine wp_ret ?_
        refine thenR ?_
        have hm84 : Mem [] M w0 [] w70 := hm83.se [] _ rfl
        obtain rfl := Option.some.inj H0
        refine rt [] [.bool false] hf82 ot ?_
        exact ⟨_, rfl, rfl, hm84⟩
      refine rg (ob := [.is (((r52.2 : Int) != r65.2) = false), .is (((r52.2 : Int) == 0) = false), .is ((false != false) = false)]) [.bool false, .bool false, .bool false] [(0, .slice A0 x0.length c0), (1, .slice A1 x1.length c1), (5, .pointer none), (6, vi r52.2), (7, .pointer none), (47, .bool false)] hf76 ⟨(neF c77), (eqF c78), (okIs (by decide)), trivial⟩ fun a86 hf87 => ?_
      refine thenN ?_
      refine cF hf87 ?_
      refine wp_skip ?_
      refine thenN ?_
      refine wp_seq ?_
      refine wp_seq ?_
      refine rg [] [(0, .slice A0 x0.length c0), (1, .slice A1 x1.length c1), (5, .pointer none), (6, vi r52.2), (7, .pointer none), (9, vi 0)] hf87 ot fun a88 hf89 => ?_
      refine thenN ?_
      obtain ⟨r91, hr91, H0⟩ := ob_split H0
      refine wpBlock (Mid := fun (a : Act) (w : World) => Fr 218 a [(0, .slice A0 x0.length c0), (1, .slice A1 x1.length c1), (5, .pointer none), (6, .int .i64 r52.2), (7, .pointer none), (9, .int .i64 0)] ∧ Mem [] M w0 [.sl kTensor A0 c0 x0, .sl kDeed A1 c1 x1] w) ?_ ?_
      · refine wpLoop (law19_ShelfPlays.l0) r91 (fun (s90 : Unit) (a : Act) (w : World) => Fr 218 a [(0, .slice A0 x0.length c0), (1, .slice A1 x1.length c1), (5, .pointer none), (6, .int .i64 r52.2), (7, .pointer none), (9, .int .i64 0)] ∧ Mem [] M w0 [.sl kTensor A0 c0 x0, .sl kDeed A1 c1 x1] w) () hr91 ⟨hf89.se [0, 1, 5, 6, 7, 9], hm74.se [0, 1] _ rfl⟩ ?_
        rintro g92 s90 a93 w94 H1 ⟨hf95, hm96⟩
        unfold law19_ShelfPlays.l0 at H1
        refine wp_seq ?_
        refine wp_seq ?_
        refine rg [.bool false] [(0, .slice A0 x0.length c0), (1, .slice A1 x1.length c1), (5, .pointer none), (6, vi r52.2), (7, .pointer none), (9, vi 0), (55, .bool false)] hf95 (oi (eqF c78) ot) fun a97 hf98 => ?_
        refine thenN ?_
        refine cF hf98 ?_
        refine wp_exit ?_
        refine thenE ?_
        refine thenE ?_
        obtain rfl := Option.some.inj H1
        exact .inl ⟨rfl, hf98.se [0, 1, 5, 6, 7, 9], hm96.se [0, 1] _ rfl⟩
      rintro a99 w100 ⟨hf101, hm102⟩
      refine thenN ?_
      refine wp_seq ?_
      refine rg [] [(4, .bool true)] hf101 ot fun a103 hf104 => ?_
      have hm105 := hm102.se [] _ rfl
      refine thenN ?_
      refine wp_ret ?_
      have hm106 : Mem [] M w0 [] w100 := hm105.se [] _ rfl
      obtain rfl := Option.some.inj H0
      refine rt [] [.bool true] hf104 ot ?_
      exact ⟨_, rfl, rfl, hm106⟩
    · refine inReg ?_
      refine gg 1 [] [(0, .slice A0 x0.length c0), (1, .slice A1 x1.length c1), (5, .pointer none), (6, vi r52.2), (34, .slice A0 x0.length c0)] hf63 ot fun a115 hf116 => ?_
      refine lo hf116 rfl (cl 35 hf116 callable16 (ref19_New.calls_s _ _ _ _ _ _ rfl (hm61.give [0] [.sl kTensor A0 c0 x0] rfl rfl) r65 y67 c66 hr65) ?_)
      rintro _ w124 a125 ⟨b117, A118, c119, A120, c121, A122, c123, rfl, hk127⟩ hf126
      have hm128 := hm61.back hk127
      refine gg 5 [] [(0, .slice A0 x0.length c0), (1, .slice A1 x1.length c1), (5, .pointer none), (6, vi r52.2), (7, vp b117), (8, vi r65.2)] hf126 ot fun a129 hf130 => ?_
      refine endL rfl ?_
      refine thenN ?_
      refine wp_seq ?_
      refine wp_seq ?_
      rcases if_split H0 with ⟨c131, H0⟩ | ⟨c131, H0⟩
      rotate_left
      · refine rg [.bool true] [(0, .slice A0 x0.length c0), (1, .slice A1 x1.length c1), (5, .pointer none), (6, vi r52.2), (7, vp b117), (47, .bool true)] hf130 (oi (neT c131) ot) fun a162 hf163 => ?_
        refine thenN ?_
        refine cT hf163 ?_
        refine wp_seq ?_
        refine rg [] [(4, .bool false)] hf163 ot fun a164 hf165 => ?_
        have hm166 := hm128.se [] _ rfl
        refine thenN ?_
        refine wp_ret ?_
        refine thenR ?_
        have hm167 : Mem [] M w0 [] w124 := hm166.se [] _ rfl
        obtain rfl := Option.some.inj H0
        refine rt [] [.bool false] hf165 ot ?_
        exact ⟨_, rfl, rfl, hm167⟩
      rcases if_split H0 with ⟨c132, H0⟩ | ⟨c132, H0⟩
      · refine rg (ob := [.is (((r52.2 : Int) != r65.2) = false), .is (((r52.2 : Int) == 0) = true), .is ((true != false) = true)]) [.bool false, .bool true, .bool true] [(0, .slice A0 x0.length c0), (1, .slice A1 x1.length c1), (5, .pointer none), (6, vi r52.2), (7, vp b117), (47, .bool true)] hf130 ⟨(neF c131), (eqT c132), (okIs (by decide)), trivial⟩ fun a133 hf134 => ?_
        refine thenN ?_
        refine cT hf134 ?_
        refine wp_seq ?_
        refine rg [] [(4, .bool false)] hf134 ot fun a135 hf136 => ?_
        have hm137 := hm128.se [] _ rfl
        refine thenN ?_
        refine wp_ret ?_
        refine thenR ?_
        have hm138 : Mem [] M w0 [] w124 := hm137.se [] _ rfl
        obtain rfl := Option.some.inj H0
        refine rt [] [.bool false] hf136 ot ?_
        exact ⟨_, rfl, rfl, hm138⟩
      refine rg (ob := [.is (((r52.2 : Int) != r65.2) = false), .is (((r52.2 : Int) == 0) = false), .is ((false != false) = false)]) [.bool false, .bool false, .bool false] [(0, .slice A0 x0.length c0), (1, .slice A1 x1.length c1), (5, .pointer none), (6, vi r52.2), (7, vp b117), (47, .bool false)] hf130 ⟨(neF c131), (eqF c132), (okIs (by decide)), trivial⟩ fun a140 hf141 => ?_
      refine thenN ?_
      refine cF hf141 ?_
      refine wp_skip ?_
      refine thenN ?_
      refine wp_seq ?_
      refine wp_seq ?_
      refine rg [] [(0, .slice A0 x0.length c0), (1, .slice A1 x1.length c1), (5, .pointer none), (6, vi r52.2), (7, vp b117), (9, vi 0)] hf141 ot fun a142 hf143 => ?_
      refine thenN ?_
      obtain ⟨r145, hr145, H0⟩ := ob_split H0
      refine wpBlock (Mid := fun (a : Act) (w : World) => Fr 218 a [(0, .slice A0 x0.length c0), (1, .slice A1 x1.length c1), (5, .pointer none), (6, .int .i64 r52.2), (7, .pointer (some ⟨b117, 0, none⟩)), (9, .int .i64 0)] ∧ Mem [] M w0 [.bx b117 [.slice A118 y67.T.length c119, .slice A120 y67.G.length c121, .slice A122 y67.V.length c123] 65, .ow kTensor 29 A118 c119 y67.T, .ow kTensor 29 A120 c121 y67.G, .ow (Kd.int .i64) 3 A122 c123 y67.V, .sl kTensor A0 c0 x0, .sl kDeed A1 c1 x1] w) ?_ ?_
      · refine wpLoop (law19_ShelfPlays.l0) r145 (fun (s144 : Unit) (a : Act) (w : World) => Fr 218 a [(0, .slice A0 x0.length c0), (1, .slice A1 x1.length c1), (5, .pointer none), (6, .int .i64 r52.2), (7, .pointer (some ⟨b117, 0, none⟩)), (9, .int .i64 0)] ∧ Mem [] M w0 [.bx b117 [.slice A118 y67.T.length c119, .slice A120 y67.G.length c121, .slice A122 y67.V.length c123] 65, .ow kTensor 29 A118 c119 y67.T, .ow kTensor 29 A120 c121 y67.G, .ow (Kd.int .i64) 3 A122 c123 y67.V, .sl kTensor A0 c0 x0, .sl kDeed A1 c1 x1] w) () hr145 ⟨hf143.se [0, 1, 5, 6, 7, 9], hm128.se [0, 1, 2, 3, 4, 5] _ rfl⟩ ?_
        rintro g146 s144 a147 w148 H1 ⟨hf149, hm150⟩
        unfold law19_ShelfPlays.l0 at H1
        refine wp_seq ?_
        refine wp_seq ?_
        refine rg [.bool false] [(0, .slice A0 x0.length c0), (1, .slice A1 x1.length c1), (5, .pointer none), (6, vi r52.2), (7, vp b117), (9, vi 0), (55, .bool false)] hf149 (oi (eqF c132) ot) fun a151 hf152 => ?_
        refine thenN ?_
        refine cF hf152 ?_
        refine wp_exit ?_
        refine thenE ?_
        refine thenE ?_
        obtain rfl := Option.some.inj H1
        exact .inl ⟨rfl, hf152.se [0, 1, 5, 6, 7, 9], hm150.se [0, 1, 2, 3, 4, 5] _ rfl⟩
      rintro a153 w154 ⟨hf155, hm156⟩
      refine thenN ?_
      refine wp_seq ?_
      refine rg [] [(4, .bool true)] hf155 ot fun a157 hf158 => ?_
      have hm159 := hm156.se [] _ rfl
      refine thenN ?_
      refine wp_ret ?_
      have hm160 : Mem [] M w0 [] w154 := hm159.se [] _ rfl
      obtain rfl := Option.some.inj H0
      refine rt [] [.bool true] hf158 ot ?_
      exact ⟨_, rfl, rfl, hm160⟩
  · refine inReg ?_
    refine gg 1 [] [(0, .slice A0 x0.length c0), (1, .slice A1 x1.length c1), (29, .slice A0 x0.length c0)] hf51 ot fun a169 hf170 => ?_
    refine lo hf170 rfl (cl 30 hf170 callable10 (shelf_New.calls_s _ _ _ _ _ _ rfl (hm49.give [0] [.sl kTensor A0 c0 x0] rfl rfl) r52 y54 c53 hr52) ?_)
    rintro _ w178 a179 ⟨b171, A172, c173, A174, c175, A176, c177, rfl, hk181⟩ hf180
    have hm182 := hm49.back hk181
    refine gg 5 [] [(0, .slice A0 x0.length c0), (1, .slice A1 x1.length c1), (5, vp b171), (6, vi r52.2)] hf180 ot fun a183 hf184 => ?_
    refine endL rfl ?_
    refine thenN ?_
    refine wp_seq ?_
    obtain ⟨r185, hr185, H0⟩ := ob_split H0
    rcases ptr_split H0 with ⟨c186, H0⟩ | ⟨y187, c186, H0⟩
    · exact absurd H0 (by simp [Step.go])
    · refine inReg ?_
      refine gg 1 [] [(0, .slice A0 x0.length c0), (1, .slice A1 x1.length c1), (5, vp b171), (6, vi r52.2), (34, .slice A0 x0.length c0)] hf184 ot fun a188 hf189 => ?_
      refine lo hf189 rfl (cl 35 hf189 callable16 (ref19_New.calls_s _ _ _ _ _ _ rfl (hm182.give [4] [.sl kTensor A0 c0 x0] rfl rfl) r185 y187 c186 hr185) ?_)
      rintro _ w197 a198 ⟨b190, A191, c192, A193, c194, A195, c196, rfl, hk200⟩ hf199
      have hm201 := hm182.back hk200
      refine gg 5 [] [(0, .slice A0 x0.length c0), (1, .slice A1 x1.length c1), (5, vp b171), (6, vi r52.2), (7, vp b190), (8, vi r185.2)] hf199 ot fun a202 hf203 => ?_
      refine endL rfl ?_
      refine thenN ?_
      refine wp_seq ?_
      refine wp_seq ?_
      rcases if_split H0 with ⟨c204, H0⟩ | ⟨c204, H0⟩
      rotate_left
      · refine rg [.bool true] [(0, .slice A0 x0.length c0), (1, .slice A1 x1.length c1), (5, vp b171), (6, vi r52.2), (7, vp b190), (47, .bool true)] hf203 (oi (neT c204) ot) fun a1812 hf1813 => ?_
        refine thenN ?_
        refine cT hf1813 ?_
        refine wp_seq ?_
        refine rg [] [(4, .bool false)] hf1813 ot fun a1814 hf1815 => ?_
        have hm1816 := hm201.se [] _ rfl
        refine thenN ?_
        refine wp_ret ?_
        refine thenR ?_
        have hm1817 : Mem [] M w0 [] w197 := hm1816.se [] _ rfl
        obtain rfl := Option.some.inj H0
        refine rt [] [.bool false] hf1815 ot ?_
        exact ⟨_, rfl, rfl, hm1817⟩
      rcases if_split H0 with ⟨c205, H0⟩ | ⟨c205, H0⟩
      rotate_left
      · refine rg (ob := [.is (((r52.2 : Int) != r185.2) = false), .is (((r52.2 : Int) == 0) = false), .is ((false != true) = true)]) [.bool false, .bool false, .bool true] [(0, .slice A0 x0.length c0), (1, .slice A1 x1.length c1), (5, vp b171), (6, vi r52.2), (7, vp b190), (47, .bool true)] hf203 ⟨(neF c204), (eqF c205), (okIs (by decide)), trivial⟩ fun a1805 hf1806 => ?_
        refine thenN ?_
        refine cT hf1806 ?_
        refine wp_seq ?_
        refine rg [] [(4, .bool false)] hf1806 ot fun a1807 hf1808 => ?_
        have hm1809 := hm201.se [] _ rfl
        refine thenN ?_
        refine wp_ret ?_
        refine thenR ?_
        have hm1810 : Mem [] M w0 [] w197 := hm1809.se [] _ rfl
        obtain rfl := Option.some.inj H0
        refine rt [] [.bool false] hf1808 ot ?_
        exact ⟨_, rfl, rfl, hm1810⟩
      refine rg (ob := [.is (((r52.2 : Int) != r185.2) = false), .is (((r52.2 : Int) == 0) = true), .is ((true != true) = false)]) [.bool false, .bool true, .bool false] [(0, .slice A0 x0.length c0), (1, .slice A1 x1.length c1), (5, vp b171), (6, vi r52.2), (7, vp b190), (47, .bool false)] hf203 ⟨(neF c204), (eqT c205), (okIs (by decide)), trivial⟩ fun a206 hf207 => ?_
      refine thenN ?_
      refine cF hf207 ?_
      refine wp_skip ?_
      refine thenN ?_
      refine wp_seq ?_
      refine wp_seq ?_
      refine rg [] [(0, .slice A0 x0.length c0), (1, .slice A1 x1.length c1), (5, vp b171), (6, vi r52.2), (7, vp b190), (9, vi 0)] hf207 ot fun a208 hf209 => ?_
      refine thenN ?_
      obtain ⟨r235, hr235, H0⟩ := ob_split H0
      refine wpBlock (Mid := fun (a : Act) (w : World) => ∃ yr235 : (Int × (List Tensor) × (List Tensor) × (List Int) × (List Tensor) × (List Int) × (List Tensor)), r235 = .go yr235 ∧ ∃ (A223 : Option Addr) (c224 : Nat) (A225 : Option Addr) (c226 : Nat) (A227 : Option Addr) (c228 : Nat) (A229 : Option Addr) (c230 : Nat) (A231 : Option Addr) (c232 : Nat) (A233 : Option Addr) (c234 : Nat), Fr 218 a [(0, .slice A0 x0.length c0), (1, .slice A1 x1.length c1), (5, .pointer (some ⟨b171, 0, none⟩)), (6, .int .i64 r52.2), (7, .pointer (some ⟨b190, 0, none⟩)), (9, .int .i64 yr235.1)] ∧ Mem [] M w0 [.bx b190 [.slice A223 yr235.2.1.length c224, .slice A225 yr235.2.2.1.length c226, .slice A227 yr235.2.2.2.1.length c228] 65, .ow kTensor 29 A223 c224 yr235.2.1, .ow kTensor 29 A225 c226 yr235.2.2.1, .ow (Kd.int .i64) 3 A227 c228 yr235.2.2.2.1, .bx b171 [.slice A229 yr235.2.2.2.2.1.length c230, .slice A231 yr235.2.2.2.2.2.1.length c232, .slice A233 yr235.2.2.2.2.2.2.length c234] 72, .ow kTensor 29 A229 c230 yr235.2.2.2.2.1, .ow (Kd.int .i64) 3 A231 c232 yr235.2.2.2.2.2.1, .ow kTensor 29 A233 c234 yr235.2.2.2.2.2.2, .sl kTensor A0 c0 x0, .sl kDeed A1 c1 x1] w) ?_ ?_
      · refine wpLoop (law19_ShelfPlays.l2 x1 x0) r235 (fun (s222 : (Int × (List Tensor) × (List Tensor) × (List Int) × (List Tensor) × (List Int) × (List Tensor))) (a : Act) (w : World) => ∃ (A223 : Option Addr) (c224 : Nat) (A225 : Option Addr) (c226 : Nat) (A227 : Option Addr) (c228 : Nat) (A229 : Option Addr) (c230 : Nat) (A231 : Option Addr) (c232 : Nat) (A233 : Option Addr) (c234 : Nat), Fr 218 a [(0, .slice A0 x0.length c0), (1, .slice A1 x1.length c1), (5, .pointer (some ⟨b171, 0, none⟩)), (6, .int .i64 r52.2), (7, .pointer (some ⟨b190, 0, none⟩)), (9, .int .i64 s222.1)] ∧ Mem [] M w0 [.bx b190 [.slice A223 s222.2.1.length c224, .slice A225 s222.2.2.1.length c226, .slice A227 s222.2.2.2.1.length c228] 65, .ow kTensor 29 A223 c224 s222.2.1, .ow kTensor 29 A225 c226 s222.2.2.1, .ow (Kd.int .i64) 3 A227 c228 s222.2.2.2.1, .bx b171 [.slice A229 s222.2.2.2.2.1.length c230, .slice A231 s222.2.2.2.2.2.1.length c232, .slice A233 s222.2.2.2.2.2.2.length c234] 72, .ow kTensor 29 A229 c230 s222.2.2.2.2.1, .ow (Kd.int .i64) 3 A231 c232 s222.2.2.2.2.2.1, .ow kTensor 29 A233 c234 s222.2.2.2.2.2.2, .sl kTensor A0 c0 x0, .sl kDeed A1 c1 x1] w) (0, y187.T, y187.G, y187.V, y54.l, y54.vers, y54.grads) hr235 ⟨A191, c192, A193, c194, A195, c196, A172, c173, A174, c175, A176, c177, hf209.se [0, 1, 5, 6, 7, 9], hm201.se [0, 1, 2, 3, 4, 5, 6, 7, 8, 9] _ rfl⟩ ?_
        rintro g236 s222 a237 w238 H1 ⟨A223, c224, A225, c226, A227, c228, A229, c230, A231, c232, A233, c234, hf239, hm240⟩
        unfold law19_ShelfPlays.l2 at H1
        refine wp_seq ?_
        refine wp_seq ?_
        obtain ⟨r241, H2, H1⟩ := obS_split H1
        refine wpJoin (Mid := fun (a : Act) (w : World) => Fr 218 a [(0, .slice A0 x0.length c0), (1, .slice A1 x1.length c1), (5, .pointer (some ⟨b171, 0, none⟩)), (6, .int .i64 r52.2), (7, .pointer (some ⟨b190, 0, none⟩)), (9, .int .i64 s222.1), (55, .bool r241)] ∧ Mem [] M w0 [.bx b190 [.slice A223 s222.2.1.length c224, .slice A225 s222.2.2.1.length c226, .slice A227 s222.2.2.2.1.length c228] 65, .ow kTensor 29 A223 c224 s222.2.1, .ow kTensor 29 A225 c226 s222.2.2.1, .ow (Kd.int .i64) 3 A227 c228 s222.2.2.2.1, .bx b171 [.slice A229 s222.2.2.2.2.1.length c230, .slice A231 s222.2.2.2.2.2.1.length c232, .slice A233 s222.2.2.2.2.2.2.length c234] 72, .ow kTensor 29 A229 c230 s222.2.2.2.2.1, .ow (Kd.int .i64) 3 A231 c232 s222.2.2.2.2.2.1, .ow kTensor 29 A233 c234 s222.2.2.2.2.2.2, .sl kTensor A0 c0 x0, .sl kDeed A1 c1 x1] w) ?_ ?_
        · intro J1790
          rcases if_split H2 with ⟨c1791, H2⟩ | ⟨c1791, H2⟩
          · refine rg (ob := [.is (((r52.2 : Int) == 0) = true), .is (decide (s222.1 < (x1.length : Int)) = true)]) [.bool true, .bool true] [(0, .slice A0 x0.length c0), (1, .slice A1 x1.length c1), (5, vp b171), (6, vi r52.2), (7, vp b190), (9, vi s222.1), (55, .bool true)] hf239 ⟨(eqT c205), (decide_eq_true c1791), trivial⟩ fun a1792 hf1793 => ?_
            obtain rfl := Option.some.inj H2
            exact J1790 _ _ ⟨hf1793.se [0, 1, 5, 6, 7, 9, 55], hm240.se [0, 1, 2, 3, 4, 5, 6, 7, 8, 9] _ rfl⟩
          refine rg (ob := [.is (((r52.2 : Int) == 0) = true), .is (decide (s222.1 < (x1.length : Int)) = false)]) [.bool true, .bool false] [(0, .slice A0 x0.length c0), (1, .slice A1 x1.length c1), (5, vp b171), (6, vi r52.2), (7, vp b190), (9, vi s222.1), (55, .bool false)] hf239 ⟨(eqT c205), (decide_eq_false c1791), trivial⟩ fun a1794 hf1795 => ?_
          obtain rfl := Option.some.inj H2
          exact J1790 _ _ ⟨hf1795.se [0, 1, 5, 6, 7, 9, 55], hm240.se [0, 1, 2, 3, 4, 5, 6, 7, 8, 9] _ rfl⟩
        rintro a242 w243 ⟨hf244, hm245⟩
        refine thenN ?_
        rcases ifbS_split H1 with ⟨c246, H1⟩ | ⟨c246, H1⟩
        rotate_left
        · rw [c246] at hf244
          refine cF hf244 ?_
          refine wp_exit ?_
          refine thenE ?_
          refine thenE ?_
          obtain rfl := Option.some.inj H1
          exact .inl ⟨rfl, (s222.1, s222.2.1, s222.2.2.1, s222.2.2.2.1, s222.2.2.2.2.1, s222.2.2.2.2.2.1, s222.2.2.2.2.2.2), rfl, A223, c224, A225, c226, A227, c228, A229, c230, A231, c232, A233, c234, hf244.se [0, 1, 5, 6, 7, 9], hm245.se [0, 1, 2, 3, 4, 5, 6, 7, 8, 9] _ rfl⟩
        rw [c246] at hf244
        refine cT hf244 ?_
        refine wp_skip ?_
        refine thenN ?_
        refine wp_seq ?_
        refine wp_block ?_
        refine wp_seq ?_
        obtain ⟨g247, H1⟩ := ifS_guard H1
        have q248 := (hm245.slAt 9 rfl).get s222.1 g247.1 g247.2
        obtain ⟨us249, hr250, hc251⟩ := q248.2
        obtain ⟨A252, c253, A254, c255, A256, c257, rfl, ⟨pA252, sA252⟩, ⟨pA254, sA254⟩, ⟨pA256, sA256⟩⟩ := kDeed.open hr250
        have hm258 := hm245.elem pA252 sA252
        have hm259 := hm258.elem pA254 sA254
        have hm260 := hm259.elem pA256 sA256
        refine inReg ?_
        refine gg 4 [.agg #[.int .i64 (rd x1 s222.1).Do, .int .i64 (rd x1 s222.1).I, .slice A252 (rd x1 s222.1).T.Shape.length c253, .slice A254 (rd x1 s222.1).T.Data.length c255, .slice A256 (rd x1 s222.1).L.length c257]] [(0, .slice A0 x0.length c0), (1, .slice A1 x1.length c1), (5, vp b171), (6, vi r52.2), (7, vp b190), (9, vi s222.1), (61, .agg #[.int .i64 (rd x1 s222.1).Do, .int .i64 (rd x1 s222.1).I, .slice A252 (rd x1 s222.1).T.Shape.length c253, .slice A254 (rd x1 s222.1).T.Data.length c255, .slice A256 (rd x1 s222.1).L.length c257])] hf244 (oi q248.1 (oi g247 (oc (hc251 0 _ rfl) (oc (hc251 1 _ rfl) (oc (hc251 2 _ rfl) (oc (hc251 3 _ rfl) (oc (hc251 4 _ rfl) ot))))))) fun a261 hf262 => ?_
        refine lo hf262 rfl (nw (cs := [.int .i64 0, .int .i64 0, .slice none 0 0, .slice none 0 0, .slice none 0 0]) (T := 62) (d := 10) hf262 ?_)
        intro b263 w264 a265 hbb263 hx267 hg268 hf266
        have hm269 := hm260.box hbb263 hx267 hg268
        refine lo hf266 rfl (sb (j := 0) (us := [.int .i64 (rd x1 s222.1).Do, .int .i64 (rd x1 s222.1).I, .slice A252 (rd x1 s222.1).T.Shape.length c253, .slice A254 (rd x1 s222.1).T.Data.length c255, .slice A256 (rd x1 s222.1).L.length c257]) (cs' := [.int .i64 (rd x1 s222.1).Do, .int .i64 (rd x1 s222.1).I, .slice A252 (rd x1 s222.1).T.Shape.length c253, .slice A254 (rd x1 s222.1).T.Data.length c255, .slice A256 (rd x1 s222.1).L.length c257]) hf266 (hm269.bxAt 0 rfl) ?_)
        intro w270 hx271 hg272
        have hm273 := hm269.setBox 0 _ rfl rfl hx271 hg272
        refine endL rfl ?_
        refine thenN ?_
        refine wp_seq ?_
        obtain ⟨r274, H2, H1⟩ := obS_split H1
        refine wpJoin (Mid := fun (a : Act) (w : World) => Fr 218 a [(0, .slice A0 x0.length c0), (1, .slice A1 x1.length c1), (5, .pointer (some ⟨b171, 0, none⟩)), (6, .int .i64 r52.2), (7, .pointer (some ⟨b190, 0, none⟩)), (9, .int .i64 s222.1), (10, .pointer (some ⟨b263, 0, none⟩)), (11, .bool r274)] ∧ Mem [] M w0 [.bx b263 [.int .i64 (rd x1 s222.1).Do, .int .i64 (rd x1 s222.1).I, .slice A252 (rd x1 s222.1).T.Shape.length c253, .slice A254 (rd x1 s222.1).T.Data.length c255, .slice A256 (rd x1 s222.1).L.length c257] 62, .sl kTensor A256 c257 (rd x1 s222.1).L, .sl Kd.float A254 c255 (rd x1 s222.1).T.Data, .sl (Kd.int .i64) A252 c253 (rd x1 s222.1).T.Shape, .bx b190 [.slice A223 s222.2.1.length c224, .slice A225 s222.2.2.1.length c226, .slice A227 s222.2.2.2.1.length c228] 65, .ow kTensor 29 A223 c224 s222.2.1, .ow kTensor 29 A225 c226 s222.2.2.1, .ow (Kd.int .i64) 3 A227 c228 s222.2.2.2.1, .bx b171 [.slice A229 s222.2.2.2.2.1.length c230, .slice A231 s222.2.2.2.2.2.1.length c232, .slice A233 s222.2.2.2.2.2.2.length c234] 72, .ow kTensor 29 A229 c230 s222.2.2.2.2.1, .ow (Kd.int .i64) 3 A231 c232 s222.2.2.2.2.2.1, .ow kTensor 29 A233 c234 s222.2.2.2.2.2.2, .sl kTensor A0 c0 x0, .sl kDeed A1 c1 x1] w) ?_ ?_
        · intro J1781
          rcases if_split H2 with ⟨c1782, H2⟩ | ⟨c1782, H2⟩
          rotate_left
          · refine rg (ob := [.cell ⟨b263, 1, none⟩ (.int .i64 (rd x1 s222.1).I), .is (decide (0 ≤ (rd x1 s222.1).I) = false)]) [.int .i64 (rd x1 s222.1).I, .bool false] [(0, .slice A0 x0.length c0), (1, .slice A1 x1.length c1), (5, vp b171), (6, vi r52.2), (7, vp b190), (9, vi s222.1), (10, vp b263), (11, .bool false)] hf266 ⟨(hm273.cell 0 rfl rfl), (decide_eq_false c1782), trivial⟩ fun a1788 hf1789 => ?_
            obtain rfl := Option.some.inj H2
            exact J1781 _ _ ⟨hf1789.se [0, 1, 5, 6, 7, 9, 10, 11], hm273.se [0, 1, 2, 3, 4, 5, 6, 7, 8, 9, 10, 11, 12, 13] _ rfl⟩
          rcases if_split H2 with ⟨c1783, H2⟩ | ⟨c1783, H2⟩
          · refine rg (ob := [.cell ⟨b263, 1, none⟩ (.int .i64 (rd x1 s222.1).I), .is (decide (0 ≤ (rd x1 s222.1).I) = true), .cell ⟨b263, 1, none⟩ (.int .i64 (rd x1 s222.1).I), .is (decide ((rd x1 s222.1).I < (x0.length : Int)) = true)]) [.int .i64 (rd x1 s222.1).I, .bool true, .int .i64 (rd x1 s222.1).I, .bool true] [(0, .slice A0 x0.length c0), (1, .slice A1 x1.length c1), (5, vp b171), (6, vi r52.2), (7, vp b190), (9, vi s222.1), (10, vp b263), (11, .bool true)] hf266 ⟨(hm273.cell 0 rfl rfl), (decide_eq_true c1782), (hm273.cell 0 rfl rfl), (decide_eq_true c1783), trivial⟩ fun a1784 hf1785 => ?_
            obtain rfl := Option.some.inj H2
            exact J1781 _ _ ⟨hf1785.se [0, 1, 5, 6, 7, 9, 10, 11], hm273.se [0, 1, 2, 3, 4, 5, 6, 7, 8, 9, 10, 11, 12, 13] _ rfl⟩
          refine rg (ob := [.cell ⟨b263, 1, none⟩ (.int .i64 (rd x1 s222.1).I), .is (decide (0 ≤ (rd x1 s222.1).I) = true), .cell ⟨b263, 1, none⟩ (.int .i64 (rd x1 s222.1).I), .is (decide ((rd x1 s222.1).I < (x0.length : Int)) = false)]) [.int .i64 (rd x1 s222.1).I, .bool true, .int .i64 (rd x1 s222.1).I, .bool false] [(0, .slice A0 x0.length c0), (1, .slice A1 x1.length c1), (5, vp b171), (6, vi r52.2), (7, vp b190), (9, vi s222.1), (10, vp b263), (11, .bool false)] hf266 ⟨(hm273.cell 0 rfl rfl), (decide_eq_true c1782), (hm273.cell 0 rfl rfl), (decide_eq_false c1783), trivial⟩ fun a1786 hf1787 => ?_
          obtain rfl := Option.some.inj H2
          exact J1781 _ _ ⟨hf1787.se [0, 1, 5, 6, 7, 9, 10, 11], hm273.se [0, 1, 2, 3, 4, 5, 6, 7, 8, 9, 10, 11, 12, 13] _ rfl⟩
        rintro a275 w276 ⟨hf277, hm278⟩
        refine thenN ?_
        refine wp_seq ?_
        refine rg [] [(0, .slice A0 x0.length c0), (1, .slice A1 x1.length c1), (5, vp b171), (6, vi r52.2), (7, vp b190), (9, vi s222.1), (10, vp b263), (11, .bool r274), (12, .bool true)] hf277 ot fun a279 hf280 => ?_
        refine thenN ?_
        refine wp_seq ?_
        refine wp_seq ?_
        refine rg [.int .i64 (rd x1 s222.1).Do] [(0, .slice A0 x0.length c0), (1, .slice A1 x1.length c1), (5, vp b171), (6, vi r52.2), (7, vp b190), (9, vi s222.1), (10, vp b263), (11, .bool r274), (12, .bool true), (73, vi (rd x1 s222.1).Do)] hf280 (oc (hm278.cell (j := 0) 0 rfl rfl) ot) fun a281 hf282 => ?_
        refine thenN ?_
        obtain ⟨r283, H2, H1⟩ := obS_split H1
        refine wpJoin (Mid := fun (a : Act) (w : World) => ∃ (A284 : Option Addr) (c285 : Nat) (A286 : Option Addr) (c287 : Nat) (A288 : Option Addr) (c289 : Nat) (A290 : Option Addr) (c291 : Nat) (A292 : Option Addr) (c293 : Nat) (A294 : Option Addr) (c295 : Nat), Fr 218 a [(0, .slice A0 x0.length c0), (1, .slice A1 x1.length c1), (5, .pointer (some ⟨b171, 0, none⟩)), (6, .int .i64 r52.2), (7, .pointer (some ⟨b190, 0, none⟩)), (9, .int .i64 s222.1), (12, .bool r283.1)] ∧ Mem [] M w0 [.bx b190 [.slice A284 r283.2.1.length c285, .slice A286 r283.2.2.1.length c287, .slice A288 r283.2.2.2.1.length c289] 65, .ow kTensor 29 A284 c285 r283.2.1, .ow kTensor 29 A286 c287 r283.2.2.1, .ow (Kd.int .i64) 3 A288 c289 r283.2.2.2.1, .bx b171 [.slice A290 r283.2.2.2.2.1.length c291, .slice A292 r283.2.2.2.2.2.1.length c293, .slice A294 r283.2.2.2.2.2.2.length c295] 72, .ow kTensor 29 A290 c291 r283.2.2.2.2.1, .ow (Kd.int .i64) 3 A292 c293 r283.2.2.2.2.2.1, .ow kTensor 29 A294 c295 r283.2.2.2.2.2.2, .sl kTensor A0 c0 x0, .sl kDeed A1 c1 x1] w) ?_ ?_
        · intro J335
          refine wp_block ?_
          refine wp_seq ?_
          refine wp_seq ?_
          obtain ⟨r336, H3, H2⟩ := ob_split H2
          refine wpJoin (Mid := fun (a : Act) (w : World) => Fr 218 a [(0, .slice A0 x0.length c0), (1, .slice A1 x1.length c1), (5, .pointer (some ⟨b171, 0, none⟩)), (6, .int .i64 r52.2), (7, .pointer (some ⟨b190, 0, none⟩)), (9, .int .i64 s222.1), (10, .pointer (some ⟨b263, 0, none⟩)), (11, .bool r274), (12, .bool true), (73, .int .i64 (rd x1 s222.1).Do), (74, .bool r336)] ∧ Mem [] M w0 [.bx b263 [.int .i64 (rd x1 s222.1).Do, .int .i64 (rd x1 s222.1).I, .slice A252 (rd x1 s222.1).T.Shape.length c253, .slice A254 (rd x1 s222.1).T.Data.length c255, .slice A256 (rd x1 s222.1).L.length c257] 62, .sl kTensor A256 c257 (rd x1 s222.1).L, .sl Kd.float A254 c255 (rd x1 s222.1).T.Data, .sl (Kd.int .i64) A252 c253 (rd x1 s222.1).T.Shape, .bx b190 [.slice A223 s222.2.1.length c224, .slice A225 s222.2.2.1.length c226, .slice A227 s222.2.2.2.1.length c228] 65, .ow kTensor 29 A223 c224 s222.2.1, .ow kTensor 29 A225 c226 s222.2.2.1, .ow (Kd.int .i64) 3 A227 c228 s222.2.2.2.1, .bx b171 [.slice A229 s222.2.2.2.2.1.length c230, .slice A231 s222.2.2.2.2.2.1.length c232, .slice A233 s222.2.2.2.2.2.2.length c234] 72, .ow kTensor 29 A229 c230 s222.2.2.2.2.1, .ow (Kd.int .i64) 3 A231 c232 s222.2.2.2.2.2.1, .ow kTensor 29 A233 c234 s222.2.2.2.2.2.2, .sl kTensor A0 c0 x0, .sl kDeed A1 c1 x1] w) ?_ ?_
          · intro J1775
            rcases if_split H3 with ⟨c1776, H3⟩ | ⟨c1776, H3⟩
            · refine rg [.bool true] [(0, .slice A0 x0.length c0), (1, .slice A1 x1.length c1), (5, vp b171), (6, vi r52.2), (7, vp b190), (9, vi s222.1), (10, vp b263), (11, .bool r274), (12, .bool true), (73, vi (rd x1 s222.1).Do), (74, .bool true)] hf282 (oi (eqT c1776) ot) fun a1777 hf1778 => ?_
              obtain rfl := Option.some.inj H3
              exact J1775 _ _ ⟨hf1778.se [0, 1, 5, 6, 7, 9, 10, 11, 12, 73, 74], hm278.se [0, 1, 2, 3, 4, 5, 6, 7, 8, 9, 10, 11, 12, 13] _ rfl⟩
            refine rg [.bool false] [(0, .slice A0 x0.length c0), (1, .slice A1 x1.length c1), (5, vp b171), (6, vi r52.2), (7, vp b190), (9, vi s222.1), (10, vp b263), (11, .bool r274), (12, .bool true), (73, vi (rd x1 s222.1).Do), (74, .bool false)] hf282 (oi (eqF c1776) ot) fun a1779 hf1780 => ?_
            obtain rfl := Option.some.inj H3
            exact J1775 _ _ ⟨hf1780.se [0, 1, 5, 6, 7, 9, 10, 11, 12, 73, 74], hm278.se [0, 1, 2, 3, 4, 5, 6, 7, 8, 9, 10, 11, 12, 13] _ rfl⟩
          rintro a337 w338 ⟨hf339, hm340⟩
          refine thenN ?_
          obtain ⟨r341, H3, H2⟩ := ob_split H2
          refine wpJoin (Mid := fun (a : Act) (w : World) => Fr 218 a [(0, .slice A0 x0.length c0), (1, .slice A1 x1.length c1), (5, .pointer (some ⟨b171, 0, none⟩)), (6, .int .i64 r52.2), (7, .pointer (some ⟨b190, 0, none⟩)), (9, .int .i64 s222.1), (10, .pointer (some ⟨b263, 0, none⟩)), (11, .bool r274), (12, .bool true), (73, .int .i64 (rd x1 s222.1).Do), (74, .bool r341)] ∧ Mem [] M w0 [.bx b263 [.int .i64 (rd x1 s222.1).Do, .int .i64 (rd x1 s222.1).I, .slice A252 (rd x1 s222.1).T.Shape.length c253, .slice A254 (rd x1 s222.1).T.Data.length c255, .slice A256 (rd x1 s222.1).L.length c257] 62, .sl kTensor A256 c257 (rd x1 s222.1).L, .sl Kd.float A254 c255 (rd x1 s222.1).T.Data, .sl (Kd.int .i64) A252 c253 (rd x1 s222.1).T.Shape, .bx b190 [.slice A223 s222.2.1.length c224, .slice A225 s222.2.2.1.length c226, .slice A227 s222.2.2.2.1.length c228] 65, .ow kTensor 29 A223 c224 s222.2.1, .ow kTensor 29 A225 c226 s222.2.2.1, .ow (Kd.int .i64) 3 A227 c228 s222.2.2.2.1, .bx b171 [.slice A229 s222.2.2.2.2.1.length c230, .slice A231 s222.2.2.2.2.2.1.length c232, .slice A233 s222.2.2.2.2.2.2.length c234] 72, .ow kTensor 29 A229 c230 s222.2.2.2.2.1, .ow (Kd.int .i64) 3 A231 c232 s222.2.2.2.2.2.1, .ow kTensor 29 A233 c234 s222.2.2.2.2.2.2, .sl kTensor A0 c0 x0, .sl kDeed A1 c1 x1] w) ?_ ?_
          · intro J1768
            rcases ifb_split H3 with ⟨c1769, H3⟩ | ⟨c1769, H3⟩
            · rw [c1769] at hf339
              refine cT hf339 ?_
              refine wp_skip ?_
              obtain rfl := Option.some.inj H3
              exact J1768 _ _ ⟨hf339.se [0, 1, 5, 6, 7, 9, 10, 11, 12, 73, 74], hm340.se [0, 1, 2, 3, 4, 5, 6, 7, 8, 9, 10, 11, 12, 13] _ rfl⟩
            rw [c1769] at hf339
            refine cF hf339 ?_
            rcases if_split H3 with ⟨c1770, H3⟩ | ⟨c1770, H3⟩
            · refine rg [.bool true] [(0, .slice A0 x0.length c0), (1, .slice A1 x1.length c1), (5, vp b171), (6, vi r52.2), (7, vp b190), (9, vi s222.1), (10, vp b263), (11, .bool r274), (12, .bool true), (73, vi (rd x1 s222.1).Do), (74, .bool true)] hf339 (oi (eqT c1770) ot) fun a1771 hf1772 => ?_
              obtain rfl := Option.some.inj H3
              exact J1768 _ _ ⟨hf1772.se [0, 1, 5, 6, 7, 9, 10, 11, 12, 73, 74], hm340.se [0, 1, 2, 3, 4, 5, 6, 7, 8, 9, 10, 11, 12, 13] _ rfl⟩
            refine rg [.bool false] [(0, .slice A0 x0.length c0), (1, .slice A1 x1.length c1), (5, vp b171), (6, vi r52.2), (7, vp b190), (9, vi s222.1), (10, vp b263), (11, .bool r274), (12, .bool true), (73, vi (rd x1 s222.1).Do), (74, .bool false)] hf339 (oi (eqF c1770) ot) fun a1773 hf1774 => ?_
            obtain rfl := Option.some.inj H3
            exact J1768 _ _ ⟨hf1774.se [0, 1, 5, 6, 7, 9, 10, 11, 12, 73, 74], hm340.se [0, 1, 2, 3, 4, 5, 6, 7, 8, 9, 10, 11, 12, 13] _ rfl⟩
          rintro a342 w343 ⟨hf344, hm345⟩
          refine thenN ?_
          rcases ifb_split H2 with ⟨c346, H2⟩ | ⟨c346, H2⟩
          · rw [c346] at hf344
            refine cT hf344 ?_
            obtain ⟨r347, hr347, H2⟩ := ob_split H2
            obtain ⟨r348, hr348, H2⟩ := ob_split H2
            rcases if_split H2 with ⟨c349, H2⟩ | ⟨c349, H2⟩
            · refine midReg (fun (a : Act) (w : World) => ∃ (A358 : Option Addr) (c359 : Nat) (A360 : Option Addr) (c361 : Nat) (A350 : Option Addr) (c351 : Nat) (A352 : Option Addr) (c353 : Nat), Fr 218 a [(0, .slice A0 x0.length c0), (1, .slice A1 x1.length c1), (5, .pointer (some ⟨b171, 0, none⟩)), (6, .int .i64 r52.2), (7, .pointer (some ⟨b190, 0, none⟩)), (9, .int .i64 s222.1), (12, .bool true)] ∧ Mem [] M w0 [.bx b190 [.slice A358 r348.1.length c359, .slice A225 s222.2.2.1.length c226, .slice A360 r348.2.1.length c361] 65, .ow kTensor 29 A358 c359 r348.1, .ow kTensor 29 A225 c226 s222.2.2.1, .ow (Kd.int .i64) 3 A360 c361 r348.2.1, .bx b171 [.slice A350 r347.1.length c351, .slice A352 r347.2.1.length c353, .slice A233 s222.2.2.2.2.2.2.length c234] 72, .ow kTensor 29 A350 c351 r347.1, .ow (Kd.int .i64) 3 A352 c353 r347.2.1, .ow kTensor 29 A233 c234 s222.2.2.2.2.2.2, .sl kTensor A0 c0 x0, .sl kDeed A1 c1 x1] w) ?_ ?_
              · refine anyG (K := []) [5, 11] (by kernel_rfl) fun w367 hg368 => ?_
                have hm369 := hm345.still hg368
                refine memoStep (R := fun (a : Act) (w : World) => ∃ (A372 : Option Addr) (c373 : Nat) (A374 : Option Addr) (c375 : Nat), Fr 218 a [(0, .slice A0 x0.length c0), (1, .slice A1 x1.length c1), (5, .pointer (some ⟨b171, 0, none⟩)), (6, .int .i64 r52.2), (7, .pointer (some ⟨b190, 0, none⟩)), (9, .int .i64 s222.1), (12, .bool true), (77, .pointer (some ⟨b171, 0, none⟩)), (79, .int .i64 (rd x1 s222.1).I), (81, .agg #[.slice A252 (rd x1 s222.1).T.Shape.length c253, .slice A254 (rd x1 s222.1).T.Data.length c255]), (82, .int .i64 r347.2.2), (83, .pointer (some ⟨b190, 0, none⟩)), (84, .pointer (some ⟨b263, 1, none⟩)), (86, .pointer (some ⟨b263, 2, none⟩))] ∧ Mem [] M w0 [.bx b171 [.slice A372 r347.1.length c373, .slice A374 r347.2.1.length c375, .slice A233 s222.2.2.2.2.2.2.length c234] 72, .ow kTensor 29 A372 c373 r347.1, .ow (Kd.int .i64) 3 A374 c375 r347.2.1, .ow kTensor 29 A233 c234 s222.2.2.2.2.2.2, .bx b263 [.int .i64 (rd x1 s222.1).Do, .int .i64 (rd x1 s222.1).I, .slice A252 (rd x1 s222.1).T.Shape.length c253, .slice A254 (rd x1 s222.1).T.Data.length c255, .slice A256 (rd x1 s222.1).L.length c257] 62, .sl kTensor A256 c257 (rd x1 s222.1).L, .sl Kd.float A254 c255 (rd x1 s222.1).T.Data, .sl (Kd.int .i64) A252 c253 (rd x1 s222.1).T.Shape, .bx b190 [.slice A223 s222.2.1.length c224, .slice A225 s222.2.2.1.length c226, .slice A227 s222.2.2.2.1.length c228] 65, .ow kTensor 29 A223 c224 s222.2.1, .ow kTensor 29 A225 c226 s222.2.2.1, .ow (Kd.int .i64) 3 A227 c228 s222.2.2.2.1, .sl kTensor A0 c0 x0, .sl kDeed A1 c1 x1] w) (fb 14 767) 5 ?_ fun L492 => ?_
                · rintro a493 w494 ⟨A372, c373, A374, c375, hf495, hm496⟩
                  refine all2 8 10 (by kernel_rfl) ?_ ?_
                  · refine oo hf495 rfl (on [.int .i64 (rd x1 s222.1).I] (.int .i64 (rd x1 s222.1).I) 85 hf495 (oc (hm496.cell (j := 1) 4 rfl rfl) ot) fun a497 hf498 => ?_)
                    refine ⟨.inr (Gr.refl _ _), ?_⟩
                    refine a1 10 ?_
                    refine oo hf498 rfl (on [.agg #[.slice A252 (rd x1 s222.1).T.Shape.length c253, .slice A254 (rd x1 s222.1).T.Data.length c255]] (.agg #[.slice A252 (rd x1 s222.1).T.Shape.length c253, .slice A254 (rd x1 s222.1).T.Data.length c255]) 87 hf498 (oc (hm496.cell (j := 2) 4 rfl rfl) (oc (hm496.cell (j := 3) 4 rfl rfl) ot)) fun a499 hf500 => ?_)
                    refine ⟨.inr (Gr.refl _ _), ?_⟩
                    refine a1 11 ?_
                    refine oo hf500 rfl (cl 88 hf500 callable26 (ref19_Shelf_Set.calls _ _ _ (⟨s222.2.1, s222.2.2.1, s222.2.2.2.1⟩ : Shelf65) _ _ _ _ rfl _ _ _ rfl _ _ _ rfl (rd x1 s222.1).I _ _ _ _ rfl _ _ _ rfl (hm496.giveO [8, 9, 10, 11] [0, 1, 2, 3, 4, 5, 6, 7, 12, 13] [7, 6] [.bx b190 [.slice A223 s222.2.1.length c224, .slice A225 s222.2.2.1.length c226, .slice A227 s222.2.2.2.1.length c228] 65, .ow kTensor 29 A223 c224 s222.2.1, .ow kTensor 29 A225 c226 s222.2.2.1, .ow (Kd.int .i64) 3 A227 c228 s222.2.2.2.1] _ [.sl (Kd.int .i64) A252 c253 (rd x1 s222.1).T.Shape, .sl Kd.float A254 c255 (rd x1 s222.1).T.Data] rfl rfl rfl (by kernel_rfl) rfl) r348 hr348) ?_)
                    rintro _ w505 a506 ⟨A501, c502, A503, c504, rfl, hk508⟩ hf507
                    refine ⟨.inl (by decide), ?_⟩
                    have hm509 := hm496.backO [8, 9, 10, 11] [0, 1, 2, 3, 4, 5, 6, 7, 12, 13] _ _ rfl rfl (by kernel_rfl) hk508
                    refine qt [12, 13] [.bool true] (fb 14 16383) [(0, .slice A0 x0.length c0), (1, .slice A1 x1.length c1), (5, vp b171), (6, vi r52.2), (7, vp b190), (9, vi s222.1), (12, .bool true)] 0 hf507 (oi (eqT c349) ot) fun a510 hf511 => ?_
                    refine aD ⟨rfl, A501, c502, A503, c504, A372, c373, A374, c375, hf511.se [0, 1, 5, 6, 7, 9, 12], hm509.se [0, 1, 2, 3, 4, 5, 6, 7, 12, 13] _ rfl⟩
                  · refine oo hf495 rfl (on [.agg #[.slice A252 (rd x1 s222.1).T.Shape.length c253, .slice A254 (rd x1 s222.1).T.Data.length c255]] (.agg #[.slice A252 (rd x1 s222.1).T.Shape.length c253, .slice A254 (rd x1 s222.1).T.Data.length c255]) 87 hf495 (oc (hm496.cell (j := 2) 4 rfl rfl) (oc (hm496.cell (j := 3) 4 rfl rfl) ot)) fun a512 hf513 => ?_)
                    refine ⟨.inr (Gr.refl _ _), ?_⟩
                    refine a1 8 ?_
                    refine oo hf513 rfl (on [.int .i64 (rd x1 s222.1).I] (.int .i64 (rd x1 s222.1).I) 85 hf513 (oc (hm496.cell (j := 1) 4 rfl rfl) ot) fun a514 hf515 => ?_)
                    refine ⟨.inr (Gr.refl _ _), ?_⟩
                    refine a1 11 ?_
                    refine oo hf515 rfl (cl 88 hf515 callable26 (ref19_Shelf_Set.calls _ _ _ (⟨s222.2.1, s222.2.2.1, s222.2.2.2.1⟩ : Shelf65) _ _ _ _ rfl _ _ _ rfl _ _ _ rfl (rd x1 s222.1).I _ _ _ _ rfl _ _ _ rfl (hm496.giveO [8, 9, 10, 11] [0, 1, 2, 3, 4, 5, 6, 7, 12, 13] [7, 6] [.bx b190 [.slice A223 s222.2.1.length c224, .slice A225 s222.2.2.1.length c226, .slice A227 s222.2.2.2.1.length c228] 65, .ow kTensor 29 A223 c224 s222.2.1, .ow kTensor 29 A225 c226 s222.2.2.1, .ow (Kd.int .i64) 3 A227 c228 s222.2.2.2.1] _ [.sl (Kd.int .i64) A252 c253 (rd x1 s222.1).T.Shape, .sl Kd.float A254 c255 (rd x1 s222.1).T.Data] rfl rfl rfl (by kernel_rfl) rfl) r348 hr348) ?_)
                    rintro _ w520 a521 ⟨A516, c517, A518, c519, rfl, hk523⟩ hf522
                    refine ⟨.inl (by decide), ?_⟩
                    have hm524 := hm496.backO [8, 9, 10, 11] [0, 1, 2, 3, 4, 5, 6, 7, 12, 13] _ _ rfl rfl (by kernel_rfl) hk523
                    refine qt [12, 13] [.bool true] (fb 14 16383) [(0, .slice A0 x0.length c0), (1, .slice A1 x1.length c1), (5, vp b171), (6, vi r52.2), (7, vp b190), (9, vi s222.1), (12, .bool true)] 0 hf522 (oi (eqT c349) ot) fun a525 hf526 => ?_
                    refine aD ⟨rfl, A516, c517, A518, c519, A372, c373, A374, c375, hf526.se [0, 1, 5, 6, 7, 9, 12], hm524.se [0, 1, 2, 3, 4, 5, 6, 7, 12, 13] _ rfl⟩
                refine memoStep (R := fun (a : Act) (w : World) => Fr 218 a [(0, .slice A0 x0.length c0), (1, .slice A1 x1.length c1), (5, .pointer (some ⟨b171, 0, none⟩)), (6, .int .i64 r52.2), (7, .pointer (some ⟨b190, 0, none⟩)), (9, .int .i64 s222.1), (12, .bool true), (77, .pointer (some ⟨b171, 0, none⟩)), (79, .int .i64 (rd x1 s222.1).I), (81, .agg #[.slice A252 (rd x1 s222.1).T.Shape.length c253, .slice A254 (rd x1 s222.1).T.Data.length c255]), (83, .pointer (some ⟨b190, 0, none⟩)), (84, .pointer (some ⟨b263, 1, none⟩)), (85, .int .i64 (rd x1 s222.1).I), (86, .pointer (some ⟨b263, 2, none⟩))] ∧ Mem [] M w0 [.bx b263 [.int .i64 (rd x1 s222.1).Do, .int .i64 (rd x1 s222.1).I, .slice A252 (rd x1 s222.1).T.Shape.length c253, .slice A254 (rd x1 s222.1).T.Data.length c255, .slice A256 (rd x1 s222.1).L.length c257] 62, .sl kTensor A256 c257 (rd x1 s222.1).L, .sl Kd.float A254 c255 (rd x1 s222.1).T.Data, .sl (Kd.int .i64) A252 c253 (rd x1 s222.1).T.Shape, .bx b190 [.slice A223 s222.2.1.length c224, .slice A225 s222.2.2.1.length c226, .slice A227 s222.2.2.2.1.length c228] 65, .ow kTensor 29 A223 c224 s222.2.1, .ow kTensor 29 A225 c226 s222.2.2.1, .ow (Kd.int .i64) 3 A227 c228 s222.2.2.2.1, .bx b171 [.slice A229 s222.2.2.2.2.1.length c230, .slice A231 s222.2.2.2.2.2.1.length c232, .slice A233 s222.2.2.2.2.2.2.length c234] 72, .ow kTensor 29 A229 c230 s222.2.2.2.2.1, .ow (Kd.int .i64) 3 A231 c232 s222.2.2.2.2.2.1, .ow kTensor 29 A233 c234 s222.2.2.2.2.2.2, .sl kTensor A0 c0 x0, .sl kDeed A1 c1 x1] w) (fb 14 991) 5 ?_ fun L527 => ?_
                · rintro a528 w529 ⟨hf530, hm531⟩
                  refine all2 5 10 (by kernel_rfl) ?_ ?_
                  · refine oo hf530 rfl (cl 82 hf530 callable19 (shelf_Shelf_Set.calls _ _ _ (⟨s222.2.2.2.2.1, s222.2.2.2.2.2.1, s222.2.2.2.2.2.2⟩ : Shelf) _ _ _ _ rfl _ _ _ rfl _ _ _ rfl (rd x1 s222.1).I _ _ _ _ rfl _ _ _ rfl (hm531.giveO [8, 9, 10, 11] [0, 1, 2, 3, 4, 5, 6, 7, 12, 13] [3, 2] [.bx b171 [.slice A229 s222.2.2.2.2.1.length c230, .slice A231 s222.2.2.2.2.2.1.length c232, .slice A233 s222.2.2.2.2.2.2.length c234] 72, .ow kTensor 29 A229 c230 s222.2.2.2.2.1, .ow (Kd.int .i64) 3 A231 c232 s222.2.2.2.2.2.1, .ow kTensor 29 A233 c234 s222.2.2.2.2.2.2] _ [.sl (Kd.int .i64) A252 c253 (rd x1 s222.1).T.Shape, .sl Kd.float A254 c255 (rd x1 s222.1).T.Data] rfl rfl rfl (by kernel_rfl) rfl) r347 hr347) ?_)
                    rintro _ w536 a537 ⟨A532, c533, A534, c535, rfl, hk539⟩ hf538
                    refine ⟨.inl (by decide), ?_⟩
                    have hm540 := hm531.backO [8, 9, 10, 11] [0, 1, 2, 3, 4, 5, 6, 7, 12, 13] _ _ rfl rfl (by kernel_rfl) hk539
                    refine a1 10 ?_
                    refine oo hf538 rfl (on [.agg #[.slice A252 (rd x1 s222.1).T.Shape.length c253, .slice A254 (rd x1 s222.1).T.Data.length c255]] (.agg #[.slice A252 (rd x1 s222.1).T.Shape.length c253, .slice A254 (rd x1 s222.1).T.Data.length c255]) 87 hf538 (oc (hm540.cell (j := 2) 4 rfl rfl) (oc (hm540.cell (j := 3) 4 rfl rfl) ot)) fun a541 hf542 => ?_)
                    refine ⟨.inr (Gr.refl _ _), ?_⟩
                    refine a1 11 ?_
                    refine oo hf542 rfl (cl 88 hf542 callable26 (ref19_Shelf_Set.calls _ _ _ (⟨s222.2.1, s222.2.2.1, s222.2.2.2.1⟩ : Shelf65) _ _ _ _ rfl _ _ _ rfl _ _ _ rfl (rd x1 s222.1).I _ _ _ _ rfl _ _ _ rfl (hm540.giveO [8, 9, 10, 11] [0, 1, 2, 3, 4, 5, 6, 7, 12, 13] [7, 6] [.bx b190 [.slice A223 s222.2.1.length c224, .slice A225 s222.2.2.1.length c226, .slice A227 s222.2.2.2.1.length c228] 65, .ow kTensor 29 A223 c224 s222.2.1, .ow kTensor 29 A225 c226 s222.2.2.1, .ow (Kd.int .i64) 3 A227 c228 s222.2.2.2.1] _ [.sl (Kd.int .i64) A252 c253 (rd x1 s222.1).T.Shape, .sl Kd.float A254 c255 (rd x1 s222.1).T.Data] rfl rfl rfl (by kernel_rfl) rfl) r348 hr348) ?_)
                    rintro _ w547 a548 ⟨A543, c544, A545, c546, rfl, hk550⟩ hf549
                    refine ⟨.inl (by decide), ?_⟩
                    have hm551 := hm540.backO [8, 9, 10, 11] [0, 1, 2, 3, 4, 5, 6, 7, 12, 13] _ _ rfl rfl (by kernel_rfl) hk550
                    refine qt [12, 13] [.bool true] (fb 14 16383) [(0, .slice A0 x0.length c0), (1, .slice A1 x1.length c1), (5, vp b171), (6, vi r52.2), (7, vp b190), (9, vi s222.1), (12, .bool true)] 0 hf549 (oi (eqT c349) ot) fun a552 hf553 => ?_
                    refine aD ⟨rfl, A543, c544, A545, c546, A532, c533, A534, c535, hf553.se [0, 1, 5, 6, 7, 9, 12], hm551.se [0, 1, 2, 3, 4, 5, 6, 7, 12, 13] _ rfl⟩
                  · refine oo hf530 rfl (on [.agg #[.slice A252 (rd x1 s222.1).T.Shape.length c253, .slice A254 (rd x1 s222.1).T.Data.length c255]] (.agg #[.slice A252 (rd x1 s222.1).T.Shape.length c253, .slice A254 (rd x1 s222.1).T.Data.length c255]) 87 hf530 (oc (hm531.cell (j := 2) 0 rfl rfl) (oc (hm531.cell (j := 3) 0 rfl rfl) ot)) fun a554 hf555 => ?_)
                    refine ⟨.inr (Gr.refl _ _), ?_⟩
                    refine a1 5 ?_
                    refine oo hf555 rfl (cl 82 hf555 callable19 (shelf_Shelf_Set.calls _ _ _ (⟨s222.2.2.2.2.1, s222.2.2.2.2.2.1, s222.2.2.2.2.2.2⟩ : Shelf) _ _ _ _ rfl _ _ _ rfl _ _ _ rfl (rd x1 s222.1).I _ _ _ _ rfl _ _ _ rfl (hm531.giveO [8, 9, 10, 11] [0, 1, 2, 3, 4, 5, 6, 7, 12, 13] [3, 2] [.bx b171 [.slice A229 s222.2.2.2.2.1.length c230, .slice A231 s222.2.2.2.2.2.1.length c232, .slice A233 s222.2.2.2.2.2.2.length c234] 72, .ow kTensor 29 A229 c230 s222.2.2.2.2.1, .ow (Kd.int .i64) 3 A231 c232 s222.2.2.2.2.2.1, .ow kTensor 29 A233 c234 s222.2.2.2.2.2.2] _ [.sl (Kd.int .i64) A252 c253 (rd x1 s222.1).T.Shape, .sl Kd.float A254 c255 (rd x1 s222.1).T.Data] rfl rfl rfl (by kernel_rfl) rfl) r347 hr347) ?_)
                    rintro _ w560 a561 ⟨A556, c557, A558, c559, rfl, hk563⟩ hf562
                    refine ⟨.inl (by decide), ?_⟩
                    have hm564 := hm531.backO [8, 9, 10, 11] [0, 1, 2, 3, 4, 5, 6, 7, 12, 13] _ _ rfl rfl (by kernel_rfl) hk563
                    refine a1 11 ?_
                    refine oo hf562 rfl (cl 88 hf562 callable26 (ref19_Shelf_Set.calls _ _ _ (⟨s222.2.1, s222.2.2.1, s222.2.2.2.1⟩ : Shelf65) _ _ _ _ rfl _ _ _ rfl _ _ _ rfl (rd x1 s222.1).I _ _ _ _ rfl _ _ _ rfl (hm564.giveO [8, 9, 10, 11] [0, 1, 2, 3, 4, 5, 6, 7, 12, 13] [7, 6] [.bx b190 [.slice A223 s222.2.1.length c224, .slice A225 s222.2.2.1.length c226, .slice A227 s222.2.2.2.1.length c228] 65, .ow kTensor 29 A223 c224 s222.2.1, .ow kTensor 29 A225 c226 s222.2.2.1, .ow (Kd.int .i64) 3 A227 c228 s222.2.2.2.1] _ [.sl (Kd.int .i64) A252 c253 (rd x1 s222.1).T.Shape, .sl Kd.float A254 c255 (rd x1 s222.1).T.Data] rfl rfl rfl (by kernel_rfl) rfl) r348 hr348) ?_)
                    rintro _ w569 a570 ⟨A565, c566, A567, c568, rfl, hk572⟩ hf571
                    refine ⟨.inl (by decide), ?_⟩
                    have hm573 := hm564.backO [8, 9, 10, 11] [0, 1, 2, 3, 4, 5, 6, 7, 12, 13] _ _ rfl rfl (by kernel_rfl) hk572
                    refine qt [12, 13] [.bool true] (fb 14 16383) [(0, .slice A0 x0.length c0), (1, .slice A1 x1.length c1), (5, vp b171), (6, vi r52.2), (7, vp b190), (9, vi s222.1), (12, .bool true)] 0 hf571 (oi (eqT c349) ot) fun a574 hf575 => ?_
                    refine aD ⟨rfl, A565, c566, A567, c568, A556, c557, A558, c559, hf575.se [0, 1, 5, 6, 7, 9, 12], hm573.se [0, 1, 2, 3, 4, 5, 6, 7, 12, 13] _ rfl⟩
                refine memoStep (R := fun (a : Act) (w : World) => Fr 218 a [(0, .slice A0 x0.length c0), (1, .slice A1 x1.length c1), (5, .pointer (some ⟨b171, 0, none⟩)), (6, .int .i64 r52.2), (7, .pointer (some ⟨b190, 0, none⟩)), (9, .int .i64 s222.1), (12, .bool true), (77, .pointer (some ⟨b171, 0, none⟩)), (79, .int .i64 (rd x1 s222.1).I), (81, .agg #[.slice A252 (rd x1 s222.1).T.Shape.length c253, .slice A254 (rd x1 s222.1).T.Data.length c255]), (83, .pointer (some ⟨b190, 0, none⟩)), (84, .pointer (some ⟨b263, 1, none⟩)), (86, .pointer (some ⟨b263, 2, none⟩)), (87, .agg #[.slice A252 (rd x1 s222.1).T.Shape.length c253, .slice A254 (rd x1 s222.1).T.Data.length c255])] ∧ Mem [] M w0 [.bx b263 [.int .i64 (rd x1 s222.1).Do, .int .i64 (rd x1 s222.1).I, .slice A252 (rd x1 s222.1).T.Shape.length c253, .slice A254 (rd x1 s222.1).T.Data.length c255, .slice A256 (rd x1 s222.1).L.length c257] 62, .sl kTensor A256 c257 (rd x1 s222.1).L, .sl Kd.float A254 c255 (rd x1 s222.1).T.Data, .sl (Kd.int .i64) A252 c253 (rd x1 s222.1).T.Shape, .bx b190 [.slice A223 s222.2.1.length c224, .slice A225 s222.2.2.1.length c226, .slice A227 s222.2.2.2.1.length c228] 65, .ow kTensor 29 A223 c224 s222.2.1, .ow kTensor 29 A225 c226 s222.2.2.1, .ow (Kd.int .i64) 3 A227 c228 s222.2.2.2.1, .bx b171 [.slice A229 s222.2.2.2.2.1.length c230, .slice A231 s222.2.2.2.2.2.1.length c232, .slice A233 s222.2.2.2.2.2.2.length c234] 72, .ow kTensor 29 A229 c230 s222.2.2.2.2.1, .ow (Kd.int .i64) 3 A231 c232 s222.2.2.2.2.2.1, .ow kTensor 29 A233 c234 s222.2.2.2.2.2.2, .sl kTensor A0 c0 x0, .sl kDeed A1 c1 x1] w) (fb 14 1759) 5 ?_ fun L576 => ?_
                · rintro a577 w578 ⟨hf579, hm580⟩
                  refine all2 5 8 (by kernel_rfl) ?_ ?_
                  · refine oo hf579 rfl (cl 82 hf579 callable19 (shelf_Shelf_Set.calls _ _ _ (⟨s222.2.2.2.2.1, s222.2.2.2.2.2.1, s222.2.2.2.2.2.2⟩ : Shelf) _ _ _ _ rfl _ _ _ rfl _ _ _ rfl (rd x1 s222.1).I _ _ _ _ rfl _ _ _ rfl (hm580.giveO [8, 9, 10, 11] [0, 1, 2, 3, 4, 5, 6, 7, 12, 13] [3, 2] [.bx b171 [.slice A229 s222.2.2.2.2.1.length c230, .slice A231 s222.2.2.2.2.2.1.length c232, .slice A233 s222.2.2.2.2.2.2.length c234] 72, .ow kTensor 29 A229 c230 s222.2.2.2.2.1, .ow (Kd.int .i64) 3 A231 c232 s222.2.2.2.2.2.1, .ow kTensor 29 A233 c234 s222.2.2.2.2.2.2] _ [.sl (Kd.int .i64) A252 c253 (rd x1 s222.1).T.Shape, .sl Kd.float A254 c255 (rd x1 s222.1).T.Data] rfl rfl rfl (by kernel_rfl) rfl) r347 hr347) ?_)
                    rintro _ w585 a586 ⟨A581, c582, A583, c584, rfl, hk588⟩ hf587
                    refine ⟨.inl (by decide), ?_⟩
                    have hm589 := hm580.backO [8, 9, 10, 11] [0, 1, 2, 3, 4, 5, 6, 7, 12, 13] _ _ rfl rfl (by kernel_rfl) hk588
                    refine a1 8 ?_
                    refine oo hf587 rfl (on [.int .i64 (rd x1 s222.1).I] (.int .i64 (rd x1 s222.1).I) 85 hf587 (oc (hm589.cell (j := 1) 4 rfl rfl) ot) fun a590 hf591 => ?_)
                    refine ⟨.inr (Gr.refl _ _), ?_⟩
                    refine a1 11 ?_
                    refine oo hf591 rfl (cl 88 hf591 callable26 (ref19_Shelf_Set.calls _ _ _ (⟨s222.2.1, s222.2.2.1, s222.2.2.2.1⟩ : Shelf65) _ _ _ _ rfl _ _ _ rfl _ _ _ rfl (rd x1 s222.1).I _ _ _ _ rfl _ _ _ rfl (hm589.giveO [8, 9, 10, 11] [0, 1, 2, 3, 4, 5, 6, 7, 12, 13] [7, 6] [.bx b190 [.slice A223 s222.2.1.length c224, .slice A225 s222.2.2.1.length c226, .slice A227 s222.2.2.2.1.length c228] 65, .ow kTensor 29 A223 c224 s222.2.1, .ow kTensor 29 A225 c226 s222.2.2.1, .ow (Kd.int .i64) 3 A227 c228 s222.2.2.2.1] _ [.sl (Kd.int .i64) A252 c253 (rd x1 s222.1).T.Shape, .sl Kd.float A254 c255 (rd x1 s222.1).T.Data] rfl rfl rfl (by kernel_rfl) rfl) r348 hr348) ?_)
                    rintro _ w596 a597 ⟨A592, c593, A594, c595, rfl, hk599⟩ hf598
                    refine ⟨.inl (by decide), ?_⟩
                    have hm600 := hm589.backO [8, 9, 10, 11] [0, 1, 2, 3, 4, 5, 6, 7, 12, 13] _ _ rfl rfl (by kernel_rfl) hk599
                    refine qt [12, 13] [.bool true] (fb 14 16383) [(0, .slice A0 x0.length c0), (1, .slice A1 x1.length c1), (5, vp b171), (6, vi r52.2), (7, vp b190), (9, vi s222.1), (12, .bool true)] 0 hf598 (oi (eqT c349) ot) fun a601 hf602 => ?_
                    refine aD ⟨rfl, A592, c593, A594, c595, A581, c582, A583, c584, hf602.se [0, 1, 5, 6, 7, 9, 12], hm600.se [0, 1, 2, 3, 4, 5, 6, 7, 12, 13] _ rfl⟩
                  · refine oo hf579 rfl (on [.int .i64 (rd x1 s222.1).I] (.int .i64 (rd x1 s222.1).I) 85 hf579 (oc (hm580.cell (j := 1) 0 rfl rfl) ot) fun a603 hf604 => ?_)
                    refine ⟨.inr (Gr.refl _ _), ?_⟩
                    refine a1 5 ?_
                    refine oo hf604 rfl (cl 82 hf604 callable19 (shelf_Shelf_Set.calls _ _ _ (⟨s222.2.2.2.2.1, s222.2.2.2.2.2.1, s222.2.2.2.2.2.2⟩ : Shelf) _ _ _ _ rfl _ _ _ rfl _ _ _ rfl (rd x1 s222.1).I _ _ _ _ rfl _ _ _ rfl (hm580.giveO [8, 9, 10, 11] [0, 1, 2, 3, 4, 5, 6, 7, 12, 13] [3, 2] [.bx b171 [.slice A229 s222.2.2.2.2.1.length c230, .slice A231 s222.2.2.2.2.2.1.length c232, .slice A233 s222.2.2.2.2.2.2.length c234] 72, .ow kTensor 29 A229 c230 s222.2.2.2.2.1, .ow (Kd.int .i64) 3 A231 c232 s222.2.2.2.2.2.1, .ow kTensor 29 A233 c234 s222.2.2.2.2.2.2] _ [.sl (Kd.int .i64) A252 c253 (rd x1 s222.1).T.Shape, .sl Kd.float A254 c255 (rd x1 s222.1).T.Data] rfl rfl rfl (by kernel_rfl) rfl) r347 hr347) ?_)
                    rintro _ w609 a610 ⟨A605, c606, A607, c608, rfl, hk612⟩ hf611
                    refine ⟨.inl (by decide), ?_⟩
                    have hm613 := hm580.backO [8, 9, 10, 11] [0, 1, 2, 3, 4, 5, 6, 7, 12, 13] _ _ rfl rfl (by kernel_rfl) hk612
                    refine a1 11 ?_
                    refine oo hf611 rfl (cl 88 hf611 callable26 (ref19_Shelf_Set.calls _ _ _ (⟨s222.2.1, s222.2.2.1, s222.2.2.2.1⟩ : Shelf65) _ _ _ _ rfl _ _ _ rfl _ _ _ rfl (rd x1 s222.1).I _ _ _ _ rfl _ _ _ rfl (hm613.giveO [8, 9, 10, 11] [0, 1, 2, 3, 4, 5, 6, 7, 12, 13] [7, 6] [.bx b190 [.slice A223 s222.2.1.length c224, .slice A225 s222.2.2.1.length c226, .slice A227 s222.2.2.2.1.length c228] 65, .ow kTensor 29 A223 c224 s222.2.1, .ow kTensor 29 A225 c226 s222.2.2.1, .ow (Kd.int .i64) 3 A227 c228 s222.2.2.2.1] _ [.sl (Kd.int .i64) A252 c253 (rd x1 s222.1).T.Shape, .sl Kd.float A254 c255 (rd x1 s222.1).T.Data] rfl rfl rfl (by kernel_rfl) rfl) r348 hr348) ?_)
                    rintro _ w618 a619 ⟨A614, c615, A616, c617, rfl, hk621⟩ hf620
                    refine ⟨.inl (by decide), ?_⟩
                    have hm622 := hm613.backO [8, 9, 10, 11] [0, 1, 2, 3, 4, 5, 6, 7, 12, 13] _ _ rfl rfl (by kernel_rfl) hk621
                    refine qt [12, 13] [.bool true] (fb 14 16383) [(0, .slice A0 x0.length c0), (1, .slice A1 x1.length c1), (5, vp b171), (6, vi r52.2), (7, vp b190), (9, vi s222.1), (12, .bool true)] 0 hf620 (oi (eqT c349) ot) fun a623 hf624 => ?_
                    refine aD ⟨rfl, A614, c615, A616, c617, A605, c606, A607, c608, hf624.se [0, 1, 5, 6, 7, 9, 12], hm622.se [0, 1, 2, 3, 4, 5, 6, 7, 12, 13] _ rfl⟩
                refine memoStep (R := fun (a : Act) (w : World) => Fr 218 a [(0, .slice A0 x0.length c0), (1, .slice A1 x1.length c1), (5, .pointer (some ⟨b171, 0, none⟩)), (6, .int .i64 r52.2), (7, .pointer (some ⟨b190, 0, none⟩)), (9, .int .i64 s222.1), (12, .bool true), (77, .pointer (some ⟨b171, 0, none⟩)), (79, .int .i64 (rd x1 s222.1).I), (81, .agg #[.slice A252 (rd x1 s222.1).T.Shape.length c253, .slice A254 (rd x1 s222.1).T.Data.length c255]), (83, .pointer (some ⟨b190, 0, none⟩)), (84, .pointer (some ⟨b263, 1, none⟩)), (86, .pointer (some ⟨b263, 2, none⟩))] ∧ Mem [] M w0 [.bx b263 [.int .i64 (rd x1 s222.1).Do, .int .i64 (rd x1 s222.1).I, .slice A252 (rd x1 s222.1).T.Shape.length c253, .slice A254 (rd x1 s222.1).T.Data.length c255, .slice A256 (rd x1 s222.1).L.length c257] 62, .sl kTensor A256 c257 (rd x1 s222.1).L, .sl Kd.float A254 c255 (rd x1 s222.1).T.Data, .sl (Kd.int .i64) A252 c253 (rd x1 s222.1).T.Shape, .bx b190 [.slice A223 s222.2.1.length c224, .slice A225 s222.2.2.1.length c226, .slice A227 s222.2.2.2.1.length c228] 65, .ow kTensor 29 A223 c224 s222.2.1, .ow kTensor 29 A225 c226 s222.2.2.1, .ow (Kd.int .i64) 3 A227 c228 s222.2.2.2.1, .bx b171 [.slice A229 s222.2.2.2.2.1.length c230, .slice A231 s222.2.2.2.2.2.1.length c232, .slice A233 s222.2.2.2.2.2.2.length c234] 72, .ow kTensor 29 A229 c230 s222.2.2.2.2.1, .ow (Kd.int .i64) 3 A231 c232 s222.2.2.2.2.2.1, .ow kTensor 29 A233 c234 s222.2.2.2.2.2.2, .sl kTensor A0 c0 x0, .sl kDeed A1 c1 x1] w) (fb 14 735) 6 ?_ fun L625 => ?_
                · rintro a626 w627 ⟨hf628, hm629⟩
                  refine all3 5 8 10 (by kernel_rfl) ?_ ?_ ?_
                  · refine oo hf628 rfl (cl 82 hf628 callable19 (shelf_Shelf_Set.calls _ _ _ (⟨s222.2.2.2.2.1, s222.2.2.2.2.2.1, s222.2.2.2.2.2.2⟩ : Shelf) _ _ _ _ rfl _ _ _ rfl _ _ _ rfl (rd x1 s222.1).I _ _ _ _ rfl _ _ _ rfl (hm629.giveO [8, 9, 10, 11] [0, 1, 2, 3, 4, 5, 6, 7, 12, 13] [3, 2] [.bx b171 [.slice A229 s222.2.2.2.2.1.length c230, .slice A231 s222.2.2.2.2.2.1.length c232, .slice A233 s222.2.2.2.2.2.2.length c234] 72, .ow kTensor 29 A229 c230 s222.2.2.2.2.1, .ow (Kd.int .i64) 3 A231 c232 s222.2.2.2.2.2.1, .ow kTensor 29 A233 c234 s222.2.2.2.2.2.2] _ [.sl (Kd.int .i64) A252 c253 (rd x1 s222.1).T.Shape, .sl Kd.float A254 c255 (rd x1 s222.1).T.Data] rfl rfl rfl (by kernel_rfl) rfl) r347 hr347) ?_)
                    rintro _ w634 a635 ⟨A630, c631, A632, c633, rfl, hk637⟩ hf636
                    refine ⟨.inl (by decide), ?_⟩
                    have hm638 := hm629.backO [8, 9, 10, 11] [0, 1, 2, 3, 4, 5, 6, 7, 12, 13] _ _ rfl rfl (by kernel_rfl) hk637
                    exact ms L492 ⟨A630, c631, A632, c633, hf636.se [0, 1, 5, 6, 7, 9, 12, 77, 79, 81, 82, 83, 84, 86], hm638.se [0, 1, 2, 3, 4, 5, 6, 7, 8, 9, 10, 11, 12, 13] _ rfl⟩
                  · refine oo hf628 rfl (on [.int .i64 (rd x1 s222.1).I] (.int .i64 (rd x1 s222.1).I) 85 hf628 (oc (hm629.cell (j := 1) 0 rfl rfl) ot) fun a639 hf640 => ?_)
                    refine ⟨.inr (Gr.refl _ _), ?_⟩
                    exact ms L527 ⟨hf640.se [0, 1, 5, 6, 7, 9, 12, 77, 79, 81, 83, 84, 85, 86], hm629.se [0, 1, 2, 3, 4, 5, 6, 7, 8, 9, 10, 11, 12, 13] _ rfl⟩
                  · refine oo hf628 rfl (on [.agg #[.slice A252 (rd x1 s222.1).T.Shape.length c253, .slice A254 (rd x1 s222.1).T.Data.length c255]] (.agg #[.slice A252 (rd x1 s222.1).T.Shape.length c253, .slice A254 (rd x1 s222.1).T.Data.length c255]) 87 hf628 (oc (hm629.cell (j := 2) 0 rfl rfl) (oc (hm629.cell (j := 3) 0 rfl rfl) ot)) fun a641 hf642 => ?_)
                    refine ⟨.inr (Gr.refl _ _), ?_⟩
                    exact ms L576 ⟨hf642.se [0, 1, 5, 6, 7, 9, 12, 77, 79, 81, 83, 84, 86, 87], hm629.se [0, 1, 2, 3, 4, 5, 6, 7, 8, 9, 10, 11, 12, 13] _ rfl⟩
                refine qt [0, 1, 2, 3, 4, 6, 7, 9] [.int .i64 (rd x1 s222.1).I, .agg #[.slice A252 (rd x1 s222.1).T.Shape.length c253, .slice A254 (rd x1 s222.1).T.Data.length c255]] (fb 14 735) [(0, .slice A0 x0.length c0), (1, .slice A1 x1.length c1), (5, vp b171), (6, vi r52.2), (7, vp b190), (9, vi s222.1), (12, .bool true), (77, vp b171), (79, vi (rd x1 s222.1).I), (81, .agg #[.slice A252 (rd x1 s222.1).T.Shape.length c253, .slice A254 (rd x1 s222.1).T.Data.length c255]), (83, vp b190), (84, .pointer (some ⟨b263, 1, none⟩)), (86, .pointer (some ⟨b263, 2, none⟩))] 6 hf344 (oc (hm369.cell (j := 1) 0 rfl rfl) (oc (hm369.cell (j := 2) 0 rfl rfl) (oc (hm369.cell (j := 3) 0 rfl rfl) ot))) fun a643 hf644 => ?_
                exact ms L625 ⟨hf644.se [0, 1, 5, 6, 7, 9, 12, 77, 79, 81, 83, 84, 86], hm369.se [0, 1, 2, 3, 4, 5, 6, 7, 8, 9, 10, 11, 12, 13] _ rfl⟩
              rintro a645 w646 ⟨A358, c359, A360, c361, A350, c351, A352, c353, hf647, hm648⟩
              refine blkN ?_
              obtain rfl := Option.some.inj H2
              exact J335 _ _ ⟨A358, c359, A225, c226, A360, c361, A350, c351, A352, c353, A233, c234, hf647.se [0, 1, 5, 6, 7, 9, 12], hm648.se [0, 1, 2, 3, 4, 5, 6, 7, 8, 9] _ rfl⟩
            refine midReg (fun (a : Act) (w : World) => ∃ (A657 : Option Addr) (c658 : Nat) (A659 : Option Addr) (c660 : Nat) (A649 : Option Addr) (c650 : Nat) (A651 : Option Addr) (c652 : Nat), Fr 218 a [(0, .slice A0 x0.length c0), (1, .slice A1 x1.length c1), (5, .pointer (some ⟨b171, 0, none⟩)), (6, .int .i64 r52.2), (7, .pointer (some ⟨b190, 0, none⟩)), (9, .int .i64 s222.1), (12, .bool false)] ∧ Mem [] M w0 [.bx b190 [.slice A657 r348.1.length c658, .slice A225 s222.2.2.1.length c226, .slice A659 r348.2.1.length c660] 65, .ow kTensor 29 A657 c658 r348.1, .ow kTensor 29 A225 c226 s222.2.2.1, .ow (Kd.int .i64) 3 A659 c660 r348.2.1, .bx b171 [.slice A649 r347.1.length c650, .slice A651 r347.2.1.length c652, .slice A233 s222.2.2.2.2.2.2.length c234] 72, .ow kTensor 29 A649 c650 r347.1, .ow (Kd.int .i64) 3 A651 c652 r347.2.1, .ow kTensor 29 A233 c234 s222.2.2.2.2.2.2, .sl kTensor A0 c0 x0, .sl kDeed A1 c1 x1] w) ?_ ?_
            · refine anyG (K := []) [5, 11] (by kernel_rfl) fun w666 hg667 => ?_
              have hm668 := hm345.still hg667
              refine memoStep (R := fun (a : Act) (w : World) => ∃ (A671 : Option Addr) (c672 : Nat) (A673 : Option Addr) (c674 : Nat), Fr 218 a [(0, .slice A0 x0.length c0), (1, .slice A1 x1.length c1), (5, .pointer (some ⟨b171, 0, none⟩)), (6, .int .i64 r52.2), (7, .pointer (some ⟨b190, 0, none⟩)), (9, .int .i64 s222.1), (12, .bool true), (77, .pointer (some ⟨b171, 0, none⟩)), (79, .int .i64 (rd x1 s222.1).I), (81, .agg #[.slice A252 (rd x1 s222.1).T.Shape.length c253, .slice A254 (rd x1 s222.1).T.Data.length c255]), (82, .int .i64 r347.2.2), (83, .pointer (some ⟨b190, 0, none⟩)), (84, .pointer (some ⟨b263, 1, none⟩)), (86, .pointer (some ⟨b263, 2, none⟩))] ∧ Mem [] M w0 [.bx b171 [.slice A671 r347.1.length c672, .slice A673 r347.2.1.length c674, .slice A233 s222.2.2.2.2.2.2.length c234] 72, .ow kTensor 29 A671 c672 r347.1, .ow (Kd.int .i64) 3 A673 c674 r347.2.1, .ow kTensor 29 A233 c234 s222.2.2.2.2.2.2, .bx b263 [.int .i64 (rd x1 s222.1).Do, .int .i64 (rd x1 s222.1).I, .slice A252 (rd x1 s222.1).T.Shape.length c253, .slice A254 (rd x1 s222.1).T.Data.length c255, .slice A256 (rd x1 s222.1).L.length c257] 62, .sl kTensor A256 c257 (rd x1 s222.1).L, .sl Kd.float A254 c255 (rd x1 s222.1).T.Data, .sl (Kd.int .i64) A252 c253 (rd x1 s222.1).T.Shape, .bx b190 [.slice A223 s222.2.1.length c224, .slice A225 s222.2.2.1.length c226, .slice A227 s222.2.2.2.1.length c228] 65, .ow kTensor 29 A223 c224 s222.2.1, .ow kTensor 29 A225 c226 s222.2.2.1, .ow (Kd.int .i64) 3 A227 c228 s222.2.2.2.1, .sl kTensor A0 c0 x0, .sl kDeed A1 c1 x1] w) (fb 14 767) 5 ?_ fun L791 => ?_
              · rintro a792 w793 ⟨A671, c672, A673, c674, hf794, hm795⟩
                refine all2 8 10 (by kernel_rfl) ?_ ?_
                · refine oo hf794 rfl (on [.int .i64 (rd x1 s222.1).I] (.int .i64 (rd x1 s222.1).I) 85 hf794 (oc (hm795.cell (j := 1) 4 rfl rfl) ot) fun a796 hf797 => ?_)
                  refine ⟨.inr (Gr.refl _ _), ?_⟩
                  refine a1 10 ?_
                  refine oo hf797 rfl (on [.agg #[.slice A252 (rd x1 s222.1).T.Shape.length c253, .slice A254 (rd x1 s222.1).T.Data.length c255]] (.agg #[.slice A252 (rd x1 s222.1).T.Shape.length c253, .slice A254 (rd x1 s222.1).T.Data.length c255]) 87 hf797 (oc (hm795.cell (j := 2) 4 rfl rfl) (oc (hm795.cell (j := 3) 4 rfl rfl) ot)) fun a798 hf799 => ?_)
                  refine ⟨.inr (Gr.refl _ _), ?_⟩
                  refine a1 11 ?_
                  refine oo hf799 rfl (cl 88 hf799 callable26 (ref19_Shelf_Set.calls _ _ _ (⟨s222.2.1, s222.2.2.1, s222.2.2.2.1⟩ : Shelf65) _ _ _ _ rfl _ _ _ rfl _ _ _ rfl (rd x1 s222.1).I _ _ _ _ rfl _ _ _ rfl (hm795.giveO [8, 9, 10, 11] [0, 1, 2, 3, 4, 5, 6, 7, 12, 13] [7, 6] [.bx b190 [.slice A223 s222.2.1.length c224, .slice A225 s222.2.2.1.length c226, .slice A227 s222.2.2.2.1.length c228] 65, .ow kTensor 29 A223 c224 s222.2.1, .ow kTensor 29 A225 c226 s222.2.2.1, .ow (Kd.int .i64) 3 A227 c228 s222.2.2.2.1] _ [.sl (Kd.int .i64) A252 c253 (rd x1 s222.1).T.Shape, .sl Kd.float A254 c255 (rd x1 s222.1).T.Data] rfl rfl rfl (by kernel_rfl) rfl) r348 hr348) ?_)
                  rintro _ w804 a805 ⟨A800, c801, A802, c803, rfl, hk807⟩ hf806
                  refine ⟨.inl (by decide), ?_⟩
                  have hm808 := hm795.backO [8, 9, 10, 11] [0, 1, 2, 3, 4, 5, 6, 7, 12, 13] _ _ rfl rfl (by kernel_rfl) hk807
                  refine qt [12, 13] [.bool false] (fb 14 16383) [(0, .slice A0 x0.length c0), (1, .slice A1 x1.length c1), (5, vp b171), (6, vi r52.2), (7, vp b190), (9, vi s222.1), (12, .bool false)] 0 hf806 (oi (eqF c349) ot) fun a809 hf810 => ?_
                  refine aD ⟨rfl, A800, c801, A802, c803, A671, c672, A673, c674, hf810.se [0, 1, 5, 6, 7, 9, 12], hm808.se [0, 1, 2, 3, 4, 5, 6, 7, 12, 13] _ rfl⟩
                · refine oo hf794 rfl (on [.agg #[.slice A252 (rd x1 s222.1).T.Shape.length c253, .slice A254 (rd x1 s222.1).T.Data.length c255]] (.agg #[.slice A252 (rd x1 s222.1).T.Shape.length c253, .slice A254 (rd x1 s222.1).T.Data.length c255]) 87 hf794 (oc (hm795.cell (j := 2) 4 rfl rfl) (oc (hm795.cell (j := 3) 4 rfl rfl) ot)) fun a811 hf812 => ?_)
                  refine ⟨.inr (Gr.refl _ _), ?_⟩
                  refine a1 8 ?_
                  refine oo hf812 rfl (on [.int .i64 (rd x1 s222.1).I] (.int .i64 (rd x1 s222.1).I) 85 hf812 (oc (hm795.cell (j := 1) 4 rfl rfl) ot) fun a813 hf814 => ?_)
                  refine ⟨.inr (Gr.refl _ _), ?_⟩
                  refine a1 11 ?_
                  refine oo hf814 rfl (cl 88 hf814 callable26 (ref19_Shelf_Set.calls _ _ _ (⟨s222.2.1, s222.2.2.1, s222.2.2.2.1⟩ : Shelf65) _ _ _ _ rfl _ _ _ rfl _ _ _ rfl (rd x1 s222.1).I _ _ _ _ rfl _ _ _ rfl (hm795.giveO [8, 9, 10, 11] [0, 1, 2, 3, 4, 5, 6, 7, 12, 13] [7, 6] [.bx b190 [.slice A223 s222.2.1.length c224, .slice A225 s222.2.2.1.length c226, .slice A227 s222.2.2.2.1.length c228] 65, .ow kTensor 29 A223 c224 s222.2.1, .ow kTensor 29 A225 c226 s222.2.2.1, .ow (Kd.int .i64) 3 A227 c228 s222.2.2.2.1] _ [.sl (Kd.int .i64) A252 c253 (rd x1 s222.1).T.Shape, .sl Kd.float A254 c255 (rd x1 s222.1).T.Data] rfl rfl rfl (by kernel_rfl) rfl) r348 hr348) ?_)
                  rintro _ w819 a820 ⟨A815, c816, A817, c818, rfl, hk822⟩ hf821
                  refine ⟨.inl (by decide), ?_⟩
                  have hm823 := hm795.backO [8, 9, 10, 11] [0, 1, 2, 3, 4, 5, 6, 7, 12, 13] _ _ rfl rfl (by kernel_rfl) hk822
                  refine qt [12, 13] [.bool false] (fb 14 16383) [(0, .slice A0 x0.length c0), (1, .slice A1 x1.length c1), (5, vp b171), (6, vi r52.2), (7, vp b190), (9, vi s222.1), (12, .bool false)] 0 hf821 (oi (eqF c349) ot) fun a824 hf825 => ?_
                  refine aD ⟨rfl, A815, c816, A817, c818, A671, c672, A673, c674, hf825.se [0, 1, 5, 6, 7, 9, 12], hm823.se [0, 1, 2, 3, 4, 5, 6, 7, 12, 13] _ rfl⟩
              refine memoStep (R := fun (a : Act) (w : World) => Fr 218 a [(0, .slice A0 x0.length c0), (1, .slice A1 x1.length c1), (5, .pointer (some ⟨b171, 0, none⟩)), (6, .int .i64 r52.2), (7, .pointer (some ⟨b190, 0, none⟩)), (9, .int .i64 s222.1), (12, .bool true), (77, .pointer (some ⟨b171, 0, none⟩)), (79, .int .i64 (rd x1 s222.1).I), (81, .agg #[.slice A252 (rd x1 s222.1).T.Shape.length c253, .slice A254 (rd x1 s222.1).T.Data.length c255]), (83, .pointer (some ⟨b190, 0, none⟩)), (84, .pointer (some ⟨b263, 1, none⟩)), (85, .int .i64 (rd x1 s222.1).I), (86, .pointer (some ⟨b263, 2, none⟩))] ∧ Mem [] M w0 [.bx b263 [.int .i64 (rd x1 s222.1).Do, .int .i64 (rd x1 s222.1).I, .slice A252 (rd x1 s222.1).T.Shape.length c253, .slice A254 (rd x1 s222.1).T.Data.length c255, .slice A256 (rd x1 s222.1).L.length c257] 62, .sl kTensor A256 c257 (rd x1 s222.1).L, .sl Kd.float A254 c255 (rd x1 s222.1).T.Data, .sl (Kd.int .i64) A252 c253 (rd x1 s222.1).T.Shape, .bx b190 [.slice A223 s222.2.1.length c224, .slice A225 s222.2.2.1.length c226, .slice A227 s222.2.2.2.1.length c228] 65, .ow kTensor 29 A223 c224 s222.2.1, .ow kTensor 29 A225 c226 s222.2.2.1, .ow (Kd.int .i64) 3 A227 c228 s222.2.2.2.1, .bx b171 [.slice A229 s222.2.2.2.2.1.length c230, .slice A231 s222.2.2.2.2.2.1.length c232, .slice A233 s222.2.2.2.2.2.2.length c234] 72, .ow kTensor 29 A229 c230 s222.2.2.2.2.1, .ow (Kd.int .i64) 3 A231 c232 s222.2.2.2.2.2.1, .ow kTensor 29 A233 c234 s222.2.2.2.2.2.2, .sl kTensor A0 c0 x0, .sl kDeed A1 c1 x1] w) (fb 14 991) 5 ?_ fun L826 => ?_
              · rintro a827 w828 ⟨hf829, hm830⟩
                refine all2 5 10 (by kernel_rfl) ?_ ?_
                · refine oo hf829 rfl (cl 82 hf829 callable19 (shelf_Shelf_Set.calls _ _ _ (⟨s222.2.2.2.2.1, s222.2.2.2.2.2.1, s222.2.2.2.2.2.2⟩ : Shelf) _ _ _ _ rfl _ _ _ rfl _ _ _ rfl (rd x1 s222.1).I _ _ _ _ rfl _ _ _ rfl (hm830.giveO [8, 9, 10, 11] [0, 1, 2, 3, 4, 5, 6, 7, 12, 13] [3, 2] [.bx b171 [.slice A229 s222.2.2.2.2.1.length c230, .slice A231 s222.2.2.2.2.2.1.length c232, .slice A233 s222.2.2.2.2.2.2.length c234] 72, .ow kTensor 29 A229 c230 s222.2.2.2.2.1, .ow (Kd.int .i64) 3 A231 c232 s222.2.2.2.2.2.1, .ow kTensor 29 A233 c234 s222.2.2.2.2.2.2] _ [.sl (Kd.int .i64) A252 c253 (rd x1 s222.1).T.Shape, .sl Kd.float A254 c255 (rd x1 s222.1).T.Data] rfl rfl rfl (by kernel_rfl) rfl) r347 hr347) ?_)
                  rintro _ w835 a836 ⟨A831, c832, A833, c834, rfl, hk838⟩ hf837
                  refine ⟨.inl (by decide), ?_⟩
                  have hm839 := hm830.backO [8, 9, 10, 11] [0, 1, 2, 3, 4, 5, 6, 7, 12, 13] _ _ rfl rfl (by kernel_rfl) hk838
                  refine a1 10 ?_
                  refine oo hf837 rfl (on [.agg #[.slice A252 (rd x1 s222.1).T.Shape.length c253, .slice A254 (rd x1 s222.1).T.Data.length c255]] (.agg #[.slice A252 (rd x1 s222.1).T.Shape.length c253, .slice A254 (rd x1 s222.1).T.Data.length c255]) 87 hf837 (oc (hm839.cell (j := 2) 4 rfl rfl) (oc (hm839.cell (j := 3) 4 rfl rfl) ot)) fun a840 hf841 => ?_)
                  refine ⟨.inr (Gr.refl _ _), ?_⟩
                  refine a1 11 ?_
                  refine oo hf841 rfl (cl 88 hf841 callable26 (ref19_Shelf_Set.calls _ _ _ (⟨s222.2.1, s222.2.2.1, s222.2.2.2.1⟩ : Shelf65) _ _ _ _ rfl _ _ _ rfl _ _ _ rfl (rd x1 s222.1).I _ _ _ _ rfl _ _ _ rfl (hm839.giveO [8, 9, 10, 11] [0, 1, 2, 3, 4, 5, 6, 7, 12, 13] [7, 6] [.bx b190 [.slice A223 s222.2.1.length c224, .slice A225 s222.2.2.1.length c226, .slice A227 s222.2.2.2.1.length c228] 65, .ow kTensor 29 A223 c224 s222.2.1, .ow kTensor 29 A225 c226 s222.2.2.1, .ow (Kd.int .i64) 3 A227 c228 s222.2.2.2.1] _ [.sl (Kd.int .i64) A252 c253 (rd x1 s222.1).T.Shape, .sl Kd.float A254 c255 (rd x1 s222.1).T.Data] rfl rfl rfl (by kernel_rfl) rfl) r348 hr348) ?_)
                  rintro _ w846 a847 ⟨A842, c843, A844, c845, rfl, hk849⟩ hf848
                  refine ⟨.inl (by decide), ?_⟩
                  have hm850 := hm839.backO [8, 9, 10, 11] [0, 1, 2, 3, 4, 5, 6, 7, 12, 13] _ _ rfl rfl (by kernel_rfl) hk849
                  refine qt [12, 13] [.bool false] (fb 14 16383) [(0, .slice A0 x0.length c0), (1, .slice A1 x1.length c1), (5, vp b171), (6, vi r52.2), (7, vp b190), (9, vi s222.1), (12, .bool false)] 0 hf848 (oi (eqF c349) ot) fun a851 hf852 => ?_
                  refine aD ⟨rfl, A842, c843, A844, c845, A831, c832, A833, c834, hf852.se [0, 1, 5, 6, 7, 9, 12], hm850.se [0, 1, 2, 3, 4, 5, 6, 7, 12, 13] _ rfl⟩
                · refine oo hf829 rfl (on [.agg #[.slice A252 (rd x1 s222.1).T.Shape.length c253, .slice A254 (rd x1 s222.1).T.Data.length c255]] (.agg #[.slice A252 (rd x1 s222.1).T.Shape.length c253, .slice A254 (rd x1 s222.1).T.Data.length c255]) 87 hf829 (oc (hm830.cell (j := 2) 0 rfl rfl) (oc (hm830.cell (j := 3) 0 rfl rfl) ot)) fun a853 hf854 => ?_)
                  refine ⟨.inr (Gr.refl _ _), ?_⟩
                  refine a1 5 ?_
                  refine oo hf854 rfl (cl 82 hf854 callable19 (shelf_Shelf_Set.calls _ _ _ (⟨s222.2.2.2.2.1, s222.2.2.2.2.2.1, s222.2.2.2.2.2.2⟩ : Shelf) _ _ _ _ rfl _ _ _ rfl _ _ _ rfl (rd x1 s222.1).I _ _ _ _ rfl _ _ _ rfl (hm830.giveO [8, 9, 10, 11] [0, 1, 2, 3, 4, 5, 6, 7, 12, 13] [3, 2] [.bx b171 [.slice A229 s222.2.2.2.2.1.length c230, .slice A231 s222.2.2.2.2.2.1.length c232, .slice A233 s222.2.2.2.2.2.2.length c234] 72, .ow kTensor 29 A229 c230 s222.2.2.2.2.1, .ow (Kd.int .i64) 3 A231 c232 s222.2.2.2.2.2.1, .ow kTensor 29 A233 c234 s222.2.2.2.2.2.2] _ [.sl (Kd.int .i64) A252 c253 (rd x1 s222.1).T.Shape, .sl Kd.float A254 c255 (rd x1 s222.1).T.Data] rfl rfl rfl (by kernel_rfl) rfl) r347 hr347) ?_)
                  rintro _ w859 a860 ⟨A855, c856, A857, c858, rfl, hk862⟩ hf861
                  refine ⟨.inl (by decide), ?_⟩
                  have hm863 := hm830.backO [8, 9, 10, 11] [0, 1, 2, 3, 4, 5, 6, 7, 12, 13] _ _ rfl rfl (by kernel_rfl) hk862
                  refine a1 11 ?_
                  refine oo hf861 rfl (cl 88 hf861 callable26 (ref19_Shelf_Set.calls _ _ _ (⟨s222.2.1, s222.2.2.1, s222.2.2.2.1⟩ : Shelf65) _ _ _ _ rfl _ _ _ rfl _ _ _ rfl (rd x1 s222.1).I _ _ _ _ rfl _ _ _ rfl (hm863.giveO [8, 9, 10, 11] [0, 1, 2, 3, 4, 5, 6, 7, 12, 13] [7, 6] [.bx b190 [.slice A223 s222.2.1.length c224, .slice A225 s222.2.2.1.length c226, .slice A227 s222.2.2.2.1.length c228] 65, .ow kTensor 29 A223 c224 s222.2.1, .ow kTensor 29 A225 c226 s222.2.2.1, .ow (Kd.int .i64) 3 A227 c228 s222.2.2.2.1] _ [.sl (Kd.int .i64) A252 c253 (rd x1 s222.1).T.Shape, .sl Kd.float A254 c255 (rd x1 s222.1).T.Data] rfl rfl rfl (by kernel_rfl) rfl) r348 hr348) ?_)
                  rintro _ w868 a869 ⟨A864, c865, A866, c867, rfl, hk871⟩ hf870
                  refine ⟨.inl (by decide), ?_⟩
                  have hm872 := hm863.backO [8, 9, 10, 11] [0, 1, 2, 3, 4, 5, 6, 7, 12, 13] _ _ rfl rfl (by kernel_rfl) hk871
                  refine qt [12, 13] [.bool false] (fb 14 16383) [(0, .slice A0 x0.length c0), (1, .slice A1 x1.length c1), (5, vp b171), (6, vi r52.2), (7, vp b190), (9, vi s222.1), (12, .bool false)] 0 hf870 (oi (eqF c349) ot) fun a873 hf874 => ?_
                  refine aD ⟨rfl, A864, c865, A866, c867, A855, c856, A857, c858, hf874.se [0, 1, 5, 6, 7, 9, 12], hm872.se [0, 1, 2, 3, 4, 5, 6, 7, 12, 13] _ rfl⟩
              refine memoStep (R := fun (a : Act) (w : World) => Fr 218 a [(0, .slice A0 x0.length c0), (1, .slice A1 x1.length c1), (5, .pointer (some ⟨b171, 0, none⟩)), (6, .int .i64 r52.2), (7, .pointer (some ⟨b190, 0, none⟩)), (9, .int .i64 s222.1), (12, .bool true), (77, .pointer (some ⟨b171, 0, none⟩)), (79, .int .i64 (rd x1 s222.1).I), (81, .agg #[.slice A252 (rd x1 s222.1).T.Shape.length c253, .slice A254 (rd x1 s222.1).T.Data.length c255]), (83, .pointer (some ⟨b190, 0, none⟩)), (84, .pointer (some ⟨b263, 1, none⟩)), (86, .pointer (some ⟨b263, 2, none⟩)), (87, .agg #[.slice A252 (rd x1 s222.1).T.Shape.length c253, .slice A254 (rd x1 s222.1).T.Data.length c255])] ∧ Mem [] M w0 [.bx b263 [.int .i64 (rd x1 s222.1).Do, .int .i64 (rd x1 s222.1).I, .slice A252 (rd x1 s222.1).T.Shape.length c253, .slice A254 (rd x1 s222.1).T.Data.length c255, .slice A256 (rd x1 s222.1).L.length c257] 62, .sl kTensor A256 c257 (rd x1 s222.1).L, .sl Kd.float A254 c255 (rd x1 s222.1).T.Data, .sl (Kd.int .i64) A252 c253 (rd x1 s222.1).T.Shape, .bx b190 [.slice A223 s222.2.1.length c224, .slice A225 s222.2.2.1.length c226, .slice A227 s222.2.2.2.1.length c228] 65, .ow kTensor 29 A223 c224 s222.2.1, .ow kTensor 29 A225 c226 s222.2.2.1, .ow (Kd.int .i64) 3 A227 c228 s222.2.2.2.1, .bx b171 [.slice A229 s222.2.2.2.2.1.length c230, .slice A231 s222.2.2.2.2.2.1.length c232, .slice A233 s222.2.2.2.2.2.2.length c234] 72, .ow kTensor 29 A229 c230 s222.2.2.2.2.1, .ow (Kd.int .i64) 3 A231 c232 s222.2.2.2.2.2.1, .ow kTensor 29 A233 c234 s222.2.2.2.2.2.2, .sl kTensor A0 c0 x0, .sl kDeed A1 c1 x1] w) (fb 14 1759) 5 ?_ fun L875 => ?_
              · rintro a876 w877 ⟨hf878, hm879⟩
                refine all2 5 8 (by kernel_rfl) ?_ ?_
                · refine oo hf878 rfl (cl 82 hf878 callable19 (shelf_Shelf_Set.calls _ _ _ (⟨s222.2.2.2.2.1, s222.2.2.2.2.2.1, s222.2.2.2.2.2.2⟩ : Shelf) _ _ _ _ rfl _ _ _ rfl _ _ _ rfl (rd x1 s222.1).I _ _ _ _ rfl _ _ _ rfl (hm879.giveO [8, 9, 10, 11] [0, 1, 2, 3, 4, 5, 6, 7, 12, 13] [3, 2] [.bx b171 [.slice A229 s222.2.2.2.2.1.length c230, .slice A231 s222.2.2.2.2.2.1.length c232, .slice A233 s222.2.2.2.2.2.2.length c234] 72, .ow kTensor 29 A229 c230 s222.2.2.2.2.1, .ow (Kd.int .i64) 3 A231 c232 s222.2.2.2.2.2.1, .ow kTensor 29 A233 c234 s222.2.2.2.2.2.2] _ [.sl (Kd.int .i64) A252 c253 (rd x1 s222.1).T.Shape, .sl Kd.float A254 c255 (rd x1 s222.1).T.Data] rfl rfl rfl (by kernel_rfl) rfl) r347 hr347) ?_)
                  rintro _ w884 a885 ⟨A880, c881, A882, c883, rfl, hk887⟩ hf886
                  refine ⟨.inl (by decide), ?_⟩
                  have hm888 := hm879.backO [8, 9, 10, 11] [0, 1, 2, 3, 4, 5, 6, 7, 12, 13] _ _ rfl rfl (by kernel_rfl) hk887
                  refine a1 8 ?_
                  refine oo hf886 rfl (on [.int .i64 (rd x1 s222.1).I] (.int .i64 (rd x1 s222.1).I) 85 hf886 (oc (hm888.cell (j := 1) 4 rfl rfl) ot) fun a889 hf890 => ?_)
                  refine ⟨.inr (Gr.refl _ _), ?_⟩
                  refine a1 11 ?_
                  refine oo hf890 rfl (cl 88 hf890 callable26 (ref19_Shelf_Set.calls _ _ _ (⟨s222.2.1, s222.2.2.1, s222.2.2.2.1⟩ : Shelf65) _ _ _ _ rfl _ _ _ rfl _ _ _ rfl (rd x1 s222.1).I _ _ _ _ rfl _ _ _ rfl (hm888.giveO [8, 9, 10, 11] [0, 1, 2, 3, 4, 5, 6, 7, 12, 13] [7, 6] [.bx b190 [.slice A223 s222.2.1.length c224, .slice A225 s222.2.2.1.length c226, .slice A227 s222.2.2.2.1.length c228] 65, .ow kTensor 29 A223 c224 s222.2.1, .ow kTensor 29 A225 c226 s222.2.2.1, .ow (Kd.int .i64) 3 A227 c228 s222.2.2.2.1] _ [.sl (Kd.int .i64) A252 c253 (rd x1 s222.1).T.Shape, .sl Kd.float A254 c255 (rd x1 s222.1).T.Data] rfl rfl rfl (by kernel_rfl) rfl) r348 hr348) ?_)
                  rintro _ w895 a896 ⟨A891, c892, A893, c894, rfl, hk898⟩ hf897
                  refine ⟨.inl (by decide), ?_⟩
                  have hm899 := hm888.backO [8, 9, 10, 11] [0, 1, 2, 3, 4, 5, 6, 7, 12, 13] _ _ rfl rfl (by kernel_rfl) hk898
                  refine qt [12, 13] [.bool false] (fb 14 16383) [(0, .slice A0 x0.length c0), (1, .slice A1 x1.length c1), (5, vp b171), (6, vi r52.2), (7, vp b190), (9, vi s222.1), (12, .bool false)] 0 hf897 (oi (eqF c349) ot) fun a900 hf901 => ?_
                  refine aD ⟨rfl, A891, c892, A893, c894, A880, c881, A882, c883, hf901.se [0, 1, 5, 6, 7, 9, 12], hm899.se [0, 1, 2, 3, 4, 5, 6, 7, 12, 13] _ rfl⟩
                · refine oo hf878 rfl (on [.int .i64 (rd x1 s222.1).I] (.int .i64 (rd x1 s222.1).I) 85 hf878 (oc (hm879.cell (j := 1) 0 rfl rfl) ot) fun a902 hf903 => ?_)
                  refine ⟨.inr (Gr.refl _ _), ?_⟩
                  refine a1 5 ?_
                  refine oo hf903 rfl (cl 82 hf903 callable19 (shelf_Shelf_Set.calls _ _ _ (⟨s222.2.2.2.2.1, s222.2.2.2.2.2.1, s222.2.2.2.2.2.2⟩ : Shelf) _ _ _ _ rfl _ _ _ rfl _ _ _ rfl (rd x1 s222.1).I _ _ _ _ rfl _ _ _ rfl (hm879.giveO [8, 9, 10, 11] [0, 1, 2, 3, 4, 5, 6, 7, 12, 13] [3, 2] [.bx b171 [.slice A229 s222.2.2.2.2.1.length c230, .slice A231 s222.2.2.2.2.2.1.length c232, .slice A233 s222.2.2.2.2.2.2.length c234] 72, .ow kTensor 29 A229 c230 s222.2.2.2.2.1, .ow (Kd.int .i64) 3 A231 c232 s222.2.2.2.2.2.1, .ow kTensor 29 A233 c234 s222.2.2.2.2.2.2] _ [.sl (Kd.int .i64) A252 c253 (rd x1 s222.1).T.Shape, .sl Kd.float A254 c255 (rd x1 s222.1).T.Data] rfl rfl rfl (by kernel_rfl) rfl) r347 hr347) ?_)
                  rintro _ w908 a909 ⟨A904, c905, A906, c907, rfl, hk911⟩ hf910
                  refine ⟨.inl (by decide), ?_⟩
                  have hm912 := hm879.backO [8, 9, 10, 11] [0, 1, 2, 3, 4, 5, 6, 7, 12, 13] _ _ rfl rfl (by kernel_rfl) hk911
                  refine a1 11 ?_
                  refine oo hf910 rfl (cl 88 hf910 callable26 (ref19_Shelf_Set.calls _ _ _ (⟨s222.2.1, s222.2.2.1, s222.2.2.2.1⟩ : Shelf65) _ _ _ _ rfl _ _ _ rfl _ _ _ rfl (rd x1 s222.1).I _ _ _ _ rfl _ _ _ rfl (hm912.giveO [8, 9, 10, 11] [0, 1, 2, 3, 4, 5, 6, 7, 12, 13] [7, 6] [.bx b190 [.slice A223 s222.2.1.length c224, .slice A225 s222.2.2.1.length c226, .slice A227 s222.2.2.2.1.length c228] 65, .ow kTensor 29 A223 c224 s222.2.1, .ow kTensor 29 A225 c226 s222.2.2.1, .ow (Kd.int .i64) 3 A227 c228 s222.2.2.2.1] _ [.sl (Kd.int .i64) A252 c253 (rd x1 s222.1).T.Shape, .sl Kd.float A254 c255 (rd x1 s222.1).T.Data] rfl rfl rfl (by kernel_rfl) rfl) r348 hr348) ?_)
                  rintro _ w917 a918 ⟨A913, c914, A915, c916, rfl, hk920⟩ hf919
                  refine ⟨.inl (by decide), ?_⟩
                  have hm921 := hm912.backO [8, 9, 10, 11] [0, 1, 2, 3, 4, 5, 6, 7, 12, 13] _ _ rfl rfl (by kernel_rfl) hk920
                  refine qt [12, 13] [.bool false] (fb 14 16383) [(0, .slice A0 x0.length c0), (1, .slice A1 x1.length c1), (5, vp b171), (6, vi r52.2), (7, vp b190), (9, vi s222.1), (12, .bool false)] 0 hf919 (oi (eqF c349) ot) fun a922 hf923 => ?_
                  refine aD ⟨rfl, A913, c914, A915, c916, A904, c905, A906, c907, hf923.se [0, 1, 5, 6, 7, 9, 12], hm921.se [0, 1, 2, 3, 4, 5, 6, 7, 12, 13] _ rfl⟩
              refine memoStep (R := fun (a : Act) (w : World) => Fr 218 a [(0, .slice A0 x0.length c0), (1, .slice A1 x1.length c1), (5, .pointer (some ⟨b171, 0, none⟩)), (6, .int .i64 r52.2), (7, .pointer (some ⟨b190, 0, none⟩)), (9, .int .i64 s222.1), (12, .bool true), (77, .pointer (some ⟨b171, 0, none⟩)), (79, .int .i64 (rd x1 s222.1).I), (81, .agg #[.slice A252 (rd x1 s222.1).T.Shape.length c253, .slice A254 (rd x1 s222.1).T.Data.length c255]), (83, .pointer (some ⟨b190, 0, none⟩)), (84, .pointer (some ⟨b263, 1, none⟩)), (86, .pointer (some ⟨b263, 2, none⟩))] ∧ Mem [] M w0 [.bx b263 [.int .i64 (rd x1 s222.1).Do, .int .i64 (rd x1 s222.1).I, .slice A252 (rd x1 s222.1).T.Shape.length c253, .slice A254 (rd x1 s222.1).T.Data.length c255, .slice A256 (rd x1 s222.1).L.length c257] 62, .sl kTensor A256 c257 (rd x1 s222.1).L, .sl Kd.float A254 c255 (rd x1 s222.1).T.Data, .sl (Kd.int .i64) A252 c253 (rd x1 s222.1).T.Shape, .bx b190 [.slice A223 s222.2.1.length c224, .slice A225 s222.2.2.1.length c226, .slice A227 s222.2.2.2.1.length c228] 65, .ow kTensor 29 A223 c224 s222.2.1, .ow kTensor 29 A225 c226 s222.2.2.1, .ow (Kd.int .i64) 3 A227 c228 s222.2.2.2.1, .bx b171 [.slice A229 s222.2.2.2.2.1.length c230, .slice A231 s222.2.2.2.2.2.1.length c232, .slice A233 s222.2.2.2.2.2.2.length c234] 72, .ow kTensor 29 A229 c230 s222.2.2.2.2.1, .ow (Kd.int .i64) 3 A231 c232 s222.2.2.2.2.2.1, .ow kTensor 29 A233 c234 s222.2.2.2.2.2.2, .sl kTensor A0 c0 x0, .sl kDeed A1 c1 x1] w) (fb 14 735) 6 ?_ fun L924 => ?_
              · rintro a925 w926 ⟨hf927, hm928⟩
                refine all3 5 8 10 (by kernel_rfl) ?_ ?_ ?_
                · refine oo hf927 rfl (cl 82 hf927 callable19 (shelf_Shelf_Set.calls _ _ _ (⟨s222.2.2.2.2.1, s222.2.2.2.2.2.1, s222.2.2.2.2.2.2⟩ : Shelf) _ _ _ _ rfl _ _ _ rfl _ _ _ rfl (rd x1 s222.1).I _ _ _ _ rfl _ _ _ rfl (hm928.giveO [8, 9, 10, 11] [0, 1, 2, 3, 4, 5, 6, 7, 12, 13] [3, 2] [.bx b171 [.slice A229 s222.2.2.2.2.1.length c230, .slice A231 s222.2.2.2.2.2.1.length c232, .slice A233 s222.2.2.2.2.2.2.length c234] 72, .ow kTensor 29 A229 c230 s222.2.2.2.2.1, .ow (Kd.int .i64) 3 A231 c232 s222.2.2.2.2.2.1, .ow kTensor 29 A233 c234 s222.2.2.2.2.2.2] _ [.sl (Kd.int .i64) A252 c253 (rd x1 s222.1).T.Shape, .sl Kd.float A254 c255 (rd x1 s222.1).T.Data] rfl rfl rfl (by kernel_rfl) rfl) r347 hr347) ?_)
                  rintro _ w933 a934 ⟨A929, c930, A931, c932, rfl, hk936⟩ hf935
                  refine ⟨.inl (by decide), ?_⟩
                  have hm937 := hm928.backO [8, 9, 10, 11] [0, 1, 2, 3, 4, 5, 6, 7, 12, 13] _ _ rfl rfl (by kernel_rfl) hk936
                  exact ms L791 ⟨A929, c930, A931, c932, hf935.se [0, 1, 5, 6, 7, 9, 12, 77, 79, 81, 82, 83, 84, 86], hm937.se [0, 1, 2, 3, 4, 5, 6, 7, 8, 9, 10, 11, 12, 13] _ rfl⟩
                · refine oo hf927 rfl (on [.int .i64 (rd x1 s222.1).I] (.int .i64 (rd x1 s222.1).I) 85 hf927 (oc (hm928.cell (j := 1) 0 rfl rfl) ot) fun a938 hf939 => ?_)
                  refine ⟨.inr (Gr.refl _ _), ?_⟩
                  exact ms L826 ⟨hf939.se [0, 1, 5, 6, 7, 9, 12, 77, 79, 81, 83, 84, 85, 86], hm928.se [0, 1, 2, 3, 4, 5, 6, 7, 8, 9, 10, 11, 12, 13] _ rfl⟩
                · refine oo hf927 rfl (on [.agg #[.slice A252 (rd x1 s222.1).T.Shape.length c253, .slice A254 (rd x1 s222.1).T.Data.length c255]] (.agg #[.slice A252 (rd x1 s222.1).T.Shape.length c253, .slice A254 (rd x1 s222.1).T.Data.length c255]) 87 hf927 (oc (hm928.cell (j := 2) 0 rfl rfl) (oc (hm928.cell (j := 3) 0 rfl rfl) ot)) fun a940 hf941 => ?_)
                  refine ⟨.inr (Gr.refl _ _), ?_⟩
                  exact ms L875 ⟨hf941.se [0, 1, 5, 6, 7, 9, 12, 77, 79, 81, 83, 84, 86, 87], hm928.se [0, 1, 2, 3, 4, 5, 6, 7, 8, 9, 10, 11, 12, 13] _ rfl⟩
              refine qt [0, 1, 2, 3, 4, 6, 7, 9] [.int .i64 (rd x1 s222.1).I, .agg #[.slice A252 (rd x1 s222.1).T.Shape.length c253, .slice A254 (rd x1 s222.1).T.Data.length c255]] (fb 14 735) [(0, .slice A0 x0.length c0), (1, .slice A1 x1.length c1), (5, vp b171), (6, vi r52.2), (7, vp b190), (9, vi s222.1), (12, .bool true), (77, vp b171), (79, vi (rd x1 s222.1).I), (81, .agg #[.slice A252 (rd x1 s222.1).T.Shape.length c253, .slice A254 (rd x1 s222.1).T.Data.length c255]), (83, vp b190), (84, .pointer (some ⟨b263, 1, none⟩)), (86, .pointer (some ⟨b263, 2, none⟩))] 6 hf344 (oc (hm668.cell (j := 1) 0 rfl rfl) (oc (hm668.cell (j := 2) 0 rfl rfl) (oc (hm668.cell (j := 3) 0 rfl rfl) ot))) fun a942 hf943 => ?_
              exact ms L924 ⟨hf943.se [0, 1, 5, 6, 7, 9, 12, 77, 79, 81, 83, 84, 86], hm668.se [0, 1, 2, 3, 4, 5, 6, 7, 8, 9, 10, 11, 12, 13] _ rfl⟩
            rintro a944 w945 ⟨A657, c658, A659, c660, A649, c650, A651, c652, hf946, hm947⟩
            refine blkN ?_
            obtain rfl := Option.some.inj H2
            exact J335 _ _ ⟨A657, c658, A225, c226, A659, c660, A649, c650, A651, c652, A233, c234, hf946.se [0, 1, 5, 6, 7, 9, 12], hm947.se [0, 1, 2, 3, 4, 5, 6, 7, 8, 9] _ rfl⟩
          rw [c346] at hf344
          refine cF hf344 ?_
          refine wp_seq ?_
          obtain ⟨r948, H3, H2⟩ := ob_split H2
          refine wpJoin (Mid := fun (a : Act) (w : World) => Fr 218 a [(0, .slice A0 x0.length c0), (1, .slice A1 x1.length c1), (5, .pointer (some ⟨b171, 0, none⟩)), (6, .int .i64 r52.2), (7, .pointer (some ⟨b190, 0, none⟩)), (9, .int .i64 s222.1), (10, .pointer (some ⟨b263, 0, none⟩)), (11, .bool r274), (12, .bool true), (73, .int .i64 (rd x1 s222.1).Do), (90, .bool r948)] ∧ Mem [] M w0 [.bx b263 [.int .i64 (rd x1 s222.1).Do, .int .i64 (rd x1 s222.1).I, .slice A252 (rd x1 s222.1).T.Shape.length c253, .slice A254 (rd x1 s222.1).T.Data.length c255, .slice A256 (rd x1 s222.1).L.length c257] 62, .sl kTensor A256 c257 (rd x1 s222.1).L, .sl Kd.float A254 c255 (rd x1 s222.1).T.Data, .sl (Kd.int .i64) A252 c253 (rd x1 s222.1).T.Shape, .bx b190 [.slice A223 s222.2.1.length c224, .slice A225 s222.2.2.1.length c226, .slice A227 s222.2.2.2.1.length c228] 65, .ow kTensor 29 A223 c224 s222.2.1, .ow kTensor 29 A225 c226 s222.2.2.1, .ow (Kd.int .i64) 3 A227 c228 s222.2.2.2.1, .bx b171 [.slice A229 s222.2.2.2.2.1.length c230, .slice A231 s222.2.2.2.2.2.1.length c232, .slice A233 s222.2.2.2.2.2.2.length c234] 72, .ow kTensor 29 A229 c230 s222.2.2.2.2.1, .ow (Kd.int .i64) 3 A231 c232 s222.2.2.2.2.2.1, .ow kTensor 29 A233 c234 s222.2.2.2.2.2.2, .sl kTensor A0 c0 x0, .sl kDeed A1 c1 x1] w) ?_ ?_
          · intro J1762
            rcases if_split H3 with ⟨c1763, H3⟩ | ⟨c1763, H3⟩
            · refine rg [.bool true] [(0, .slice A0 x0.length c0), (1, .slice A1 x1.length c1), (5, vp b171), (6, vi r52.2), (7, vp b190), (9, vi s222.1), (10, vp b263), (11, .bool r274), (12, .bool true), (73, vi (rd x1 s222.1).Do), (90, .bool true)] hf344 (oi (eqT c1763) ot) fun a1764 hf1765 => ?_
              obtain rfl := Option.some.inj H3
              exact J1762 _ _ ⟨hf1765.se [0, 1, 5, 6, 7, 9, 10, 11, 12, 73, 90], hm345.se [0, 1, 2, 3, 4, 5, 6, 7, 8, 9, 10, 11, 12, 13] _ rfl⟩
            refine rg [.bool false] [(0, .slice A0 x0.length c0), (1, .slice A1 x1.length c1), (5, vp b171), (6, vi r52.2), (7, vp b190), (9, vi s222.1), (10, vp b263), (11, .bool r274), (12, .bool true), (73, vi (rd x1 s222.1).Do), (90, .bool false)] hf344 (oi (eqF c1763) ot) fun a1766 hf1767 => ?_
            obtain rfl := Option.some.inj H3
            exact J1762 _ _ ⟨hf1767.se [0, 1, 5, 6, 7, 9, 10, 11, 12, 73, 90], hm345.se [0, 1, 2, 3, 4, 5, 6, 7, 8, 9, 10, 11, 12, 13] _ rfl⟩
          rintro a949 w950 ⟨hf951, hm952⟩
          refine thenN ?_
          rcases ifb_split H2 with ⟨c953, H2⟩ | ⟨c953, H2⟩
          · rw [c953] at hf951
            refine cT hf951 ?_
            refine wp_seq ?_
            obtain ⟨r954, hr954, H2⟩ := ob_split H2
            refine inReg ?_
            refine gg 3 [.int .i64 (rd x1 s222.1).I] [(0, .slice A0 x0.length c0), (1, .slice A1 x1.length c1), (5, vp b171), (6, vi r52.2), (7, vp b190), (9, vi s222.1), (10, vp b263), (11, .bool r274), (93, vp b171), (95, vi (rd x1 s222.1).I)] hf951 (oc (hm952.cell (j := 1) 0 rfl rfl) ot) fun a955 hf956 => ?_
            refine lo hf956 rfl (cl 96 hf956 callable14 (shelf_Shelf_Get.calls _ _ _ (⟨s222.2.2.2.2.1, s222.2.2.2.2.2.1, s222.2.2.2.2.2.2⟩ : Shelf) _ _ _ _ rfl _ _ _ rfl _ _ _ rfl (rd x1 s222.1).I (hm952.giveO [8, 9, 10, 11] [0, 1, 2, 3, 4, 5, 6, 7, 12, 13] [] [.bx b171 [.slice A229 s222.2.2.2.2.1.length c230, .slice A231 s222.2.2.2.2.2.1.length c232, .slice A233 s222.2.2.2.2.2.2.length c234] 72, .ow kTensor 29 A229 c230 s222.2.2.2.2.1, .ow (Kd.int .i64) 3 A231 c232 s222.2.2.2.2.2.1, .ow kTensor 29 A233 c234 s222.2.2.2.2.2.2] _ [] rfl rfl rfl (by kernel_rfl) rfl) r954 hr954) ?_)
            rintro _ w961 a962 ⟨A957, c958, A959, c960, rfl, hk964⟩ hf963
            have hm965 := hm952.backO [8, 9, 10, 11] [0, 1, 2, 3, 4, 5, 6, 7, 12, 13] _ _ rfl rfl (by kernel_rfl) hk964
            have hm966 := hm965.seal 4 _ rfl rfl
            have hm967 := hm966.seal 5 _ rfl rfl
            refine gg 4 [] [(0, .slice A0 x0.length c0), (1, .slice A1 x1.length c1), (5, vp b171), (6, vi r52.2), (7, vp b190), (9, vi s222.1), (10, vp b263), (11, .bool r274), (97, .agg #[.slice A957 r954.1.Shape.length c958, .slice A959 r954.1.Data.length c960]), (98, vi r954.2.1), (99, vi r954.2.2)] hf963 ot fun a968 hf969 => ?_
            refine lo hf969 rfl (nw (cs := [.slice none 0 0, .slice none 0 0]) (T := 29) (d := 13) hf969 ?_)
            intro b970 w971 a972 hbb970 hx974 hg975 hf973
            have hm976 := hm967.box hbb970 hx974 hg975
            refine lo hf973 rfl (sb (j := 0) (us := [.slice A957 r954.1.Shape.length c958, .slice A959 r954.1.Data.length c960]) (cs' := [.slice A957 r954.1.Shape.length c958, .slice A959 r954.1.Data.length c960]) hf973 (hm976.bxAt 0 rfl) ?_)
            intro w977 hx978 hg979
            have hm980 := hm976.setBox 0 _ rfl rfl hx978 hg979
            refine gg 2 [] [(0, .slice A0 x0.length c0), (1, .slice A1 x1.length c1), (5, vp b171), (6, vi r52.2), (7, vp b190), (9, vi s222.1), (10, vp b263), (11, .bool r274), (13, vp b970), (14, vi r954.2.1), (15, vi r954.2.2)] hf973 ot fun a981 hf982 => ?_
            refine endL rfl ?_
            refine thenN ?_
            rcases ifb_split H2 with ⟨c983, H2⟩ | ⟨c983, H2⟩
            rotate_left
            · rw [c983] at hf982
              rcases if_split H2 with ⟨c1131, H2⟩ | ⟨c1131, H2⟩
              rotate_left
              · refine rq [.bool false] [(0, .slice A0 x0.length c0), (1, .slice A1 x1.length c1), (5, vp b171), (6, vi r52.2), (7, vp b190), (9, vi s222.1), (12, .bool false)] hf982 (oi (eqF c1131) ot) fun a1152 w1154 hf1153 hg1155 => ?_
                have hm1156 := hm980.still hg1155
                have hm1157 := hm1156.se [1, 2, 3, 4, 11, 12, 13, 14, 15, 16] _ rfl
                refine blkN ?_
                obtain rfl := Option.some.inj H2
                exact J335 _ _ ⟨A223, c224, A225, c226, A227, c228, A229, c230, A231, c232, A233, c234, hf1153.se [0, 1, 5, 6, 7, 9, 12], hm1157.se [4, 5, 6, 7, 0, 1, 2, 3, 8, 9] _ rfl⟩
              rcases if_split H2 with ⟨c1132, H2⟩ | ⟨c1132, H2⟩
              rotate_left
              · refine rq [.bool true, .bool false] [(0, .slice A0 x0.length c0), (1, .slice A1 x1.length c1), (5, vp b171), (6, vi r52.2), (7, vp b190), (9, vi s222.1), (12, .bool false)] hf982 (oi (eqT c1131) (oi (eqF c1132) ot)) fun a1146 w1148 hf1147 hg1149 => ?_
                have hm1150 := hm980.still hg1149
                have hm1151 := hm1150.se [1, 2, 3, 4, 11, 12, 13, 14, 15, 16] _ rfl
                refine blkN ?_
                obtain rfl := Option.some.inj H2
                exact J335 _ _ ⟨A223, c224, A225, c226, A227, c228, A229, c230, A231, c232, A233, c234, hf1147.se [0, 1, 5, 6, 7, 9, 12], hm1151.se [4, 5, 6, 7, 0, 1, 2, 3, 8, 9] _ rfl⟩
              rcases if_split H2 with ⟨c1133, H2⟩ | ⟨c1133, H2⟩
              · refine rq [.bool true, .bool true, .slice A959 r954.1.Data.length c960, .bool true] [(0, .slice A0 x0.length c0), (1, .slice A1 x1.length c1), (5, vp b171), (6, vi r52.2), (7, vp b190), (9, vi s222.1), (12, .bool true)] hf982 (oi (eqT c1131) (oi (eqT c1132) (oc (hm980.cell (j := 1) 0 rfl rfl) (oi (eqT c1133) ot)))) fun a1134 w1136 hf1135 hg1137 => ?_
                have hm1138 := hm980.still hg1137
                have hm1139 := hm1138.se [1, 2, 3, 4, 11, 12, 13, 14, 15, 16] _ rfl
                refine blkN ?_
                obtain rfl := Option.some.inj H2
                exact J335 _ _ ⟨A223, c224, A225, c226, A227, c228, A229, c230, A231, c232, A233, c234, hf1135.se [0, 1, 5, 6, 7, 9, 12], hm1139.se [4, 5, 6, 7, 0, 1, 2, 3, 8, 9] _ rfl⟩
              refine rq [.bool true, .bool true, .slice A959 r954.1.Data.length c960, .bool false] [(0, .slice A0 x0.length c0), (1, .slice A1 x1.length c1), (5, vp b171), (6, vi r52.2), (7, vp b190), (9, vi s222.1), (12, .bool false)] hf982 (oi (eqT c1131) (oi (eqT c1132) (oc (hm980.cell (j := 1) 0 rfl rfl) (oi (eqF c1133) ot)))) fun a1140 w1142 hf1141 hg1143 => ?_
              have hm1144 := hm980.still hg1143
              have hm1145 := hm1144.se [1, 2, 3, 4, 11, 12, 13, 14, 15, 16] _ rfl
              refine blkN ?_
              obtain rfl := Option.some.inj H2
              exact J335 _ _ ⟨A223, c224, A225, c226, A227, c228, A229, c230, A231, c232, A233, c234, hf1141.se [0, 1, 5, 6, 7, 9, 12], hm1145.se [4, 5, 6, 7, 0, 1, 2, 3, 8, 9] _ rfl⟩
            rw [c983] at hf982
            rcases if_split H2 with ⟨c984, H2⟩ | ⟨c984, H2⟩
            rotate_left
            · refine rq [.bool false] [(0, .slice A0 x0.length c0), (1, .slice A1 x1.length c1), (5, vp b171), (6, vi r52.2), (7, vp b190), (9, vi s222.1), (12, .bool false)] hf982 (oi (eqF c984) ot) fun a1125 w1127 hf1126 hg1128 => ?_
              have hm1129 := hm980.still hg1128
              have hm1130 := hm1129.se [1, 2, 3, 4, 11, 12, 13, 14, 15, 16] _ rfl
              refine blkN ?_
              obtain rfl := Option.some.inj H2
              exact J335 _ _ ⟨A223, c224, A225, c226, A227, c228, A229, c230, A231, c232, A233, c234, hf1126.se [0, 1, 5, 6, 7, 9, 12], hm1130.se [4, 5, 6, 7, 0, 1, 2, 3, 8, 9] _ rfl⟩
            obtain ⟨g985, H2⟩ := if_guard H2
            rcases if_split H2 with ⟨c986, H2⟩ | ⟨c986, H2⟩
            rotate_left
            · have q1118 := (hm980.owAt 14 rfl).int (rd x1 s222.1).I g985.1 g985.2
              refine rq [.bool true, .slice A227 s222.2.2.2.1.length c228, .int .i64 (rd x1 s222.1).I, .int .i64 (rd s222.2.2.2.1 (rd x1 s222.1).I), .bool false] [(0, .slice A0 x0.length c0), (1, .slice A1 x1.length c1), (5, vp b171), (6, vi r52.2), (7, vp b190), (9, vi s222.1), (12, .bool false)] hf982 (oi (eqT c984) (oc (hm980.cell (j := 2) 11 rfl rfl) (oc (hm980.cell (j := 1) 7 rfl rfl) (oi q1118.1 (oi g985 (oc q1118.2 (oi (eqF c986) ot))))))) fun a1119 w1121 hf1120 hg1122 => ?_
              have hm1123 := hm980.still hg1122
              have hm1124 := hm1123.se [1, 2, 3, 4, 11, 12, 13, 14, 15, 16] _ rfl
              refine blkN ?_
              obtain rfl := Option.some.inj H2
              exact J335 _ _ ⟨A223, c224, A225, c226, A227, c228, A229, c230, A231, c232, A233, c234, hf1120.se [0, 1, 5, 6, 7, 9, 12], hm1124.se [4, 5, 6, 7, 0, 1, 2, 3, 8, 9] _ rfl⟩
            obtain ⟨g987, H2⟩ := if_guard H2
            obtain ⟨r988, hr988, H2⟩ := ob_split H2
            rcases ifb_split H2 with ⟨c989, H2⟩ | ⟨c989, H2⟩
            · refine midReg (fun (a : Act) (w : World) => Fr 218 a [(0, .slice A0 x0.length c0), (1, .slice A1 x1.length c1), (5, .pointer (some ⟨b171, 0, none⟩)), (6, .int .i64 r52.2), (7, .pointer (some ⟨b190, 0, none⟩)), (9, .int .i64 s222.1), (12, .bool true)] ∧ Mem [] M w0 [.bx b171 [.slice A229 s222.2.2.2.2.1.length c230, .slice A231 s222.2.2.2.2.2.1.length c232, .slice A233 s222.2.2.2.2.2.2.length c234] 72, .ow kTensor 29 A229 c230 s222.2.2.2.2.1, .ow (Kd.int .i64) 3 A231 c232 s222.2.2.2.2.2.1, .ow kTensor 29 A233 c234 s222.2.2.2.2.2.2, .bx b190 [.slice A223 s222.2.1.length c224, .slice A225 s222.2.2.1.length c226, .slice A227 s222.2.2.2.1.length c228] 65, .ow kTensor 29 A223 c224 s222.2.1, .ow kTensor 29 A225 c226 s222.2.2.1, .ow (Kd.int .i64) 3 A227 c228 s222.2.2.2.1, .sl kTensor A0 c0 x0, .sl kDeed A1 c1 x1] w) ?_ ?_
              · refine anyG (K := []) [] (by kernel_rfl) fun w1007 hg1008 => ?_
                have hm1009 := hm980.still hg1008
                have q1030 := (hm1009.owAt 14 rfl).int (rd x1 s222.1).I g985.1 g985.2
                have q1031 := (hm1009.owAt 12 rfl).cells (rd x1 s222.1).I g987.1 g987.2
                obtain ⟨us1032, hr1033, hc1034⟩ := q1031.2
                obtain ⟨A1035, c1036, A1037, c1038, rfl, ⟨pA1035, sA1035⟩, ⟨pA1037, sA1037⟩⟩ := kTensor.open hr1033
                have hm1039 := hm1009.elem pA1035 sA1035
                have hm1040 := hm1039.elem pA1037 sA1037
                refine qt [0, 1, 2, 3, 4, 5, 6, 7, 8, 9, 10, 11, 12, 13, 14, 15, 16, 17, 18, 19, 20, 21, 22, 23, 24, 25, 26] [.bool true, .slice A227 s222.2.2.2.1.length c228, .int .i64 (rd x1 s222.1).I, .int .i64 (rd s222.2.2.2.1 (rd x1 s222.1).I), .bool true, .agg #[.slice A957 r954.1.Shape.length c958, .slice A959 r954.1.Data.length c960], .slice A223 s222.2.1.length c224, .int .i64 (rd x1 s222.1).I, .agg #[.slice A1035 (rd s222.2.1 (rd x1 s222.1).I).Shape.length c1036, .slice A1037 (rd s222.2.1 (rd x1 s222.1).I).Data.length c1038]] (fb 48 134217727) [(0, .slice A0 x0.length c0), (1, .slice A1 x1.length c1), (5, vp b171), (6, vi r52.2), (7, vp b190), (9, vi s222.1), (11, .bool true), (13, vp b970), (14, vi r954.2.1), (15, vi r954.2.2), (117, .bool true), (118, .agg #[.slice A957 r954.1.Shape.length c958, .slice A959 r954.1.Data.length c960]), (126, .agg #[.slice A1035 (rd s222.2.1 (rd x1 s222.1).I).Shape.length c1036, .slice A1037 (rd s222.2.1 (rd x1 s222.1).I).Data.length c1038])] 21 hf982 (oi (eqT c984) (oc (hm1009.cell (j := 2) 11 rfl rfl) (oc (hm1009.cell (j := 1) 7 rfl rfl) (oi q1030.1 (oi g985 (oc q1030.2 (oi (eqT c986) (oc (hm1009.cell (j := 0) 0 rfl rfl) (oc (hm1009.cell (j := 1) 0 rfl rfl) (oc (hm1009.cell (j := 0) 11 rfl rfl) (oc (hm1009.cell (j := 1) 7 rfl rfl) (oi q1031.1 (oi g987 (oc (hc1034 0 _ rfl) (oc (hc1034 1 _ rfl) ot))))))))))))))) fun a1041 hf1042 => ?_
                refine a1 27 ?_
                refine oo hf1042 rfl (cl 127 hf1042 callable24 (ref1_SameTensor.calls _ _ _ _ _ _ rfl _ _ _ rfl _ _ _ _ rfl _ _ _ rfl (hm1040.give [7, 8, 1, 0] [.sl (Kd.int .i64) A957 c958 r954.1.Shape, .sl Kd.float A959 c960 r954.1.Data, .sl (Kd.int .i64) A1035 c1036 (rd s222.2.1 (rd x1 s222.1).I).Shape, .sl Kd.float A1037 c1038 (rd s222.2.1 (rd x1 s222.1).I).Data] rfl rfl) r988 hr988) ?_)
                rintro _ w1043 a1044 ⟨rfl, hk1046⟩ hf1045
                refine ⟨.inr (Gr.still hk1046.cum.none), ?_⟩
                have hm1047 := hm1040.still hk1046.cum.none
                rw [c989] at hf1045
                refine qt [28, 29, 30, 31, 32, 33, 34, 35, 36, 37, 38, 39, 40, 41, 42, 43, 44, 45, 46, 47] [] (fb 48 281474976710655) [(0, .slice A0 x0.length c0), (1, .slice A1 x1.length c1), (5, vp b171), (6, vi r52.2), (7, vp b190), (9, vi s222.1), (12, .bool true)] 0 hf1045 ot fun a1048 hf1049 => ?_
                refine aD ⟨rfl, hf1049.se [0, 1, 5, 6, 7, 9, 12], hm1047.se [3, 4, 5, 6, 13, 14, 15, 16, 17, 18] _ rfl⟩
              rintro a1050 w1051 ⟨hf1052, hm1053⟩
              refine blkN ?_
              obtain rfl := Option.some.inj H2
              exact J335 _ _ ⟨A223, c224, A225, c226, A227, c228, A229, c230, A231, c232, A233, c234, hf1052.se [0, 1, 5, 6, 7, 9, 12], hm1053.se [4, 5, 6, 7, 0, 1, 2, 3, 8, 9] _ rfl⟩
            refine midReg (fun (a : Act) (w : World) => Fr 218 a [(0, .slice A0 x0.length c0), (1, .slice A1 x1.length c1), (5, .pointer (some ⟨b171, 0, none⟩)), (6, .int .i64 r52.2), (7, .pointer (some ⟨b190, 0, none⟩)), (9, .int .i64 s222.1), (12, .bool false)] ∧ Mem [] M w0 [.bx b171 [.slice A229 s222.2.2.2.2.1.length c230, .slice A231 s222.2.2.2.2.2.1.length c232, .slice A233 s222.2.2.2.2.2.2.length c234] 72, .ow kTensor 29 A229 c230 s222.2.2.2.2.1, .ow (Kd.int .i64) 3 A231 c232 s222.2.2.2.2.2.1, .ow kTensor 29 A233 c234 s222.2.2.2.2.2.2, .bx b190 [.slice A223 s222.2.1.length c224, .slice A225 s222.2.2.1.length c226, .slice A227 s222.2.2.2.1.length c228] 65, .ow kTensor 29 A223 c224 s222.2.1, .ow kTensor 29 A225 c226 s222.2.2.1, .ow (Kd.int .i64) 3 A227 c228 s222.2.2.2.1, .sl kTensor A0 c0 x0, .sl kDeed A1 c1 x1] w) ?_ ?_
            · refine anyG (K := []) [] (by kernel_rfl) fun w1071 hg1072 => ?_
              have hm1073 := hm980.still hg1072
              have q1094 := (hm1073.owAt 14 rfl).int (rd x1 s222.1).I g985.1 g985.2
              have q1095 := (hm1073.owAt 12 rfl).cells (rd x1 s222.1).I g987.1 g987.2
              obtain ⟨us1096, hr1097, hc1098⟩ := q1095.2
              obtain ⟨A1099, c1100, A1101, c1102, rfl, ⟨pA1099, sA1099⟩, ⟨pA1101, sA1101⟩⟩ := kTensor.open hr1097
              have hm1103 := hm1073.elem pA1099 sA1099
              have hm1104 := hm1103.elem pA1101 sA1101
              refine qt [0, 1, 2, 3, 4, 5, 6, 7, 8, 9, 10, 11, 12, 13, 14, 15, 16, 17, 18, 19, 20, 21, 22, 23, 24, 25, 26] [.bool true, .slice A227 s222.2.2.2.1.length c228, .int .i64 (rd x1 s222.1).I, .int .i64 (rd s222.2.2.2.1 (rd x1 s222.1).I), .bool true, .agg #[.slice A957 r954.1.Shape.length c958, .slice A959 r954.1.Data.length c960], .slice A223 s222.2.1.length c224, .int .i64 (rd x1 s222.1).I, .agg #[.slice A1099 (rd s222.2.1 (rd x1 s222.1).I).Shape.length c1100, .slice A1101 (rd s222.2.1 (rd x1 s222.1).I).Data.length c1102]] (fb 48 134217727) [(0, .slice A0 x0.length c0), (1, .slice A1 x1.length c1), (5, vp b171), (6, vi r52.2), (7, vp b190), (9, vi s222.1), (11, .bool true), (13, vp b970), (14, vi r954.2.1), (15, vi r954.2.2), (117, .bool true), (118, .agg #[.slice A957 r954.1.Shape.length c958, .slice A959 r954.1.Data.length c960]), (126, .agg #[.slice A1099 (rd s222.2.1 (rd x1 s222.1).I).Shape.length c1100, .slice A1101 (rd s222.2.1 (rd x1 s222.1).I).Data.length c1102])] 21 hf982 (oi (eqT c984) (oc (hm1073.cell (j := 2) 11 rfl rfl) (oc (hm1073.cell (j := 1) 7 rfl rfl) (oi q1094.1 (oi g985 (oc q1094.2 (oi (eqT c986) (oc (hm1073.cell (j := 0) 0 rfl rfl) (oc (hm1073.cell (j := 1) 0 rfl rfl) (oc (hm1073.cell (j := 0) 11 rfl rfl) (oc (hm1073.cell (j := 1) 7 rfl rfl) (oi q1095.1 (oi g987 (oc (hc1098 0 _ rfl) (oc (hc1098 1 _ rfl) ot))))))))))))))) fun a1105 hf1106 => ?_
              refine a1 27 ?_
              refine oo hf1106 rfl (cl 127 hf1106 callable24 (ref1_SameTensor.calls _ _ _ _ _ _ rfl _ _ _ rfl _ _ _ _ rfl _ _ _ rfl (hm1104.give [7, 8, 1, 0] [.sl (Kd.int .i64) A957 c958 r954.1.Shape, .sl Kd.float A959 c960 r954.1.Data, .sl (Kd.int .i64) A1099 c1100 (rd s222.2.1 (rd x1 s222.1).I).Shape, .sl Kd.float A1101 c1102 (rd s222.2.1 (rd x1 s222.1).I).Data] rfl rfl) r988 hr988) ?_)
              rintro _ w1107 a1108 ⟨rfl, hk1110⟩ hf1109
              refine ⟨.inr (Gr.still hk1110.cum.none), ?_⟩
              have hm1111 := hm1104.still hk1110.cum.none
              rw [c989] at hf1109
              refine qt [28, 29, 30, 31, 32, 33, 34, 35, 36, 37, 38, 39, 40, 41, 42, 43, 44, 45, 46, 47] [] (fb 48 281474976710655) [(0, .slice A0 x0.length c0), (1, .slice A1 x1.length c1), (5, vp b171), (6, vi r52.2), (7, vp b190), (9, vi s222.1), (12, .bool false)] 0 hf1109 ot fun a1112 hf1113 => ?_
              refine aD ⟨rfl, hf1113.se [0, 1, 5, 6, 7, 9, 12], hm1111.se [3, 4, 5, 6, 13, 14, 15, 16, 17, 18] _ rfl⟩
            rintro a1114 w1115 ⟨hf1116, hm1117⟩
            refine blkN ?_
            obtain rfl := Option.some.inj H2
            exact J335 _ _ ⟨A223, c224, A225, c226, A227, c228, A229, c230, A231, c232, A233, c234, hf1116.se [0, 1, 5, 6, 7, 9, 12], hm1117.se [4, 5, 6, 7, 0, 1, 2, 3, 8, 9] _ rfl⟩
          rw [c953] at hf951
          refine cF hf951 ?_
          refine wp_seq ?_
          refine wp_seq ?_
          obtain ⟨r1158, H3, H2⟩ := ob_split H2
          refine wpJoin (Mid := fun (a : Act) (w : World) => Fr 218 a [(0, .slice A0 x0.length c0), (1, .slice A1 x1.length c1), (5, .pointer (some ⟨b171, 0, none⟩)), (6, .int .i64 r52.2), (7, .pointer (some ⟨b190, 0, none⟩)), (9, .int .i64 s222.1), (10, .pointer (some ⟨b263, 0, none⟩)), (11, .bool r274), (12, .bool true), (73, .int .i64 (rd x1 s222.1).Do), (147, .bool r1158)] ∧ Mem [] M w0 [.bx b263 [.int .i64 (rd x1 s222.1).Do, .int .i64 (rd x1 s222.1).I, .slice A252 (rd x1 s222.1).T.Shape.length c253, .slice A254 (rd x1 s222.1).T.Data.length c255, .slice A256 (rd x1 s222.1).L.length c257] 62, .sl kTensor A256 c257 (rd x1 s222.1).L, .sl Kd.float A254 c255 (rd x1 s222.1).T.Data, .sl (Kd.int .i64) A252 c253 (rd x1 s222.1).T.Shape, .bx b190 [.slice A223 s222.2.1.length c224, .slice A225 s222.2.2.1.length c226, .slice A227 s222.2.2.2.1.length c228] 65, .ow kTensor 29 A223 c224 s222.2.1, .ow kTensor 29 A225 c226 s222.2.2.1, .ow (Kd.int .i64) 3 A227 c228 s222.2.2.2.1, .bx b171 [.slice A229 s222.2.2.2.2.1.length c230, .slice A231 s222.2.2.2.2.2.1.length c232, .slice A233 s222.2.2.2.2.2.2.length c234] 72, .ow kTensor 29 A229 c230 s222.2.2.2.2.1, .ow (Kd.int .i64) 3 A231 c232 s222.2.2.2.2.2.1, .ow kTensor 29 A233 c234 s222.2.2.2.2.2.2, .sl kTensor A0 c0 x0, .sl kDeed A1 c1 x1] w) ?_ ?_
          · intro J1756
            rcases if_split H3 with ⟨c1757, H3⟩ | ⟨c1757, H3⟩
            · refine rg [.bool true] [(0, .slice A0 x0.length c0), (1, .slice A1 x1.length c1), (5, vp b171), (6, vi r52.2), (7, vp b190), (9, vi s222.1), (10, vp b263), (11, .bool r274), (12, .bool true), (73, vi (rd x1 s222.1).Do), (147, .bool true)] hf951 (oi (eqT c1757) ot) fun a1758 hf1759 => ?_
              obtain rfl := Option.some.inj H3
              exact J1756 _ _ ⟨hf1759.se [0, 1, 5, 6, 7, 9, 10, 11, 12, 73, 147], hm952.se [0, 1, 2, 3, 4, 5, 6, 7, 8, 9, 10, 11, 12, 13] _ rfl⟩
            refine rg [.bool false] [(0, .slice A0 x0.length c0), (1, .slice A1 x1.length c1), (5, vp b171), (6, vi r52.2), (7, vp b190), (9, vi s222.1), (10, vp b263), (11, .bool r274), (12, .bool true), (73, vi (rd x1 s222.1).Do), (147, .bool false)] hf951 (oi (eqF c1757) ot) fun a1760 hf1761 => ?_
            obtain rfl := Option.some.inj H3
            exact J1756 _ _ ⟨hf1761.se [0, 1, 5, 6, 7, 9, 10, 11, 12, 73, 147], hm952.se [0, 1, 2, 3, 4, 5, 6, 7, 8, 9, 10, 11, 12, 13] _ rfl⟩
          rintro a1159 w1160 ⟨hf1161, hm1162⟩
          refine thenN ?_
          obtain ⟨r1163, H3, H2⟩ := ob_split H2
          refine wpJoin (Mid := fun (a : Act) (w : World) => Fr 218 a [(0, .slice A0 x0.length c0), (1, .slice A1 x1.length c1), (5, .pointer (some ⟨b171, 0, none⟩)), (6, .int .i64 r52.2), (7, .pointer (some ⟨b190, 0, none⟩)), (9, .int .i64 s222.1), (10, .pointer (some ⟨b263, 0, none⟩)), (11, .bool r274), (12, .bool true), (73, .int .i64 (rd x1 s222.1).Do), (147, .bool r1163)] ∧ Mem [] M w0 [.bx b263 [.int .i64 (rd x1 s222.1).Do, .int .i64 (rd x1 s222.1).I, .slice A252 (rd x1 s222.1).T.Shape.length c253, .slice A254 (rd x1 s222.1).T.Data.length c255, .slice A256 (rd x1 s222.1).L.length c257] 62, .sl kTensor A256 c257 (rd x1 s222.1).L, .sl Kd.float A254 c255 (rd x1 s222.1).T.Data, .sl (Kd.int .i64) A252 c253 (rd x1 s222.1).T.Shape, .bx b190 [.slice A223 s222.2.1.length c224, .slice A225 s222.2.2.1.length c226, .slice A227 s222.2.2.2.1.length c228] 65, .ow kTensor 29 A223 c224 s222.2.1, .ow kTensor 29 A225 c226 s222.2.2.1, .ow (Kd.int .i64) 3 A227 c228 s222.2.2.2.1, .bx b171 [.slice A229 s222.2.2.2.2.1.length c230, .slice A231 s222.2.2.2.2.2.1.length c232, .slice A233 s222.2.2.2.2.2.2.length c234] 72, .ow kTensor 29 A229 c230 s222.2.2.2.2.1, .ow (Kd.int .i64) 3 A231 c232 s222.2.2.2.2.2.1, .ow kTensor 29 A233 c234 s222.2.2.2.2.2.2, .sl kTensor A0 c0 x0, .sl kDeed A1 c1 x1] w) ?_ ?_
          · intro J1749
            rcases ifb_split H3 with ⟨c1750, H3⟩ | ⟨c1750, H3⟩
            · rw [c1750] at hf1161
              refine cT hf1161 ?_
              refine wp_skip ?_
              obtain rfl := Option.some.inj H3
              exact J1749 _ _ ⟨hf1161.se [0, 1, 5, 6, 7, 9, 10, 11, 12, 73, 147], hm1162.se [0, 1, 2, 3, 4, 5, 6, 7, 8, 9, 10, 11, 12, 13] _ rfl⟩
            rw [c1750] at hf1161
            refine cF hf1161 ?_
            rcases if_split H3 with ⟨c1751, H3⟩ | ⟨c1751, H3⟩
            · refine rg [.bool true] [(0, .slice A0 x0.length c0), (1, .slice A1 x1.length c1), (5, vp b171), (6, vi r52.2), (7, vp b190), (9, vi s222.1), (10, vp b263), (11, .bool r274), (12, .bool true), (73, vi (rd x1 s222.1).Do), (147, .bool true)] hf1161 (oi (eqT c1751) ot) fun a1752 hf1753 => ?_
              obtain rfl := Option.some.inj H3
              exact J1749 _ _ ⟨hf1753.se [0, 1, 5, 6, 7, 9, 10, 11, 12, 73, 147], hm1162.se [0, 1, 2, 3, 4, 5, 6, 7, 8, 9, 10, 11, 12, 13] _ rfl⟩
            refine rg [.bool false] [(0, .slice A0 x0.length c0), (1, .slice A1 x1.length c1), (5, vp b171), (6, vi r52.2), (7, vp b190), (9, vi s222.1), (10, vp b263), (11, .bool r274), (12, .bool true), (73, vi (rd x1 s222.1).Do), (147, .bool false)] hf1161 (oi (eqF c1751) ot) fun a1754 hf1755 => ?_
            obtain rfl := Option.some.inj H3
            exact J1749 _ _ ⟨hf1755.se [0, 1, 5, 6, 7, 9, 10, 11, 12, 73, 147], hm1162.se [0, 1, 2, 3, 4, 5, 6, 7, 8, 9, 10, 11, 12, 13] _ rfl⟩
          rintro a1164 w1165 ⟨hf1166, hm1167⟩
          refine thenN ?_
          rcases ifb_split H2 with ⟨c1168, H2⟩ | ⟨c1168, H2⟩
          · rw [c1168] at hf1166
            refine cT hf1166 ?_
            obtain ⟨r1169, hr1169, H2⟩ := ob_split H2
            obtain ⟨r1170, hr1170, H2⟩ := ob_split H2
            rcases if_split H2 with ⟨c1171, H2⟩ | ⟨c1171, H2⟩
            · refine midReg (fun (a : Act) (w : World) => ∃ (A1178 : Option Addr) (c1179 : Nat) (A1172 : Option Addr) (c1173 : Nat), Fr 218 a [(0, .slice A0 x0.length c0), (1, .slice A1 x1.length c1), (5, .pointer (some ⟨b171, 0, none⟩)), (6, .int .i64 r52.2), (7, .pointer (some ⟨b190, 0, none⟩)), (9, .int .i64 s222.1), (12, .bool true)] ∧ Mem [] M w0 [.bx b190 [.slice A223 s222.2.1.length c224, .slice A1178 r1170.1.length c1179, .slice A227 s222.2.2.2.1.length c228] 65, .ow kTensor 29 A223 c224 s222.2.1, .ow kTensor 29 A1178 c1179 r1170.1, .ow (Kd.int .i64) 3 A227 c228 s222.2.2.2.1, .bx b171 [.slice A229 s222.2.2.2.2.1.length c230, .slice A231 s222.2.2.2.2.2.1.length c232, .slice A1172 r1169.1.length c1173] 72, .ow kTensor 29 A229 c230 s222.2.2.2.2.1, .ow (Kd.int .i64) 3 A231 c232 s222.2.2.2.2.2.1, .ow kTensor 29 A1172 c1173 r1169.1, .sl kTensor A0 c0 x0, .sl kDeed A1 c1 x1] w) ?_ ?_
              · refine anyG (K := []) [3, 7] (by kernel_rfl) fun w1185 hg1186 => ?_
                have hm1187 := hm1167.still hg1186
                refine qt [0, 1, 2, 4, 5] [.slice A256 (rd x1 s222.1).L.length c257] (fb 10 55) [(0, .slice A0 x0.length c0), (1, .slice A1 x1.length c1), (5, vp b171), (6, vi r52.2), (7, vp b190), (9, vi s222.1), (12, .bool true), (150, vp b171), (152, .slice A256 (rd x1 s222.1).L.length c257), (154, vp b190), (155, .pointer (some ⟨b263, 4, none⟩))] 5 hf1166 (oc (hm1187.cell (j := 4) 0 rfl rfl) ot) fun a1222 hf1223 => ?_
                refine all2 3 6 (by kernel_rfl) ?_ ?_
                · refine oo hf1223 rfl (cl 153 hf1223 callable11 (shelf_Shelf_Commit.calls _ _ _ (⟨s222.2.2.2.2.1, s222.2.2.2.2.2.1, s222.2.2.2.2.2.2⟩ : Shelf) _ _ _ _ rfl _ _ _ rfl _ _ _ rfl _ _ _ _ rfl (hm1187.giveO [8, 9, 10, 11] [0, 1, 2, 3, 4, 5, 6, 7, 12, 13] [1] [.bx b171 [.slice A229 s222.2.2.2.2.1.length c230, .slice A231 s222.2.2.2.2.2.1.length c232, .slice A233 s222.2.2.2.2.2.2.length c234] 72, .ow kTensor 29 A229 c230 s222.2.2.2.2.1, .ow (Kd.int .i64) 3 A231 c232 s222.2.2.2.2.2.1, .ow kTensor 29 A233 c234 s222.2.2.2.2.2.2] _ [.sl kTensor A256 c257 (rd x1 s222.1).L] rfl rfl rfl (by kernel_rfl) rfl) r1169 hr1169) ?_)
                  rintro _ w1226 a1227 ⟨A1224, c1225, rfl, hk1229⟩ hf1228
                  refine ⟨.inl (by decide), ?_⟩
                  have hm1230 := hm1187.backO [8, 9, 10, 11] [0, 1, 2, 3, 4, 5, 6, 7, 12, 13] _ _ rfl rfl (by kernel_rfl) hk1229
                  refine a1 6 ?_
                  refine oo hf1228 rfl (on [.slice A256 (rd x1 s222.1).L.length c257] (.slice A256 (rd x1 s222.1).L.length c257) 156 hf1228 (oc (hm1230.cell (j := 4) 4 rfl rfl) ot) fun a1231 hf1232 => ?_)
                  refine ⟨.inr (Gr.refl _ _), ?_⟩
                  refine a1 7 ?_
                  refine oo hf1232 rfl (cl 157 hf1232 callable27 (ref19_Shelf_Commit.calls _ _ _ (⟨s222.2.1, s222.2.2.1, s222.2.2.2.1⟩ : Shelf65) _ _ _ _ rfl _ _ _ rfl _ _ _ rfl _ _ _ _ rfl (hm1230.giveO [8, 9, 10, 11] [0, 1, 2, 3, 4, 5, 6, 7, 12, 13] [5] [.bx b190 [.slice A223 s222.2.1.length c224, .slice A225 s222.2.2.1.length c226, .slice A227 s222.2.2.2.1.length c228] 65, .ow kTensor 29 A223 c224 s222.2.1, .ow kTensor 29 A225 c226 s222.2.2.1, .ow (Kd.int .i64) 3 A227 c228 s222.2.2.2.1] _ [.sl kTensor A256 c257 (rd x1 s222.1).L] rfl rfl rfl (by kernel_rfl) rfl) r1170 hr1170) ?_)
                  rintro _ w1235 a1236 ⟨A1233, c1234, rfl, hk1238⟩ hf1237
                  refine ⟨.inl (by decide), ?_⟩
                  have hm1239 := hm1230.backO [8, 9, 10, 11] [0, 1, 2, 3, 4, 5, 6, 7, 12, 13] _ _ rfl rfl (by kernel_rfl) hk1238
                  refine qt [8, 9] [.bool true] (fb 10 1023) [(0, .slice A0 x0.length c0), (1, .slice A1 x1.length c1), (5, vp b171), (6, vi r52.2), (7, vp b190), (9, vi s222.1), (12, .bool true)] 0 hf1237 (oi (eqT c1171) ot) fun a1240 hf1241 => ?_
                  refine aD ⟨rfl, A1233, c1234, A1224, c1225, hf1241.se [0, 1, 5, 6, 7, 9, 12], hm1239.se [0, 1, 2, 3, 4, 5, 6, 7, 12, 13] _ rfl⟩
                · refine oo hf1223 rfl (on [.slice A256 (rd x1 s222.1).L.length c257] (.slice A256 (rd x1 s222.1).L.length c257) 156 hf1223 (oc (hm1187.cell (j := 4) 0 rfl rfl) ot) fun a1242 hf1243 => ?_)
                  refine ⟨.inr (Gr.refl _ _), ?_⟩
                  refine a1 3 ?_
                  refine oo hf1243 rfl (cl 153 hf1243 callable11 (shelf_Shelf_Commit.calls _ _ _ (⟨s222.2.2.2.2.1, s222.2.2.2.2.2.1, s222.2.2.2.2.2.2⟩ : Shelf) _ _ _ _ rfl _ _ _ rfl _ _ _ rfl _ _ _ _ rfl (hm1187.giveO [8, 9, 10, 11] [0, 1, 2, 3, 4, 5, 6, 7, 12, 13] [1] [.bx b171 [.slice A229 s222.2.2.2.2.1.length c230, .slice A231 s222.2.2.2.2.2.1.length c232, .slice A233 s222.2.2.2.2.2.2.length c234] 72, .ow kTensor 29 A229 c230 s222.2.2.2.2.1, .ow (Kd.int .i64) 3 A231 c232 s222.2.2.2.2.2.1, .ow kTensor 29 A233 c234 s222.2.2.2.2.2.2] _ [.sl kTensor A256 c257 (rd x1 s222.1).L] rfl rfl rfl (by kernel_rfl) rfl) r1169 hr1169) ?_)
                  rintro _ w1246 a1247 ⟨A1244, c1245, rfl, hk1249⟩ hf1248
                  refine ⟨.inl (by decide), ?_⟩
                  have hm1250 := hm1187.backO [8, 9, 10, 11] [0, 1, 2, 3, 4, 5, 6, 7, 12, 13] _ _ rfl rfl (by kernel_rfl) hk1249
                  refine a1 7 ?_
                  refine oo hf1248 rfl (cl 157 hf1248 callable27 (ref19_Shelf_Commit.calls _ _ _ (⟨s222.2.1, s222.2.2.1, s222.2.2.2.1⟩ : Shelf65) _ _ _ _ rfl _ _ _ rfl _ _ _ rfl _ _ _ _ rfl (hm1250.giveO [8, 9, 10, 11] [0, 1, 2, 3, 4, 5, 6, 7, 12, 13] [5] [.bx b190 [.slice A223 s222.2.1.length c224, .slice A225 s222.2.2.1.length c226, .slice A227 s222.2.2.2.1.length c228] 65, .ow kTensor 29 A223 c224 s222.2.1, .ow kTensor 29 A225 c226 s222.2.2.1, .ow (Kd.int .i64) 3 A227 c228 s222.2.2.2.1] _ [.sl kTensor A256 c257 (rd x1 s222.1).L] rfl rfl rfl (by kernel_rfl) rfl) r1170 hr1170) ?_)
                  rintro _ w1253 a1254 ⟨A1251, c1252, rfl, hk1256⟩ hf1255
                  refine ⟨.inl (by decide), ?_⟩
                  have hm1257 := hm1250.backO [8, 9, 10, 11] [0, 1, 2, 3, 4, 5, 6, 7, 12, 13] _ _ rfl rfl (by kernel_rfl) hk1256
                  refine qt [8, 9] [.bool true] (fb 10 1023) [(0, .slice A0 x0.length c0), (1, .slice A1 x1.length c1), (5, vp b171), (6, vi r52.2), (7, vp b190), (9, vi s222.1), (12, .bool true)] 0 hf1255 (oi (eqT c1171) ot) fun a1258 hf1259 => ?_
                  refine aD ⟨rfl, A1251, c1252, A1244, c1245, hf1259.se [0, 1, 5, 6, 7, 9, 12], hm1257.se [0, 1, 2, 3, 4, 5, 6, 7, 12, 13] _ rfl⟩
              rintro a1260 w1261 ⟨A1178, c1179, A1172, c1173, hf1262, hm1263⟩
              refine blkN ?_
              obtain rfl := Option.some.inj H2
              exact J335 _ _ ⟨A223, c224, A1178, c1179, A227, c228, A229, c230, A231, c232, A1172, c1173, hf1262.se [0, 1, 5, 6, 7, 9, 12], hm1263.se [0, 1, 2, 3, 4, 5, 6, 7, 8, 9] _ rfl⟩
            refine midReg (fun (a : Act) (w : World) => ∃ (A1270 : Option Addr) (c1271 : Nat) (A1264 : Option Addr) (c1265 : Nat), Fr 218 a [(0, .slice A0 x0.length c0), (1, .slice A1 x1.length c1), (5, .pointer (some ⟨b171, 0, none⟩)), (6, .int .i64 r52.2), (7, .pointer (some ⟨b190, 0, none⟩)), (9, .int .i64 s222.1), (12, .bool false)] ∧ Mem [] M w0 [.bx b190 [.slice A223 s222.2.1.length c224, .slice A1270 r1170.1.length c1271, .slice A227 s222.2.2.2.1.length c228] 65, .ow kTensor 29 A223 c224 s222.2.1, .ow kTensor 29 A1270 c1271 r1170.1, .ow (Kd.int .i64) 3 A227 c228 s222.2.2.2.1, .bx b171 [.slice A229 s222.2.2.2.2.1.length c230, .slice A231 s222.2.2.2.2.2.1.length c232, .slice A1264 r1169.1.length c1265] 72, .ow kTensor 29 A229 c230 s222.2.2.2.2.1, .ow (Kd.int .i64) 3 A231 c232 s222.2.2.2.2.2.1, .ow kTensor 29 A1264 c1265 r1169.1, .sl kTensor A0 c0 x0, .sl kDeed A1 c1 x1] w) ?_ ?_
            · refine anyG (K := []) [3, 7] (by kernel_rfl) fun w1277 hg1278 => ?_
              have hm1279 := hm1167.still hg1278
              refine qt [0, 1, 2, 4, 5] [.slice A256 (rd x1 s222.1).L.length c257] (fb 10 55) [(0, .slice A0 x0.length c0), (1, .slice A1 x1.length c1), (5, vp b171), (6, vi r52.2), (7, vp b190), (9, vi s222.1), (12, .bool true), (150, vp b171), (152, .slice A256 (rd x1 s222.1).L.length c257), (154, vp b190), (155, .pointer (some ⟨b263, 4, none⟩))] 5 hf1166 (oc (hm1279.cell (j := 4) 0 rfl rfl) ot) fun a1314 hf1315 => ?_
              refine all2 3 6 (by kernel_rfl) ?_ ?_
              · refine oo hf1315 rfl (cl 153 hf1315 callable11 (shelf_Shelf_Commit.calls _ _ _ (⟨s222.2.2.2.2.1, s222.2.2.2.2.2.1, s222.2.2.2.2.2.2⟩ : Shelf) _ _ _ _ rfl _ _ _ rfl _ _ _ rfl _ _ _ _ rfl (hm1279.giveO [8, 9, 10, 11] [0, 1, 2, 3, 4, 5, 6, 7, 12, 13] [1] [.bx b171 [.slice A229 s222.2.2.2.2.1.length c230, .slice A231 s222.2.2.2.2.2.1.length c232, .slice A233 s222.2.2.2.2.2.2.length c234] 72, .ow kTensor 29 A229 c230 s222.2.2.2.2.1, .ow (Kd.int .i64) 3 A231 c232 s222.2.2.2.2.2.1, .ow kTensor 29 A233 c234 s222.2.2.2.2.2.2] _ [.sl kTensor A256 c257 (rd x1 s222.1).L] rfl rfl rfl (by kernel_rfl) rfl) r1169 hr1169) ?_)
                rintro _ w1318 a1319 ⟨A1316, c1317, rfl, hk1321⟩ hf1320
                refine ⟨.inl (by decide), ?_⟩
                have hm1322 := hm1279.backO [8, 9, 10, 11] [0, 1, 2, 3, 4, 5, 6, 7, 12, 13] _ _ rfl rfl (by kernel_rfl) hk1321
                refine a1 6 ?_
                refine oo hf1320 rfl (on [.slice A256 (rd x1 s222.1).L.length c257] (.slice A256 (rd x1 s222.1).L.length c257) 156 hf1320 (oc (hm1322.cell (j := 4) 4 rfl rfl) ot) fun a1323 hf1324 => ?_)
                refine ⟨.inr (Gr.refl _ _), ?_⟩
                refine a1 7 ?_
                refine oo hf1324 rfl (cl 157 hf1324 callable27 (ref19_Shelf_Commit.calls _ _ _ (⟨s222.2.1, s222.2.2.1, s222.2.2.2.1⟩ : Shelf65) _ _ _ _ rfl _ _ _ rfl _ _ _ rfl _ _ _ _ rfl (hm1322.giveO [8, 9, 10, 11] [0, 1, 2, 3, 4, 5, 6, 7, 12, 13] [5] [.bx b190 [.slice A223 s222.2.1.length c224, .slice A225 s222.2.2.1.length c226, .slice A227 s222.2.2.2.1.length c228] 65, .ow kTensor 29 A223 c224 s222.2.1, .ow kTensor 29 A225 c226 s222.2.2.1, .ow (Kd.int .i64) 3 A227 c228 s222.2.2.2.1] _ [.sl kTensor A256 c257 (rd x1 s222.1).L] rfl rfl rfl (by kernel_rfl) rfl) r1170 hr1170) ?_)
                rintro _ w1327 a1328 ⟨A1325, c1326, rfl, hk1330⟩ hf1329
                refine ⟨.inl (by decide), ?_⟩
                have hm1331 := hm1322.backO [8, 9, 10, 11] [0, 1, 2, 3, 4, 5, 6, 7, 12, 13] _ _ rfl rfl (by kernel_rfl) hk1330
                refine qt [8, 9] [.bool false] (fb 10 1023) [(0, .slice A0 x0.length c0), (1, .slice A1 x1.length c1), (5, vp b171), (6, vi r52.2), (7, vp b190), (9, vi s222.1), (12, .bool false)] 0 hf1329 (oi (eqF c1171) ot) fun a1332 hf1333 => ?_
                refine aD ⟨rfl, A1325, c1326, A1316, c1317, hf1333.se [0, 1, 5, 6, 7, 9, 12], hm1331.se [0, 1, 2, 3, 4, 5, 6, 7, 12, 13] _ rfl⟩
              · refine oo hf1315 rfl (on [.slice A256 (rd x1 s222.1).L.length c257] (.slice A256 (rd x1 s222.1).L.length c257) 156 hf1315 (oc (hm1279.cell (j := 4) 0 rfl rfl) ot) fun a1334 hf1335 => ?_)
                refine ⟨.inr (Gr.refl _ _), ?_⟩
                refine a1 3 ?_
                refine oo hf1335 rfl (cl 153 hf1335 callable11 (shelf_Shelf_Commit.calls _ _ _ (⟨s222.2.2.2.2.1, s222.2.2.2.2.2.1, s222.2.2.2.2.2.2⟩ : Shelf) _ _ _ _ rfl _ _ _ rfl _ _ _ rfl _ _ _ _ rfl (hm1279.giveO [8, 9, 10, 11] [0, 1, 2, 3, 4, 5, 6, 7, 12, 13] [1] [.bx b171 [.slice A229 s222.2.2.2.2.1.length c230, .slice A231 s222.2.2.2.2.2.1.length c232, .slice A233 s222.2.2.2.2.2.2.length c234] 72, .ow kTensor 29 A229 c230 s222.2.2.2.2.1, .ow (Kd.int .i64) 3 A231 c232 s222.2.2.2.2.2.1, .ow kTensor 29 A233 c234 s222.2.2.2.2.2.2] _ [.sl kTensor A256 c257 (rd x1 s222.1).L] rfl rfl rfl (by kernel_rfl) rfl) r1169 hr1169) ?_)
                rintro _ w1338 a1339 ⟨A1336, c1337, rfl, hk1341⟩ hf1340
                refine ⟨.inl (by decide), ?_⟩
                have hm1342 := hm1279.backO [8, 9, 10, 11] [0, 1, 2, 3, 4, 5, 6, 7, 12, 13] _ _ rfl rfl (by kernel_rfl) hk1341
                refine a1 7 ?_
                refine oo hf1340 rfl (cl 157 hf1340 callable27 (ref19_Shelf_Commit.calls _ _ _ (⟨s222.2.1, s222.2.2.1, s222.2.2.2.1⟩ : Shelf65) _ _ _ _ rfl _ _ _ rfl _ _ _ rfl _ _ _ _ rfl (hm1342.giveO [8, 9, 10, 11] [0, 1, 2, 3, 4, 5, 6, 7, 12, 13] [5] [.bx b190 [.slice A223 s222.2.1.length c224, .slice A225 s222.2.2.1.length c226, .slice A227 s222.2.2.2.1.length c228] 65, .ow kTensor 29 A223 c224 s222.2.1, .ow kTensor 29 A225 c226 s222.2.2.1, .ow (Kd.int .i64) 3 A227 c228 s222.2.2.2.1] _ [.sl kTensor A256 c257 (rd x1 s222.1).L] rfl rfl rfl (by kernel_rfl) rfl) r1170 hr1170) ?_)
                rintro _ w1345 a1346 ⟨A1343, c1344, rfl, hk1348⟩ hf1347
                refine ⟨.inl (by decide), ?_⟩
                have hm1349 := hm1342.backO [8, 9, 10, 11] [0, 1, 2, 3, 4, 5, 6, 7, 12, 13] _ _ rfl rfl (by kernel_rfl) hk1348
                refine qt [8, 9] [.bool false] (fb 10 1023) [(0, .slice A0 x0.length c0), (1, .slice A1 x1.length c1), (5, vp b171), (6, vi r52.2), (7, vp b190), (9, vi s222.1), (12, .bool false)] 0 hf1347 (oi (eqF c1171) ot) fun a1350 hf1351 => ?_
                refine aD ⟨rfl, A1343, c1344, A1336, c1337, hf1351.se [0, 1, 5, 6, 7, 9, 12], hm1349.se [0, 1, 2, 3, 4, 5, 6, 7, 12, 13] _ rfl⟩
            rintro a1352 w1353 ⟨A1270, c1271, A1264, c1265, hf1354, hm1355⟩
            refine blkN ?_
            obtain rfl := Option.some.inj H2
            exact J335 _ _ ⟨A223, c224, A1270, c1271, A227, c228, A229, c230, A231, c232, A1264, c1265, hf1354.se [0, 1, 5, 6, 7, 9, 12], hm1355.se [0, 1, 2, 3, 4, 5, 6, 7, 8, 9] _ rfl⟩
          rw [c1168] at hf1166
          refine cF hf1166 ?_
          refine wp_seq ?_
          obtain ⟨r1356, H3, H2⟩ := ob_split H2
          refine wpJoin (Mid := fun (a : Act) (w : World) => Fr 218 a [(0, .slice A0 x0.length c0), (1, .slice A1 x1.length c1), (5, .pointer (some ⟨b171, 0, none⟩)), (6, .int .i64 r52.2), (7, .pointer (some ⟨b190, 0, none⟩)), (9, .int .i64 s222.1), (10, .pointer (some ⟨b263, 0, none⟩)), (11, .bool r274), (12, .bool true), (73, .int .i64 (rd x1 s222.1).Do), (159, .bool r1356)] ∧ Mem [] M w0 [.bx b263 [.int .i64 (rd x1 s222.1).Do, .int .i64 (rd x1 s222.1).I, .slice A252 (rd x1 s222.1).T.Shape.length c253, .slice A254 (rd x1 s222.1).T.Data.length c255, .slice A256 (rd x1 s222.1).L.length c257] 62, .sl kTensor A256 c257 (rd x1 s222.1).L, .sl Kd.float A254 c255 (rd x1 s222.1).T.Data, .sl (Kd.int .i64) A252 c253 (rd x1 s222.1).T.Shape, .bx b190 [.slice A223 s222.2.1.length c224, .slice A225 s222.2.2.1.length c226, .slice A227 s222.2.2.2.1.length c228] 65, .ow kTensor 29 A223 c224 s222.2.1, .ow kTensor 29 A225 c226 s222.2.2.1, .ow (Kd.int .i64) 3 A227 c228 s222.2.2.2.1, .bx b171 [.slice A229 s222.2.2.2.2.1.length c230, .slice A231 s222.2.2.2.2.2.1.length c232, .slice A233 s222.2.2.2.2.2.2.length c234] 72, .ow kTensor 29 A229 c230 s222.2.2.2.2.1, .ow (Kd.int .i64) 3 A231 c232 s222.2.2.2.2.2.1, .ow kTensor 29 A233 c234 s222.2.2.2.2.2.2, .sl kTensor A0 c0 x0, .sl kDeed A1 c1 x1] w) ?_ ?_
          · intro J1743
            rcases if_split H3 with ⟨c1744, H3⟩ | ⟨c1744, H3⟩
            · refine rg [.bool true] [(0, .slice A0 x0.length c0), (1, .slice A1 x1.length c1), (5, vp b171), (6, vi r52.2), (7, vp b190), (9, vi s222.1), (10, vp b263), (11, .bool r274), (12, .bool true), (73, vi (rd x1 s222.1).Do), (159, .bool true)] hf1166 (oi (eqT c1744) ot) fun a1745 hf1746 => ?_
              obtain rfl := Option.some.inj H3
              exact J1743 _ _ ⟨hf1746.se [0, 1, 5, 6, 7, 9, 10, 11, 12, 73, 159], hm1167.se [0, 1, 2, 3, 4, 5, 6, 7, 8, 9, 10, 11, 12, 13] _ rfl⟩
            refine rg [.bool false] [(0, .slice A0 x0.length c0), (1, .slice A1 x1.length c1), (5, vp b171), (6, vi r52.2), (7, vp b190), (9, vi s222.1), (10, vp b263), (11, .bool r274), (12, .bool true), (73, vi (rd x1 s222.1).Do), (159, .bool false)] hf1166 (oi (eqF c1744) ot) fun a1747 hf1748 => ?_
            obtain rfl := Option.some.inj H3
            exact J1743 _ _ ⟨hf1748.se [0, 1, 5, 6, 7, 9, 10, 11, 12, 73, 159], hm1167.se [0, 1, 2, 3, 4, 5, 6, 7, 8, 9, 10, 11, 12, 13] _ rfl⟩
          rintro a1357 w1358 ⟨hf1359, hm1360⟩
          refine thenN ?_
          rcases ifb_split H2 with ⟨c1361, H2⟩ | ⟨c1361, H2⟩
          · rw [c1361] at hf1359
            refine cT hf1359 ?_
            refine wp_seq ?_
            obtain ⟨r1362, hr1362, H2⟩ := ob_split H2
            refine inReg ?_
            refine gg 3 [.int .i64 (rd x1 s222.1).I] [(0, .slice A0 x0.length c0), (1, .slice A1 x1.length c1), (5, vp b171), (6, vi r52.2), (7, vp b190), (9, vi s222.1), (10, vp b263), (11, .bool r274), (162, vp b171), (164, vi (rd x1 s222.1).I)] hf1359 (oc (hm1360.cell (j := 1) 0 rfl rfl) ot) fun a1363 hf1364 => ?_
            refine lo hf1364 rfl (cl 165 hf1364 callable13 (shelf_Shelf_Grad.calls _ _ _ (⟨s222.2.2.2.2.1, s222.2.2.2.2.2.1, s222.2.2.2.2.2.2⟩ : Shelf) _ _ _ _ rfl _ _ _ rfl _ _ _ rfl (rd x1 s222.1).I (hm1360.giveO [8, 9, 10, 11] [0, 1, 2, 3, 4, 5, 6, 7, 12, 13] [] [.bx b171 [.slice A229 s222.2.2.2.2.1.length c230, .slice A231 s222.2.2.2.2.2.1.length c232, .slice A233 s222.2.2.2.2.2.2.length c234] 72, .ow kTensor 29 A229 c230 s222.2.2.2.2.1, .ow (Kd.int .i64) 3 A231 c232 s222.2.2.2.2.2.1, .ow kTensor 29 A233 c234 s222.2.2.2.2.2.2] _ [] rfl rfl rfl (by kernel_rfl) rfl) r1362 hr1362) ?_)
            rintro _ w1369 a1370 ⟨A1365, c1366, A1367, c1368, rfl, hk1372⟩ hf1371
            have hm1373 := hm1360.backO [8, 9, 10, 11] [0, 1, 2, 3, 4, 5, 6, 7, 12, 13] _ _ rfl rfl (by kernel_rfl) hk1372
            have hm1374 := hm1373.seal 4 _ rfl rfl
            have hm1375 := hm1374.seal 5 _ rfl rfl
            refine gg 3 [] [(0, .slice A0 x0.length c0), (1, .slice A1 x1.length c1), (5, vp b171), (6, vi r52.2), (7, vp b190), (9, vi s222.1), (10, vp b263), (11, .bool r274), (166, .agg #[.slice A1365 r1362.1.Shape.length c1366, .slice A1367 r1362.1.Data.length c1368]), (167, vi r1362.2)] hf1371 ot fun a1376 hf1377 => ?_
            refine lo hf1377 rfl (nw (cs := [.slice none 0 0, .slice none 0 0]) (T := 29) (d := 16) hf1377 ?_)
            intro b1378 w1379 a1380 hbb1378 hx1382 hg1383 hf1381
            have hm1384 := hm1375.box hbb1378 hx1382 hg1383
            refine lo hf1381 rfl (sb (j := 0) (us := [.slice A1365 r1362.1.Shape.length c1366, .slice A1367 r1362.1.Data.length c1368]) (cs' := [.slice A1365 r1362.1.Shape.length c1366, .slice A1367 r1362.1.Data.length c1368]) hf1381 (hm1384.bxAt 0 rfl) ?_)
            intro w1385 hx1386 hg1387
            have hm1388 := hm1384.setBox 0 _ rfl rfl hx1386 hg1387
            refine gg 1 [] [(0, .slice A0 x0.length c0), (1, .slice A1 x1.length c1), (5, vp b171), (6, vi r52.2), (7, vp b190), (9, vi s222.1), (10, vp b263), (11, .bool r274), (16, vp b1378), (17, vi r1362.2)] hf1381 ot fun a1389 hf1390 => ?_
            refine endL rfl ?_
            refine thenN ?_
            rcases ifb_split H2 with ⟨c1391, H2⟩ | ⟨c1391, H2⟩
            rotate_left
            · rw [c1391] at hf1390
              rcases if_split H2 with ⟨c1524, H2⟩ | ⟨c1524, H2⟩
              rotate_left
              · refine rq [.bool false] [(0, .slice A0 x0.length c0), (1, .slice A1 x1.length c1), (5, vp b171), (6, vi r52.2), (7, vp b190), (9, vi s222.1), (12, .bool false)] hf1390 (oi (eqF c1524) ot) fun a1538 w1540 hf1539 hg1541 => ?_
                have hm1542 := hm1388.still hg1541
                have hm1543 := hm1542.se [1, 2, 3, 4, 11, 12, 13, 14, 15, 16] _ rfl
                refine blkN ?_
                obtain rfl := Option.some.inj H2
                exact J335 _ _ ⟨A223, c224, A225, c226, A227, c228, A229, c230, A231, c232, A233, c234, hf1539.se [0, 1, 5, 6, 7, 9, 12], hm1543.se [4, 5, 6, 7, 0, 1, 2, 3, 8, 9] _ rfl⟩
              rcases if_split H2 with ⟨c1525, H2⟩ | ⟨c1525, H2⟩
              · refine rq [.bool true, .slice A1367 r1362.1.Data.length c1368, .bool true] [(0, .slice A0 x0.length c0), (1, .slice A1 x1.length c1), (5, vp b171), (6, vi r52.2), (7, vp b190), (9, vi s222.1), (12, .bool true)] hf1390 (oi (eqT c1524) (oc (hm1388.cell (j := 1) 0 rfl rfl) (oi (eqT c1525) ot))) fun a1526 w1528 hf1527 hg1529 => ?_
                have hm1530 := hm1388.still hg1529
                have hm1531 := hm1530.se [1, 2, 3, 4, 11, 12, 13, 14, 15, 16] _ rfl
                refine blkN ?_
                obtain rfl := Option.some.inj H2
                exact J335 _ _ ⟨A223, c224, A225, c226, A227, c228, A229, c230, A231, c232, A233, c234, hf1527.se [0, 1, 5, 6, 7, 9, 12], hm1531.se [4, 5, 6, 7, 0, 1, 2, 3, 8, 9] _ rfl⟩
              refine rq [.bool true, .slice A1367 r1362.1.Data.length c1368, .bool false] [(0, .slice A0 x0.length c0), (1, .slice A1 x1.length c1), (5, vp b171), (6, vi r52.2), (7, vp b190), (9, vi s222.1), (12, .bool false)] hf1390 (oi (eqT c1524) (oc (hm1388.cell (j := 1) 0 rfl rfl) (oi (eqF c1525) ot))) fun a1532 w1534 hf1533 hg1535 => ?_
              have hm1536 := hm1388.still hg1535
              have hm1537 := hm1536.se [1, 2, 3, 4, 11, 12, 13, 14, 15, 16] _ rfl
              refine blkN ?_
              obtain rfl := Option.some.inj H2
              exact J335 _ _ ⟨A223, c224, A225, c226, A227, c228, A229, c230, A231, c232, A233, c234, hf1533.se [0, 1, 5, 6, 7, 9, 12], hm1537.se [4, 5, 6, 7, 0, 1, 2, 3, 8, 9] _ rfl⟩
            rw [c1391] at hf1390
            rcases if_split H2 with ⟨c1392, H2⟩ | ⟨c1392, H2⟩
            rotate_left
            · refine rq [.bool false] [(0, .slice A0 x0.length c0), (1, .slice A1 x1.length c1), (5, vp b171), (6, vi r52.2), (7, vp b190), (9, vi s222.1), (12, .bool false)] hf1390 (oi (eqF c1392) ot) fun a1518 w1520 hf1519 hg1521 => ?_
              have hm1522 := hm1388.still hg1521
              have hm1523 := hm1522.se [1, 2, 3, 4, 11, 12, 13, 14, 15, 16] _ rfl
              refine blkN ?_
              obtain rfl := Option.some.inj H2
              exact J335 _ _ ⟨A223, c224, A225, c226, A227, c228, A229, c230, A231, c232, A233, c234, hf1519.se [0, 1, 5, 6, 7, 9, 12], hm1523.se [4, 5, 6, 7, 0, 1, 2, 3, 8, 9] _ rfl⟩
            obtain ⟨g1393, H2⟩ := if_guard H2
            obtain ⟨r1394, hr1394, H2⟩ := ob_split H2
            rcases ifb_split H2 with ⟨c1395, H2⟩ | ⟨c1395, H2⟩
            · refine midReg (fun (a : Act) (w : World) => Fr 218 a [(0, .slice A0 x0.length c0), (1, .slice A1 x1.length c1), (5, .pointer (some ⟨b171, 0, none⟩)), (6, .int .i64 r52.2), (7, .pointer (some ⟨b190, 0, none⟩)), (9, .int .i64 s222.1), (12, .bool true)] ∧ Mem [] M w0 [.bx b171 [.slice A229 s222.2.2.2.2.1.length c230, .slice A231 s222.2.2.2.2.2.1.length c232, .slice A233 s222.2.2.2.2.2.2.length c234] 72, .ow kTensor 29 A229 c230 s222.2.2.2.2.1, .ow (Kd.int .i64) 3 A231 c232 s222.2.2.2.2.2.1, .ow kTensor 29 A233 c234 s222.2.2.2.2.2.2, .bx b190 [.slice A223 s222.2.1.length c224, .slice A225 s222.2.2.1.length c226, .slice A227 s222.2.2.2.1.length c228] 65, .ow kTensor 29 A223 c224 s222.2.1, .ow kTensor 29 A225 c226 s222.2.2.1, .ow (Kd.int .i64) 3 A227 c228 s222.2.2.2.1, .sl kTensor A0 c0 x0, .sl kDeed A1 c1 x1] w) ?_ ?_
              · refine anyG (K := []) [] (by kernel_rfl) fun w1412 hg1413 => ?_
                have hm1414 := hm1388.still hg1413
                have q1434 := (hm1414.owAt 13 rfl).cells (rd x1 s222.1).I g1393.1 g1393.2
                obtain ⟨us1435, hr1436, hc1437⟩ := q1434.2
                obtain ⟨A1438, c1439, A1440, c1441, rfl, ⟨pA1438, sA1438⟩, ⟨pA1440, sA1440⟩⟩ := kTensor.open hr1436
                have hm1442 := hm1414.elem pA1438 sA1438
                have hm1443 := hm1442.elem pA1440 sA1440
                refine qt [0, 1, 2, 3, 4, 5, 6, 7, 8, 9, 10, 11, 12, 13, 14] [.bool true, .agg #[.slice A1365 r1362.1.Shape.length c1366, .slice A1367 r1362.1.Data.length c1368], .slice A225 s222.2.2.1.length c226, .int .i64 (rd x1 s222.1).I, .agg #[.slice A1438 (rd s222.2.2.1 (rd x1 s222.1).I).Shape.length c1439, .slice A1440 (rd s222.2.2.1 (rd x1 s222.1).I).Data.length c1441]] (fb 32 32767) [(0, .slice A0 x0.length c0), (1, .slice A1 x1.length c1), (5, vp b171), (6, vi r52.2), (7, vp b190), (9, vi s222.1), (11, .bool true), (16, vp b1378), (17, vi r1362.2), (173, .bool true), (174, .agg #[.slice A1365 r1362.1.Shape.length c1366, .slice A1367 r1362.1.Data.length c1368]), (182, .agg #[.slice A1438 (rd s222.2.2.1 (rd x1 s222.1).I).Shape.length c1439, .slice A1440 (rd s222.2.2.1 (rd x1 s222.1).I).Data.length c1441])] 17 hf1390 (oi (eqT c1392) (oc (hm1414.cell (j := 0) 0 rfl rfl) (oc (hm1414.cell (j := 1) 0 rfl rfl) (oc (hm1414.cell (j := 1) 11 rfl rfl) (oc (hm1414.cell (j := 1) 7 rfl rfl) (oi q1434.1 (oi g1393 (oc (hc1437 0 _ rfl) (oc (hc1437 1 _ rfl) ot))))))))) fun a1444 hf1445 => ?_
                refine a1 15 ?_
                refine oo hf1445 rfl (cl 183 hf1445 callable24 (ref1_SameTensor.calls _ _ _ _ _ _ rfl _ _ _ rfl _ _ _ _ rfl _ _ _ rfl (hm1443.give [7, 8, 1, 0] [.sl (Kd.int .i64) A1365 c1366 r1362.1.Shape, .sl Kd.float A1367 c1368 r1362.1.Data, .sl (Kd.int .i64) A1438 c1439 (rd s222.2.2.1 (rd x1 s222.1).I).Shape, .sl Kd.float A1440 c1441 (rd s222.2.2.1 (rd x1 s222.1).I).Data] rfl rfl) r1394 hr1394) ?_)
                rintro _ w1446 a1447 ⟨rfl, hk1449⟩ hf1448
                refine ⟨.inr (Gr.still hk1449.cum.none), ?_⟩
                have hm1450 := hm1443.still hk1449.cum.none
                rw [c1395] at hf1448
                refine qt [16, 17, 18, 19, 20, 21, 22, 23, 24, 25, 26, 27, 28, 29, 30, 31] [] (fb 32 4294967295) [(0, .slice A0 x0.length c0), (1, .slice A1 x1.length c1), (5, vp b171), (6, vi r52.2), (7, vp b190), (9, vi s222.1), (12, .bool true)] 0 hf1448 ot fun a1451 hf1452 => ?_
                refine aD ⟨rfl, hf1452.se [0, 1, 5, 6, 7, 9, 12], hm1450.se [3, 4, 5, 6, 13, 14, 15, 16, 17, 18] _ rfl⟩
              rintro a1453 w1454 ⟨hf1455, hm1456⟩
              refine blkN ?_
              obtain rfl := Option.some.inj H2
              exact J335 _ _ ⟨A223, c224, A225, c226, A227, c228, A229, c230, A231, c232, A233, c234, hf1455.se [0, 1, 5, 6, 7, 9, 12], hm1456.se [4, 5, 6, 7, 0, 1, 2, 3, 8, 9] _ rfl⟩
            refine midReg (fun (a : Act) (w : World) => Fr 218 a [(0, .slice A0 x0.length c0), (1, .slice A1 x1.length c1), (5, .pointer (some ⟨b171, 0, none⟩)), (6, .int .i64 r52.2), (7, .pointer (some ⟨b190, 0, none⟩)), (9, .int .i64 s222.1), (12, .bool false)] ∧ Mem [] M w0 [.bx b171 [.slice A229 s222.2.2.2.2.1.length c230, .slice A231 s222.2.2.2.2.2.1.length c232, .slice A233 s222.2.2.2.2.2.2.length c234] 72, .ow kTensor 29 A229 c230 s222.2.2.2.2.1, .ow (Kd.int .i64) 3 A231 c232 s222.2.2.2.2.2.1, .ow kTensor 29 A233 c234 s222.2.2.2.2.2.2, .bx b190 [.slice A223 s222.2.1.length c224, .slice A225 s222.2.2.1.length c226, .slice A227 s222.2.2.2.1.length c228] 65, .ow kTensor 29 A223 c224 s222.2.1, .ow kTensor 29 A225 c226 s222.2.2.1, .ow (Kd.int .i64) 3 A227 c228 s222.2.2.2.1, .sl kTensor A0 c0 x0, .sl kDeed A1 c1 x1] w) ?_ ?_
            · refine anyG (K := []) [] (by kernel_rfl) fun w1473 hg1474 => ?_
              have hm1475 := hm1388.still hg1474
              have q1495 := (hm1475.owAt 13 rfl).cells (rd x1 s222.1).I g1393.1 g1393.2
              obtain ⟨us1496, hr1497, hc1498⟩ := q1495.2
              obtain ⟨A1499, c1500, A1501, c1502, rfl, ⟨pA1499, sA1499⟩, ⟨pA1501, sA1501⟩⟩ := kTensor.open hr1497
              have hm1503 := hm1475.elem pA1499 sA1499
              have hm1504 := hm1503.elem pA1501 sA1501
              refine qt [0, 1, 2, 3, 4, 5, 6, 7, 8, 9, 10, 11, 12, 13, 14] [.bool true, .agg #[.slice A1365 r1362.1.Shape.length c1366, .slice A1367 r1362.1.Data.length c1368], .slice A225 s222.2.2.1.length c226, .int .i64 (rd x1 s222.1).I, .agg #[.slice A1499 (rd s222.2.2.1 (rd x1 s222.1).I).Shape.length c1500, .slice A1501 (rd s222.2.2.1 (rd x1 s222.1).I).Data.length c1502]] (fb 32 32767) [(0, .slice A0 x0.length c0), (1, .slice A1 x1.length c1), (5, vp b171), (6, vi r52.2), (7, vp b190), (9, vi s222.1), (11, .bool true), (16, vp b1378), (17, vi r1362.2), (173, .bool true), (174, .agg #[.slice A1365 r1362.1.Shape.length c1366, .slice A1367 r1362.1.Data.length c1368]), (182, .agg #[.slice A1499 (rd s222.2.2.1 (rd x1 s222.1).I).Shape.length c1500, .slice A1501 (rd s222.2.2.1 (rd x1 s222.1).I).Data.length c1502])] 17 hf1390 (oi (eqT c1392) (oc (hm1475.cell (j := 0) 0 rfl rfl) (oc (hm1475.cell (j := 1) 0 rfl rfl) (oc (hm1475.cell (j := 1) 11 rfl rfl) (oc (hm1475.cell (j := 1) 7 rfl rfl) (oi q1495.1 (oi g1393 (oc (hc1498 0 _ rfl) (oc (hc1498 1 _ rfl) ot))))))))) fun a1505 hf1506 => ?_
              refine a1 15 ?_
              refine oo hf1506 rfl (cl 183 hf1506 callable24 (ref1_SameTensor.calls _ _ _ _ _ _ rfl _ _ _ rfl _ _ _ _ rfl _ _ _ rfl (hm1504.give [7, 8, 1, 0] [.sl (Kd.int .i64) A1365 c1366 r1362.1.Shape, .sl Kd.float A1367 c1368 r1362.1.Data, .sl (Kd.int .i64) A1499 c1500 (rd s222.2.2.1 (rd x1 s222.1).I).Shape, .sl Kd.float A1501 c1502 (rd s222.2.2.1 (rd x1 s222.1).I).Data] rfl rfl) r1394 hr1394) ?_)
              rintro _ w1507 a1508 ⟨rfl, hk1510⟩ hf1509
              refine ⟨.inr (Gr.still hk1510.cum.none), ?_⟩
              have hm1511 := hm1504.still hk1510.cum.none
              rw [c1395] at hf1509
              refine qt [16, 17, 18, 19, 20, 21, 22, 23, 24, 25, 26, 27, 28, 29, 30, 31] [] (fb 32 4294967295) [(0, .slice A0 x0.length c0), (1, .slice A1 x1.length c1), (5, vp b171), (6, vi r52.2), (7, vp b190), (9, vi s222.1), (12, .bool false)] 0 hf1509 ot fun a1512 hf1513 => ?_
              refine aD ⟨rfl, hf1513.se [0, 1, 5, 6, 7, 9, 12], hm1511.se [3, 4, 5, 6, 13, 14, 15, 16, 17, 18] _ rfl⟩
            rintro a1514 w1515 ⟨hf1516, hm1517⟩
            refine blkN ?_
            obtain rfl := Option.some.inj H2
            exact J335 _ _ ⟨A223, c224, A225, c226, A227, c228, A229, c230, A231, c232, A233, c234, hf1516.se [0, 1, 5, 6, 7, 9, 12], hm1517.se [4, 5, 6, 7, 0, 1, 2, 3, 8, 9] _ rfl⟩
          rw [c1361] at hf1359
          refine cF hf1359 ?_
          refine wp_seq ?_
          obtain ⟨r1544, H3, H2⟩ := ob_split H2
          refine wpJoin (Mid := fun (a : Act) (w : World) => Fr 218 a [(0, .slice A0 x0.length c0), (1, .slice A1 x1.length c1), (5, .pointer (some ⟨b171, 0, none⟩)), (6, .int .i64 r52.2), (7, .pointer (some ⟨b190, 0, none⟩)), (9, .int .i64 s222.1), (10, .pointer (some ⟨b263, 0, none⟩)), (12, .bool true), (199, .bool r1544)] ∧ Mem [] M w0 [.bx b263 [.int .i64 (rd x1 s222.1).Do, .int .i64 (rd x1 s222.1).I, .slice A252 (rd x1 s222.1).T.Shape.length c253, .slice A254 (rd x1 s222.1).T.Data.length c255, .slice A256 (rd x1 s222.1).L.length c257] 62, .sl kTensor A256 c257 (rd x1 s222.1).L, .sl Kd.float A254 c255 (rd x1 s222.1).T.Data, .sl (Kd.int .i64) A252 c253 (rd x1 s222.1).T.Shape, .bx b190 [.slice A223 s222.2.1.length c224, .slice A225 s222.2.2.1.length c226, .slice A227 s222.2.2.2.1.length c228] 65, .ow kTensor 29 A223 c224 s222.2.1, .ow kTensor 29 A225 c226 s222.2.2.1, .ow (Kd.int .i64) 3 A227 c228 s222.2.2.2.1, .bx b171 [.slice A229 s222.2.2.2.2.1.length c230, .slice A231 s222.2.2.2.2.2.1.length c232, .slice A233 s222.2.2.2.2.2.2.length c234] 72, .ow kTensor 29 A229 c230 s222.2.2.2.2.1, .ow (Kd.int .i64) 3 A231 c232 s222.2.2.2.2.2.1, .ow kTensor 29 A233 c234 s222.2.2.2.2.2.2, .sl kTensor A0 c0 x0, .sl kDeed A1 c1 x1] w) ?_ ?_
          · intro J1737
            rcases if_split H3 with ⟨c1738, H3⟩ | ⟨c1738, H3⟩
            · refine rg [.bool true] [(0, .slice A0 x0.length c0), (1, .slice A1 x1.length c1), (5, vp b171), (6, vi r52.2), (7, vp b190), (9, vi s222.1), (10, vp b263), (12, .bool true), (199, .bool true)] hf1359 (oi (eqT c1738) ot) fun a1739 hf1740 => ?_
              obtain rfl := Option.some.inj H3
              exact J1737 _ _ ⟨hf1740.se [0, 1, 5, 6, 7, 9, 10, 12, 199], hm1360.se [0, 1, 2, 3, 4, 5, 6, 7, 8, 9, 10, 11, 12, 13] _ rfl⟩
            refine rg [.bool false] [(0, .slice A0 x0.length c0), (1, .slice A1 x1.length c1), (5, vp b171), (6, vi r52.2), (7, vp b190), (9, vi s222.1), (10, vp b263), (12, .bool true), (199, .bool false)] hf1359 (oi (eqF c1738) ot) fun a1741 hf1742 => ?_
            obtain rfl := Option.some.inj H3
            exact J1737 _ _ ⟨hf1742.se [0, 1, 5, 6, 7, 9, 10, 12, 199], hm1360.se [0, 1, 2, 3, 4, 5, 6, 7, 8, 9, 10, 11, 12, 13] _ rfl⟩
          rintro a1545 w1546 ⟨hf1547, hm1548⟩
          refine thenN ?_
          rcases ifb_split H2 with ⟨c1549, H2⟩ | ⟨c1549, H2⟩
          rotate_left
          · rw [c1549] at hf1547
            refine cF hf1547 ?_
            refine wp_skip ?_
            refine blkN ?_
            obtain rfl := Option.some.inj H2
            exact J335 _ _ ⟨A223, c224, A225, c226, A227, c228, A229, c230, A231, c232, A233, c234, hf1547.se [0, 1, 5, 6, 7, 9, 12], hm1548.se [4, 5, 6, 7, 8, 9, 10, 11, 12, 13] _ rfl⟩
          rw [c1549] at hf1547
          refine cT hf1547 ?_
          obtain ⟨r1550, hr1550, H2⟩ := ob_split H2
          obtain ⟨r1551, hr1551, H2⟩ := ob_split H2
          rcases if_split H2 with ⟨c1552, H2⟩ | ⟨c1552, H2⟩
          · refine midReg (fun (a : Act) (w : World) => ∃ (A1559 : Option Addr) (c1560 : Nat) (A1553 : Option Addr) (c1554 : Nat), Fr 218 a [(0, .slice A0 x0.length c0), (1, .slice A1 x1.length c1), (5, .pointer (some ⟨b171, 0, none⟩)), (6, .int .i64 r52.2), (7, .pointer (some ⟨b190, 0, none⟩)), (9, .int .i64 s222.1), (12, .bool true)] ∧ Mem [] M w0 [.bx b190 [.slice A223 s222.2.1.length c224, .slice A1559 r1551.1.length c1560, .slice A227 s222.2.2.2.1.length c228] 65, .ow kTensor 29 A223 c224 s222.2.1, .ow kTensor 29 A1559 c1560 r1551.1, .ow (Kd.int .i64) 3 A227 c228 s222.2.2.2.1, .bx b171 [.slice A229 s222.2.2.2.2.1.length c230, .slice A231 s222.2.2.2.2.2.1.length c232, .slice A1553 r1550.1.length c1554] 72, .ow kTensor 29 A229 c230 s222.2.2.2.2.1, .ow (Kd.int .i64) 3 A231 c232 s222.2.2.2.2.2.1, .ow kTensor 29 A1553 c1554 r1550.1, .sl kTensor A0 c0 x0, .sl kDeed A1 c1 x1] w) ?_ ?_
            · refine anyG (K := []) [3, 7] (by kernel_rfl) fun w1566 hg1567 => ?_
              have hm1568 := hm1548.still hg1567
              refine qt [0, 1, 2, 4, 5] [.int .i64 (rd x1 s222.1).I] (fb 10 55) [(0, .slice A0 x0.length c0), (1, .slice A1 x1.length c1), (5, vp b171), (6, vi r52.2), (7, vp b190), (9, vi s222.1), (12, .bool true), (201, vp b171), (203, vi (rd x1 s222.1).I), (205, vp b190), (206, .pointer (some ⟨b263, 1, none⟩))] 5 hf1547 (oc (hm1568.cell (j := 1) 0 rfl rfl) ot) fun a1603 hf1604 => ?_
              refine all2 3 6 (by kernel_rfl) ?_ ?_
              · refine oo hf1604 rfl (cl 204 hf1604 callable12 (shelf_Shelf_Zero.calls _ _ _ (⟨s222.2.2.2.2.1, s222.2.2.2.2.2.1, s222.2.2.2.2.2.2⟩ : Shelf) _ _ _ _ rfl _ _ _ rfl _ _ _ rfl (rd x1 s222.1).I (hm1568.giveO [8, 9, 10, 11] [0, 1, 2, 3, 4, 5, 6, 7, 12, 13] [] [.bx b171 [.slice A229 s222.2.2.2.2.1.length c230, .slice A231 s222.2.2.2.2.2.1.length c232, .slice A233 s222.2.2.2.2.2.2.length c234] 72, .ow kTensor 29 A229 c230 s222.2.2.2.2.1, .ow (Kd.int .i64) 3 A231 c232 s222.2.2.2.2.2.1, .ow kTensor 29 A233 c234 s222.2.2.2.2.2.2] _ [] rfl rfl rfl (by kernel_rfl) rfl) r1550 hr1550) ?_)
                rintro _ w1607 a1608 ⟨A1605, c1606, rfl, hk1610⟩ hf1609
                refine ⟨.inl (by decide), ?_⟩
                have hm1611 := hm1568.backO [8, 9, 10, 11] [0, 1, 2, 3, 4, 5, 6, 7, 12, 13] _ _ rfl rfl (by kernel_rfl) hk1610
                refine a1 6 ?_
                refine oo hf1609 rfl (on [.int .i64 (rd x1 s222.1).I] (.int .i64 (rd x1 s222.1).I) 207 hf1609 (oc (hm1611.cell (j := 1) 4 rfl rfl) ot) fun a1612 hf1613 => ?_)
                refine ⟨.inr (Gr.refl _ _), ?_⟩
                refine a1 7 ?_
                refine oo hf1613 rfl (cl 208 hf1613 callable28 (ref19_Shelf_Zero.calls _ _ _ (⟨s222.2.1, s222.2.2.1, s222.2.2.2.1⟩ : Shelf65) _ _ _ _ rfl _ _ _ rfl _ _ _ rfl (rd x1 s222.1).I (hm1611.giveO [8, 9, 10, 11] [0, 1, 2, 3, 4, 5, 6, 7, 12, 13] [] [.bx b190 [.slice A223 s222.2.1.length c224, .slice A225 s222.2.2.1.length c226, .slice A227 s222.2.2.2.1.length c228] 65, .ow kTensor 29 A223 c224 s222.2.1, .ow kTensor 29 A225 c226 s222.2.2.1, .ow (Kd.int .i64) 3 A227 c228 s222.2.2.2.1] _ [] rfl rfl rfl (by kernel_rfl) rfl) r1551 hr1551) ?_)
                rintro _ w1616 a1617 ⟨A1614, c1615, rfl, hk1619⟩ hf1618
                refine ⟨.inl (by decide), ?_⟩
                have hm1620 := hm1611.backO [8, 9, 10, 11] [0, 1, 2, 3, 4, 5, 6, 7, 12, 13] _ _ rfl rfl (by kernel_rfl) hk1619
                refine qt [8, 9] [.bool true] (fb 10 1023) [(0, .slice A0 x0.length c0), (1, .slice A1 x1.length c1), (5, vp b171), (6, vi r52.2), (7, vp b190), (9, vi s222.1), (12, .bool true)] 0 hf1618 (oi (eqT c1552) ot) fun a1621 hf1622 => ?_
                refine aD ⟨rfl, A1614, c1615, A1605, c1606, hf1622.se [0, 1, 5, 6, 7, 9, 12], hm1620.se [0, 1, 2, 3, 4, 5, 6, 7, 12, 13] _ rfl⟩
              · refine oo hf1604 rfl (on [.int .i64 (rd x1 s222.1).I] (.int .i64 (rd x1 s222.1).I) 207 hf1604 (oc (hm1568.cell (j := 1) 0 rfl rfl) ot) fun a1623 hf1624 => ?_)
                refine ⟨.inr (Gr.refl _ _), ?_⟩
                refine a1 3 ?_
                refine oo hf1624 rfl (cl 204 hf1624 callable12 (shelf_Shelf_Zero.calls _ _ _ (⟨s222.2.2.2.2.1, s222.2.2.2.2.2.1, s222.2.2.2.2.2.2⟩ : Shelf) _ _ _ _ rfl _ _ _ rfl _ _ _ rfl (rd x1 s222.1).I (hm1568.giveO [8, 9, 10, 11] [0, 1, 2, 3, 4, 5, 6, 7, 12, 13] [] [.bx b171 [.slice A229 s222.2.2.2.2.1.length c230, .slice A231 s222.2.2.2.2.2.1.length c232, .slice A233 s222.2.2.2.2.2.2.length c234] 72, .ow kTensor 29 A229 c230 s222.2.2.2.2.1, .ow (Kd.int .i64) 3 A231 c232 s222.2.2.2.2.2.1, .ow kTensor 29 A233 c234 s222.2.2.2.2.2.2] _ [] rfl rfl rfl (by kernel_rfl) rfl) r1550 hr1550) ?_)
                rintro _ w1627 a1628 ⟨A1625, c1626, rfl, hk1630⟩ hf1629
                refine ⟨.inl (by decide), ?_⟩
                have hm1631 := hm1568.backO [8, 9, 10, 11] [0, 1, 2, 3, 4, 5, 6, 7, 12, 13] _ _ rfl rfl (by kernel_rfl) hk1630
                refine a1 7 ?_
                refine oo hf1629 rfl (cl 208 hf1629 callable28 (ref19_Shelf_Zero.calls _ _ _ (⟨s222.2.1, s222.2.2.1, s222.2.2.2.1⟩ : Shelf65) _ _ _ _ rfl _ _ _ rfl _ _ _ rfl (rd x1 s222.1).I (hm1631.giveO [8, 9, 10, 11] [0, 1, 2, 3, 4, 5, 6, 7, 12, 13] [] [.bx b190 [.slice A223 s222.2.1.length c224, .slice A225 s222.2.2.1.length c226, .slice A227 s222.2.2.2.1.length c228] 65, .ow kTensor 29 A223 c224 s222.2.1, .ow kTensor 29 A225 c226 s222.2.2.1, .ow (Kd.int .i64) 3 A227 c228 s222.2.2.2.1] _ [] rfl rfl rfl (by kernel_rfl) rfl) r1551 hr1551) ?_)
                rintro _ w1634 a1635 ⟨A1632, c1633, rfl, hk1637⟩ hf1636
                refine ⟨.inl (by decide), ?_⟩
                have hm1638 := hm1631.backO [8, 9, 10, 11] [0, 1, 2, 3, 4, 5, 6, 7, 12, 13] _ _ rfl rfl (by kernel_rfl) hk1637
                refine qt [8, 9] [.bool true] (fb 10 1023) [(0, .slice A0 x0.length c0), (1, .slice A1 x1.length c1), (5, vp b171), (6, vi r52.2), (7, vp b190), (9, vi s222.1), (12, .bool true)] 0 hf1636 (oi (eqT c1552) ot) fun a1639 hf1640 => ?_
                refine aD ⟨rfl, A1632, c1633, A1625, c1626, hf1640.se [0, 1, 5, 6, 7, 9, 12], hm1638.se [0, 1, 2, 3, 4, 5, 6, 7, 12, 13] _ rfl⟩
            rintro a1641 w1642 ⟨A1559, c1560, A1553, c1554, hf1643, hm1644⟩
            refine blkN ?_
            obtain rfl := Option.some.inj H2
            exact J335 _ _ ⟨A223, c224, A1559, c1560, A227, c228, A229, c230, A231, c232, A1553, c1554, hf1643.se [0, 1, 5, 6, 7, 9, 12], hm1644.se [0, 1, 2, 3, 4, 5, 6, 7, 8, 9] _ rfl⟩
          refine midReg (fun (a : Act) (w : World) => ∃ (A1651 : Option Addr) (c1652 : Nat) (A1645 : Option Addr) (c1646 : Nat), Fr 218 a [(0, .slice A0 x0.length c0), (1, .slice A1 x1.length c1), (5, .pointer (some ⟨b171, 0, none⟩)), (6, .int .i64 r52.2), (7, .pointer (some ⟨b190, 0, none⟩)), (9, .int .i64 s222.1), (12, .bool false)] ∧ Mem [] M w0 [.bx b190 [.slice A223 s222.2.1.length c224, .slice A1651 r1551.1.length c1652, .slice A227 s222.2.2.2.1.length c228] 65, .ow kTensor 29 A223 c224 s222.2.1, .ow kTensor 29 A1651 c1652 r1551.1, .ow (Kd.int .i64) 3 A227 c228 s222.2.2.2.1, .bx b171 [.slice A229 s222.2.2.2.2.1.length c230, .slice A231 s222.2.2.2.2.2.1.length c232, .slice A1645 r1550.1.length c1646] 72, .ow kTensor 29 A229 c230 s222.2.2.2.2.1, .ow (Kd.int .i64) 3 A231 c232 s222.2.2.2.2.2.1, .ow kTensor 29 A1645 c1646 r1550.1, .sl kTensor A0 c0 x0, .sl kDeed A1 c1 x1] w) ?_ ?_
          · refine anyG (K := []) [3, 7] (by kernel_rfl) fun w1658 hg1659 => ?_
            have hm1660 := hm1548.still hg1659
            refine qt [0, 1, 2, 4, 5] [.int .i64 (rd x1 s222.1).I] (fb 10 55) [(0, .slice A0 x0.length c0), (1, .slice A1 x1.length c1), (5, vp b171), (6, vi r52.2), (7, vp b190), (9, vi s222.1), (12, .bool true), (201, vp b171), (203, vi (rd x1 s222.1).I), (205, vp b190), (206, .pointer (some ⟨b263, 1, none⟩))] 5 hf1547 (oc (hm1660.cell (j := 1) 0 rfl rfl) ot) fun a1695 hf1696 => ?_
            refine all2 3 6 (by kernel_rfl) ?_ ?_
            · refine oo hf1696 rfl (cl 204 hf1696 callable12 (shelf_Shelf_Zero.calls _ _ _ (⟨s222.2.2.2.2.1, s222.2.2.2.2.2.1, s222.2.2.2.2.2.2⟩ : Shelf) _ _ _ _ rfl _ _ _ rfl _ _ _ rfl (rd x1 s222.1).I (hm1660.giveO [8, 9, 10, 11] [0, 1, 2, 3, 4, 5, 6, 7, 12, 13] [] [.bx b171 [.slice A229 s222.2.2.2.2.1.length c230, .slice A231 s222.2.2.2.2.2.1.length c232, .slice A233 s222.2.2.2.2.2.2.length c234] 72, .ow kTensor 29 A229 c230 s222.2.2.2.2.1, .ow (Kd.int .i64) 3 A231 c232 s222.2.2.2.2.2.1, .ow kTensor 29 A233 c234 s222.2.2.2.2.2.2] _ [] rfl rfl rfl (by kernel_rfl) rfl) r1550 hr1550) ?_)
              rintro _ w1699 a1700 ⟨A1697, c1698, rfl, hk1702⟩ hf1701
              refine ⟨.inl (by decide), ?_⟩
              have hm1703 := hm1660.backO [8, 9, 10, 11] [0, 1, 2, 3, 4, 5, 6, 7, 12, 13] _ _ rfl rfl (by kernel_rfl) hk1702
              refine a1 6 ?_
              refine oo hf1701 rfl (on [.int .i64 (rd x1 s222.1).I] (.int .i64 (rd x1 s222.1).I) 207 hf1701 (oc (hm1703.cell (j := 1) 4 rfl rfl) ot) fun a1704 hf1705 => ?_)
              refine ⟨.inr (Gr.refl _ _), ?_⟩
              refine a1 7 ?_
              refine oo hf1705 rfl (cl 208 hf1705 callable28 (ref19_Shelf_Zero.calls _ _ _ (⟨s222.2.1, s222.2.2.1, s222.2.2.2.1⟩ : Shelf65) _ _ _ _ rfl _ _ _ rfl _ _ _ rfl (rd x1 s222.1).I (hm1703.giveO [8, 9, 10, 11] [0, 1, 2, 3, 4, 5, 6, 7, 12, 13] [] [.bx b190 [.slice A223 s222.2.1.length c224, .slice A225 s222.2.2.1.length c226, .slice A227 s222.2.2.2.1.length c228] 65, .ow kTensor 29 A223 c224 s222.2.1, .ow kTensor 29 A225 c226 s222.2.2.1, .ow (Kd.int .i64) 3 A227 c228 s222.2.2.2.1] _ [] rfl rfl rfl (by kernel_rfl) rfl) r1551 hr1551) ?_)
              rintro _ w1708 a1709 ⟨A1706, c1707, rfl, hk1711⟩ hf1710
              refine ⟨.inl (by decide), ?_⟩
              have hm1712 := hm1703.backO [8, 9, 10, 11] [0, 1, 2, 3, 4, 5, 6, 7, 12, 13] _ _ rfl rfl (by kernel_rfl) hk1711
              refine qt [8, 9] [.bool false] (fb 10 1023) [(0, .slice A0 x0.length c0), (1, .slice A1 x1.length c1), (5, vp b171), (6, vi r52.2), (7, vp b190), (9, vi s222.1), (12, .bool false)] 0 hf1710 (oi (eqF c1552) ot) fun a1713 hf1714 => ?_
              refine aD ⟨rfl, A1706, c1707, A1697, c1698, hf1714.se [0, 1, 5, 6, 7, 9, 12], hm1712.se [0, 1, 2, 3, 4, 5, 6, 7, 12, 13] _ rfl⟩
            · refine oo hf1696 rfl (on [.int .i64 (rd x1 s222.1).I] (.int .i64 (rd x1 s222.1).I) 207 hf1696 (oc (hm1660.cell (j := 1) 0 rfl rfl) ot) fun a1715 hf1716 => ?_)
              refine ⟨.inr (Gr.refl _ _), ?_⟩
              refine a1 3 ?_
              refine oo hf1716 rfl (cl 204 hf1716 callable12 (shelf_Shelf_Zero.calls _ _ _ (⟨s222.2.2.2.2.1, s222.2.2.2.2.2.1, s222.2.2.2.2.2.2⟩ : Shelf) _ _ _ _ rfl _ _ _ rfl _ _ _ rfl (rd x1 s222.1).I (hm1660.giveO [8, 9, 10, 11] [0, 1, 2, 3, 4, 5, 6, 7, 12, 13] [] [.bx b171 [.slice A229 s222.2.2.2.2.1.length c230, .slice A231 s222.2.2.2.2.2.1.length c232, .slice A233 s222.2.2.2.2.2.2.length c234] 72, .ow kTensor 29 A229 c230 s222.2.2.2.2.1, .ow (Kd.int .i64) 3 A231 c232 s222.2.2.2.2.2.1, .ow kTensor 29 A233 c234 s222.2.2.2.2.2.2] _ [] rfl rfl rfl (by kernel_rfl) rfl) r1550 hr1550) ?_)
              rintro _ w1719 a1720 ⟨A1717, c1718, rfl, hk1722⟩ hf1721
              refine ⟨.inl (by decide), ?_⟩
              have hm1723 := hm1660.backO [8, 9, 10, 11] [0, 1, 2, 3, 4, 5, 6, 7, 12, 13] _ _ rfl rfl (by kernel_rfl) hk1722
              refine a1 7 ?_
              refine oo hf1721 rfl (cl 208 hf1721 callable28 (ref19_Shelf_Zero.calls _ _ _ (⟨s222.2.1, s222.2.2.1, s222.2.2.2.1⟩ : Shelf65) _ _ _ _ rfl _ _ _ rfl _ _ _ rfl (rd x1 s222.1).I (hm1723.giveO [8, 9, 10, 11] [0, 1, 2, 3, 4, 5, 6, 7, 12, 13] [] [.bx b190 [.slice A223 s222.2.1.length c224, .slice A225 s222.2.2.1.length c226, .slice A227 s222.2.2.2.1.length c228] 65, .ow kTensor 29 A223 c224 s222.2.1, .ow kTensor 29 A225 c226 s222.2.2.1, .ow (Kd.int .i64) 3 A227 c228 s222.2.2.2.1] _ [] rfl rfl rfl (by kernel_rfl) rfl) r1551 hr1551) ?_)
              rintro _ w1726 a1727 ⟨A1724, c1725, rfl, hk1729⟩ hf1728
              refine ⟨.inl (by decide), ?_⟩
              have hm1730 := hm1723.backO [8, 9, 10, 11] [0, 1, 2, 3, 4, 5, 6, 7, 12, 13] _ _ rfl rfl (by kernel_rfl) hk1729
              refine qt [8, 9] [.bool false] (fb 10 1023) [(0, .slice A0 x0.length c0), (1, .slice A1 x1.length c1), (5, vp b171), (6, vi r52.2), (7, vp b190), (9, vi s222.1), (12, .bool false)] 0 hf1728 (oi (eqF c1552) ot) fun a1731 hf1732 => ?_
              refine aD ⟨rfl, A1724, c1725, A1717, c1718, hf1732.se [0, 1, 5, 6, 7, 9, 12], hm1730.se [0, 1, 2, 3, 4, 5, 6, 7, 12, 13] _ rfl⟩
          rintro a1733 w1734 ⟨A1651, c1652, A1645, c1646, hf1735, hm1736⟩
          refine blkN ?_
          obtain rfl := Option.some.inj H2
          exact J335 _ _ ⟨A223, c224, A1651, c1652, A227, c228, A229, c230, A231, c232, A1645, c1646, hf1735.se [0, 1, 5, 6, 7, 9, 12], hm1736.se [0, 1, 2, 3, 4, 5, 6, 7, 8, 9] _ rfl⟩
        rintro a296 w297 ⟨A284, c285, A286, c287, A288, c289, A290, c291, A292, c293, A294, c295, hf298, hm299⟩
        refine thenN ?_
        refine wp_seq ?_
        rcases ifbS_split H1 with ⟨c300, H1⟩ | ⟨c300, H1⟩
        rotate_left
        · rw [c300] at hf298
          refine rg [] [(0, .slice A0 x0.length c0), (1, .slice A1 x1.length c1), (5, vp b171), (6, vi r52.2), (7, vp b190), (9, vi s222.1), (217, .bool true)] hf298 ot fun a328 hf329 => ?_
          refine thenN ?_
          refine cT hf329 ?_
          refine wp_seq ?_
          refine rg [] [(4, .bool false)] hf329 ot fun a330 hf331 => ?_
          have hm332 := hm299.se [] _ rfl
          refine thenN ?_
          refine wp_ret ?_
          refine blkR ?_
          refine thenR ?_
          refine thenR ?_
          refine .inr ⟨rfl, ?_⟩
          refine thenR ?_
          have hm333 : Mem [] M w0 [] w297 := hm332.se [] _ rfl
          obtain rfl := Option.some.inj H1
          obtain rfl := Option.some.inj H0
          refine rt [] [.bool false] hf331 ot ?_
          exact ⟨_, rfl, rfl, hm333⟩
        rw [c300] at hf298
        obtain ⟨r301, hr301, H1⟩ := obS_split H1
        rcases ifbS_split H1 with ⟨c302, H1⟩ | ⟨c302, H1⟩
        · refine inReg ?_
          refine gg 5 [] [(0, .slice A0 x0.length c0), (1, .slice A1 x1.length c1), (5, vp b171), (6, vi r52.2), (7, vp b190), (9, vi s222.1), (212, .bool false), (213, vp b171), (214, vp b190)] hf298 ot fun a303 hf304 => ?_
          refine lo hf304 rfl (cl 215 hf304 callable18 (law19_Same.calls _ _ _ (⟨r283.2.2.2.2.1, r283.2.2.2.2.2.1, r283.2.2.2.2.2.2⟩ : Shelf) _ _ _ _ rfl _ _ _ rfl _ _ _ rfl (⟨r283.2.1, r283.2.2.1, r283.2.2.2.1⟩ : Shelf65) _ _ _ _ rfl _ _ _ rfl _ _ _ rfl (hm299.giveO [4, 5, 6, 7, 0, 1, 2, 3] [8, 9] [] [.bx b171 [.slice A290 r283.2.2.2.2.1.length c291, .slice A292 r283.2.2.2.2.2.1.length c293, .slice A294 r283.2.2.2.2.2.2.length c295] 72, .ow kTensor 29 A290 c291 r283.2.2.2.2.1, .ow (Kd.int .i64) 3 A292 c293 r283.2.2.2.2.2.1, .ow kTensor 29 A294 c295 r283.2.2.2.2.2.2, .bx b190 [.slice A284 r283.2.1.length c285, .slice A286 r283.2.2.1.length c287, .slice A288 r283.2.2.2.1.length c289] 65, .ow kTensor 29 A284 c285 r283.2.1, .ow kTensor 29 A286 c287 r283.2.2.1, .ow (Kd.int .i64) 3 A288 c289 r283.2.2.2.1] _ [] rfl rfl rfl (by kernel_rfl) rfl) r301 hr301) ?_)
          rintro _ w305 a306 ⟨rfl, hk308⟩ hf307
          have hm309 := hm299.backO [4, 5, 6, 7, 0, 1, 2, 3] [8, 9] _ _ rfl rfl (by kernel_rfl) hk308
          rw [c302] at hf307
          refine gg 2 [] [(0, .slice A0 x0.length c0), (1, .slice A1 x1.length c1), (5, vp b171), (6, vi r52.2), (7, vp b190), (9, vi s222.1), (217, .bool false)] hf307 ot fun a310 hf311 => ?_
          refine endL rfl ?_
          refine thenN ?_
          refine cF hf311 ?_
          refine wp_skip ?_
          refine blkN ?_
          refine thenN ?_
          refine rg [] [(0, .slice A0 x0.length c0), (1, .slice A1 x1.length c1), (5, vp b171), (6, vi r52.2), (7, vp b190), (9, vi (w64 (s222.1 + 1)))] hf311 ot fun a312 hf313 => ?_
          exact ⟨((w64 (s222.1 + 1)), r283.2.1, r283.2.2.1, r283.2.2.2.1, r283.2.2.2.2.1, r283.2.2.2.2.2.1, r283.2.2.2.2.2.2), H1, A284, c285, A286, c287, A288, c289, A290, c291, A292, c293, A294, c295, hf313.se [0, 1, 5, 6, 7, 9], hm309.se [4, 5, 6, 7, 0, 1, 2, 3, 8, 9] _ rfl⟩
        refine inReg ?_
        refine gg 5 [] [(0, .slice A0 x0.length c0), (1, .slice A1 x1.length c1), (5, vp b171), (6, vi r52.2), (7, vp b190), (9, vi s222.1), (212, .bool false), (213, vp b171), (214, vp b190)] hf298 ot fun a314 hf315 => ?_
        refine lo hf315 rfl (cl 215 hf315 callable18 (law19_Same.calls _ _ _ (⟨r283.2.2.2.2.1, r283.2.2.2.2.2.1, r283.2.2.2.2.2.2⟩ : Shelf) _ _ _ _ rfl _ _ _ rfl _ _ _ rfl (⟨r283.2.1, r283.2.2.1, r283.2.2.2.1⟩ : Shelf65) _ _ _ _ rfl _ _ _ rfl _ _ _ rfl (hm299.giveO [4, 5, 6, 7, 0, 1, 2, 3] [8, 9] [] [.bx b171 [.slice A290 r283.2.2.2.2.1.length c291, .slice A292 r283.2.2.2.2.2.1.length c293, .slice A294 r283.2.2.2.2.2.2.length c295] 72, .ow kTensor 29 A290 c291 r283.2.2.2.2.1, .ow (Kd.int .i64) 3 A292 c293 r283.2.2.2.2.2.1, .ow kTensor 29 A294 c295 r283.2.2.2.2.2.2, .bx b190 [.slice A284 r283.2.1.length c285, .slice A286 r283.2.2.1.length c287, .slice A288 r283.2.2.2.1.length c289] 65, .ow kTensor 29 A284 c285 r283.2.1, .ow kTensor 29 A286 c287 r283.2.2.1, .ow (Kd.int .i64) 3 A288 c289 r283.2.2.2.1] _ [] rfl rfl rfl (by kernel_rfl) rfl) r301 hr301) ?_)
        rintro _ w316 a317 ⟨rfl, hk319⟩ hf318
        have hm320 := hm299.backO [4, 5, 6, 7, 0, 1, 2, 3] [8, 9] _ _ rfl rfl (by kernel_rfl) hk319
        rw [c302] at hf318
        refine gg 2 [] [(0, .slice A0 x0.length c0), (1, .slice A1 x1.length c1), (5, vp b171), (6, vi r52.2), (7, vp b190), (9, vi s222.1), (217, .bool true)] hf318 ot fun a321 hf322 => ?_
        refine endL rfl ?_
        refine thenN ?_
        refine cT hf322 ?_
        refine wp_seq ?_
        refine rg [] [(4, .bool false)] hf322 ot fun a323 hf324 => ?_
        have hm325 := hm320.se [] _ rfl
        refine thenN ?_
        refine wp_ret ?_
        refine blkR ?_
        refine thenR ?_
        refine thenR ?_
        refine .inr ⟨rfl, ?_⟩
        refine thenR ?_
        have hm326 : Mem [] M w0 [] w316 := hm325.se [] _ rfl
        obtain rfl := Option.some.inj H1
        obtain rfl := Option.some.inj H0
        refine rt [] [.bool false] hf324 ot ?_
        exact ⟨_, rfl, rfl, hm326⟩
      rintro a1796 w1797 ⟨yr235, rfl, A223, c224, A225, c226, A227, c228, A229, c230, A231, c232, A233, c234, hf1798, hm1799⟩
      refine thenN ?_
      refine wp_seq ?_
      refine rg [] [(4, .bool true)] hf1798 ot fun a1800 hf1801 => ?_
      have hm1802 := hm1799.se [] _ rfl
      refine thenN ?_
      refine wp_ret ?_
      have hm1803 : Mem [] M w0 [] w1797 := hm1802.se [] _ rfl
      obtain rfl := Option.some.inj H0
      refine rt [] [.bool true] hf1801 ot ?_
      exact ⟨_, rfl, rfl, hm1803⟩
end Go.Proofs.Yteaoijahdinciaa
