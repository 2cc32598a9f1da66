/- Printed by gen.py. -/
import Derived.Test.YteaoijahdinciaaF1
namespace Go.Proofs.Yteaoijahdinciaa
open Go Go.RowKit
set_option linter.unusedSimpArgs false
set_option linter.unusedVariables false
set_option linter.unnecessarySimpa false
/-! ### (*backstitch/shelf.Shelf).All -/
noncomputable def shelf_Shelf_All.l0 (x0 : Shelf) (s33 : (Int × (List Tensor))) : Step (Int × (List Tensor)) (Int × (List Tensor)) :=
  if s33.1 < (x0.l.length : Int) then (if 0 ≤ s33.1 ∧ s33.1 < (x0.l.length : Int) then (bindS (tensor_Copy.f (⟨(rd x0.l s33.1).Shape, (rd x0.l s33.1).Data⟩ : Tensor)) fun r70 =>
  if s33.2.length + 1 ≤ 549755813888 then (.next ((w64 (s33.1 + 1)), (s33.2 ++ ([r70] : List Tensor))))
  else .bad)
  else .bad)
  else (.done (s33.1, s33.2))
noncomputable def shelf_Shelf_All.f (x0 : Shelf) : Option ((List Tensor) × (List Int)) :=
  (loop (shelf_Shelf_All.l0 x0) (0, ([] : (List Tensor)))).bind fun r36 =>
  (slices_Clone_int.f x0.vers).bind fun r114 =>
  some (r36.2, r114)
set_option maxRecDepth 100000 in
set_option maxHeartbeats 4000000 in
theorem shelf_Shelf_All.calls (B0 : List (Option Nat)) (M : List (Option Nat)) (w0 : World) (x0 : Shelf) (b0 : Nat) (A0_0 : Option Addr) (n0_0 c0_0 : Nat) (e0_0 : n0_0 = x0.l.length) (A0_1 : Option Addr) (n0_1 c0_1 : Nat) (e0_1 : n0_1 = x0.vers.length) (A0_2 : Option Addr) (n0_2 c0_2 : Nat) (e0_2 : n0_2 = x0.grads.length) (hm0 : Mem B0 M w0 [.bx b0 [.slice A0_0 n0_0 c0_0, .slice A0_1 n0_1 c0_1, .slice A0_2 n0_2 c0_2] 72, .ow kTensor 29 A0_0 c0_0 x0.l, .ow (Kd.int .i64) 3 A0_1 c0_1 x0.vers, .ow kTensor 29 A0_2 c0_2 x0.grads] w0) (r : ((List Tensor) × (List Int))) (H0 : shelf_Shelf_All.f x0 = some r) :
    Calls Try.prog 17 [.pointer (some ⟨b0, 0, none⟩)].toArray w0 (fun x w' => ∃ v, x = .returned v ∧ ∃ Ar0 cr0 Ar1 cr1, v = .tuple #[.slice Ar0 r.1.length cr0, .slice Ar1 r.2.length cr1] ∧ Mem B0 M w0 [.bx b0 [.slice A0_0 x0.l.length c0_0, .slice A0_1 x0.vers.length c0_1, .slice A0_2 x0.grads.length c0_2] 72, .ow kTensor 29 A0_0 c0_0 x0.l, .ow (Kd.int .i64) 3 A0_1 c0_1 x0.vers, .ow kTensor 29 A0_2 c0_2 x0.grads, .ow kTensor 29 Ar0 cr0 r.1, .ow (Kd.int .i64) 3 Ar1 cr1 r.2] w') := by
  subst e0_0
  subst e0_1
  subst e0_2
  unfold shelf_Shelf_All.f at H0
  refine enter (n := 30) Try.func17 rfl rfl (by kernel_rfl) fun a0 (hf0 : Fr 30 a0 [(0, .pointer (some ⟨b0, 0, none⟩))]) => ?_
  refine wp_seq ?_
  refine rg [] [(0, vp b0)] hf0 ot fun a21 hf22 => ?_
  refine thenN ?_
  refine wp_seq ?_
  refine wp_seq ?_
  refine rg [] [(0, vp b0), (8, .bool false)] hf22 ot fun a23 hf24 => ?_
  refine thenN ?_
  refine cF hf24 ?_
  refine wp_skip ?_
  refine thenN ?_
  refine wp_seq ?_
  refine rg [] [(0, vp b0), (4, .slice none 0 0)] hf24 ot fun a25 hf26 => ?_
  refine thenN ?_
  refine wp_seq ?_
  refine wp_seq ?_
  refine rg [.slice A0_0 x0.l.length c0_0] [(0, vp b0), (4, .slice none 0 0), (12, .slice A0_0 x0.l.length c0_0), (13, vi (x0.l.length : Int)), (14, vi 0)] hf26 (oc (hm0.cell (j := 0) 0 rfl rfl) ot) fun a27 hf28 => ?_
  refine thenN ?_
  have hm30 := hm0.nilOw kTensor 29
  obtain ⟨r36, hr36, H0⟩ := ob_split H0
  refine wpBlock (Mid := fun (a : Act) (w : World) => ∃ (A34 : Option Addr) (c35 : Nat), Fr 30 a [(0, .pointer (some ⟨b0, 0, none⟩)), (4, .slice A34 r36.2.length c35), (12, .slice A0_0 x0.l.length c0_0), (13, .int .i64 (x0.l.length : Int)), (14, .int .i64 r36.1)] ∧ Mem B0 M w0 [.ow kTensor 29 A34 c35 r36.2, .bx b0 [.slice A0_0 x0.l.length c0_0, .slice A0_1 x0.vers.length c0_1, .slice A0_2 x0.grads.length c0_2] 72, .ow kTensor 29 A0_0 c0_0 x0.l, .ow (Kd.int .i64) 3 A0_1 c0_1 x0.vers, .ow kTensor 29 A0_2 c0_2 x0.grads] w) ?_ ?_
  · refine wpLoop (shelf_Shelf_All.l0 x0) r36 (fun (s33 : (Int × (List Tensor))) (a : Act) (w : World) => ∃ (A34 : Option Addr) (c35 : Nat), Fr 30 a [(0, .pointer (some ⟨b0, 0, none⟩)), (4, .slice A34 s33.2.length c35), (12, .slice A0_0 x0.l.length c0_0), (13, .int .i64 (x0.l.length : Int)), (14, .int .i64 s33.1)] ∧ Mem B0 M w0 [.ow kTensor 29 A34 c35 s33.2, .bx b0 [.slice A0_0 x0.l.length c0_0, .slice A0_1 x0.vers.length c0_1, .slice A0_2 x0.grads.length c0_2] 72, .ow kTensor 29 A0_0 c0_0 x0.l, .ow (Kd.int .i64) 3 A0_1 c0_1 x0.vers, .ow kTensor 29 A0_2 c0_2 x0.grads] w) (0, ([] : (List Tensor))) hr36 ⟨none, 0, hf28.se [0, 4, 12, 13, 14], hm30.se [0, 1, 2, 3, 4] _ rfl⟩ ?_
    rintro g37 s33 a38 w39 H1 ⟨A34, c35, hf40, hm41⟩
    unfold shelf_Shelf_All.l0 at H1
    refine wp_seq ?_
    rcases ifS_split H1 with ⟨c42, H1⟩ | ⟨c42, H1⟩
    rotate_left
    · refine rg (ob := [.is (decide (s33.1 < (x0.l.length : Int)) = false)]) [.bool false] [(0, vp b0), (4, .slice A34 s33.2.length c35), (12, .slice A0_0 x0.l.length c0_0), (13, vi (x0.l.length : Int)), (14, vi s33.1), (15, .bool false)] hf40 ⟨(decide_eq_false c42), trivial⟩ fun a108 hf109 => ?_
      refine thenN ?_
      refine wp_seq ?_
      refine cF hf109 ?_
      refine wp_exit ?_
      refine thenE ?_
      refine thenE ?_
      obtain rfl := Option.some.inj H1
      exact .inl ⟨rfl, A34, c35, hf109.se [0, 4, 12, 13, 14], hm41.se [0, 1, 2, 3, 4] _ rfl⟩
    refine rg (ob := [.is (decide (s33.1 < (x0.l.length : Int)) = true)]) [.bool true] [(0, vp b0), (4, .slice A34 s33.2.length c35), (12, .slice A0_0 x0.l.length c0_0), (13, vi (x0.l.length : Int)), (14, vi s33.1), (15, .bool true)] hf40 ⟨(decide_eq_true c42), trivial⟩ fun a43 hf44 => ?_
    refine thenN ?_
    refine wp_seq ?_
    refine cT hf44 ?_
    refine wp_skip ?_
    refine thenN ?_
    refine wp_seq ?_
    refine wp_block ?_
    refine wp_seq ?_
    obtain ⟨g45, H1⟩ := ifS_guard H1
    have q46 := (hm41.owAt 2 rfl).cells s33.1 g45.1 g45.2
    obtain ⟨us47, hr48, hc49⟩ := q46.2
    obtain ⟨A50, c51, A52, c53, rfl, ⟨pA50, sA50⟩, ⟨pA52, sA52⟩⟩ := kTensor.open hr48
    have hm54 := hm41.elem pA50 sA50
    have hm55 := hm54.elem pA52 sA52
    refine inReg ?_
    refine gg 2 [.agg #[.slice A50 (rd x0.l s33.1).Shape.length c51, .slice A52 (rd x0.l s33.1).Data.length c53]] [(0, vp b0), (4, .slice A34 s33.2.length c35), (12, .slice A0_0 x0.l.length c0_0), (13, vi (x0.l.length : Int)), (14, vi s33.1), (17, .agg #[.slice A50 (rd x0.l s33.1).Shape.length c51, .slice A52 (rd x0.l s33.1).Data.length c53])] hf44 (oi q46.1 (oi g45 (oc (hc49 0 _ rfl) (oc (hc49 1 _ rfl) ot)))) fun a56 hf57 => ?_
    refine lo hf57 rfl (nw (cs := [.slice none 0 0, .slice none 0 0]) (T := 29) (d := 6) hf57 ?_)
    intro b58 w59 a60 hbb58 hx62 hg63 hf61
    have hm65 := hm55.box hbb58 hx62 hg63
    refine lo hf61 rfl (sb (j := 0) (us := [.slice A50 (rd x0.l s33.1).Shape.length c51, .slice A52 (rd x0.l s33.1).Data.length c53]) (cs' := [.slice A50 (rd x0.l s33.1).Shape.length c51, .slice A52 (rd x0.l s33.1).Data.length c53]) hf61 (hm65.bxAt 0 rfl) ?_)
    intro w66 hx67 hg68
    have hm69 := hm65.setBox 0 _ rfl rfl hx67 hg68
    refine endL rfl ?_
    refine thenN ?_
    obtain ⟨r70, hr70, H1⟩ := obS_split H1
    obtain ⟨g71, H1⟩ := ifS_guard H1
    refine inReg ?_
    refine gg 2 [.agg #[.slice A50 (rd x0.l s33.1).Shape.length c51, .slice A52 (rd x0.l s33.1).Data.length c53]] [(0, vp b0), (4, .slice A34 s33.2.length c35), (12, .slice A0_0 x0.l.length c0_0), (13, vi (x0.l.length : Int)), (14, vi s33.1), (18, .slice A34 s33.2.length c35), (19, .agg #[.slice A50 (rd x0.l s33.1).Shape.length c51, .slice A52 (rd x0.l s33.1).Data.length c53])] hf61 (oc (hm69.cell (j := 0) 0 rfl rfl) (oc (hm69.cell (j := 1) 0 rfl rfl) ot)) fun a72 hf73 => ?_
    refine lo hf73 rfl (cl 20 hf73 callable33 (tensor_Copy.calls _ _ _ _ _ _ rfl _ _ _ rfl (hm69.give [2, 1] [.sl (Kd.int .i64) A50 c51 (rd x0.l s33.1).Shape, .sl Kd.float A52 c53 (rd x0.l s33.1).Data] rfl rfl) r70 hr70) ?_)
    rintro _ w78 a79 ⟨A74, c75, A76, c77, rfl, hk81⟩ hf80
    have hm82 := hm69.back hk81
    have hm83 := hm82.seal 0 _ rfl rfl
    have hm84 := hm83.seal 1 _ rfl rfl
    refine lo hf80 rfl (li (cs := [.slice A74 r70.Shape.length c75, .slice A76 r70.Data.length c77]) (E := 29) (len := 1) (d := 21) hf80 ?_)
    intro b85 w86 a87 hbb85 hx89 hg90 hf88
    have hm84s := hm84.still hg90
    have hm91 := Mem.lit (kd := kTensor) (xs := ([r70] : List Tensor)) hm84 hbb85 hx89 hg90 (Els.one (kd := kTensor) (us := [.slice A74 r70.Shape.length c75, .slice A76 r70.Data.length c77]) (x := r70) (kTensor.mk r70 ⟨hm84s.cpAt 0 rfl, (hm84s.slAt 0 rfl)⟩ ⟨hm84s.cpAt 1 rfl, (hm84s.slAt 1 rfl)⟩))
    have e100 : s33.2.length = s33.2.length := rfl
    have e101 : 1 = ([r70] : List Tensor).length := rfl
    refine lo hf88 rfl (ap (sz := 2) (d := 22) hf88 e100 e101 (hm91.at 6 rfl) (hm91.at2 6 0 rfl rfl).2 (hm91.cpAt 0 rfl) (by have := g71; omega) ?_)
    intro A92 c93 w94 a95 ho97 hg98 hr99 hf96
    have hm102 := hm91.setOwn 6 _ rfl rfl ho97 hg98 hr99
    refine gg 1 [] [(0, vp b0), (4, .slice A92 (s33.2 ++ ([r70] : List Tensor)).length c93), (12, .slice A0_0 x0.l.length c0_0), (13, vi (x0.l.length : Int)), (14, vi s33.1)] hf96 ot fun a103 hf104 => ?_
    refine endL rfl ?_
    have hm105 := hm102.se [6, 7, 8, 9, 10] _ rfl
    refine blkN ?_
    refine thenN ?_
    refine rg [] [(0, vp b0), (4, .slice A92 (s33.2 ++ ([r70] : List Tensor)).length c93), (12, .slice A0_0 x0.l.length c0_0), (13, vi (x0.l.length : Int)), (14, vi (w64 (s33.1 + 1)))] hf104 ot fun a106 hf107 => ?_
    exact ⟨((w64 (s33.1 + 1)), (s33.2 ++ ([r70] : List Tensor))), H1, A92, c93, hf107.se [0, 4, 12, 13, 14], hm105.se [0, 1, 2, 3, 4] _ rfl⟩
  rintro a110 w111 ⟨A34, c35, hf112, hm113⟩
  refine thenN ?_
  refine wp_seq ?_
  obtain ⟨r114, hr114, H0⟩ := ob_split H0
  refine inReg ?_
  refine gg 5 [.slice A0_1 x0.vers.length c0_1] [(24, .slice A34 r36.2.length c35), (28, .slice A0_1 x0.vers.length c0_1)] hf112 (oc (hm113.cell (j := 1) 1 rfl rfl) ot) fun a115 hf116 => ?_
  have hm117 : Mem B0 M w0 [.ow kTensor 29 A34 c35 r36.2, .bx b0 [.slice A0_0 x0.l.length c0_0, .slice A0_1 x0.vers.length c0_1, .slice A0_2 x0.grads.length c0_2] 72, .ow kTensor 29 A0_0 c0_0 x0.l, .sl (Kd.int .i64) A0_1 c0_1 x0.vers, .ow kTensor 29 A0_2 c0_2 x0.grads] w111 := hm113.seal 3 _ rfl rfl
  refine lo hf116 rfl (cl 29 hf116 callable39 (slices_Clone_int.calls _ _ _ _ _ _ rfl (hm117.give [3] [.sl (Kd.int .i64) A0_1 c0_1 x0.vers] rfl rfl) r114 hr114) ?_)
  rintro _ w120 a121 ⟨A118, c119, rfl, hk123⟩ hf122
  have hm124 := hm113.backF hk123 ⟨Kd.flat_int _, trivial⟩
  refine gg 2 [] [(2, .slice A34 r36.2.length c35), (3, .slice A118 r114.length c119)] hf122 ot fun a125 hf126 => ?_
  refine endL rfl ?_
  refine thenN ?_
  refine wp_ret ?_
  have hm127 : Mem B0 M w0 [.bx b0 [.slice A0_0 x0.l.length c0_0, .slice A0_1 x0.vers.length c0_1, .slice A0_2 x0.grads.length c0_2] 72, .ow kTensor 29 A0_0 c0_0 x0.l, .ow (Kd.int .i64) 3 A0_1 c0_1 x0.vers, .ow kTensor 29 A0_2 c0_2 x0.grads, .ow kTensor 29 A34 c35 r36.2, .ow (Kd.int .i64) 3 A118 c119 r114] w120 := hm124.se [2, 3, 4, 5, 1, 0] _ rfl
  obtain rfl := Option.some.inj H0
  refine rt [] [.slice A34 r36.2.length c35, .slice A118 r114.length c119] hf126 ot ?_
  exact ⟨_, rfl, A34, c35, A118, c119, rfl, hm127⟩
/-! ### the leaves that are handed out: the numbers of one of them are our own -/
abbrev TG := Tensor × Option (Option Addr × Nat)
def repG (S : Nat → Prop) (w : World) (us : List Value) (t : Tensor) : Option (Option Addr × Nat) → Prop
  | none => kTensor.rep S w us t
  | some p => ∃ A0 c0, us = [.slice A0 t.Shape.length c0, .slice p.1 t.Data.length p.2] ∧ Cp A0 t.Shape.length c0 ∧ Sl (Kd.int .i64) S w A0 t.Shape
def kTG : Kd TG where
  n := 2
  rep := fun S w us x => repG S w us x.1 x.2
  len := by
    rintro S w cs ⟨x, _ | p⟩ h
    · exact kTensor.len (S := S) (w := w) (x := x) h
    · obtain ⟨A0, c0, rfl, _⟩ := h; rfl
  one := by
    rintro S w cs ⟨x, _ | p⟩ h u hu
    · exact kTensor.one (S := S) (w := w) (x := x) h u hu
    · obtain ⟨A0, c0, rfl, _⟩ := h
      simp only [List.mem_cons, List.not_mem_nil, or_false] at hu
      rcases hu with rfl | rfl <;> rfl
  move := by
    rintro S S' w w' cs ⟨x, _ | p⟩ hm hsz h
    · exact kTensor.move (x := x) hm hsz h
    · obtain ⟨A0, c0, h1, h2, h3⟩ := h
      exact ⟨A0, c0, h1, h2, h3.move hm hsz⟩
theorem kTG.mk {S : Nat → Prop} {w : World} (x : Tensor) {A0 : Option Addr} {c0 : Nat} {A : Option Addr} {c : Nat} (h1 : Cp A0 x.Shape.length c0) (h2 : Sl (Kd.int .i64) S w A0 x.Shape) : kTG.rep S w [.slice A0 x.Shape.length c0, .slice A x.Data.length c] (x, some (A, c)) := ⟨A0, c0, rfl, h1, h2⟩
theorem kTG.open {S : Nat → Prop} {w : World} {us : List Value} {x : Tensor} {A : Option Addr} {c : Nat} (h : kTG.rep S w us (x, some (A, c))) : ∃ A0 c0, us = [.slice A0 x.Shape.length c0, .slice A x.Data.length c] ∧ Cp A0 x.Shape.length c0 ∧ Sl (Kd.int .i64) S w A0 x.Shape := h
def gh (l : List Tensor) (i : Nat) (A : Option Addr) (c : Nat) : List TG := (List.range l.length).map (fun q => (l.getD q default, if q = i then some (A, c) else none))
def gd (l : List Tensor) (i : Nat) : List Nat := (l.getD i default).Data
@[simp] theorem gh_length (l : List Tensor) (i : Nat) (A : Option Addr) (c : Nat) : (gh l i A c).length = l.length := by simp [gh]
theorem gh_snoc (l : List Tensor) (t : Tensor) (i : Nat) (A : Option Addr) (c : Nat) : gh (l ++ [t]) i A c = gh l i A c ++ [(t, if l.length = i then some (A, c) else none)] := by
  unfold gh
  rw [List.length_append, List.length_singleton, List.range_succ, List.map_append]
  congr 1
  · apply List.map_congr_left
    intro q hq
    have := List.mem_range.1 hq
    simp [List.getD, List.getElem?_append_left this]
  · simp [List.getD]
theorem gh_out {l : List Tensor} {i : Nat} {A A' : Option Addr} {c c' : Nat} (h : l.length ≤ i) : gh l i A c = gh l i A' c' := by
  unfold gh
  apply List.map_congr_left
  intro q hq
  have := List.mem_range.1 hq
  rw [if_neg (by omega), if_neg (by omega)]
theorem gh_rd {l : List Tensor} {i : Int} {A : Option Addr} {c : Nat} (h : i.toNat < l.length) : rd (gh l i.toNat A c) i = (rd l i, some (A, c)) := by
  simp [rd, gh, List.getD, h]
theorem gd_at {l : List Tensor} {t : Tensor} {i : Nat} (h : l.length = i) : gd (l ++ [t]) i = t.Data := by
  subst h; simp [gd, List.getD]
theorem gd_no {l : List Tensor} {t : Tensor} {i : Nat} (h : ¬ l.length = i) : gd (l ++ [t]) i = gd l i := by
  unfold gd
  congr 1
  by_cases h1 : i < l.length
  · simp [List.getD, List.getElem?_append_left h1]
  · have h2 : l.length < i := by omega
    simp [List.getD, List.getElem?_eq_none (show (l ++ [t]).length ≤ i by simp; omega), List.getElem?_eq_none (show l.length ≤ i by omega)]
set_option maxRecDepth 100000 in
set_option maxHeartbeats 4000000 in
theorem shelf_Shelf_All.callsG (B0 : List (Option Nat)) (M : List (Option Nat)) (w0 : World) (x0 : Shelf) (b0 : Nat) (A0_0 : Option Addr) (n0_0 c0_0 : Nat) (e0_0 : n0_0 = x0.l.length) (A0_1 : Option Addr) (n0_1 c0_1 : Nat) (e0_1 : n0_1 = x0.vers.length) (A0_2 : Option Addr) (n0_2 c0_2 : Nat) (e0_2 : n0_2 = x0.grads.length) (hm0 : Mem B0 M w0 [.bx b0 [.slice A0_0 n0_0 c0_0, .slice A0_1 n0_1 c0_1, .slice A0_2 n0_2 c0_2] 72, .ow kTensor 29 A0_0 c0_0 x0.l, .ow (Kd.int .i64) 3 A0_1 c0_1 x0.vers, .ow kTensor 29 A0_2 c0_2 x0.grads] w0) (r : ((List Tensor) × (List Int))) (H0 : shelf_Shelf_All.f x0 = some r) (gi : Nat) :
    Calls Try.prog 17 [.pointer (some ⟨b0, 0, none⟩)].toArray w0 (fun x w' => ∃ v, x = .returned v ∧ ∃ Ar0 cr0 Ar1 cr1 Ag cg, v = .tuple #[.slice Ar0 r.1.length cr0, .slice Ar1 r.2.length cr1] ∧ Mem B0 M w0 [.bx b0 [.slice A0_0 x0.l.length c0_0, .slice A0_1 x0.vers.length c0_1, .slice A0_2 x0.grads.length c0_2] 72, .ow kTensor 29 A0_0 c0_0 x0.l, .ow (Kd.int .i64) 3 A0_1 c0_1 x0.vers, .ow kTensor 29 A0_2 c0_2 x0.grads, .ow kTG 29 Ar0 cr0 (gh r.1 gi Ag cg), .ow (Kd.int .i64) 3 Ar1 cr1 r.2, .ow Kd.float 26 Ag cg (gd r.1 gi)] w') := by
  subst e0_0
  subst e0_1
  subst e0_2
  unfold shelf_Shelf_All.f at H0
  refine enter (n := 30) Try.func17 rfl rfl (by kernel_rfl) fun a0 (hf0 : Fr 30 a0 [(0, .pointer (some ⟨b0, 0, none⟩))]) => ?_
  refine wp_seq ?_
  refine rg [] [(0, vp b0)] hf0 ot fun a21 hf22 => ?_
  refine thenN ?_
  refine wp_seq ?_
  refine wp_seq ?_
  refine rg [] [(0, vp b0), (8, .bool false)] hf22 ot fun a23 hf24 => ?_
  refine thenN ?_
  refine cF hf24 ?_
  refine wp_skip ?_
  refine thenN ?_
  refine wp_seq ?_
  refine rg [] [(0, vp b0), (4, .slice none 0 0)] hf24 ot fun a25 hf26 => ?_
  refine thenN ?_
  refine wp_seq ?_
  refine wp_seq ?_
  refine rg [.slice A0_0 x0.l.length c0_0] [(0, vp b0), (4, .slice none 0 0), (12, .slice A0_0 x0.l.length c0_0), (13, vi (x0.l.length : Int)), (14, vi 0)] hf26 (oc (hm0.cell (j := 0) 0 rfl rfl) ot) fun a27 hf28 => ?_
  refine thenN ?_
  have hm29 := hm0.nilOw Kd.float 26
  have hm30 := hm29.nilOw kTG 29
  obtain ⟨r36, hr36, H0⟩ := ob_split H0
  refine wpBlock (Mid := fun (a : Act) (w : World) => ∃ (A34 : Option Addr) (c35 : Nat) (Ag : Option Addr) (cg : Nat), Fr 30 a [(0, .pointer (some ⟨b0, 0, none⟩)), (4, .slice A34 r36.2.length c35), (12, .slice A0_0 x0.l.length c0_0), (13, .int .i64 (x0.l.length : Int)), (14, .int .i64 r36.1)] ∧ Mem B0 M w0 [.ow kTG 29 A34 c35 (gh r36.2 gi Ag cg), .ow Kd.float 26 Ag cg (gd r36.2 gi), .bx b0 [.slice A0_0 x0.l.length c0_0, .slice A0_1 x0.vers.length c0_1, .slice A0_2 x0.grads.length c0_2] 72, .ow kTensor 29 A0_0 c0_0 x0.l, .ow (Kd.int .i64) 3 A0_1 c0_1 x0.vers, .ow kTensor 29 A0_2 c0_2 x0.grads] w) ?_ ?_
  · refine wpLoop (shelf_Shelf_All.l0 x0) r36 (fun (s33 : (Int × (List Tensor))) (a : Act) (w : World) => ∃ (A34 : Option Addr) (c35 : Nat) (Ag : Option Addr) (cg : Nat), Fr 30 a [(0, .pointer (some ⟨b0, 0, none⟩)), (4, .slice A34 s33.2.length c35), (12, .slice A0_0 x0.l.length c0_0), (13, .int .i64 (x0.l.length : Int)), (14, .int .i64 s33.1)] ∧ Mem B0 M w0 [.ow kTG 29 A34 c35 (gh s33.2 gi Ag cg), .ow Kd.float 26 Ag cg (gd s33.2 gi), .bx b0 [.slice A0_0 x0.l.length c0_0, .slice A0_1 x0.vers.length c0_1, .slice A0_2 x0.grads.length c0_2] 72, .ow kTensor 29 A0_0 c0_0 x0.l, .ow (Kd.int .i64) 3 A0_1 c0_1 x0.vers, .ow kTensor 29 A0_2 c0_2 x0.grads] w) (0, ([] : (List Tensor))) hr36 ⟨none, 0, none, 0, hf28.se [0, 4, 12, 13, 14], hm30.se [0, 1, 2, 3, 4, 5] _ rfl⟩ ?_
    rintro g37 s33 a38 w39 H1 ⟨A34, c35, Ag, cg, hf40, hm41⟩
    unfold shelf_Shelf_All.l0 at H1
    refine wp_seq ?_
    rcases ifS_split H1 with ⟨c42, H1⟩ | ⟨c42, H1⟩
    rotate_left
    · refine rg (ob := [.is (decide (s33.1 < (x0.l.length : Int)) = false)]) [.bool false] [(0, vp b0), (4, .slice A34 s33.2.length c35), (12, .slice A0_0 x0.l.length c0_0), (13, vi (x0.l.length : Int)), (14, vi s33.1), (15, .bool false)] hf40 ⟨(decide_eq_false c42), trivial⟩ fun a108 hf109 => ?_
      refine thenN ?_
      refine wp_seq ?_
      refine cF hf109 ?_
      refine wp_exit ?_
      refine thenE ?_
      refine thenE ?_
      obtain rfl := Option.some.inj H1
      exact .inl ⟨rfl, A34, c35, Ag, cg, hf109.se [0, 4, 12, 13, 14], hm41.se [0, 1, 2, 3, 4, 5] _ rfl⟩
    refine rg (ob := [.is (decide (s33.1 < (x0.l.length : Int)) = true)]) [.bool true] [(0, vp b0), (4, .slice A34 s33.2.length c35), (12, .slice A0_0 x0.l.length c0_0), (13, vi (x0.l.length : Int)), (14, vi s33.1), (15, .bool true)] hf40 ⟨(decide_eq_true c42), trivial⟩ fun a43 hf44 => ?_
    refine thenN ?_
    refine wp_seq ?_
    refine cT hf44 ?_
    refine wp_skip ?_
    refine thenN ?_
    refine wp_seq ?_
    refine wp_block ?_
    refine wp_seq ?_
    obtain ⟨g45, H1⟩ := ifS_guard H1
    have q46 := (hm41.owAt 3 rfl).cells s33.1 g45.1 g45.2
    obtain ⟨us47, hr48, hc49⟩ := q46.2
    obtain ⟨A50, c51, A52, c53, rfl, ⟨pA50, sA50⟩, ⟨pA52, sA52⟩⟩ := kTensor.open hr48
    have hm54 := hm41.elem pA50 sA50
    have hm55 := hm54.elem pA52 sA52
    refine inReg ?_
    refine gg 2 [.agg #[.slice A50 (rd x0.l s33.1).Shape.length c51, .slice A52 (rd x0.l s33.1).Data.length c53]] [(0, vp b0), (4, .slice A34 s33.2.length c35), (12, .slice A0_0 x0.l.length c0_0), (13, vi (x0.l.length : Int)), (14, vi s33.1), (17, .agg #[.slice A50 (rd x0.l s33.1).Shape.length c51, .slice A52 (rd x0.l s33.1).Data.length c53])] hf44 (oi q46.1 (oi g45 (oc (hc49 0 _ rfl) (oc (hc49 1 _ rfl) ot)))) fun a56 hf57 => ?_
    refine lo hf57 rfl (nw (cs := [.slice none 0 0, .slice none 0 0]) (T := 29) (d := 6) hf57 ?_)
    intro b58 w59 a60 hbb58 hx62 hg63 hf61
    have hm65 := hm55.box hbb58 hx62 hg63
    refine lo hf61 rfl (sb (j := 0) (us := [.slice A50 (rd x0.l s33.1).Shape.length c51, .slice A52 (rd x0.l s33.1).Data.length c53]) (cs' := [.slice A50 (rd x0.l s33.1).Shape.length c51, .slice A52 (rd x0.l s33.1).Data.length c53]) hf61 (hm65.bxAt 0 rfl) ?_)
    intro w66 hx67 hg68
    have hm69 := hm65.setBox 0 _ rfl rfl hx67 hg68
    refine endL rfl ?_
    refine thenN ?_
    obtain ⟨r70, hr70, H1⟩ := obS_split H1
    obtain ⟨g71, H1⟩ := ifS_guard H1
    refine inReg ?_
    refine gg 2 [.agg #[.slice A50 (rd x0.l s33.1).Shape.length c51, .slice A52 (rd x0.l s33.1).Data.length c53]] [(0, vp b0), (4, .slice A34 s33.2.length c35), (12, .slice A0_0 x0.l.length c0_0), (13, vi (x0.l.length : Int)), (14, vi s33.1), (18, .slice A34 s33.2.length c35), (19, .agg #[.slice A50 (rd x0.l s33.1).Shape.length c51, .slice A52 (rd x0.l s33.1).Data.length c53])] hf61 (oc (hm69.cell (j := 0) 0 rfl rfl) (oc (hm69.cell (j := 1) 0 rfl rfl) ot)) fun a72 hf73 => ?_
    refine lo hf73 rfl (cl 20 hf73 callable33 (tensor_Copy.calls _ _ _ _ _ _ rfl _ _ _ rfl (hm69.give [2, 1] [.sl (Kd.int .i64) A50 c51 (rd x0.l s33.1).Shape, .sl Kd.float A52 c53 (rd x0.l s33.1).Data] rfl rfl) r70 hr70) ?_)
    rintro _ w78 a79 ⟨A74, c75, A76, c77, rfl, hk81⟩ hf80
    have hm82 := hm69.back hk81
    have hm83 := hm82.seal 0 _ rfl rfl
    by_cases hgi : s33.2.length = gi
    · rw [gh_out (A' := A76) (c' := c77) (Nat.le_of_eq hgi)] at hm83
      have hm84 := hm83
      refine lo hf80 rfl (li (cs := [.slice A74 r70.Shape.length c75, .slice A76 r70.Data.length c77]) (E := 29) (len := 1) (d := 21) hf80 ?_)
      intro b85 w86 a87 hbb85 hx89 hg90 hf88
      have hm84s := hm84.still hg90
      have hm91 := Mem.lit (kd := kTG) (xs := [((r70, some (A76, c77)) : TG)]) hm84 hbb85 hx89 hg90 (Els.one (kd := kTG) (us := [.slice A74 r70.Shape.length c75, .slice A76 r70.Data.length c77]) (x := ((r70, some (A76, c77)) : TG)) (kTG.mk (A := A76) (c := c77) r70 (hm84s.cpAt 0 rfl) (hm84s.slAt 0 rfl)))
      have e100 : s33.2.length = (gh s33.2 gi A76 c77).length := (gh_length _ _ _ _).symm
      have e101 : 1 = [((r70, some (A76, c77)) : TG)].length := rfl
      refine lo hf88 rfl (ap (sz := 2) (d := 22) hf88 e100 e101 (hm91.at 6 rfl) (hm91.at2 6 0 rfl rfl).2 (hm91.cpAt 0 rfl) (by rw [gh_length]; exact g71) ?_)
      intro A92 c93 w94 a95 ho97 hg98 hr99 hf96
      have eg : (gh s33.2 gi A76 c77) ++ [((r70, some (A76, c77)) : TG)] = gh (s33.2 ++ ([r70] : List Tensor)) gi A76 c77 := by rw [gh_snoc, if_pos hgi]
      rw [eg, gh_length] at hf96
      rw [eg] at ho97
      have hm102 := hm91.setOwn 6 _ rfl rfl ho97 hg98 hr99
      refine gg 1 [] [(0, vp b0), (4, .slice A92 (s33.2 ++ ([r70] : List Tensor)).length c93), (12, .slice A0_0 x0.l.length c0_0), (13, vi (x0.l.length : Int)), (14, vi s33.1)] hf96 ot fun a103 hf104 => ?_
      refine endL rfl ?_
      have hm105 : Mem B0 M w0 [.ow kTG 29 A92 c93 (gh (s33.2 ++ ([r70] : List Tensor)) gi A76 c77), .ow Kd.float 26 A76 c77 (gd (s33.2 ++ ([r70] : List Tensor)) gi), .bx b0 [.slice A0_0 x0.l.length c0_0, .slice A0_1 x0.vers.length c0_1, .slice A0_2 x0.grads.length c0_2] 72, .ow kTensor 29 A0_0 c0_0 x0.l, .ow (Kd.int .i64) 3 A0_1 c0_1 x0.vers, .ow kTensor 29 A0_2 c0_2 x0.grads] w94 := by rw [gd_at hgi]; exact hm102.se [6, 2, 8, 9, 10, 11] _ rfl
      refine blkN ?_
      refine thenN ?_
      refine rg [] [(0, vp b0), (4, .slice A92 (s33.2 ++ ([r70] : List Tensor)).length c93), (12, .slice A0_0 x0.l.length c0_0), (13, vi (x0.l.length : Int)), (14, vi (w64 (s33.1 + 1)))] hf104 ot fun a106 hf107 => ?_
      exact ⟨((w64 (s33.1 + 1)), (s33.2 ++ ([r70] : List Tensor))), H1, A92, c93, A76, c77, hf107.se [0, 4, 12, 13, 14], hm105.se [0, 1, 2, 3, 4, 5] _ rfl⟩
    · have hm84 := hm83.seal 1 _ rfl rfl
      refine lo hf80 rfl (li (cs := [.slice A74 r70.Shape.length c75, .slice A76 r70.Data.length c77]) (E := 29) (len := 1) (d := 21) hf80 ?_)
      intro b85 w86 a87 hbb85 hx89 hg90 hf88
      have hm84s := hm84.still hg90
      have hm91 := Mem.lit (kd := kTG) (xs := [((r70, none) : TG)]) hm84 hbb85 hx89 hg90 (Els.one (kd := kTG) (us := [.slice A74 r70.Shape.length c75, .slice A76 r70.Data.length c77]) (x := ((r70, none) : TG)) (kTensor.mk r70 ⟨hm84s.cpAt 0 rfl, (hm84s.slAt 0 rfl)⟩ ⟨hm84s.cpAt 1 rfl, (hm84s.slAt 1 rfl)⟩))
      have e100 : s33.2.length = (gh s33.2 gi Ag cg).length := (gh_length _ _ _ _).symm
      have e101 : 1 = [((r70, none) : TG)].length := rfl
      refine lo hf88 rfl (ap (sz := 2) (d := 22) hf88 e100 e101 (hm91.at 6 rfl) (hm91.at2 6 0 rfl rfl).2 (hm91.cpAt 0 rfl) (by rw [gh_length]; exact g71) ?_)
      intro A92 c93 w94 a95 ho97 hg98 hr99 hf96
      have eg : (gh s33.2 gi Ag cg) ++ [((r70, none) : TG)] = gh (s33.2 ++ ([r70] : List Tensor)) gi Ag cg := by rw [gh_snoc, if_neg hgi]
      rw [eg, gh_length] at hf96
      rw [eg] at ho97
      have hm102 := hm91.setOwn 6 _ rfl rfl ho97 hg98 hr99
      refine gg 1 [] [(0, vp b0), (4, .slice A92 (s33.2 ++ ([r70] : List Tensor)).length c93), (12, .slice A0_0 x0.l.length c0_0), (13, vi (x0.l.length : Int)), (14, vi s33.1)] hf96 ot fun a103 hf104 => ?_
      refine endL rfl ?_
      have hm105 : Mem B0 M w0 [.ow kTG 29 A92 c93 (gh (s33.2 ++ ([r70] : List Tensor)) gi Ag cg), .ow Kd.float 26 Ag cg (gd (s33.2 ++ ([r70] : List Tensor)) gi), .bx b0 [.slice A0_0 x0.l.length c0_0, .slice A0_1 x0.vers.length c0_1, .slice A0_2 x0.grads.length c0_2] 72, .ow kTensor 29 A0_0 c0_0 x0.l, .ow (Kd.int .i64) 3 A0_1 c0_1 x0.vers, .ow kTensor 29 A0_2 c0_2 x0.grads] w94 := by rw [gd_no hgi]; exact hm102.se [6, 7, 8, 9, 10, 11] _ rfl
      refine blkN ?_
      refine thenN ?_
      refine rg [] [(0, vp b0), (4, .slice A92 (s33.2 ++ ([r70] : List Tensor)).length c93), (12, .slice A0_0 x0.l.length c0_0), (13, vi (x0.l.length : Int)), (14, vi (w64 (s33.1 + 1)))] hf104 ot fun a106 hf107 => ?_
      exact ⟨((w64 (s33.1 + 1)), (s33.2 ++ ([r70] : List Tensor))), H1, A92, c93, Ag, cg, hf107.se [0, 4, 12, 13, 14], hm105.se [0, 1, 2, 3, 4, 5] _ rfl⟩
  rintro a110 w111 ⟨A34, c35, Ag, cg, hf112, hm113⟩
  refine thenN ?_
  refine wp_seq ?_
  obtain ⟨r114, hr114, H0⟩ := ob_split H0
  refine inReg ?_
  refine gg 5 [.slice A0_1 x0.vers.length c0_1] [(24, .slice A34 r36.2.length c35), (28, .slice A0_1 x0.vers.length c0_1)] hf112 (oc (hm113.cell (j := 1) 2 rfl rfl) ot) fun a115 hf116 => ?_
  have hm117 : Mem B0 M w0 [.ow kTG 29 A34 c35 (gh r36.2 gi Ag cg), .ow Kd.float 26 Ag cg (gd r36.2 gi), .bx b0 [.slice A0_0 x0.l.length c0_0, .slice A0_1 x0.vers.length c0_1, .slice A0_2 x0.grads.length c0_2] 72, .ow kTensor 29 A0_0 c0_0 x0.l, .sl (Kd.int .i64) A0_1 c0_1 x0.vers, .ow kTensor 29 A0_2 c0_2 x0.grads] w111 := hm113.seal 4 _ rfl rfl
  refine lo hf116 rfl (cl 29 hf116 callable39 (slices_Clone_int.calls _ _ _ _ _ _ rfl (hm117.give [4] [.sl (Kd.int .i64) A0_1 c0_1 x0.vers] rfl rfl) r114 hr114) ?_)
  rintro _ w120 a121 ⟨A118, c119, rfl, hk123⟩ hf122
  have hm124 := hm113.backF hk123 ⟨Kd.flat_int _, trivial⟩
  refine gg 2 [] [(2, .slice A34 r36.2.length c35), (3, .slice A118 r114.length c119)] hf122 ot fun a125 hf126 => ?_
  refine endL rfl ?_
  refine thenN ?_
  refine wp_ret ?_
  have hm127 : Mem B0 M w0 [.bx b0 [.slice A0_0 x0.l.length c0_0, .slice A0_1 x0.vers.length c0_1, .slice A0_2 x0.grads.length c0_2] 72, .ow kTensor 29 A0_0 c0_0 x0.l, .ow (Kd.int .i64) 3 A0_1 c0_1 x0.vers, .ow kTensor 29 A0_2 c0_2 x0.grads, .ow kTG 29 A34 c35 (gh r36.2 gi Ag cg), .ow (Kd.int .i64) 3 A118 c119 r114, .ow Kd.float 26 Ag cg (gd r36.2 gi)] w120 := hm124.se [3, 4, 5, 6, 1, 0, 2] _ rfl
  obtain rfl := Option.some.inj H0
  refine rt [] [.slice A34 r36.2.length c35, .slice A118 r114.length c119] hf126 ot ?_
  exact ⟨_, rfl, A34, c35, A118, c119, Ag, cg, rfl, hm127⟩

/-! ### backstitch/backstitchref1.SameInts -/
noncomputable def ref1_SameInts.l0 (x0 : (List Int)) (x1 : (List Int)) (s28 : Int) : Step Int (Out2 Int Bool) :=
  if s28 < (x0.length : Int) then (if 0 ≤ s28 ∧ s28 < (x0.length : Int) then (if 0 ≤ s28 ∧ s28 < (x1.length : Int) then (if (rd x0 s28) = (rd x1 s28) then (.next (w64 (s28 + 1)))
  else (.done (.ret false)))
  else .bad)
  else .bad)
  else (.done (.go s28))
noncomputable def ref1_SameInts.f (x0 : (List Int)) (x1 : (List Int)) : Option Bool :=
  if (x0.length : Int) = (x1.length : Int) then ((loop (ref1_SameInts.l0 x0 x1) 0).bind fun r29 =>
  r29.on (fun yr29 =>
  some true) (fun y => some y))
  else (some false)
set_option maxRecDepth 100000 in
set_option maxHeartbeats 4000000 in
theorem ref1_SameInts.calls (M : List (Option Nat)) (w0 : World) (x0 : (List Int)) (A0 : Option Addr) (n0 c0 : Nat) (e0 : n0 = x0.length) (x1 : (List Int)) (A1 : Option Addr) (n1 c1 : Nat) (e1 : n1 = x1.length) (hm0 : Mem [] M w0 [.sl (Kd.int .i64) A0 c0 x0, .sl (Kd.int .i64) A1 c1 x1] w0) (r : Bool) (H0 : ref1_SameInts.f x0 x1 = some r) :
    Calls Try.prog 22 [.slice A0 n0 c0, .slice A1 n1 c1].toArray w0 (fun x w' => ∃ v, x = .returned v ∧ v = .bool r ∧ Mem [] M w0 [] w') := by
  subst e0
  subst e1
  unfold ref1_SameInts.f at H0
  refine enter (n := 26) Try.func22 rfl rfl (by kernel_rfl) fun a0 (hf0 : Fr 26 a0 [(0, .slice A0 x0.length c0), (1, .slice A1 x1.length c1)]) => ?_
  refine wp_seq ?_
  refine rg [] [(0, .slice A0 x0.length c0), (1, .slice A1 x1.length c1)] hf0 ot fun a21 hf22 => ?_
  refine thenN ?_
  refine wp_seq ?_
  refine wp_seq ?_
  rcases if_split H0 with ⟨c23, H0⟩ | ⟨c23, H0⟩
  rotate_left
  · refine rg [.bool true] [(0, .slice A0 x0.length c0), (1, .slice A1 x1.length c1), (10, .bool true)] hf22 (oi (neT c23) ot) fun a74 hf75 => ?_
    refine thenN ?_
    refine cT hf75 ?_
    refine wp_seq ?_
    refine rg [] [(4, .bool false)] hf75 ot fun a76 hf77 => ?_
    have hm78 := hm0.se [] _ rfl
    refine thenN ?_
    refine wp_ret ?_
    refine thenR ?_
    have hm79 : Mem [] M w0 [] w0 := hm78.se [] _ rfl
    obtain rfl := Option.some.inj H0
    refine rt [] [.bool false] hf77 ot ?_
    exact ⟨_, rfl, rfl, hm79⟩
  refine rg [.bool false] [(0, .slice A0 x0.length c0), (1, .slice A1 x1.length c1), (10, .bool false)] hf22 (oi (neF c23) ot) fun a24 hf25 => ?_
  refine thenN ?_
  refine cF hf25 ?_
  refine wp_skip ?_
  refine thenN ?_
  refine wp_seq ?_
  refine wp_seq ?_
  refine rg [] [(0, .slice A0 x0.length c0), (1, .slice A1 x1.length c1), (5, vi 0)] hf25 ot fun a26 hf27 => ?_
  refine thenN ?_
  obtain ⟨r29, hr29, H0⟩ := ob_split H0
  refine wpBlock (Mid := fun (a : Act) (w : World) => ∃ yr29 : Int, r29 = .go yr29 ∧ Fr 26 a [(0, .slice A0 x0.length c0), (1, .slice A1 x1.length c1), (5, .int .i64 yr29)] ∧ Mem [] M w0 [.sl (Kd.int .i64) A0 c0 x0, .sl (Kd.int .i64) A1 c1 x1] w) ?_ ?_
  · refine wpLoop (ref1_SameInts.l0 x0 x1) r29 (fun (s28 : Int) (a : Act) (w : World) => Fr 26 a [(0, .slice A0 x0.length c0), (1, .slice A1 x1.length c1), (5, .int .i64 s28)] ∧ Mem [] M w0 [.sl (Kd.int .i64) A0 c0 x0, .sl (Kd.int .i64) A1 c1 x1] w) 0 hr29 ⟨hf27.se [0, 1, 5], hm0.se [0, 1] _ rfl⟩ ?_
    rintro g30 s28 a31 w32 H1 ⟨hf33, hm34⟩
    unfold ref1_SameInts.l0 at H1
    refine wp_seq ?_
    refine wp_seq ?_
    rcases ifS_split H1 with ⟨c35, H1⟩ | ⟨c35, H1⟩
    rotate_left
    · refine rg (ob := [.is (decide (s28 < (x0.length : Int)) = false)]) [.bool false] [(0, .slice A0 x0.length c0), (1, .slice A1 x1.length c1), (5, vi s28), (14, .bool false)] hf33 ⟨(decide_eq_false c35), trivial⟩ fun a62 hf63 => ?_
      refine thenN ?_
      refine cF hf63 ?_
      refine wp_exit ?_
      refine thenE ?_
      refine thenE ?_
      obtain rfl := Option.some.inj H1
      exact .inl ⟨rfl, s28, rfl, hf63.se [0, 1, 5], hm34.se [0, 1] _ rfl⟩
    refine rg (ob := [.is (decide (s28 < (x0.length : Int)) = true)]) [.bool true] [(0, .slice A0 x0.length c0), (1, .slice A1 x1.length c1), (5, vi s28), (14, .bool true)] hf33 ⟨(decide_eq_true c35), trivial⟩ fun a36 hf37 => ?_
    refine thenN ?_
    refine cT hf37 ?_
    refine wp_skip ?_
    refine thenN ?_
    refine wp_seq ?_
    refine wp_block ?_
    refine wp_seq ?_
    obtain ⟨g38, H1⟩ := ifS_guard H1
    obtain ⟨g39, H1⟩ := ifS_guard H1
    rcases ifS_split H1 with ⟨c40, H1⟩ | ⟨c40, H1⟩
    · have q41 := (hm34.slAt 0 rfl).int s28 g38.1 g38.2
      have q42 := (hm34.slAt 1 rfl).int s28 g39.1 g39.2
      refine rq [.int .i64 (rd x0 s28), .int .i64 (rd x1 s28), .bool false] [(0, .slice A0 x0.length c0), (1, .slice A1 x1.length c1), (5, vi s28), (25, .bool false)] hf37 (oi q41.1 (oi g38 (oc q41.2 (oi q42.1 (oi g39 (oc q42.2 (oi (neF c40) ot))))))) fun a43 w45 hf44 hg46 => ?_
      have hm47 := hm34.still hg46
      refine thenN ?_
      refine cF hf44 ?_
      refine wp_skip ?_
      refine blkN ?_
      refine thenN ?_
      refine rg [] [(0, .slice A0 x0.length c0), (1, .slice A1 x1.length c1), (5, vi (w64 (s28 + 1)))] hf44 ot fun a48 hf49 => ?_
      exact ⟨(w64 (s28 + 1)), H1, hf49.se [0, 1, 5], hm47.se [0, 1] _ rfl⟩
    have q50 := (hm34.slAt 0 rfl).int s28 g38.1 g38.2
    have q51 := (hm34.slAt 1 rfl).int s28 g39.1 g39.2
    refine rq [.int .i64 (rd x0 s28), .int .i64 (rd x1 s28), .bool true] [(0, .slice A0 x0.length c0), (1, .slice A1 x1.length c1), (5, vi s28), (25, .bool true)] hf37 (oi q50.1 (oi g38 (oc q50.2 (oi q51.1 (oi g39 (oc q51.2 (oi (neT c40) ot))))))) fun a52 w54 hf53 hg55 => ?_
    have hm56 := hm34.still hg55
    refine thenN ?_
    refine cT hf53 ?_
    refine wp_seq ?_
    refine rg [] [(4, .bool false)] hf53 ot fun a57 hf58 => ?_
    have hm59 := hm56.se [] _ rfl
    refine thenN ?_
    refine wp_ret ?_
    refine blkR ?_
    refine thenR ?_
    refine thenR ?_
    refine .inr ⟨rfl, ?_⟩
    refine thenR ?_
    have hm60 : Mem [] M w0 [] w54 := hm59.se [] _ rfl
    obtain rfl := Option.some.inj H1
    obtain rfl := Option.some.inj H0
    refine rt [] [.bool false] hf58 ot ?_
    exact ⟨_, rfl, rfl, hm60⟩
  rintro a65 w66 ⟨yr29, rfl, hf67, hm68⟩
  refine thenN ?_
  refine wp_seq ?_
  refine rg [] [(4, .bool true)] hf67 ot fun a69 hf70 => ?_
  have hm71 := hm68.se [] _ rfl
  refine thenN ?_
  refine wp_ret ?_
  have hm72 : Mem [] M w0 [] w66 := hm71.se [] _ rfl
  obtain rfl := Option.some.inj H0
  refine rt [] [.bool true] hf70 ot ?_
  exact ⟨_, rfl, rfl, hm72⟩

/-! ### backstitch/backstitchref1.Bits -/
noncomputable def ref1_Bits.f (x0 : Nat) : Option Int :=
  if (fne x0 x0) = true then (some 9221120237041090561)
  else (some (x0 : Int))
set_option maxRecDepth 100000 in
set_option maxHeartbeats 4000000 in
theorem ref1_Bits.calls (M : List (Option Nat)) (w0 : World) (x0 : Nat) (b0 : Nat) (h0 : FR b0 x0) (hm0 : Mem [] M w0 [] w0) (r : Int) (H0 : ref1_Bits.f x0 = some r) :
    Calls Try.prog 53 [.float .f64 b0].toArray w0 (fun x w' => ∃ v, x = .returned v ∧ v = .int .u64 r ∧ Mem [] M w0 [] w') := by
  unfold ref1_Bits.f at H0
  refine enter (n := 8) Try.func53 rfl rfl (by kernel_rfl) fun a0 (hf0 : Fr 8 a0 [(0, .float .f64 b0)]) => ?_
  refine wp_seq ?_
  refine rg [] [(0, vf b0)] hf0 ot fun a21 hf22 => ?_
  refine thenN ?_
  refine wp_seq ?_
  refine wp_seq ?_
  rcases ifb_split H0 with ⟨c23, H0⟩ | ⟨c23, H0⟩
  · refine rg (ob := [.is ((FloatKind.f64.format.order b0 b0 != some .eq) = true)]) [.bool true] [(0, vf b0), (5, .bool true)] hf22 ⟨(ftNe h0 h0 c23), trivial⟩ fun a24 hf25 => ?_
    refine thenN ?_
    refine cT hf25 ?_
    refine wp_seq ?_
    refine rg [] [(2, .int .u64 9221120237041090561)] hf25 ot fun a26 hf27 => ?_
    refine thenN ?_
    refine wp_ret ?_
    refine thenR ?_
    have hm28 : Mem [] M w0 [] w0 := hm0.se [] _ rfl
    obtain rfl := Option.some.inj H0
    refine rt [] [.int .u64 9221120237041090561] hf27 ot ?_
    exact ⟨_, rfl, rfl, hm28⟩
  refine rg (ob := [.is ((FloatKind.f64.format.order b0 b0 != some .eq) = false)]) [.bool false] [(0, vf b0), (5, .bool false)] hf22 ⟨(ftNe h0 h0 c23), trivial⟩ fun a30 hf31 => ?_
  refine thenN ?_
  refine cF hf31 ?_
  refine wp_skip ?_
  refine thenN ?_
  refine wp_seq ?_
  refine inReg ?_
  refine gg 1 [] [(6, vf b0)] hf31 ot fun a32 hf33 => ?_
  refine lo hf33 rfl (aExtern (fid := 68) (args := [.float .f64 b0]) (d := 7) (R := fun v w' => v = .int .u64 (x0 : Int) ∧ w0 = w') hf33 (by kernel_rfl) (by kernel_rfl) ⟨_, Try.func68, rfl, rfl, by kernel_rfl, rfl⟩ ⟨_, _, run_bits _, by rw [FR.bits h0 c23], rfl⟩ ?_)
  rintro _ _ a35 ⟨rfl, rfl⟩ hf36
  refine gg 1 [] [(2, .int .u64 (x0 : Int))] hf36 ot fun a37 hf38 => ?_
  refine endL rfl ?_
  refine thenN ?_
  refine wp_ret ?_
  have hm39 : Mem [] M w0 [] w0 := hm0.se [] _ rfl
  obtain rfl := Option.some.inj H0
  refine rt [] [.int .u64 (x0 : Int)] hf38 ot ?_
  exact ⟨_, rfl, rfl, hm39⟩
end Go.Proofs.Yteaoijahdinciaa
