/- Printed by gen.py. -/
import Derived.Test.YteaoijahdinciaaF1
import Derived.Test.YteaoijahdinciaaF7
namespace Go.Proofs.Yteaoijahdinciaa
open Go Go.RowKit
set_option linter.unusedSimpArgs false
set_option linter.unusedVariables false
set_option linter.unnecessarySimpa false
/-! ### (*backstitch/shelf.Shelf).Get -/
noncomputable def shelf_Shelf_Get.f (x0 : Shelf) (x1 : Int) : Option (Tensor × Int × Int) :=
  (shelf_Shelf_there.f x0 x1).bind fun r30 =>
  if r30 = 0 then (if 0 ≤ x1 ∧ x1 < (x0.l.length : Int) then ((tensor_Copy.f (⟨(rd x0.l x1).Shape, (rd x0.l x1).Data⟩ : Tensor)).bind fun r44 =>
  if 0 ≤ x1 ∧ x1 < (x0.vers.length : Int) then (some (r44, (rd x0.vers x1), 0))
  else none)
  else none)
  else (some ((⟨([] : (List Int)), ([] : (List Nat))⟩ : Tensor), 0, r30))
set_option maxRecDepth 100000 in
set_option maxHeartbeats 4000000 in
theorem shelf_Shelf_Get.calls (B0 : List (Option Nat)) (M : List (Option Nat)) (w0 : World) (x0 : Shelf) (b0 : Nat) (A0_0 : Option Addr) (n0_0 c0_0 : Nat) (e0_0 : n0_0 = x0.l.length) (A0_1 : Option Addr) (n0_1 c0_1 : Nat) (e0_1 : n0_1 = x0.vers.length) (A0_2 : Option Addr) (n0_2 c0_2 : Nat) (e0_2 : n0_2 = x0.grads.length) (x1 : Int) (hm0 : Mem B0 M w0 [.bx b0 [.slice A0_0 n0_0 c0_0, .slice A0_1 n0_1 c0_1, .slice A0_2 n0_2 c0_2] 72, .ow kTensor 29 A0_0 c0_0 x0.l, .ow (Kd.int .i64) 3 A0_1 c0_1 x0.vers, .ow kTensor 29 A0_2 c0_2 x0.grads] w0) (r : (Tensor × Int × Int)) (H0 : shelf_Shelf_Get.f x0 x1 = some r) :
    Calls Try.prog 14 [.pointer (some ⟨b0, 0, none⟩), .int .i64 x1].toArray w0 (fun x w' => ∃ v, x = .returned v ∧ ∃ Ar0_0 cr0_0 Ar0_1 cr0_1, v = .tuple #[.agg #[.slice Ar0_0 r.1.Shape.length cr0_0, .slice Ar0_1 r.1.Data.length cr0_1], .int .i64 r.2.1, .int .i64 r.2.2] ∧ Mem B0 M w0 [.bx b0 [.slice A0_0 x0.l.length c0_0, .slice A0_1 x0.vers.length c0_1, .slice A0_2 x0.grads.length c0_2] 72, .ow kTensor 29 A0_0 c0_0 x0.l, .ow (Kd.int .i64) 3 A0_1 c0_1 x0.vers, .ow kTensor 29 A0_2 c0_2 x0.grads, .ow (Kd.int .i64) 3 Ar0_0 cr0_0 r.1.Shape, .ow Kd.float 26 Ar0_1 cr0_1 r.1.Data] w') := by
  subst e0_0
  subst e0_1
  subst e0_2
  unfold shelf_Shelf_Get.f at H0
  refine enter (n := 30) Try.func14 rfl rfl (by kernel_rfl) fun a0 (hf0 : Fr 30 a0 [(0, .pointer (some ⟨b0, 0, none⟩)), (1, .int .i64 x1)]) => ?_
  refine wp_seq ?_
  refine inReg ?_
  refine lo hf0 rfl (nw (cs := [.slice none 0 0, .slice none 0 0]) (T := 29) (d := 4) hf0 ?_)
  intro b21 w22 a23 hbb21 hx25 hg26 hf24
  have hm27 := hm0.box hbb21 hx25 hg26
  refine gg 2 [] [(0, vp b0), (1, vi x1), (4, vp b21)] hf24 ot fun a28 hf29 => ?_
  refine endL rfl ?_
  refine thenN ?_
  refine wp_seq ?_
  refine wp_seq ?_
  obtain ⟨r30, hr30, H0⟩ := ob_split H0
  refine inReg ?_
  refine gg 2 [] [(0, vp b0), (1, vi x1), (4, vp b21), (8, vp b0), (9, vi x1)] hf29 ot fun a31 hf32 => ?_
  refine lo hf32 rfl (cl 10 hf32 callable37 (shelf_Shelf_there.calls _ _ _ x0 _ _ _ _ rfl _ _ _ rfl _ _ _ rfl x1 (hm27.giveO [1, 2, 3, 4] [0] [] [.bx b0 [.slice A0_0 x0.l.length c0_0, .slice A0_1 x0.vers.length c0_1, .slice A0_2 x0.grads.length c0_2] 72, .ow kTensor 29 A0_0 c0_0 x0.l, .ow (Kd.int .i64) 3 A0_1 c0_1 x0.vers, .ow kTensor 29 A0_2 c0_2 x0.grads] _ [] rfl rfl rfl (by kernel_rfl) rfl) r30 hr30) ?_)
  rintro _ w33 a34 ⟨rfl, hk36⟩ hf35
  have hm37 := hm27.backO [1, 2, 3, 4] [0] _ _ rfl rfl (by kernel_rfl) hk36
  refine gg 1 [] [(0, vp b0), (1, vi x1), (4, vp b21), (7, vi r30)] hf35 ot fun a38 hf39 => ?_
  refine endL rfl ?_
  refine thenN ?_
  refine wp_seq ?_
  rcases if_split H0 with ⟨c40, H0⟩ | ⟨c40, H0⟩
  rotate_left
  · refine rg [.bool true] [(0, vp b0), (1, vi x1), (4, vp b21), (7, vi r30), (12, .bool true)] hf39 (oi (neT c40) ot) fun a277 hf278 => ?_
    refine thenN ?_
    refine cT hf278 ?_
    refine wp_seq ?_
    refine inReg ?_
    refine gg 2 [] [(4, vp b21), (13, .agg #[.slice none 0 0, .slice none 0 0]), (14, vi r30)] hf278 ot fun a279 hf280 => ?_
    refine lo hf280 rfl (sb (j := 0) (us := [.slice none 0 0, .slice none 0 0]) (cs' := [.slice none 0 0, .slice none 0 0]) hf280 (hm37.bxAt 4 rfl) ?_)
    intro w281 hx282 hg283
    have hm284 := hm37.setBox 4 _ rfl rfl hx282 hg283
    refine gg 2 [] [(4, vp b21), (5, vi 0), (6, vi r30)] hf280 ot fun a285 hf286 => ?_
    refine endL rfl ?_
    refine thenN ?_
    refine wp_ret ?_
    refine thenR ?_
    have hm287 := hm284.nilOw (Kd.int .i64) 3
    have hm288 := hm287.nilOw Kd.float 26
    have hm289 : Mem B0 M w0 [.bx b0 [.slice A0_0 x0.l.length c0_0, .slice A0_1 x0.vers.length c0_1, .slice A0_2 x0.grads.length c0_2] 72, .ow kTensor 29 A0_0 c0_0 x0.l, .ow (Kd.int .i64) 3 A0_1 c0_1 x0.vers, .ow kTensor 29 A0_2 c0_2 x0.grads, .ow (Kd.int .i64) 3 none 0 ([] : (List Int)), .ow Kd.float 26 none 0 ([] : (List Nat))] w281 := hm288.se [2, 3, 4, 5, 1, 0] _ rfl
    obtain rfl := Option.some.inj H0
    refine rt [.agg #[.slice none 0 0, .slice none 0 0]] [.agg #[.slice none 0 0, .slice none 0 0], .int .i64 0, .int .i64 r30] hf286 (oc (hm284.cell (j := 0) 4 rfl rfl) (oc (hm284.cell (j := 1) 4 rfl rfl) ot)) ?_
    exact ⟨_, rfl, none, 0, none, 0, rfl, hm289⟩
  refine rg [.bool false] [(0, vp b0), (1, vi x1), (4, vp b21), (7, vi r30), (12, .bool false)] hf39 (oi (neF c40) ot) fun a41 hf42 => ?_
  refine thenN ?_
  refine cF hf42 ?_
  refine wp_skip ?_
  refine thenN ?_
  refine wp_seq ?_
  obtain ⟨g43, H0⟩ := if_guard H0
  obtain ⟨r44, hr44, H0⟩ := ob_split H0
  obtain ⟨g45, H0⟩ := if_guard H0
  refine midReg (fun (a : Act) (w : World) => ∃ (A56 : Option Addr) (c57 : Nat) (A58 : Option Addr) (c59 : Nat), Fr 30 a [(4, .pointer (some ⟨b21, 0, none⟩)), (5, .int .i64 (rd x0.vers x1)), (6, .int .i64 0)] ∧ Mem B0 M w0 [.ow (Kd.int .i64) 3 A56 c57 r44.Shape, .ow Kd.float 26 A58 c59 r44.Data, .bx b0 [.slice A0_0 x0.l.length c0_0, .slice A0_1 x0.vers.length c0_1, .slice A0_2 x0.grads.length c0_2] 72, .ow kTensor 29 A0_0 c0_0 x0.l, .ow (Kd.int .i64) 3 A0_1 c0_1 x0.vers, .ow kTensor 29 A0_2 c0_2 x0.grads, .bx b21 [.slice A56 r44.Shape.length c57, .slice A58 r44.Data.length c59] 29] w) ?_ ?_
  · refine anyG (K := []) [15] (by kernel_rfl) fun w72 hg73 => ?_
    have hm74 := hm37.still hg73
    refine memoStep (R := fun (a : Act) (w : World) => ∃ (A87 : Option Addr) (c88 : Nat) (A89 : Option Addr) (c90 : Nat) (A81 : Option Addr) (c82 : Nat) (A79 : Option Addr) (c80 : Nat), Fr 30 a [(4, .pointer (some ⟨b21, 0, none⟩)), (22, .agg #[.slice A87 r44.Shape.length c88, .slice A89 r44.Data.length c90]), (28, .pointer (some ((ad A0_1).add ((x1).toNat * 1))))] ∧ Mem B0 M w0 [.ow (Kd.int .i64) 3 A87 c88 r44.Shape, .ow Kd.float 26 A89 c90 r44.Data, .sl Kd.float A81 c82 (rd x0.l x1).Data, .sl (Kd.int .i64) A79 c80 (rd x0.l x1).Shape, .bx b0 [.slice A0_0 x0.l.length c0_0, .slice A0_1 x0.vers.length c0_1, .slice A0_2 x0.grads.length c0_2] 72, .ow kTensor 29 A0_0 c0_0 x0.l, .ow (Kd.int .i64) 3 A0_1 c0_1 x0.vers, .ow kTensor 29 A0_2 c0_2 x0.grads, .bx b21 [.slice none 0 0, .slice none 0 0] 29] w) (fb 18 16383) 4 ?_ fun L162 => ?_
    · rintro a163 w164 ⟨A87, c88, A89, c90, A81, c82, A79, c80, hf165, hm166⟩
      refine all2 14 15 (by kernel_rfl) ?_ ?_
      · have q167 := (hm166.owAt 6 rfl).int x1 g45.1 g45.2
        refine oo hf165 rfl (on [.int .i64 (rd x0.vers x1)] (.int .i64 (rd x0.vers x1)) 29 hf165 (oc q167.2 ot) fun a168 hf169 => ?_)
        refine ⟨.inr (Gr.refl _ _), ?_⟩
        refine a1 15 ?_
        refine oo hf169 rfl (sb (j := 0) (us := [.slice A87 r44.Shape.length c88, .slice A89 r44.Data.length c90]) (cs' := [.slice A87 r44.Shape.length c88, .slice A89 r44.Data.length c90]) hf169 (hm166.bxAt 8 rfl) ?_)
        intro w170 hx171 hg172
        refine ⟨.inl (by decide), ?_⟩
        have hm173 := hm166.setBox 8 _ rfl rfl hx171 hg172
        refine qt [16, 17] [] (fb 18 262143) [(4, vp b21), (5, vi (rd x0.vers x1)), (6, vi 0)] 0 hf169 ot fun a174 hf175 => ?_
        refine aD ⟨rfl, A87, c88, A89, c90, hf175.se [4, 5, 6], hm173.se [0, 1, 4, 5, 6, 7, 8] _ rfl⟩
      · refine oo hf165 rfl (sb (j := 0) (us := [.slice A87 r44.Shape.length c88, .slice A89 r44.Data.length c90]) (cs' := [.slice A87 r44.Shape.length c88, .slice A89 r44.Data.length c90]) hf165 (hm166.bxAt 8 rfl) ?_)
        intro w176 hx177 hg178
        refine ⟨.inl (by decide), ?_⟩
        have hm179 := hm166.setBox 8 _ rfl rfl hx177 hg178
        refine a1 14 ?_
        have q180 := (hm179.owAt 6 rfl).int x1 g45.1 g45.2
        refine oo hf165 rfl (on [.int .i64 (rd x0.vers x1)] (.int .i64 (rd x0.vers x1)) 29 hf165 (oc q180.2 ot) fun a181 hf182 => ?_)
        refine ⟨.inr (Gr.refl _ _), ?_⟩
        refine qt [16, 17] [] (fb 18 262143) [(4, vp b21), (5, vi (rd x0.vers x1)), (6, vi 0)] 0 hf182 ot fun a183 hf184 => ?_
        refine aD ⟨rfl, A87, c88, A89, c90, hf184.se [4, 5, 6], hm179.se [0, 1, 4, 5, 6, 7, 8] _ rfl⟩
    refine memoStep (R := fun (a : Act) (w : World) => ∃ (A79 : Option Addr) (c80 : Nat) (A81 : Option Addr) (c82 : Nat), Fr 30 a [(4, .pointer (some ⟨b21, 0, none⟩)), (21, .agg #[.slice A79 (rd x0.l x1).Shape.length c80, .slice A81 (rd x0.l x1).Data.length c82]), (28, .pointer (some ((ad A0_1).add ((x1).toNat * 1))))] ∧ Mem B0 M w0 [.sl Kd.float A81 c82 (rd x0.l x1).Data, .sl (Kd.int .i64) A79 c80 (rd x0.l x1).Shape, .bx b0 [.slice A0_0 x0.l.length c0_0, .slice A0_1 x0.vers.length c0_1, .slice A0_2 x0.grads.length c0_2] 72, .ow kTensor 29 A0_0 c0_0 x0.l, .ow (Kd.int .i64) 3 A0_1 c0_1 x0.vers, .ow kTensor 29 A0_2 c0_2 x0.grads, .bx b21 [.slice none 0 0, .slice none 0 0] 29] w) (fb 18 16255) 5 ?_ fun L185 => ?_
    · rintro a186 w187 ⟨A79, c80, A81, c82, hf188, hm189⟩
      refine all2 7 14 (by kernel_rfl) ?_ ?_
      · refine oo hf188 rfl (cl 22 hf188 callable33 (tensor_Copy.calls _ _ _ _ _ _ rfl _ _ _ rfl (hm189.give [1, 0] [.sl (Kd.int .i64) A79 c80 (rd x0.l x1).Shape, .sl Kd.float A81 c82 (rd x0.l x1).Data] rfl rfl) r44 hr44) ?_)
        rintro _ w194 a195 ⟨A190, c191, A192, c193, rfl, hk197⟩ hf196
        refine ⟨.inr (Gr.still hk197.cum.none), ?_⟩
        have hm198 := hm189.back hk197
        exact ms L162 ⟨A190, c191, A192, c193, A81, c82, A79, c80, hf196.se [4, 22, 28], hm198.se [0, 1, 2, 3, 4, 5, 6, 7, 8] _ rfl⟩
      · have q199 := (hm189.owAt 4 rfl).int x1 g45.1 g45.2
        refine oo hf188 rfl (on [.int .i64 (rd x0.vers x1)] (.int .i64 (rd x0.vers x1)) 29 hf188 (oc q199.2 ot) fun a200 hf201 => ?_)
        refine ⟨.inr (Gr.refl _ _), ?_⟩
        refine a1 7 ?_
        refine oo hf201 rfl (cl 22 hf201 callable33 (tensor_Copy.calls _ _ _ _ _ _ rfl _ _ _ rfl (hm189.give [1, 0] [.sl (Kd.int .i64) A79 c80 (rd x0.l x1).Shape, .sl Kd.float A81 c82 (rd x0.l x1).Data] rfl rfl) r44 hr44) ?_)
        rintro _ w206 a207 ⟨A202, c203, A204, c205, rfl, hk209⟩ hf208
        refine ⟨.inr (Gr.still hk209.cum.none), ?_⟩
        have hm210 := hm189.back hk209
        refine a1 15 ?_
        refine oo hf208 rfl (sb (j := 0) (us := [.slice A202 r44.Shape.length c203, .slice A204 r44.Data.length c205]) (cs' := [.slice A202 r44.Shape.length c203, .slice A204 r44.Data.length c205]) hf208 (hm210.bxAt 8 rfl) ?_)
        intro w211 hx212 hg213
        refine ⟨.inl (by decide), ?_⟩
        have hm214 := hm210.setBox 8 _ rfl rfl hx212 hg213
        refine qt [16, 17] [] (fb 18 262143) [(4, vp b21), (5, vi (rd x0.vers x1)), (6, vi 0)] 0 hf208 ot fun a215 hf216 => ?_
        refine aD ⟨rfl, A202, c203, A204, c205, hf216.se [4, 5, 6], hm214.se [0, 1, 4, 5, 6, 7, 8] _ rfl⟩
    refine memoStep (R := fun (a : Act) (w : World) => ∃ (A79 : Option Addr) (c80 : Nat) (A81 : Option Addr) (c82 : Nat) (A87 : Option Addr) (c88 : Nat) (A89 : Option Addr) (c90 : Nat), Fr 30 a [(4, .pointer (some ⟨b21, 0, none⟩)), (21, .agg #[.slice A79 (rd x0.l x1).Shape.length c80, .slice A81 (rd x0.l x1).Data.length c82]), (22, .agg #[.slice A87 r44.Shape.length c88, .slice A89 r44.Data.length c90]), (25, .pointer (some ⟨b0, 1, none⟩)), (27, .int .i64 x1)] ∧ Mem B0 M w0 [.ow (Kd.int .i64) 3 A87 c88 r44.Shape, .ow Kd.float 26 A89 c90 r44.Data, .sl Kd.float A81 c82 (rd x0.l x1).Data, .sl (Kd.int .i64) A79 c80 (rd x0.l x1).Shape, .bx b0 [.slice A0_0 x0.l.length c0_0, .slice A0_1 x0.vers.length c0_1, .slice A0_2 x0.grads.length c0_2] 72, .ow kTensor 29 A0_0 c0_0 x0.l, .ow (Kd.int .i64) 3 A0_1 c0_1 x0.vers, .ow kTensor 29 A0_2 c0_2 x0.grads, .bx b21 [.slice none 0 0, .slice none 0 0] 29] w) (fb 18 6143) 6 ?_ fun L217 => ?_
    · rintro a218 w219 ⟨A79, c80, A81, c82, A87, c88, A89, c90, hf220, hm221⟩
      refine all2 11 15 (by kernel_rfl) ?_ ?_
      · refine oo hf220 rfl (on [.slice A0_1 x0.vers.length c0_1] (.slice A0_1 x0.vers.length c0_1) 26 hf220 (oc (hm221.cell (j := 1) 4 rfl rfl) ot) fun a222 hf223 => ?_)
        refine ⟨.inr (Gr.refl _ _), ?_⟩
        have q224 := (hm221.owAt 6 rfl).int x1 g45.1 g45.2
        refine qt [13] [] (fb 18 16383) [(4, vp b21), (22, .agg #[.slice A87 r44.Shape.length c88, .slice A89 r44.Data.length c90]), (28, .pointer (some ((ad A0_1).add ((x1).toNat * 1))))] 4 hf223 (oi q224.1 (oi g45 ot)) fun a225 hf226 => ?_
        exact ms L162 ⟨A87, c88, A89, c90, A81, c82, A79, c80, hf226.se [4, 22, 28], hm221.se [0, 1, 2, 3, 4, 5, 6, 7, 8] _ rfl⟩
      · refine oo hf220 rfl (sb (j := 0) (us := [.slice A87 r44.Shape.length c88, .slice A89 r44.Data.length c90]) (cs' := [.slice A87 r44.Shape.length c88, .slice A89 r44.Data.length c90]) hf220 (hm221.bxAt 8 rfl) ?_)
        intro w227 hx228 hg229
        refine ⟨.inl (by decide), ?_⟩
        have hm230 := hm221.setBox 8 _ rfl rfl hx228 hg229
        refine a1 11 ?_
        refine oo hf220 rfl (on [.slice A0_1 x0.vers.length c0_1] (.slice A0_1 x0.vers.length c0_1) 26 hf220 (oc (hm230.cell (j := 1) 4 rfl rfl) ot) fun a231 hf232 => ?_)
        refine ⟨.inr (Gr.refl _ _), ?_⟩
        have q233 := (hm230.owAt 6 rfl).int x1 g45.1 g45.2
        refine qt [13] [] (fb 18 49151) [(4, vp b21), (28, .pointer (some ((ad A0_1).add ((x1).toNat * 1))))] 3 hf232 (oi q233.1 (oi g45 ot)) fun a234 hf235 => ?_
        refine a1 14 ?_
        refine oo hf235 rfl (on [.int .i64 (rd x0.vers x1)] (.int .i64 (rd x0.vers x1)) 29 hf235 (oc q233.2 ot) fun a236 hf237 => ?_)
        refine ⟨.inr (Gr.refl _ _), ?_⟩
        refine qt [16, 17] [] (fb 18 262143) [(4, vp b21), (5, vi (rd x0.vers x1)), (6, vi 0)] 0 hf237 ot fun a238 hf239 => ?_
        refine aD ⟨rfl, A87, c88, A89, c90, hf239.se [4, 5, 6], hm230.se [0, 1, 4, 5, 6, 7, 8] _ rfl⟩
    refine memoStep (R := fun (a : Act) (w : World) => ∃ (A79 : Option Addr) (c80 : Nat) (A81 : Option Addr) (c82 : Nat), Fr 30 a [(4, .pointer (some ⟨b21, 0, none⟩)), (21, .agg #[.slice A79 (rd x0.l x1).Shape.length c80, .slice A81 (rd x0.l x1).Data.length c82]), (25, .pointer (some ⟨b0, 1, none⟩)), (27, .int .i64 x1)] ∧ Mem B0 M w0 [.sl Kd.float A81 c82 (rd x0.l x1).Data, .sl (Kd.int .i64) A79 c80 (rd x0.l x1).Shape, .bx b0 [.slice A0_0 x0.l.length c0_0, .slice A0_1 x0.vers.length c0_1, .slice A0_2 x0.grads.length c0_2] 72, .ow kTensor 29 A0_0 c0_0 x0.l, .ow (Kd.int .i64) 3 A0_1 c0_1 x0.vers, .ow kTensor 29 A0_2 c0_2 x0.grads, .bx b21 [.slice none 0 0, .slice none 0 0] 29] w) (fb 18 6015) 7 ?_ fun L240 => ?_
    · rintro a241 w242 ⟨A79, c80, A81, c82, hf243, hm244⟩
      refine all2 7 11 (by kernel_rfl) ?_ ?_
      · refine oo hf243 rfl (cl 22 hf243 callable33 (tensor_Copy.calls _ _ _ _ _ _ rfl _ _ _ rfl (hm244.give [1, 0] [.sl (Kd.int .i64) A79 c80 (rd x0.l x1).Shape, .sl Kd.float A81 c82 (rd x0.l x1).Data] rfl rfl) r44 hr44) ?_)
        rintro _ w249 a250 ⟨A245, c246, A247, c248, rfl, hk252⟩ hf251
        refine ⟨.inr (Gr.still hk252.cum.none), ?_⟩
        have hm253 := hm244.back hk252
        exact ms L217 ⟨A79, c80, A81, c82, A245, c246, A247, c248, hf251.se [4, 21, 22, 25, 27], hm253.se [0, 1, 2, 3, 4, 5, 6, 7, 8] _ rfl⟩
      · refine oo hf243 rfl (on [.slice A0_1 x0.vers.length c0_1] (.slice A0_1 x0.vers.length c0_1) 26 hf243 (oc (hm244.cell (j := 1) 2 rfl rfl) ot) fun a254 hf255 => ?_)
        refine ⟨.inr (Gr.refl _ _), ?_⟩
        have q256 := (hm244.owAt 4 rfl).int x1 g45.1 g45.2
        refine qt [13] [] (fb 18 16255) [(4, vp b21), (21, .agg #[.slice A79 (rd x0.l x1).Shape.length c80, .slice A81 (rd x0.l x1).Data.length c82]), (28, .pointer (some ((ad A0_1).add ((x1).toNat * 1))))] 5 hf255 (oi q256.1 (oi g45 ot)) fun a257 hf258 => ?_
        exact ms L185 ⟨A79, c80, A81, c82, hf258.se [4, 21, 28], hm244.se [0, 1, 2, 3, 4, 5, 6] _ rfl⟩
    have q259 := (hm74.owAt 1 rfl).cells x1 g43.1 g43.2
    obtain ⟨us260, hr261, hc262⟩ := q259.2
    obtain ⟨A263, c264, A265, c266, rfl, ⟨pA263, sA263⟩, ⟨pA265, sA265⟩⟩ := kTensor.open hr261
    have hm267 := hm74.elem pA263 sA263
    have hm268 := hm267.elem pA265 sA265
    refine qt [0, 1, 2, 3, 4, 5, 6, 8, 9, 10, 12] [.slice A0_0 x0.l.length c0_0, .agg #[.slice A263 (rd x0.l x1).Shape.length c264, .slice A265 (rd x0.l x1).Data.length c266]] (fb 18 6015) [(4, vp b21), (21, .agg #[.slice A263 (rd x0.l x1).Shape.length c264, .slice A265 (rd x0.l x1).Data.length c266]), (25, .pointer (some ⟨b0, 1, none⟩)), (27, vi x1)] 7 hf42 (oc (hm74.cell (j := 0) 0 rfl rfl) (oi q259.1 (oi g43 (oc (hc262 0 _ rfl) (oc (hc262 1 _ rfl) ot))))) fun a269 hf270 => ?_
    exact ms L240 ⟨A263, c264, A265, c266, hf270.se [4, 21, 25, 27], hm268.se [0, 1, 2, 3, 4, 5, 6] _ rfl⟩
  rintro a271 w272 ⟨A56, c57, A58, c59, hf273, hm274⟩
  refine thenN ?_
  refine wp_ret ?_
  have hm275 : Mem B0 M w0 [.bx b0 [.slice A0_0 x0.l.length c0_0, .slice A0_1 x0.vers.length c0_1, .slice A0_2 x0.grads.length c0_2] 72, .ow kTensor 29 A0_0 c0_0 x0.l, .ow (Kd.int .i64) 3 A0_1 c0_1 x0.vers, .ow kTensor 29 A0_2 c0_2 x0.grads, .ow (Kd.int .i64) 3 A56 c57 r44.Shape, .ow Kd.float 26 A58 c59 r44.Data] w272 := hm274.se [2, 3, 4, 5, 0, 1] _ rfl
  obtain rfl := Option.some.inj H0
  refine rt [.agg #[.slice A56 r44.Shape.length c57, .slice A58 r44.Data.length c59]] [.agg #[.slice A56 r44.Shape.length c57, .slice A58 r44.Data.length c59], .int .i64 (rd x0.vers x1), .int .i64 0] hf273 (oc (hm274.cell (j := 0) 6 rfl rfl) (oc (hm274.cell (j := 1) 6 rfl rfl) ot)) ?_
  exact ⟨_, rfl, A56, c57, A58, c59, rfl, hm275⟩
end Go.Proofs.Yteaoijahdinciaa
