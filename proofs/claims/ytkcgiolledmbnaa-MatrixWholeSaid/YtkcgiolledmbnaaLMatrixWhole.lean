/- Printed by gen.py. -/
import Derived.Test.YtkcgiolledmbnaaF2
import Derived.Test.YtkcgiolledmbnaaF3
import Derived.Test.YtkcgiolledmbnaaF5
namespace Go.Proofs.Ytkcgiolledmbnaa
open Go Go.RowKit
set_option linter.unusedSimpArgs false
set_option linter.unusedVariables false
set_option linter.unnecessarySimpa false
/-! ### backstitch/backstitchlaw5.MatrixWhole -/
noncomputable def law5_MatrixWhole.f (x0 : (Int × Int × Int × Int)) (x1 : (List Int)) : Option Bool :=
  (law5_awake.f).bind fun r30 =>
  if r30 = true then ((law5_matrixOf.f (w64 (1 + (Int.tmod (w64 (x0.1)) 4))) (w64 (1 + (Int.tmod (w64 (x0.2.1)) 4))) x1 0).bind fun r39 =>
  (law5_matrixOf.f (w64 (1 + (Int.tmod (w64 (x0.2.1)) 4))) (w64 (1 + (Int.tmod (w64 (x0.2.2.1)) 4))) x1 16).bind fun r40 =>
  (law5_matrixOf.f (w64 (1 + (Int.tmod (w64 (x0.2.2.1)) 4))) (w64 (1 + (Int.tmod (w64 (x0.2.2.2)) 4))) x1 32).bind fun r41 =>
  if 300 < (x1.length : Int) then (some true)
  else ((matrix_Mul.f r39 r40).bind fun r2304 =>
  (matrix_Mul.f r40 r41).bind fun r2333 =>
  (matrix_Mul.f r2304.1 r41).bind fun r2362 =>
  (matrix_Mul.f r39 r2333.1).bind fun r2392 =>
  (matrix_Turn.f r39).bind fun r2422 =>
  (matrix_Turn.f r40).bind fun r2452 =>
  (matrix_Mul.f r2452.1 r2422.1).bind fun r2482 =>
  (matrix_Turn.f r2482.1).bind fun r2512 =>
  if r2304.2 = 0 then (if r2333.2 = 0 then (if r2362.2 = 0 then (if r2392.2 = 0 then (if r2482.2 = 0 then ((law5_equal.f r2362.1 r2392.1).bind fun r2547 =>
  if r2547 = true then ((law5_equal.f r2304.1 r2512.1).bind fun r2549 =>
  some r2549)
  else (some false))
  else (some false))
  else (some false))
  else (some false))
  else (some false))
  else (some false)))
  else (some false)
set_option maxRecDepth 100000 in
set_option maxHeartbeats 4000000 in
theorem law5_MatrixWhole.calls (M : List (Option Nat)) (w0 : World) (x0 : (Int × Int × Int × Int)) (x1 : (List Int)) (A1 : Option Addr) (n1 c1 : Nat) (e1 : n1 = x1.length) (hm0 : Mem [] M w0 [.sl (Kd.int .i8) A1 c1 x1] w0) (r : Bool) (H0 : law5_MatrixWhole.f x0 x1 = some r) :
    Calls Try.prog 10 [.agg #[.int .u8 x0.1, .int .u8 x0.2.1, .int .u8 x0.2.2.1, .int .u8 x0.2.2.2], .slice A1 n1 c1].toArray w0 (fun x w' => ∃ v, x = .returned v ∧ v = .bool r ∧ Mem [] M w0 [] w') := by
  subst e1
  unfold law5_MatrixWhole.f at H0
  refine enter (n := 138) Try.func10 rfl rfl (by kernel_rfl) fun a0 (hf0 : Fr 138 a0 [(0, .agg #[.int .u8 x0.1, .int .u8 x0.2.1, .int .u8 x0.2.2.1, .int .u8 x0.2.2.2]), (1, .slice A1 x1.length c1)]) => ?_
  refine wp_seq ?_
  refine inReg ?_
  refine listOf hf0 rfl (by kernel_rfl) (aNew (cs := [.int .u8 x0.1, .int .u8 x0.2.1, .int .u8 x0.2.2.1, .int .u8 x0.2.2.2]) (T := 50) (d := 2) hf0 (by kernel_rfl) (by kernel_rfl) ?_)
  intro b21 w22 a23 hbb21 hx25 hg26 hf24
  have hm27 := hm0.box hbb21 hx25 hg26
  refine go 1 [] [1, 2] [(1, .slice A1 x1.length c1), (2, .pointer (some ⟨b21, 0, none⟩))] [] hf24 (by kernel_rfl) trivial fun a28 hf29 => ?_
  refine endL rfl ?_
  refine thenN ?_
  refine wp_seq ?_
  refine wp_seq ?_
  obtain ⟨r30, hr30, H0⟩ := ob_split H0
  rcases ifb_split H0 with ⟨c31, H0⟩ | ⟨c31, H0⟩
  · refine inReg ?_
    refine listOf hf29 rfl (by kernel_rfl) (aCall (fid := 32) (args := []) (d := 24) hf29 (by kernel_rfl) (by kernel_rfl) callable32 (law5_awake.calls _ _  (hm27.give [] [] rfl rfl) r30 hr30) ?_)
    rintro _ w32 a33 ⟨rfl, hk35⟩ hf34
    have hm36 := hm27.still hk35.cum.none
    rw [c31] at hf34
    refine go 1 [] [1, 2, 25] [(1, .slice A1 x1.length c1), (2, .pointer (some ⟨b21, 0, none⟩)), (25, .bool false)] [] hf34 (by kernel_rfl) trivial fun a37 hf38 => ?_
    refine endL rfl ?_
    refine thenN ?_
    refine condF hf38 (by kernel_rfl) ?_
    refine wp_skip ?_
    refine thenN ?_
    refine wp_seq ?_
    obtain ⟨r39, hr39, H0⟩ := ob_split H0
    obtain ⟨r40, hr40, H0⟩ := ob_split H0
    obtain ⟨r41, hr41, H0⟩ := ob_split H0
    refine midReg (fun (a : Act) (w : World) => ∃ (b76 : Nat) (b83 : Nat) (b90 : Nat) (A65 : Option Addr) (c66 : Nat) (A67 : Option Addr) (c68 : Nat) (A53 : Option Addr) (c54 : Nat) (A55 : Option Addr) (c56 : Nat) (A42 : Option Addr) (c43 : Nat) (A44 : Option Addr) (c45 : Nat), Fr 138 a [(1, .slice A1 x1.length c1), (5, .pointer (some ⟨b76, 0, none⟩)), (6, .pointer (some ⟨b83, 0, none⟩)), (7, .pointer (some ⟨b90, 0, none⟩))] ∧ Mem [] M w0 [.bx b90 [.slice A65 r41.Shape.length c66, .slice A67 r41.Data.length c68] 42, .bx b83 [.slice A53 r40.Shape.length c54, .slice A55 r40.Data.length c56] 42, .bx b76 [.slice A42 r39.Shape.length c43, .slice A44 r39.Data.length c45] 42, .sl (Kd.int .i64) A65 c66 r41.Shape, .sl Kd.float A67 c68 r41.Data, .sl (Kd.int .i64) A53 c54 r40.Shape, .sl Kd.float A55 c56 r40.Data, .sl (Kd.int .i64) A42 c43 r39.Shape, .sl Kd.float A44 c45 r39.Data, .sl (Kd.int .i8) A1 c1 x1] w) ?_ ?_
    · refine anyG [39, 40, 41] (by kernel_rfl) fun w110 hg111 => ?_
      have hm112 := hm36.still hg111
      refine memoStep (R := fun (a : Act) (w : World) => ∃ (b148 : Nat) (A115 : Option Addr) (c116 : Nat) (A117 : Option Addr) (c118 : Nat) (A126 : Option Addr) (c127 : Nat) (A128 : Option Addr) (c129 : Nat) (A137 : Option Addr) (c138 : Nat) (A139 : Option Addr) (c140 : Nat), Fr 138 a [(1, .slice A1 x1.length c1), (5, .pointer (some ⟨b148, 0, none⟩)), (30, .int .i64 (w64 (1 + (Int.tmod (w64 (x0.1)) 4)))), (35, .int .i64 (w64 (1 + (Int.tmod (w64 (x0.2.1)) 4)))), (36, .slice A1 x1.length c1), (37, .agg #[.slice A115 r39.Shape.length c116, .slice A117 r39.Data.length c118]), (42, .int .i64 (w64 (1 + (Int.tmod (w64 (x0.2.1)) 4)))), (47, .int .i64 (w64 (1 + (Int.tmod (w64 (x0.2.2.1)) 4)))), (48, .slice A1 x1.length c1), (49, .agg #[.slice A126 r40.Shape.length c127, .slice A128 r40.Data.length c129]), (54, .int .i64 (w64 (1 + (Int.tmod (w64 (x0.2.2.1)) 4)))), (59, .int .i64 (w64 (1 + (Int.tmod (w64 (x0.2.2.2)) 4)))), (60, .slice A1 x1.length c1), (61, .agg #[.slice A137 r41.Shape.length c138, .slice A139 r41.Data.length c140])] ∧ Mem [] M w0 [.bx b148 [.slice none 0 0, .slice none 0 0] 42, .sl (Kd.int .i64) A137 c138 r41.Shape, .sl Kd.float A139 c140 r41.Data, .sl (Kd.int .i64) A126 c127 r40.Shape, .sl Kd.float A128 c129 r40.Data, .sl (Kd.int .i64) A115 c116 r39.Shape, .sl Kd.float A117 c118 r39.Data, .bx b21 [.int .u8 x0.1, .int .u8 x0.2.1, .int .u8 x0.2.2.1, .int .u8 x0.2.2.2] 50, .sl (Kd.int .i8) A1 c1 x1] w) #[true, true, true, true, true, true, true, true, true, true, true, true, true, true, true, true, true, true, true, true, true, true, true, true, true, true, true, true, true, true, true, true, true, true, true, true, true, false, false, false, false, false] 5 ?_ fun L1138 => ?_
      · rintro a1139 w1140 ⟨b148, A115, c116, A117, c118, A126, c127, A128, c129, A137, c138, A139, c140, hf1141, hm1142⟩
        refine all2 37 38 (by kernel_rfl) ?_ ?_
        · refine opOf hf1141 rfl (by kernel_rfl) (aNew (cs := [.slice none 0 0, .slice none 0 0]) (T := 42) (d := 6) hf1141 (by kernel_rfl) (by kernel_rfl) ?_)
          intro b1143 w1144 a1145 hbb1143 hx1147 hg1148 hf1146
          refine ⟨.inr (Gr.still hg1148), ?_⟩
          have hm1149 := hm1142.box hbb1143 hx1147 hg1148
          refine all1 38 (by kernel_rfl) ?_
          refine opOf hf1146 rfl (by kernel_rfl) (aNew (cs := [.slice none 0 0, .slice none 0 0]) (T := 42) (d := 7) hf1146 (by kernel_rfl) (by kernel_rfl) ?_)
          intro b1150 w1151 a1152 hbb1150 hx1154 hg1155 hf1153
          refine ⟨.inr (Gr.still hg1155), ?_⟩
          have hm1156 := hm1149.box hbb1150 hx1154 hg1155
          refine all1 39 (by kernel_rfl) ?_
          refine opOf hf1153 rfl (by kernel_rfl) (aStoreB (b := b148) (j := 0) (T := 42) (cs := [.slice none 0 0, .slice none 0 0]) (us := [.slice A115 r39.Shape.length c116, .slice A117 r39.Data.length c118]) (cs' := [.slice A115 r39.Shape.length c116, .slice A117 r39.Data.length c118]) hf1153 (by kernel_rfl) (hm1156.bxAt 2 rfl) (by kernel_rfl) (by kernel_rfl) (by kernel_rfl) ?_)
          intro w1157 hx1158 hg1159
          refine ⟨.inl (by decide), ?_⟩
          have hm1160 := hm1156.setBox 2 _ rfl rfl hx1158 hg1159
          refine all1 40 (by kernel_rfl) ?_
          refine opOf hf1153 rfl (by kernel_rfl) (aStoreB (b := b1143) (j := 0) (T := 42) (cs := [.slice none 0 0, .slice none 0 0]) (us := [.slice A126 r40.Shape.length c127, .slice A128 r40.Data.length c129]) (cs' := [.slice A126 r40.Shape.length c127, .slice A128 r40.Data.length c129]) hf1153 (by kernel_rfl) (hm1160.bxAt 1 rfl) (by kernel_rfl) (by kernel_rfl) (by kernel_rfl) ?_)
          intro w1161 hx1162 hg1163
          refine ⟨.inl (by decide), ?_⟩
          have hm1164 := hm1160.setBox 1 _ rfl rfl hx1162 hg1163
          refine all1 41 (by kernel_rfl) ?_
          refine opOf hf1153 rfl (by kernel_rfl) (aStoreB (b := b1150) (j := 0) (T := 42) (cs := [.slice none 0 0, .slice none 0 0]) (us := [.slice A137 r41.Shape.length c138, .slice A139 r41.Data.length c140]) (cs' := [.slice A137 r41.Shape.length c138, .slice A139 r41.Data.length c140]) hf1153 (by kernel_rfl) (hm1164.bxAt 0 rfl) (by kernel_rfl) (by kernel_rfl) (by kernel_rfl) ?_)
          intro w1165 hx1166 hg1167
          refine ⟨.inl (by decide), ?_⟩
          have hm1168 := hm1164.setBox 0 _ rfl rfl hx1166 hg1167
          refine allDone (by kernel_rfl) ⟨rfl, b148, b1143, b1150, A137, c138, A139, c140, A126, c127, A128, c129, A115, c116, A117, c118, hf1153.sel (l := [1, 5, 6, 7]) (by kernel_rfl), hm1168.sel [0, 1, 2, 3, 4, 5, 6, 7, 8, 10] _ rfl (by kernel_rfl)⟩
        · refine opOf hf1141 rfl (by kernel_rfl) (aNew (cs := [.slice none 0 0, .slice none 0 0]) (T := 42) (d := 7) hf1141 (by kernel_rfl) (by kernel_rfl) ?_)
          intro b1169 w1170 a1171 hbb1169 hx1173 hg1174 hf1172
          refine ⟨.inr (Gr.still hg1174), ?_⟩
          have hm1175 := hm1142.box hbb1169 hx1173 hg1174
          refine all1 37 (by kernel_rfl) ?_
          refine opOf hf1172 rfl (by kernel_rfl) (aNew (cs := [.slice none 0 0, .slice none 0 0]) (T := 42) (d := 6) hf1172 (by kernel_rfl) (by kernel_rfl) ?_)
          intro b1176 w1177 a1178 hbb1176 hx1180 hg1181 hf1179
          refine ⟨.inr (Gr.still hg1181), ?_⟩
          have hm1182 := hm1175.box hbb1176 hx1180 hg1181
          refine all1 39 (by kernel_rfl) ?_
          refine opOf hf1179 rfl (by kernel_rfl) (aStoreB (b := b148) (j := 0) (T := 42) (cs := [.slice none 0 0, .slice none 0 0]) (us := [.slice A115 r39.Shape.length c116, .slice A117 r39.Data.length c118]) (cs' := [.slice A115 r39.Shape.length c116, .slice A117 r39.Data.length c118]) hf1179 (by kernel_rfl) (hm1182.bxAt 2 rfl) (by kernel_rfl) (by kernel_rfl) (by kernel_rfl) ?_)
          intro w1183 hx1184 hg1185
          refine ⟨.inl (by decide), ?_⟩
          have hm1186 := hm1182.setBox 2 _ rfl rfl hx1184 hg1185
          refine all1 40 (by kernel_rfl) ?_
          refine opOf hf1179 rfl (by kernel_rfl) (aStoreB (b := b1176) (j := 0) (T := 42) (cs := [.slice none 0 0, .slice none 0 0]) (us := [.slice A126 r40.Shape.length c127, .slice A128 r40.Data.length c129]) (cs' := [.slice A126 r40.Shape.length c127, .slice A128 r40.Data.length c129]) hf1179 (by kernel_rfl) (hm1186.bxAt 0 rfl) (by kernel_rfl) (by kernel_rfl) (by kernel_rfl) ?_)
          intro w1187 hx1188 hg1189
          refine ⟨.inl (by decide), ?_⟩
          have hm1190 := hm1186.setBox 0 _ rfl rfl hx1188 hg1189
          refine all1 41 (by kernel_rfl) ?_
          refine opOf hf1179 rfl (by kernel_rfl) (aStoreB (b := b1169) (j := 0) (T := 42) (cs := [.slice none 0 0, .slice none 0 0]) (us := [.slice A137 r41.Shape.length c138, .slice A139 r41.Data.length c140]) (cs' := [.slice A137 r41.Shape.length c138, .slice A139 r41.Data.length c140]) hf1179 (by kernel_rfl) (hm1190.bxAt 1 rfl) (by kernel_rfl) (by kernel_rfl) (by kernel_rfl) ?_)
          intro w1191 hx1192 hg1193
          refine ⟨.inl (by decide), ?_⟩
          have hm1194 := hm1190.setBox 1 _ rfl rfl hx1192 hg1193
          refine allDone (by kernel_rfl) ⟨rfl, b148, b1176, b1169, A137, c138, A139, c140, A126, c127, A128, c129, A115, c116, A117, c118, hf1179.sel (l := [1, 5, 6, 7]) (by kernel_rfl), hm1194.sel [1, 0, 2, 3, 4, 5, 6, 7, 8, 10] _ rfl (by kernel_rfl)⟩
      refine memoStep (R := fun (a : Act) (w : World) => ∃ (b207 : Nat) (A115 : Option Addr) (c116 : Nat) (A117 : Option Addr) (c118 : Nat) (A126 : Option Addr) (c127 : Nat) (A128 : Option Addr) (c129 : Nat) (A137 : Option Addr) (c138 : Nat) (A139 : Option Addr) (c140 : Nat), Fr 138 a [(1, .slice A1 x1.length c1), (6, .pointer (some ⟨b207, 0, none⟩)), (30, .int .i64 (w64 (1 + (Int.tmod (w64 (x0.1)) 4)))), (35, .int .i64 (w64 (1 + (Int.tmod (w64 (x0.2.1)) 4)))), (36, .slice A1 x1.length c1), (37, .agg #[.slice A115 r39.Shape.length c116, .slice A117 r39.Data.length c118]), (42, .int .i64 (w64 (1 + (Int.tmod (w64 (x0.2.1)) 4)))), (47, .int .i64 (w64 (1 + (Int.tmod (w64 (x0.2.2.1)) 4)))), (48, .slice A1 x1.length c1), (49, .agg #[.slice A126 r40.Shape.length c127, .slice A128 r40.Data.length c129]), (54, .int .i64 (w64 (1 + (Int.tmod (w64 (x0.2.2.1)) 4)))), (59, .int .i64 (w64 (1 + (Int.tmod (w64 (x0.2.2.2)) 4)))), (60, .slice A1 x1.length c1), (61, .agg #[.slice A137 r41.Shape.length c138, .slice A139 r41.Data.length c140])] ∧ Mem [] M w0 [.bx b207 [.slice none 0 0, .slice none 0 0] 42, .sl (Kd.int .i64) A137 c138 r41.Shape, .sl Kd.float A139 c140 r41.Data, .sl (Kd.int .i64) A126 c127 r40.Shape, .sl Kd.float A128 c129 r40.Data, .sl (Kd.int .i64) A115 c116 r39.Shape, .sl Kd.float A117 c118 r39.Data, .bx b21 [.int .u8 x0.1, .int .u8 x0.2.1, .int .u8 x0.2.2.1, .int .u8 x0.2.2.2] 50, .sl (Kd.int .i8) A1 c1 x1] w) #[true, true, true, true, true, true, true, true, true, true, true, true, true, true, true, true, true, true, true, true, true, true, true, true, true, true, true, true, true, true, true, true, true, true, true, true, false, true, false, false, false, false] 5 ?_ fun L1195 => ?_
      · rintro a1196 w1197 ⟨b207, A115, c116, A117, c118, A126, c127, A128, c129, A137, c138, A139, c140, hf1198, hm1199⟩
        refine all2 36 38 (by kernel_rfl) ?_ ?_
        · refine opOf hf1198 rfl (by kernel_rfl) (aNew (cs := [.slice none 0 0, .slice none 0 0]) (T := 42) (d := 5) hf1198 (by kernel_rfl) (by kernel_rfl) ?_)
          intro b1200 w1201 a1202 hbb1200 hx1204 hg1205 hf1203
          refine ⟨.inr (Gr.still hg1205), ?_⟩
          have hm1206 := hm1199.box hbb1200 hx1204 hg1205
          refine all1 38 (by kernel_rfl) ?_
          refine opOf hf1203 rfl (by kernel_rfl) (aNew (cs := [.slice none 0 0, .slice none 0 0]) (T := 42) (d := 7) hf1203 (by kernel_rfl) (by kernel_rfl) ?_)
          intro b1207 w1208 a1209 hbb1207 hx1211 hg1212 hf1210
          refine ⟨.inr (Gr.still hg1212), ?_⟩
          have hm1213 := hm1206.box hbb1207 hx1211 hg1212
          refine all1 39 (by kernel_rfl) ?_
          refine opOf hf1210 rfl (by kernel_rfl) (aStoreB (b := b1200) (j := 0) (T := 42) (cs := [.slice none 0 0, .slice none 0 0]) (us := [.slice A115 r39.Shape.length c116, .slice A117 r39.Data.length c118]) (cs' := [.slice A115 r39.Shape.length c116, .slice A117 r39.Data.length c118]) hf1210 (by kernel_rfl) (hm1213.bxAt 1 rfl) (by kernel_rfl) (by kernel_rfl) (by kernel_rfl) ?_)
          intro w1214 hx1215 hg1216
          refine ⟨.inl (by decide), ?_⟩
          have hm1217 := hm1213.setBox 1 _ rfl rfl hx1215 hg1216
          refine all1 40 (by kernel_rfl) ?_
          refine opOf hf1210 rfl (by kernel_rfl) (aStoreB (b := b207) (j := 0) (T := 42) (cs := [.slice none 0 0, .slice none 0 0]) (us := [.slice A126 r40.Shape.length c127, .slice A128 r40.Data.length c129]) (cs' := [.slice A126 r40.Shape.length c127, .slice A128 r40.Data.length c129]) hf1210 (by kernel_rfl) (hm1217.bxAt 2 rfl) (by kernel_rfl) (by kernel_rfl) (by kernel_rfl) ?_)
          intro w1218 hx1219 hg1220
          refine ⟨.inl (by decide), ?_⟩
          have hm1221 := hm1217.setBox 2 _ rfl rfl hx1219 hg1220
          refine all1 41 (by kernel_rfl) ?_
          refine opOf hf1210 rfl (by kernel_rfl) (aStoreB (b := b1207) (j := 0) (T := 42) (cs := [.slice none 0 0, .slice none 0 0]) (us := [.slice A137 r41.Shape.length c138, .slice A139 r41.Data.length c140]) (cs' := [.slice A137 r41.Shape.length c138, .slice A139 r41.Data.length c140]) hf1210 (by kernel_rfl) (hm1221.bxAt 0 rfl) (by kernel_rfl) (by kernel_rfl) (by kernel_rfl) ?_)
          intro w1222 hx1223 hg1224
          refine ⟨.inl (by decide), ?_⟩
          have hm1225 := hm1221.setBox 0 _ rfl rfl hx1223 hg1224
          refine allDone (by kernel_rfl) ⟨rfl, b1200, b207, b1207, A137, c138, A139, c140, A126, c127, A128, c129, A115, c116, A117, c118, hf1210.sel (l := [1, 5, 6, 7]) (by kernel_rfl), hm1225.sel [0, 2, 1, 3, 4, 5, 6, 7, 8, 10] _ rfl (by kernel_rfl)⟩
        · refine opOf hf1198 rfl (by kernel_rfl) (aNew (cs := [.slice none 0 0, .slice none 0 0]) (T := 42) (d := 7) hf1198 (by kernel_rfl) (by kernel_rfl) ?_)
          intro b1226 w1227 a1228 hbb1226 hx1230 hg1231 hf1229
          refine ⟨.inr (Gr.still hg1231), ?_⟩
          have hm1232 := hm1199.box hbb1226 hx1230 hg1231
          refine all1 36 (by kernel_rfl) ?_
          refine opOf hf1229 rfl (by kernel_rfl) (aNew (cs := [.slice none 0 0, .slice none 0 0]) (T := 42) (d := 5) hf1229 (by kernel_rfl) (by kernel_rfl) ?_)
          intro b1233 w1234 a1235 hbb1233 hx1237 hg1238 hf1236
          refine ⟨.inr (Gr.still hg1238), ?_⟩
          have hm1239 := hm1232.box hbb1233 hx1237 hg1238
          refine all1 39 (by kernel_rfl) ?_
          refine opOf hf1236 rfl (by kernel_rfl) (aStoreB (b := b1233) (j := 0) (T := 42) (cs := [.slice none 0 0, .slice none 0 0]) (us := [.slice A115 r39.Shape.length c116, .slice A117 r39.Data.length c118]) (cs' := [.slice A115 r39.Shape.length c116, .slice A117 r39.Data.length c118]) hf1236 (by kernel_rfl) (hm1239.bxAt 0 rfl) (by kernel_rfl) (by kernel_rfl) (by kernel_rfl) ?_)
          intro w1240 hx1241 hg1242
          refine ⟨.inl (by decide), ?_⟩
          have hm1243 := hm1239.setBox 0 _ rfl rfl hx1241 hg1242
          refine all1 40 (by kernel_rfl) ?_
          refine opOf hf1236 rfl (by kernel_rfl) (aStoreB (b := b207) (j := 0) (T := 42) (cs := [.slice none 0 0, .slice none 0 0]) (us := [.slice A126 r40.Shape.length c127, .slice A128 r40.Data.length c129]) (cs' := [.slice A126 r40.Shape.length c127, .slice A128 r40.Data.length c129]) hf1236 (by kernel_rfl) (hm1243.bxAt 2 rfl) (by kernel_rfl) (by kernel_rfl) (by kernel_rfl) ?_)
          intro w1244 hx1245 hg1246
          refine ⟨.inl (by decide), ?_⟩
          have hm1247 := hm1243.setBox 2 _ rfl rfl hx1245 hg1246
          refine all1 41 (by kernel_rfl) ?_
          refine opOf hf1236 rfl (by kernel_rfl) (aStoreB (b := b1226) (j := 0) (T := 42) (cs := [.slice none 0 0, .slice none 0 0]) (us := [.slice A137 r41.Shape.length c138, .slice A139 r41.Data.length c140]) (cs' := [.slice A137 r41.Shape.length c138, .slice A139 r41.Data.length c140]) hf1236 (by kernel_rfl) (hm1247.bxAt 1 rfl) (by kernel_rfl) (by kernel_rfl) (by kernel_rfl) ?_)
          intro w1248 hx1249 hg1250
          refine ⟨.inl (by decide), ?_⟩
          have hm1251 := hm1247.setBox 1 _ rfl rfl hx1249 hg1250
          refine allDone (by kernel_rfl) ⟨rfl, b1233, b207, b1226, A137, c138, A139, c140, A126, c127, A128, c129, A115, c116, A117, c118, hf1236.sel (l := [1, 5, 6, 7]) (by kernel_rfl), hm1251.sel [1, 2, 0, 3, 4, 5, 6, 7, 8, 10] _ rfl (by kernel_rfl)⟩
      refine memoStep (R := fun (a : Act) (w : World) => ∃ (b266 : Nat) (A115 : Option Addr) (c116 : Nat) (A117 : Option Addr) (c118 : Nat) (A126 : Option Addr) (c127 : Nat) (A128 : Option Addr) (c129 : Nat) (A137 : Option Addr) (c138 : Nat) (A139 : Option Addr) (c140 : Nat), Fr 138 a [(1, .slice A1 x1.length c1), (7, .pointer (some ⟨b266, 0, none⟩)), (30, .int .i64 (w64 (1 + (Int.tmod (w64 (x0.1)) 4)))), (35, .int .i64 (w64 (1 + (Int.tmod (w64 (x0.2.1)) 4)))), (36, .slice A1 x1.length c1), (37, .agg #[.slice A115 r39.Shape.length c116, .slice A117 r39.Data.length c118]), (42, .int .i64 (w64 (1 + (Int.tmod (w64 (x0.2.1)) 4)))), (47, .int .i64 (w64 (1 + (Int.tmod (w64 (x0.2.2.1)) 4)))), (48, .slice A1 x1.length c1), (49, .agg #[.slice A126 r40.Shape.length c127, .slice A128 r40.Data.length c129]), (54, .int .i64 (w64 (1 + (Int.tmod (w64 (x0.2.2.1)) 4)))), (59, .int .i64 (w64 (1 + (Int.tmod (w64 (x0.2.2.2)) 4)))), (60, .slice A1 x1.length c1), (61, .agg #[.slice A137 r41.Shape.length c138, .slice A139 r41.Data.length c140])] ∧ Mem [] M w0 [.bx b266 [.slice none 0 0, .slice none 0 0] 42, .sl (Kd.int .i64) A137 c138 r41.Shape, .sl Kd.float A139 c140 r41.Data, .sl (Kd.int .i64) A126 c127 r40.Shape, .sl Kd.float A128 c129 r40.Data, .sl (Kd.int .i64) A115 c116 r39.Shape, .sl Kd.float A117 c118 r39.Data, .bx b21 [.int .u8 x0.1, .int .u8 x0.2.1, .int .u8 x0.2.2.1, .int .u8 x0.2.2.2] 50, .sl (Kd.int .i8) A1 c1 x1] w) #[true, true, true, true, true, true, true, true, true, true, true, true, true, true, true, true, true, true, true, true, true, true, true, true, true, true, true, true, true, true, true, true, true, true, true, true, false, false, true, false, false, false] 5 ?_ fun L1252 => ?_
      · rintro a1253 w1254 ⟨b266, A115, c116, A117, c118, A126, c127, A128, c129, A137, c138, A139, c140, hf1255, hm1256⟩
        refine all2 36 37 (by kernel_rfl) ?_ ?_
        · refine opOf hf1255 rfl (by kernel_rfl) (aNew (cs := [.slice none 0 0, .slice none 0 0]) (T := 42) (d := 5) hf1255 (by kernel_rfl) (by kernel_rfl) ?_)
          intro b1257 w1258 a1259 hbb1257 hx1261 hg1262 hf1260
          refine ⟨.inr (Gr.still hg1262), ?_⟩
          have hm1263 := hm1256.box hbb1257 hx1261 hg1262
          refine all1 37 (by kernel_rfl) ?_
          refine opOf hf1260 rfl (by kernel_rfl) (aNew (cs := [.slice none 0 0, .slice none 0 0]) (T := 42) (d := 6) hf1260 (by kernel_rfl) (by kernel_rfl) ?_)
          intro b1264 w1265 a1266 hbb1264 hx1268 hg1269 hf1267
          refine ⟨.inr (Gr.still hg1269), ?_⟩
          have hm1270 := hm1263.box hbb1264 hx1268 hg1269
          refine all1 39 (by kernel_rfl) ?_
          refine opOf hf1267 rfl (by kernel_rfl) (aStoreB (b := b1257) (j := 0) (T := 42) (cs := [.slice none 0 0, .slice none 0 0]) (us := [.slice A115 r39.Shape.length c116, .slice A117 r39.Data.length c118]) (cs' := [.slice A115 r39.Shape.length c116, .slice A117 r39.Data.length c118]) hf1267 (by kernel_rfl) (hm1270.bxAt 1 rfl) (by kernel_rfl) (by kernel_rfl) (by kernel_rfl) ?_)
          intro w1271 hx1272 hg1273
          refine ⟨.inl (by decide), ?_⟩
          have hm1274 := hm1270.setBox 1 _ rfl rfl hx1272 hg1273
          refine all1 40 (by kernel_rfl) ?_
          refine opOf hf1267 rfl (by kernel_rfl) (aStoreB (b := b1264) (j := 0) (T := 42) (cs := [.slice none 0 0, .slice none 0 0]) (us := [.slice A126 r40.Shape.length c127, .slice A128 r40.Data.length c129]) (cs' := [.slice A126 r40.Shape.length c127, .slice A128 r40.Data.length c129]) hf1267 (by kernel_rfl) (hm1274.bxAt 0 rfl) (by kernel_rfl) (by kernel_rfl) (by kernel_rfl) ?_)
          intro w1275 hx1276 hg1277
          refine ⟨.inl (by decide), ?_⟩
          have hm1278 := hm1274.setBox 0 _ rfl rfl hx1276 hg1277
          refine all1 41 (by kernel_rfl) ?_
          refine opOf hf1267 rfl (by kernel_rfl) (aStoreB (b := b266) (j := 0) (T := 42) (cs := [.slice none 0 0, .slice none 0 0]) (us := [.slice A137 r41.Shape.length c138, .slice A139 r41.Data.length c140]) (cs' := [.slice A137 r41.Shape.length c138, .slice A139 r41.Data.length c140]) hf1267 (by kernel_rfl) (hm1278.bxAt 2 rfl) (by kernel_rfl) (by kernel_rfl) (by kernel_rfl) ?_)
          intro w1279 hx1280 hg1281
          refine ⟨.inl (by decide), ?_⟩
          have hm1282 := hm1278.setBox 2 _ rfl rfl hx1280 hg1281
          refine allDone (by kernel_rfl) ⟨rfl, b1257, b1264, b266, A137, c138, A139, c140, A126, c127, A128, c129, A115, c116, A117, c118, hf1267.sel (l := [1, 5, 6, 7]) (by kernel_rfl), hm1282.sel [2, 0, 1, 3, 4, 5, 6, 7, 8, 10] _ rfl (by kernel_rfl)⟩
        · refine opOf hf1255 rfl (by kernel_rfl) (aNew (cs := [.slice none 0 0, .slice none 0 0]) (T := 42) (d := 6) hf1255 (by kernel_rfl) (by kernel_rfl) ?_)
          intro b1283 w1284 a1285 hbb1283 hx1287 hg1288 hf1286
          refine ⟨.inr (Gr.still hg1288), ?_⟩
          have hm1289 := hm1256.box hbb1283 hx1287 hg1288
          refine all1 36 (by kernel_rfl) ?_
          refine opOf hf1286 rfl (by kernel_rfl) (aNew (cs := [.slice none 0 0, .slice none 0 0]) (T := 42) (d := 5) hf1286 (by kernel_rfl) (by kernel_rfl) ?_)
          intro b1290 w1291 a1292 hbb1290 hx1294 hg1295 hf1293
          refine ⟨.inr (Gr.still hg1295), ?_⟩
          have hm1296 := hm1289.box hbb1290 hx1294 hg1295
          refine all1 39 (by kernel_rfl) ?_
          refine opOf hf1293 rfl (by kernel_rfl) (aStoreB (b := b1290) (j := 0) (T := 42) (cs := [.slice none 0 0, .slice none 0 0]) (us := [.slice A115 r39.Shape.length c116, .slice A117 r39.Data.length c118]) (cs' := [.slice A115 r39.Shape.length c116, .slice A117 r39.Data.length c118]) hf1293 (by kernel_rfl) (hm1296.bxAt 0 rfl) (by kernel_rfl) (by kernel_rfl) (by kernel_rfl) ?_)
          intro w1297 hx1298 hg1299
          refine ⟨.inl (by decide), ?_⟩
          have hm1300 := hm1296.setBox 0 _ rfl rfl hx1298 hg1299
          refine all1 40 (by kernel_rfl) ?_
          refine opOf hf1293 rfl (by kernel_rfl) (aStoreB (b := b1283) (j := 0) (T := 42) (cs := [.slice none 0 0, .slice none 0 0]) (us := [.slice A126 r40.Shape.length c127, .slice A128 r40.Data.length c129]) (cs' := [.slice A126 r40.Shape.length c127, .slice A128 r40.Data.length c129]) hf1293 (by kernel_rfl) (hm1300.bxAt 1 rfl) (by kernel_rfl) (by kernel_rfl) (by kernel_rfl) ?_)
          intro w1301 hx1302 hg1303
          refine ⟨.inl (by decide), ?_⟩
          have hm1304 := hm1300.setBox 1 _ rfl rfl hx1302 hg1303
          refine all1 41 (by kernel_rfl) ?_
          refine opOf hf1293 rfl (by kernel_rfl) (aStoreB (b := b266) (j := 0) (T := 42) (cs := [.slice none 0 0, .slice none 0 0]) (us := [.slice A137 r41.Shape.length c138, .slice A139 r41.Data.length c140]) (cs' := [.slice A137 r41.Shape.length c138, .slice A139 r41.Data.length c140]) hf1293 (by kernel_rfl) (hm1304.bxAt 2 rfl) (by kernel_rfl) (by kernel_rfl) (by kernel_rfl) ?_)
          intro w1305 hx1306 hg1307
          refine ⟨.inl (by decide), ?_⟩
          have hm1308 := hm1304.setBox 2 _ rfl rfl hx1306 hg1307
          refine allDone (by kernel_rfl) ⟨rfl, b1290, b1283, b266, A137, c138, A139, c140, A126, c127, A128, c129, A115, c116, A117, c118, hf1293.sel (l := [1, 5, 6, 7]) (by kernel_rfl), hm1308.sel [2, 1, 0, 3, 4, 5, 6, 7, 8, 10] _ rfl (by kernel_rfl)⟩
      refine memoStep (R := fun (a : Act) (w : World) => ∃ (b325 : Nat) (b343 : Nat) (A115 : Option Addr) (c116 : Nat) (A117 : Option Addr) (c118 : Nat) (A126 : Option Addr) (c127 : Nat) (A128 : Option Addr) (c129 : Nat), Fr 138 a [(1, .slice A1 x1.length c1), (5, .pointer (some ⟨b325, 0, none⟩)), (6, .pointer (some ⟨b343, 0, none⟩)), (30, .int .i64 (w64 (1 + (Int.tmod (w64 (x0.1)) 4)))), (35, .int .i64 (w64 (1 + (Int.tmod (w64 (x0.2.1)) 4)))), (36, .slice A1 x1.length c1), (37, .agg #[.slice A115 r39.Shape.length c116, .slice A117 r39.Data.length c118]), (42, .int .i64 (w64 (1 + (Int.tmod (w64 (x0.2.1)) 4)))), (47, .int .i64 (w64 (1 + (Int.tmod (w64 (x0.2.2.1)) 4)))), (48, .slice A1 x1.length c1), (49, .agg #[.slice A126 r40.Shape.length c127, .slice A128 r40.Data.length c129]), (54, .int .i64 (w64 (1 + (Int.tmod (w64 (x0.2.2.1)) 4)))), (59, .int .i64 (w64 (1 + (Int.tmod (w64 (x0.2.2.2)) 4)))), (60, .slice A1 x1.length c1)] ∧ Mem [] M w0 [.bx b343 [.slice none 0 0, .slice none 0 0] 42, .bx b325 [.slice none 0 0, .slice none 0 0] 42, .sl (Kd.int .i64) A126 c127 r40.Shape, .sl Kd.float A128 c129 r40.Data, .sl (Kd.int .i64) A115 c116 r39.Shape, .sl Kd.float A117 c118 r39.Data, .bx b21 [.int .u8 x0.1, .int .u8 x0.2.1, .int .u8 x0.2.2.1, .int .u8 x0.2.2.2] 50, .sl (Kd.int .i8) A1 c1 x1] w) #[true, true, true, true, true, true, true, true, true, true, true, true, true, true, true, true, true, true, true, true, true, true, true, true, true, true, true, true, true, true, true, true, true, true, true, false, true, true, false, false, false, false] 5 ?_ fun L1309 => ?_
      · rintro a1310 w1311 ⟨b325, b343, A115, c116, A117, c118, A126, c127, A128, c129, hf1312, hm1313⟩
        refine all2 35 38 (by kernel_rfl) ?_ ?_
        · refine opOf hf1312 rfl (by kernel_rfl) (aCall (fid := 36) (args := [.int .i64 (w64 (1 + (Int.tmod (w64 (x0.2.2.1)) 4))), .int .i64 (w64 (1 + (Int.tmod (w64 (x0.2.2.2)) 4))), .slice A1 x1.length c1, .int .i64 32]) (d := 61) hf1312 (by kernel_rfl) (by kernel_rfl) callable36 (law5_matrixOf.calls _ _ (w64 (1 + (Int.tmod (w64 (x0.2.2.1)) 4))) (w64 (1 + (Int.tmod (w64 (x0.2.2.2)) 4))) x1 A1 x1.length c1 rfl 32 (hm1313.give [7] [.sl (Kd.int .i8) A1 c1 x1] rfl rfl) r41 hr41) ?_)
          rintro _ w1318 a1319 ⟨A1314, c1315, A1316, c1317, rfl, hk1321⟩ hf1320
          refine ⟨.inr (Gr.still hk1321.cum.none), ?_⟩
          have hm1322 := hm1313.back hk1321
          have hm1323 := hm1322.seal 0 _ rfl rfl
          have hm1324 := hm1323.seal 1 _ rfl rfl
          refine all1 38 (by kernel_rfl) ?_
          refine opOf hf1320 rfl (by kernel_rfl) (aNew (cs := [.slice none 0 0, .slice none 0 0]) (T := 42) (d := 7) hf1320 (by kernel_rfl) (by kernel_rfl) ?_)
          intro b1325 w1326 a1327 hbb1325 hx1329 hg1330 hf1328
          refine ⟨.inr (Gr.still hg1330), ?_⟩
          have hm1331 := hm1324.box hbb1325 hx1329 hg1330
          refine all1 39 (by kernel_rfl) ?_
          refine opOf hf1328 rfl (by kernel_rfl) (aStoreB (b := b325) (j := 0) (T := 42) (cs := [.slice none 0 0, .slice none 0 0]) (us := [.slice A115 r39.Shape.length c116, .slice A117 r39.Data.length c118]) (cs' := [.slice A115 r39.Shape.length c116, .slice A117 r39.Data.length c118]) hf1328 (by kernel_rfl) (hm1331.bxAt 4 rfl) (by kernel_rfl) (by kernel_rfl) (by kernel_rfl) ?_)
          intro w1332 hx1333 hg1334
          refine ⟨.inl (by decide), ?_⟩
          have hm1335 := hm1331.setBox 4 _ rfl rfl hx1333 hg1334
          refine all1 40 (by kernel_rfl) ?_
          refine opOf hf1328 rfl (by kernel_rfl) (aStoreB (b := b343) (j := 0) (T := 42) (cs := [.slice none 0 0, .slice none 0 0]) (us := [.slice A126 r40.Shape.length c127, .slice A128 r40.Data.length c129]) (cs' := [.slice A126 r40.Shape.length c127, .slice A128 r40.Data.length c129]) hf1328 (by kernel_rfl) (hm1335.bxAt 3 rfl) (by kernel_rfl) (by kernel_rfl) (by kernel_rfl) ?_)
          intro w1336 hx1337 hg1338
          refine ⟨.inl (by decide), ?_⟩
          have hm1339 := hm1335.setBox 3 _ rfl rfl hx1337 hg1338
          refine all1 41 (by kernel_rfl) ?_
          refine opOf hf1328 rfl (by kernel_rfl) (aStoreB (b := b1325) (j := 0) (T := 42) (cs := [.slice none 0 0, .slice none 0 0]) (us := [.slice A1314 r41.Shape.length c1315, .slice A1316 r41.Data.length c1317]) (cs' := [.slice A1314 r41.Shape.length c1315, .slice A1316 r41.Data.length c1317]) hf1328 (by kernel_rfl) (hm1339.bxAt 0 rfl) (by kernel_rfl) (by kernel_rfl) (by kernel_rfl) ?_)
          intro w1340 hx1341 hg1342
          refine ⟨.inl (by decide), ?_⟩
          have hm1343 := hm1339.setBox 0 _ rfl rfl hx1341 hg1342
          refine allDone (by kernel_rfl) ⟨rfl, b325, b343, b1325, A1314, c1315, A1316, c1317, A126, c127, A128, c129, A115, c116, A117, c118, hf1328.sel (l := [1, 5, 6, 7]) (by kernel_rfl), hm1343.sel [0, 3, 4, 1, 2, 5, 6, 7, 8, 10] _ rfl (by kernel_rfl)⟩
        · refine opOf hf1312 rfl (by kernel_rfl) (aNew (cs := [.slice none 0 0, .slice none 0 0]) (T := 42) (d := 7) hf1312 (by kernel_rfl) (by kernel_rfl) ?_)
          intro b1344 w1345 a1346 hbb1344 hx1348 hg1349 hf1347
          refine ⟨.inr (Gr.still hg1349), ?_⟩
          have hm1350 := hm1313.box hbb1344 hx1348 hg1349
          refine all1 35 (by kernel_rfl) ?_
          refine opOf hf1347 rfl (by kernel_rfl) (aCall (fid := 36) (args := [.int .i64 (w64 (1 + (Int.tmod (w64 (x0.2.2.1)) 4))), .int .i64 (w64 (1 + (Int.tmod (w64 (x0.2.2.2)) 4))), .slice A1 x1.length c1, .int .i64 32]) (d := 61) hf1347 (by kernel_rfl) (by kernel_rfl) callable36 (law5_matrixOf.calls _ _ (w64 (1 + (Int.tmod (w64 (x0.2.2.1)) 4))) (w64 (1 + (Int.tmod (w64 (x0.2.2.2)) 4))) x1 A1 x1.length c1 rfl 32 (hm1350.give [8] [.sl (Kd.int .i8) A1 c1 x1] rfl rfl) r41 hr41) ?_)
          rintro _ w1355 a1356 ⟨A1351, c1352, A1353, c1354, rfl, hk1358⟩ hf1357
          refine ⟨.inr (Gr.still hk1358.cum.none), ?_⟩
          have hm1359 := hm1350.back hk1358
          have hm1360 := hm1359.seal 0 _ rfl rfl
          have hm1361 := hm1360.seal 1 _ rfl rfl
          refine all1 39 (by kernel_rfl) ?_
          refine opOf hf1357 rfl (by kernel_rfl) (aStoreB (b := b325) (j := 0) (T := 42) (cs := [.slice none 0 0, .slice none 0 0]) (us := [.slice A115 r39.Shape.length c116, .slice A117 r39.Data.length c118]) (cs' := [.slice A115 r39.Shape.length c116, .slice A117 r39.Data.length c118]) hf1357 (by kernel_rfl) (hm1361.bxAt 4 rfl) (by kernel_rfl) (by kernel_rfl) (by kernel_rfl) ?_)
          intro w1362 hx1363 hg1364
          refine ⟨.inl (by decide), ?_⟩
          have hm1365 := hm1361.setBox 4 _ rfl rfl hx1363 hg1364
          refine all1 40 (by kernel_rfl) ?_
          refine opOf hf1357 rfl (by kernel_rfl) (aStoreB (b := b343) (j := 0) (T := 42) (cs := [.slice none 0 0, .slice none 0 0]) (us := [.slice A126 r40.Shape.length c127, .slice A128 r40.Data.length c129]) (cs' := [.slice A126 r40.Shape.length c127, .slice A128 r40.Data.length c129]) hf1357 (by kernel_rfl) (hm1365.bxAt 3 rfl) (by kernel_rfl) (by kernel_rfl) (by kernel_rfl) ?_)
          intro w1366 hx1367 hg1368
          refine ⟨.inl (by decide), ?_⟩
          have hm1369 := hm1365.setBox 3 _ rfl rfl hx1367 hg1368
          refine all1 41 (by kernel_rfl) ?_
          refine opOf hf1357 rfl (by kernel_rfl) (aStoreB (b := b1344) (j := 0) (T := 42) (cs := [.slice none 0 0, .slice none 0 0]) (us := [.slice A1351 r41.Shape.length c1352, .slice A1353 r41.Data.length c1354]) (cs' := [.slice A1351 r41.Shape.length c1352, .slice A1353 r41.Data.length c1354]) hf1357 (by kernel_rfl) (hm1369.bxAt 2 rfl) (by kernel_rfl) (by kernel_rfl) (by kernel_rfl) ?_)
          intro w1370 hx1371 hg1372
          refine ⟨.inl (by decide), ?_⟩
          have hm1373 := hm1369.setBox 2 _ rfl rfl hx1371 hg1372
          refine allDone (by kernel_rfl) ⟨rfl, b325, b343, b1344, A1351, c1352, A1353, c1354, A126, c127, A128, c129, A115, c116, A117, c118, hf1357.sel (l := [1, 5, 6, 7]) (by kernel_rfl), hm1373.sel [2, 3, 4, 0, 1, 5, 6, 7, 8, 10] _ rfl (by kernel_rfl)⟩
      refine memoStep (R := fun (a : Act) (w : World) => ∃ (b325 : Nat) (b410 : Nat) (A115 : Option Addr) (c116 : Nat) (A117 : Option Addr) (c118 : Nat) (A126 : Option Addr) (c127 : Nat) (A128 : Option Addr) (c129 : Nat), Fr 138 a [(1, .slice A1 x1.length c1), (5, .pointer (some ⟨b325, 0, none⟩)), (7, .pointer (some ⟨b410, 0, none⟩)), (30, .int .i64 (w64 (1 + (Int.tmod (w64 (x0.1)) 4)))), (35, .int .i64 (w64 (1 + (Int.tmod (w64 (x0.2.1)) 4)))), (36, .slice A1 x1.length c1), (37, .agg #[.slice A115 r39.Shape.length c116, .slice A117 r39.Data.length c118]), (42, .int .i64 (w64 (1 + (Int.tmod (w64 (x0.2.1)) 4)))), (47, .int .i64 (w64 (1 + (Int.tmod (w64 (x0.2.2.1)) 4)))), (48, .slice A1 x1.length c1), (49, .agg #[.slice A126 r40.Shape.length c127, .slice A128 r40.Data.length c129]), (54, .int .i64 (w64 (1 + (Int.tmod (w64 (x0.2.2.1)) 4)))), (59, .int .i64 (w64 (1 + (Int.tmod (w64 (x0.2.2.2)) 4)))), (60, .slice A1 x1.length c1)] ∧ Mem [] M w0 [.bx b410 [.slice none 0 0, .slice none 0 0] 42, .bx b325 [.slice none 0 0, .slice none 0 0] 42, .sl (Kd.int .i64) A126 c127 r40.Shape, .sl Kd.float A128 c129 r40.Data, .sl (Kd.int .i64) A115 c116 r39.Shape, .sl Kd.float A117 c118 r39.Data, .bx b21 [.int .u8 x0.1, .int .u8 x0.2.1, .int .u8 x0.2.2.1, .int .u8 x0.2.2.2] 50, .sl (Kd.int .i8) A1 c1 x1] w) #[true, true, true, true, true, true, true, true, true, true, true, true, true, true, true, true, true, true, true, true, true, true, true, true, true, true, true, true, true, true, true, true, true, true, true, false, true, false, true, false, false, false] 5 ?_ fun L1374 => ?_
      · rintro a1375 w1376 ⟨b325, b410, A115, c116, A117, c118, A126, c127, A128, c129, hf1377, hm1378⟩
        refine all2 35 37 (by kernel_rfl) ?_ ?_
        · refine opOf hf1377 rfl (by kernel_rfl) (aCall (fid := 36) (args := [.int .i64 (w64 (1 + (Int.tmod (w64 (x0.2.2.1)) 4))), .int .i64 (w64 (1 + (Int.tmod (w64 (x0.2.2.2)) 4))), .slice A1 x1.length c1, .int .i64 32]) (d := 61) hf1377 (by kernel_rfl) (by kernel_rfl) callable36 (law5_matrixOf.calls _ _ (w64 (1 + (Int.tmod (w64 (x0.2.2.1)) 4))) (w64 (1 + (Int.tmod (w64 (x0.2.2.2)) 4))) x1 A1 x1.length c1 rfl 32 (hm1378.give [7] [.sl (Kd.int .i8) A1 c1 x1] rfl rfl) r41 hr41) ?_)
          rintro _ w1383 a1384 ⟨A1379, c1380, A1381, c1382, rfl, hk1386⟩ hf1385
          refine ⟨.inr (Gr.still hk1386.cum.none), ?_⟩
          have hm1387 := hm1378.back hk1386
          have hm1388 := hm1387.seal 0 _ rfl rfl
          have hm1389 := hm1388.seal 1 _ rfl rfl
          refine all1 37 (by kernel_rfl) ?_
          refine opOf hf1385 rfl (by kernel_rfl) (aNew (cs := [.slice none 0 0, .slice none 0 0]) (T := 42) (d := 6) hf1385 (by kernel_rfl) (by kernel_rfl) ?_)
          intro b1390 w1391 a1392 hbb1390 hx1394 hg1395 hf1393
          refine ⟨.inr (Gr.still hg1395), ?_⟩
          have hm1396 := hm1389.box hbb1390 hx1394 hg1395
          refine all1 39 (by kernel_rfl) ?_
          refine opOf hf1393 rfl (by kernel_rfl) (aStoreB (b := b325) (j := 0) (T := 42) (cs := [.slice none 0 0, .slice none 0 0]) (us := [.slice A115 r39.Shape.length c116, .slice A117 r39.Data.length c118]) (cs' := [.slice A115 r39.Shape.length c116, .slice A117 r39.Data.length c118]) hf1393 (by kernel_rfl) (hm1396.bxAt 4 rfl) (by kernel_rfl) (by kernel_rfl) (by kernel_rfl) ?_)
          intro w1397 hx1398 hg1399
          refine ⟨.inl (by decide), ?_⟩
          have hm1400 := hm1396.setBox 4 _ rfl rfl hx1398 hg1399
          refine all1 40 (by kernel_rfl) ?_
          refine opOf hf1393 rfl (by kernel_rfl) (aStoreB (b := b1390) (j := 0) (T := 42) (cs := [.slice none 0 0, .slice none 0 0]) (us := [.slice A126 r40.Shape.length c127, .slice A128 r40.Data.length c129]) (cs' := [.slice A126 r40.Shape.length c127, .slice A128 r40.Data.length c129]) hf1393 (by kernel_rfl) (hm1400.bxAt 0 rfl) (by kernel_rfl) (by kernel_rfl) (by kernel_rfl) ?_)
          intro w1401 hx1402 hg1403
          refine ⟨.inl (by decide), ?_⟩
          have hm1404 := hm1400.setBox 0 _ rfl rfl hx1402 hg1403
          refine all1 41 (by kernel_rfl) ?_
          refine opOf hf1393 rfl (by kernel_rfl) (aStoreB (b := b410) (j := 0) (T := 42) (cs := [.slice none 0 0, .slice none 0 0]) (us := [.slice A1379 r41.Shape.length c1380, .slice A1381 r41.Data.length c1382]) (cs' := [.slice A1379 r41.Shape.length c1380, .slice A1381 r41.Data.length c1382]) hf1393 (by kernel_rfl) (hm1404.bxAt 3 rfl) (by kernel_rfl) (by kernel_rfl) (by kernel_rfl) ?_)
          intro w1405 hx1406 hg1407
          refine ⟨.inl (by decide), ?_⟩
          have hm1408 := hm1404.setBox 3 _ rfl rfl hx1406 hg1407
          refine allDone (by kernel_rfl) ⟨rfl, b325, b1390, b410, A1379, c1380, A1381, c1382, A126, c127, A128, c129, A115, c116, A117, c118, hf1393.sel (l := [1, 5, 6, 7]) (by kernel_rfl), hm1408.sel [3, 0, 4, 1, 2, 5, 6, 7, 8, 10] _ rfl (by kernel_rfl)⟩
        · refine opOf hf1377 rfl (by kernel_rfl) (aNew (cs := [.slice none 0 0, .slice none 0 0]) (T := 42) (d := 6) hf1377 (by kernel_rfl) (by kernel_rfl) ?_)
          intro b1409 w1410 a1411 hbb1409 hx1413 hg1414 hf1412
          refine ⟨.inr (Gr.still hg1414), ?_⟩
          have hm1415 := hm1378.box hbb1409 hx1413 hg1414
          refine all1 35 (by kernel_rfl) ?_
          refine opOf hf1412 rfl (by kernel_rfl) (aCall (fid := 36) (args := [.int .i64 (w64 (1 + (Int.tmod (w64 (x0.2.2.1)) 4))), .int .i64 (w64 (1 + (Int.tmod (w64 (x0.2.2.2)) 4))), .slice A1 x1.length c1, .int .i64 32]) (d := 61) hf1412 (by kernel_rfl) (by kernel_rfl) callable36 (law5_matrixOf.calls _ _ (w64 (1 + (Int.tmod (w64 (x0.2.2.1)) 4))) (w64 (1 + (Int.tmod (w64 (x0.2.2.2)) 4))) x1 A1 x1.length c1 rfl 32 (hm1415.give [8] [.sl (Kd.int .i8) A1 c1 x1] rfl rfl) r41 hr41) ?_)
          rintro _ w1420 a1421 ⟨A1416, c1417, A1418, c1419, rfl, hk1423⟩ hf1422
          refine ⟨.inr (Gr.still hk1423.cum.none), ?_⟩
          have hm1424 := hm1415.back hk1423
          have hm1425 := hm1424.seal 0 _ rfl rfl
          have hm1426 := hm1425.seal 1 _ rfl rfl
          refine all1 39 (by kernel_rfl) ?_
          refine opOf hf1422 rfl (by kernel_rfl) (aStoreB (b := b325) (j := 0) (T := 42) (cs := [.slice none 0 0, .slice none 0 0]) (us := [.slice A115 r39.Shape.length c116, .slice A117 r39.Data.length c118]) (cs' := [.slice A115 r39.Shape.length c116, .slice A117 r39.Data.length c118]) hf1422 (by kernel_rfl) (hm1426.bxAt 4 rfl) (by kernel_rfl) (by kernel_rfl) (by kernel_rfl) ?_)
          intro w1427 hx1428 hg1429
          refine ⟨.inl (by decide), ?_⟩
          have hm1430 := hm1426.setBox 4 _ rfl rfl hx1428 hg1429
          refine all1 40 (by kernel_rfl) ?_
          refine opOf hf1422 rfl (by kernel_rfl) (aStoreB (b := b1409) (j := 0) (T := 42) (cs := [.slice none 0 0, .slice none 0 0]) (us := [.slice A126 r40.Shape.length c127, .slice A128 r40.Data.length c129]) (cs' := [.slice A126 r40.Shape.length c127, .slice A128 r40.Data.length c129]) hf1422 (by kernel_rfl) (hm1430.bxAt 2 rfl) (by kernel_rfl) (by kernel_rfl) (by kernel_rfl) ?_)
          intro w1431 hx1432 hg1433
          refine ⟨.inl (by decide), ?_⟩
          have hm1434 := hm1430.setBox 2 _ rfl rfl hx1432 hg1433
          refine all1 41 (by kernel_rfl) ?_
          refine opOf hf1422 rfl (by kernel_rfl) (aStoreB (b := b410) (j := 0) (T := 42) (cs := [.slice none 0 0, .slice none 0 0]) (us := [.slice A1416 r41.Shape.length c1417, .slice A1418 r41.Data.length c1419]) (cs' := [.slice A1416 r41.Shape.length c1417, .slice A1418 r41.Data.length c1419]) hf1422 (by kernel_rfl) (hm1434.bxAt 3 rfl) (by kernel_rfl) (by kernel_rfl) (by kernel_rfl) ?_)
          intro w1435 hx1436 hg1437
          refine ⟨.inl (by decide), ?_⟩
          have hm1438 := hm1434.setBox 3 _ rfl rfl hx1436 hg1437
          refine allDone (by kernel_rfl) ⟨rfl, b325, b1409, b410, A1416, c1417, A1418, c1419, A126, c127, A128, c129, A115, c116, A117, c118, hf1422.sel (l := [1, 5, 6, 7]) (by kernel_rfl), hm1438.sel [3, 2, 4, 0, 1, 5, 6, 7, 8, 10] _ rfl (by kernel_rfl)⟩
      refine memoStep (R := fun (a : Act) (w : World) => ∃ (b477 : Nat) (b502 : Nat) (A115 : Option Addr) (c116 : Nat) (A117 : Option Addr) (c118 : Nat) (A126 : Option Addr) (c127 : Nat) (A128 : Option Addr) (c129 : Nat), Fr 138 a [(1, .slice A1 x1.length c1), (6, .pointer (some ⟨b477, 0, none⟩)), (7, .pointer (some ⟨b502, 0, none⟩)), (30, .int .i64 (w64 (1 + (Int.tmod (w64 (x0.1)) 4)))), (35, .int .i64 (w64 (1 + (Int.tmod (w64 (x0.2.1)) 4)))), (36, .slice A1 x1.length c1), (37, .agg #[.slice A115 r39.Shape.length c116, .slice A117 r39.Data.length c118]), (42, .int .i64 (w64 (1 + (Int.tmod (w64 (x0.2.1)) 4)))), (47, .int .i64 (w64 (1 + (Int.tmod (w64 (x0.2.2.1)) 4)))), (48, .slice A1 x1.length c1), (49, .agg #[.slice A126 r40.Shape.length c127, .slice A128 r40.Data.length c129]), (54, .int .i64 (w64 (1 + (Int.tmod (w64 (x0.2.2.1)) 4)))), (59, .int .i64 (w64 (1 + (Int.tmod (w64 (x0.2.2.2)) 4)))), (60, .slice A1 x1.length c1)] ∧ Mem [] M w0 [.bx b502 [.slice none 0 0, .slice none 0 0] 42, .bx b477 [.slice none 0 0, .slice none 0 0] 42, .sl (Kd.int .i64) A126 c127 r40.Shape, .sl Kd.float A128 c129 r40.Data, .sl (Kd.int .i64) A115 c116 r39.Shape, .sl Kd.float A117 c118 r39.Data, .bx b21 [.int .u8 x0.1, .int .u8 x0.2.1, .int .u8 x0.2.2.1, .int .u8 x0.2.2.2] 50, .sl (Kd.int .i8) A1 c1 x1] w) #[true, true, true, true, true, true, true, true, true, true, true, true, true, true, true, true, true, true, true, true, true, true, true, true, true, true, true, true, true, true, true, true, true, true, true, false, false, true, true, false, false, false] 5 ?_ fun L1439 => ?_
      · rintro a1440 w1441 ⟨b477, b502, A115, c116, A117, c118, A126, c127, A128, c129, hf1442, hm1443⟩
        refine all2 35 36 (by kernel_rfl) ?_ ?_
        · refine opOf hf1442 rfl (by kernel_rfl) (aCall (fid := 36) (args := [.int .i64 (w64 (1 + (Int.tmod (w64 (x0.2.2.1)) 4))), .int .i64 (w64 (1 + (Int.tmod (w64 (x0.2.2.2)) 4))), .slice A1 x1.length c1, .int .i64 32]) (d := 61) hf1442 (by kernel_rfl) (by kernel_rfl) callable36 (law5_matrixOf.calls _ _ (w64 (1 + (Int.tmod (w64 (x0.2.2.1)) 4))) (w64 (1 + (Int.tmod (w64 (x0.2.2.2)) 4))) x1 A1 x1.length c1 rfl 32 (hm1443.give [7] [.sl (Kd.int .i8) A1 c1 x1] rfl rfl) r41 hr41) ?_)
          rintro _ w1448 a1449 ⟨A1444, c1445, A1446, c1447, rfl, hk1451⟩ hf1450
          refine ⟨.inr (Gr.still hk1451.cum.none), ?_⟩
          have hm1452 := hm1443.back hk1451
          have hm1453 := hm1452.seal 0 _ rfl rfl
          have hm1454 := hm1453.seal 1 _ rfl rfl
          refine all1 36 (by kernel_rfl) ?_
          refine opOf hf1450 rfl (by kernel_rfl) (aNew (cs := [.slice none 0 0, .slice none 0 0]) (T := 42) (d := 5) hf1450 (by kernel_rfl) (by kernel_rfl) ?_)
          intro b1455 w1456 a1457 hbb1455 hx1459 hg1460 hf1458
          refine ⟨.inr (Gr.still hg1460), ?_⟩
          have hm1461 := hm1454.box hbb1455 hx1459 hg1460
          refine all1 39 (by kernel_rfl) ?_
          refine opOf hf1458 rfl (by kernel_rfl) (aStoreB (b := b1455) (j := 0) (T := 42) (cs := [.slice none 0 0, .slice none 0 0]) (us := [.slice A115 r39.Shape.length c116, .slice A117 r39.Data.length c118]) (cs' := [.slice A115 r39.Shape.length c116, .slice A117 r39.Data.length c118]) hf1458 (by kernel_rfl) (hm1461.bxAt 0 rfl) (by kernel_rfl) (by kernel_rfl) (by kernel_rfl) ?_)
          intro w1462 hx1463 hg1464
          refine ⟨.inl (by decide), ?_⟩
          have hm1465 := hm1461.setBox 0 _ rfl rfl hx1463 hg1464
          refine all1 40 (by kernel_rfl) ?_
          refine opOf hf1458 rfl (by kernel_rfl) (aStoreB (b := b477) (j := 0) (T := 42) (cs := [.slice none 0 0, .slice none 0 0]) (us := [.slice A126 r40.Shape.length c127, .slice A128 r40.Data.length c129]) (cs' := [.slice A126 r40.Shape.length c127, .slice A128 r40.Data.length c129]) hf1458 (by kernel_rfl) (hm1465.bxAt 4 rfl) (by kernel_rfl) (by kernel_rfl) (by kernel_rfl) ?_)
          intro w1466 hx1467 hg1468
          refine ⟨.inl (by decide), ?_⟩
          have hm1469 := hm1465.setBox 4 _ rfl rfl hx1467 hg1468
          refine all1 41 (by kernel_rfl) ?_
          refine opOf hf1458 rfl (by kernel_rfl) (aStoreB (b := b502) (j := 0) (T := 42) (cs := [.slice none 0 0, .slice none 0 0]) (us := [.slice A1444 r41.Shape.length c1445, .slice A1446 r41.Data.length c1447]) (cs' := [.slice A1444 r41.Shape.length c1445, .slice A1446 r41.Data.length c1447]) hf1458 (by kernel_rfl) (hm1469.bxAt 3 rfl) (by kernel_rfl) (by kernel_rfl) (by kernel_rfl) ?_)
          intro w1470 hx1471 hg1472
          refine ⟨.inl (by decide), ?_⟩
          have hm1473 := hm1469.setBox 3 _ rfl rfl hx1471 hg1472
          refine allDone (by kernel_rfl) ⟨rfl, b1455, b477, b502, A1444, c1445, A1446, c1447, A126, c127, A128, c129, A115, c116, A117, c118, hf1458.sel (l := [1, 5, 6, 7]) (by kernel_rfl), hm1473.sel [3, 4, 0, 1, 2, 5, 6, 7, 8, 10] _ rfl (by kernel_rfl)⟩
        · refine opOf hf1442 rfl (by kernel_rfl) (aNew (cs := [.slice none 0 0, .slice none 0 0]) (T := 42) (d := 5) hf1442 (by kernel_rfl) (by kernel_rfl) ?_)
          intro b1474 w1475 a1476 hbb1474 hx1478 hg1479 hf1477
          refine ⟨.inr (Gr.still hg1479), ?_⟩
          have hm1480 := hm1443.box hbb1474 hx1478 hg1479
          refine all1 35 (by kernel_rfl) ?_
          refine opOf hf1477 rfl (by kernel_rfl) (aCall (fid := 36) (args := [.int .i64 (w64 (1 + (Int.tmod (w64 (x0.2.2.1)) 4))), .int .i64 (w64 (1 + (Int.tmod (w64 (x0.2.2.2)) 4))), .slice A1 x1.length c1, .int .i64 32]) (d := 61) hf1477 (by kernel_rfl) (by kernel_rfl) callable36 (law5_matrixOf.calls _ _ (w64 (1 + (Int.tmod (w64 (x0.2.2.1)) 4))) (w64 (1 + (Int.tmod (w64 (x0.2.2.2)) 4))) x1 A1 x1.length c1 rfl 32 (hm1480.give [8] [.sl (Kd.int .i8) A1 c1 x1] rfl rfl) r41 hr41) ?_)
          rintro _ w1485 a1486 ⟨A1481, c1482, A1483, c1484, rfl, hk1488⟩ hf1487
          refine ⟨.inr (Gr.still hk1488.cum.none), ?_⟩
          have hm1489 := hm1480.back hk1488
          have hm1490 := hm1489.seal 0 _ rfl rfl
          have hm1491 := hm1490.seal 1 _ rfl rfl
          refine all1 39 (by kernel_rfl) ?_
          refine opOf hf1487 rfl (by kernel_rfl) (aStoreB (b := b1474) (j := 0) (T := 42) (cs := [.slice none 0 0, .slice none 0 0]) (us := [.slice A115 r39.Shape.length c116, .slice A117 r39.Data.length c118]) (cs' := [.slice A115 r39.Shape.length c116, .slice A117 r39.Data.length c118]) hf1487 (by kernel_rfl) (hm1491.bxAt 2 rfl) (by kernel_rfl) (by kernel_rfl) (by kernel_rfl) ?_)
          intro w1492 hx1493 hg1494
          refine ⟨.inl (by decide), ?_⟩
          have hm1495 := hm1491.setBox 2 _ rfl rfl hx1493 hg1494
          refine all1 40 (by kernel_rfl) ?_
          refine opOf hf1487 rfl (by kernel_rfl) (aStoreB (b := b477) (j := 0) (T := 42) (cs := [.slice none 0 0, .slice none 0 0]) (us := [.slice A126 r40.Shape.length c127, .slice A128 r40.Data.length c129]) (cs' := [.slice A126 r40.Shape.length c127, .slice A128 r40.Data.length c129]) hf1487 (by kernel_rfl) (hm1495.bxAt 4 rfl) (by kernel_rfl) (by kernel_rfl) (by kernel_rfl) ?_)
          intro w1496 hx1497 hg1498
          refine ⟨.inl (by decide), ?_⟩
          have hm1499 := hm1495.setBox 4 _ rfl rfl hx1497 hg1498
          refine all1 41 (by kernel_rfl) ?_
          refine opOf hf1487 rfl (by kernel_rfl) (aStoreB (b := b502) (j := 0) (T := 42) (cs := [.slice none 0 0, .slice none 0 0]) (us := [.slice A1481 r41.Shape.length c1482, .slice A1483 r41.Data.length c1484]) (cs' := [.slice A1481 r41.Shape.length c1482, .slice A1483 r41.Data.length c1484]) hf1487 (by kernel_rfl) (hm1499.bxAt 3 rfl) (by kernel_rfl) (by kernel_rfl) (by kernel_rfl) ?_)
          intro w1500 hx1501 hg1502
          refine ⟨.inl (by decide), ?_⟩
          have hm1503 := hm1499.setBox 3 _ rfl rfl hx1501 hg1502
          refine allDone (by kernel_rfl) ⟨rfl, b1474, b477, b502, A1481, c1482, A1483, c1484, A126, c127, A128, c129, A115, c116, A117, c118, hf1487.sel (l := [1, 5, 6, 7]) (by kernel_rfl), hm1503.sel [3, 4, 2, 0, 1, 5, 6, 7, 8, 10] _ rfl (by kernel_rfl)⟩
      refine memoStep (R := fun (a : Act) (w : World) => ∃ (A115 : Option Addr) (c116 : Nat) (A117 : Option Addr) (c118 : Nat) (A126 : Option Addr) (c127 : Nat) (A128 : Option Addr) (c129 : Nat) (A137 : Option Addr) (c138 : Nat) (A139 : Option Addr) (c140 : Nat), Fr 138 a [(1, .slice A1 x1.length c1), (30, .int .i64 (w64 (1 + (Int.tmod (w64 (x0.1)) 4)))), (35, .int .i64 (w64 (1 + (Int.tmod (w64 (x0.2.1)) 4)))), (36, .slice A1 x1.length c1), (37, .agg #[.slice A115 r39.Shape.length c116, .slice A117 r39.Data.length c118]), (42, .int .i64 (w64 (1 + (Int.tmod (w64 (x0.2.1)) 4)))), (47, .int .i64 (w64 (1 + (Int.tmod (w64 (x0.2.2.1)) 4)))), (48, .slice A1 x1.length c1), (49, .agg #[.slice A126 r40.Shape.length c127, .slice A128 r40.Data.length c129]), (54, .int .i64 (w64 (1 + (Int.tmod (w64 (x0.2.2.1)) 4)))), (59, .int .i64 (w64 (1 + (Int.tmod (w64 (x0.2.2.2)) 4)))), (60, .slice A1 x1.length c1), (61, .agg #[.slice A137 r41.Shape.length c138, .slice A139 r41.Data.length c140])] ∧ Mem [] M w0 [.sl (Kd.int .i64) A137 c138 r41.Shape, .sl Kd.float A139 c140 r41.Data, .sl (Kd.int .i64) A126 c127 r40.Shape, .sl Kd.float A128 c129 r40.Data, .sl (Kd.int .i64) A115 c116 r39.Shape, .sl Kd.float A117 c118 r39.Data, .bx b21 [.int .u8 x0.1, .int .u8 x0.2.1, .int .u8 x0.2.2.1, .int .u8 x0.2.2.2] 50, .sl (Kd.int .i8) A1 c1 x1] w) #[true, true, true, true, true, true, true, true, true, true, true, true, true, true, true, true, true, true, true, true, true, true, true, true, true, true, true, true, true, true, true, true, true, true, true, true, false, false, false, false, false, false] 6 ?_ fun L1504 => ?_
      · rintro a1505 w1506 ⟨A115, c116, A117, c118, A126, c127, A128, c129, A137, c138, A139, c140, hf1507, hm1508⟩
        refine all3 36 37 38 (by kernel_rfl) ?_ ?_ ?_
        · refine opOf hf1507 rfl (by kernel_rfl) (aNew (cs := [.slice none 0 0, .slice none 0 0]) (T := 42) (d := 5) hf1507 (by kernel_rfl) (by kernel_rfl) ?_)
          intro b1509 w1510 a1511 hbb1509 hx1513 hg1514 hf1512
          refine ⟨.inr (Gr.still hg1514), ?_⟩
          have hm1515 := hm1508.box hbb1509 hx1513 hg1514
          exact L1138 _ _ ⟨b1509, A115, c116, A117, c118, A126, c127, A128, c129, A137, c138, A139, c140, hf1512.sel (l := [1, 5, 30, 35, 36, 37, 42, 47, 48, 49, 54, 59, 60, 61]) (by kernel_rfl), hm1515.sel [0, 1, 2, 3, 4, 5, 6, 7, 8] _ rfl (by kernel_rfl)⟩
        · refine opOf hf1507 rfl (by kernel_rfl) (aNew (cs := [.slice none 0 0, .slice none 0 0]) (T := 42) (d := 6) hf1507 (by kernel_rfl) (by kernel_rfl) ?_)
          intro b1516 w1517 a1518 hbb1516 hx1520 hg1521 hf1519
          refine ⟨.inr (Gr.still hg1521), ?_⟩
          have hm1522 := hm1508.box hbb1516 hx1520 hg1521
          exact L1195 _ _ ⟨b1516, A115, c116, A117, c118, A126, c127, A128, c129, A137, c138, A139, c140, hf1519.sel (l := [1, 6, 30, 35, 36, 37, 42, 47, 48, 49, 54, 59, 60, 61]) (by kernel_rfl), hm1522.sel [0, 1, 2, 3, 4, 5, 6, 7, 8] _ rfl (by kernel_rfl)⟩
        · refine opOf hf1507 rfl (by kernel_rfl) (aNew (cs := [.slice none 0 0, .slice none 0 0]) (T := 42) (d := 7) hf1507 (by kernel_rfl) (by kernel_rfl) ?_)
          intro b1523 w1524 a1525 hbb1523 hx1527 hg1528 hf1526
          refine ⟨.inr (Gr.still hg1528), ?_⟩
          have hm1529 := hm1508.box hbb1523 hx1527 hg1528
          exact L1252 _ _ ⟨b1523, A115, c116, A117, c118, A126, c127, A128, c129, A137, c138, A139, c140, hf1526.sel (l := [1, 7, 30, 35, 36, 37, 42, 47, 48, 49, 54, 59, 60, 61]) (by kernel_rfl), hm1529.sel [0, 1, 2, 3, 4, 5, 6, 7, 8] _ rfl (by kernel_rfl)⟩
      refine memoStep (R := fun (a : Act) (w : World) => ∃ (b325 : Nat) (A115 : Option Addr) (c116 : Nat) (A117 : Option Addr) (c118 : Nat) (A126 : Option Addr) (c127 : Nat) (A128 : Option Addr) (c129 : Nat), Fr 138 a [(1, .slice A1 x1.length c1), (5, .pointer (some ⟨b325, 0, none⟩)), (30, .int .i64 (w64 (1 + (Int.tmod (w64 (x0.1)) 4)))), (35, .int .i64 (w64 (1 + (Int.tmod (w64 (x0.2.1)) 4)))), (36, .slice A1 x1.length c1), (37, .agg #[.slice A115 r39.Shape.length c116, .slice A117 r39.Data.length c118]), (42, .int .i64 (w64 (1 + (Int.tmod (w64 (x0.2.1)) 4)))), (47, .int .i64 (w64 (1 + (Int.tmod (w64 (x0.2.2.1)) 4)))), (48, .slice A1 x1.length c1), (49, .agg #[.slice A126 r40.Shape.length c127, .slice A128 r40.Data.length c129]), (54, .int .i64 (w64 (1 + (Int.tmod (w64 (x0.2.2.1)) 4)))), (59, .int .i64 (w64 (1 + (Int.tmod (w64 (x0.2.2.2)) 4)))), (60, .slice A1 x1.length c1)] ∧ Mem [] M w0 [.bx b325 [.slice none 0 0, .slice none 0 0] 42, .sl (Kd.int .i64) A126 c127 r40.Shape, .sl Kd.float A128 c129 r40.Data, .sl (Kd.int .i64) A115 c116 r39.Shape, .sl Kd.float A117 c118 r39.Data, .bx b21 [.int .u8 x0.1, .int .u8 x0.2.1, .int .u8 x0.2.2.1, .int .u8 x0.2.2.2] 50, .sl (Kd.int .i8) A1 c1 x1] w) #[true, true, true, true, true, true, true, true, true, true, true, true, true, true, true, true, true, true, true, true, true, true, true, true, true, true, true, true, true, true, true, true, true, true, true, false, true, false, false, false, false, false] 6 ?_ fun L1530 => ?_
      · rintro a1531 w1532 ⟨b325, A115, c116, A117, c118, A126, c127, A128, c129, hf1533, hm1534⟩
        refine all3 35 37 38 (by kernel_rfl) ?_ ?_ ?_
        · refine opOf hf1533 rfl (by kernel_rfl) (aCall (fid := 36) (args := [.int .i64 (w64 (1 + (Int.tmod (w64 (x0.2.2.1)) 4))), .int .i64 (w64 (1 + (Int.tmod (w64 (x0.2.2.2)) 4))), .slice A1 x1.length c1, .int .i64 32]) (d := 61) hf1533 (by kernel_rfl) (by kernel_rfl) callable36 (law5_matrixOf.calls _ _ (w64 (1 + (Int.tmod (w64 (x0.2.2.1)) 4))) (w64 (1 + (Int.tmod (w64 (x0.2.2.2)) 4))) x1 A1 x1.length c1 rfl 32 (hm1534.give [6] [.sl (Kd.int .i8) A1 c1 x1] rfl rfl) r41 hr41) ?_)
          rintro _ w1539 a1540 ⟨A1535, c1536, A1537, c1538, rfl, hk1542⟩ hf1541
          refine ⟨.inr (Gr.still hk1542.cum.none), ?_⟩
          have hm1543 := hm1534.back hk1542
          have hm1544 := hm1543.seal 0 _ rfl rfl
          have hm1545 := hm1544.seal 1 _ rfl rfl
          exact L1138 _ _ ⟨b325, A115, c116, A117, c118, A126, c127, A128, c129, A1535, c1536, A1537, c1538, hf1541.sel (l := [1, 5, 30, 35, 36, 37, 42, 47, 48, 49, 54, 59, 60, 61]) (by kernel_rfl), hm1545.sel [2, 0, 1, 3, 4, 5, 6, 7, 8] _ rfl (by kernel_rfl)⟩
        · refine opOf hf1533 rfl (by kernel_rfl) (aNew (cs := [.slice none 0 0, .slice none 0 0]) (T := 42) (d := 6) hf1533 (by kernel_rfl) (by kernel_rfl) ?_)
          intro b1546 w1547 a1548 hbb1546 hx1550 hg1551 hf1549
          refine ⟨.inr (Gr.still hg1551), ?_⟩
          have hm1552 := hm1534.box hbb1546 hx1550 hg1551
          exact L1309 _ _ ⟨b325, b1546, A115, c116, A117, c118, A126, c127, A128, c129, hf1549.sel (l := [1, 5, 6, 30, 35, 36, 37, 42, 47, 48, 49, 54, 59, 60]) (by kernel_rfl), hm1552.sel [0, 1, 2, 3, 4, 5, 6, 7] _ rfl (by kernel_rfl)⟩
        · refine opOf hf1533 rfl (by kernel_rfl) (aNew (cs := [.slice none 0 0, .slice none 0 0]) (T := 42) (d := 7) hf1533 (by kernel_rfl) (by kernel_rfl) ?_)
          intro b1553 w1554 a1555 hbb1553 hx1557 hg1558 hf1556
          refine ⟨.inr (Gr.still hg1558), ?_⟩
          have hm1559 := hm1534.box hbb1553 hx1557 hg1558
          exact L1374 _ _ ⟨b325, b1553, A115, c116, A117, c118, A126, c127, A128, c129, hf1556.sel (l := [1, 5, 7, 30, 35, 36, 37, 42, 47, 48, 49, 54, 59, 60]) (by kernel_rfl), hm1559.sel [0, 1, 2, 3, 4, 5, 6, 7] _ rfl (by kernel_rfl)⟩
      refine memoStep (R := fun (a : Act) (w : World) => ∃ (b477 : Nat) (A115 : Option Addr) (c116 : Nat) (A117 : Option Addr) (c118 : Nat) (A126 : Option Addr) (c127 : Nat) (A128 : Option Addr) (c129 : Nat), Fr 138 a [(1, .slice A1 x1.length c1), (6, .pointer (some ⟨b477, 0, none⟩)), (30, .int .i64 (w64 (1 + (Int.tmod (w64 (x0.1)) 4)))), (35, .int .i64 (w64 (1 + (Int.tmod (w64 (x0.2.1)) 4)))), (36, .slice A1 x1.length c1), (37, .agg #[.slice A115 r39.Shape.length c116, .slice A117 r39.Data.length c118]), (42, .int .i64 (w64 (1 + (Int.tmod (w64 (x0.2.1)) 4)))), (47, .int .i64 (w64 (1 + (Int.tmod (w64 (x0.2.2.1)) 4)))), (48, .slice A1 x1.length c1), (49, .agg #[.slice A126 r40.Shape.length c127, .slice A128 r40.Data.length c129]), (54, .int .i64 (w64 (1 + (Int.tmod (w64 (x0.2.2.1)) 4)))), (59, .int .i64 (w64 (1 + (Int.tmod (w64 (x0.2.2.2)) 4)))), (60, .slice A1 x1.length c1)] ∧ Mem [] M w0 [.bx b477 [.slice none 0 0, .slice none 0 0] 42, .sl (Kd.int .i64) A126 c127 r40.Shape, .sl Kd.float A128 c129 r40.Data, .sl (Kd.int .i64) A115 c116 r39.Shape, .sl Kd.float A117 c118 r39.Data, .bx b21 [.int .u8 x0.1, .int .u8 x0.2.1, .int .u8 x0.2.2.1, .int .u8 x0.2.2.2] 50, .sl (Kd.int .i8) A1 c1 x1] w) #[true, true, true, true, true, true, true, true, true, true, true, true, true, true, true, true, true, true, true, true, true, true, true, true, true, true, true, true, true, true, true, true, true, true, true, false, false, true, false, false, false, false] 6 ?_ fun L1560 => ?_
      · rintro a1561 w1562 ⟨b477, A115, c116, A117, c118, A126, c127, A128, c129, hf1563, hm1564⟩
        refine all3 35 36 38 (by kernel_rfl) ?_ ?_ ?_
        · refine opOf hf1563 rfl (by kernel_rfl) (aCall (fid := 36) (args := [.int .i64 (w64 (1 + (Int.tmod (w64 (x0.2.2.1)) 4))), .int .i64 (w64 (1 + (Int.tmod (w64 (x0.2.2.2)) 4))), .slice A1 x1.length c1, .int .i64 32]) (d := 61) hf1563 (by kernel_rfl) (by kernel_rfl) callable36 (law5_matrixOf.calls _ _ (w64 (1 + (Int.tmod (w64 (x0.2.2.1)) 4))) (w64 (1 + (Int.tmod (w64 (x0.2.2.2)) 4))) x1 A1 x1.length c1 rfl 32 (hm1564.give [6] [.sl (Kd.int .i8) A1 c1 x1] rfl rfl) r41 hr41) ?_)
          rintro _ w1569 a1570 ⟨A1565, c1566, A1567, c1568, rfl, hk1572⟩ hf1571
          refine ⟨.inr (Gr.still hk1572.cum.none), ?_⟩
          have hm1573 := hm1564.back hk1572
          have hm1574 := hm1573.seal 0 _ rfl rfl
          have hm1575 := hm1574.seal 1 _ rfl rfl
          exact L1195 _ _ ⟨b477, A115, c116, A117, c118, A126, c127, A128, c129, A1565, c1566, A1567, c1568, hf1571.sel (l := [1, 6, 30, 35, 36, 37, 42, 47, 48, 49, 54, 59, 60, 61]) (by kernel_rfl), hm1575.sel [2, 0, 1, 3, 4, 5, 6, 7, 8] _ rfl (by kernel_rfl)⟩
        · refine opOf hf1563 rfl (by kernel_rfl) (aNew (cs := [.slice none 0 0, .slice none 0 0]) (T := 42) (d := 5) hf1563 (by kernel_rfl) (by kernel_rfl) ?_)
          intro b1576 w1577 a1578 hbb1576 hx1580 hg1581 hf1579
          refine ⟨.inr (Gr.still hg1581), ?_⟩
          have hm1582 := hm1564.box hbb1576 hx1580 hg1581
          exact L1309 _ _ ⟨b1576, b477, A115, c116, A117, c118, A126, c127, A128, c129, hf1579.sel (l := [1, 5, 6, 30, 35, 36, 37, 42, 47, 48, 49, 54, 59, 60]) (by kernel_rfl), hm1582.sel [1, 0, 2, 3, 4, 5, 6, 7] _ rfl (by kernel_rfl)⟩
        · refine opOf hf1563 rfl (by kernel_rfl) (aNew (cs := [.slice none 0 0, .slice none 0 0]) (T := 42) (d := 7) hf1563 (by kernel_rfl) (by kernel_rfl) ?_)
          intro b1583 w1584 a1585 hbb1583 hx1587 hg1588 hf1586
          refine ⟨.inr (Gr.still hg1588), ?_⟩
          have hm1589 := hm1564.box hbb1583 hx1587 hg1588
          exact L1439 _ _ ⟨b477, b1583, A115, c116, A117, c118, A126, c127, A128, c129, hf1586.sel (l := [1, 6, 7, 30, 35, 36, 37, 42, 47, 48, 49, 54, 59, 60]) (by kernel_rfl), hm1589.sel [0, 1, 2, 3, 4, 5, 6, 7] _ rfl (by kernel_rfl)⟩
      refine memoStep (R := fun (a : Act) (w : World) => ∃ (b569 : Nat) (A115 : Option Addr) (c116 : Nat) (A117 : Option Addr) (c118 : Nat) (A126 : Option Addr) (c127 : Nat) (A128 : Option Addr) (c129 : Nat), Fr 138 a [(1, .slice A1 x1.length c1), (7, .pointer (some ⟨b569, 0, none⟩)), (30, .int .i64 (w64 (1 + (Int.tmod (w64 (x0.1)) 4)))), (35, .int .i64 (w64 (1 + (Int.tmod (w64 (x0.2.1)) 4)))), (36, .slice A1 x1.length c1), (37, .agg #[.slice A115 r39.Shape.length c116, .slice A117 r39.Data.length c118]), (42, .int .i64 (w64 (1 + (Int.tmod (w64 (x0.2.1)) 4)))), (47, .int .i64 (w64 (1 + (Int.tmod (w64 (x0.2.2.1)) 4)))), (48, .slice A1 x1.length c1), (49, .agg #[.slice A126 r40.Shape.length c127, .slice A128 r40.Data.length c129]), (54, .int .i64 (w64 (1 + (Int.tmod (w64 (x0.2.2.1)) 4)))), (59, .int .i64 (w64 (1 + (Int.tmod (w64 (x0.2.2.2)) 4)))), (60, .slice A1 x1.length c1)] ∧ Mem [] M w0 [.bx b569 [.slice none 0 0, .slice none 0 0] 42, .sl (Kd.int .i64) A126 c127 r40.Shape, .sl Kd.float A128 c129 r40.Data, .sl (Kd.int .i64) A115 c116 r39.Shape, .sl Kd.float A117 c118 r39.Data, .bx b21 [.int .u8 x0.1, .int .u8 x0.2.1, .int .u8 x0.2.2.1, .int .u8 x0.2.2.2] 50, .sl (Kd.int .i8) A1 c1 x1] w) #[true, true, true, true, true, true, true, true, true, true, true, true, true, true, true, true, true, true, true, true, true, true, true, true, true, true, true, true, true, true, true, true, true, true, true, false, false, false, true, false, false, false] 6 ?_ fun L1590 => ?_
      · rintro a1591 w1592 ⟨b569, A115, c116, A117, c118, A126, c127, A128, c129, hf1593, hm1594⟩
        refine all3 35 36 37 (by kernel_rfl) ?_ ?_ ?_
        · refine opOf hf1593 rfl (by kernel_rfl) (aCall (fid := 36) (args := [.int .i64 (w64 (1 + (Int.tmod (w64 (x0.2.2.1)) 4))), .int .i64 (w64 (1 + (Int.tmod (w64 (x0.2.2.2)) 4))), .slice A1 x1.length c1, .int .i64 32]) (d := 61) hf1593 (by kernel_rfl) (by kernel_rfl) callable36 (law5_matrixOf.calls _ _ (w64 (1 + (Int.tmod (w64 (x0.2.2.1)) 4))) (w64 (1 + (Int.tmod (w64 (x0.2.2.2)) 4))) x1 A1 x1.length c1 rfl 32 (hm1594.give [6] [.sl (Kd.int .i8) A1 c1 x1] rfl rfl) r41 hr41) ?_)
          rintro _ w1599 a1600 ⟨A1595, c1596, A1597, c1598, rfl, hk1602⟩ hf1601
          refine ⟨.inr (Gr.still hk1602.cum.none), ?_⟩
          have hm1603 := hm1594.back hk1602
          have hm1604 := hm1603.seal 0 _ rfl rfl
          have hm1605 := hm1604.seal 1 _ rfl rfl
          exact L1252 _ _ ⟨b569, A115, c116, A117, c118, A126, c127, A128, c129, A1595, c1596, A1597, c1598, hf1601.sel (l := [1, 7, 30, 35, 36, 37, 42, 47, 48, 49, 54, 59, 60, 61]) (by kernel_rfl), hm1605.sel [2, 0, 1, 3, 4, 5, 6, 7, 8] _ rfl (by kernel_rfl)⟩
        · refine opOf hf1593 rfl (by kernel_rfl) (aNew (cs := [.slice none 0 0, .slice none 0 0]) (T := 42) (d := 5) hf1593 (by kernel_rfl) (by kernel_rfl) ?_)
          intro b1606 w1607 a1608 hbb1606 hx1610 hg1611 hf1609
          refine ⟨.inr (Gr.still hg1611), ?_⟩
          have hm1612 := hm1594.box hbb1606 hx1610 hg1611
          exact L1374 _ _ ⟨b1606, b569, A115, c116, A117, c118, A126, c127, A128, c129, hf1609.sel (l := [1, 5, 7, 30, 35, 36, 37, 42, 47, 48, 49, 54, 59, 60]) (by kernel_rfl), hm1612.sel [1, 0, 2, 3, 4, 5, 6, 7] _ rfl (by kernel_rfl)⟩
        · refine opOf hf1593 rfl (by kernel_rfl) (aNew (cs := [.slice none 0 0, .slice none 0 0]) (T := 42) (d := 6) hf1593 (by kernel_rfl) (by kernel_rfl) ?_)
          intro b1613 w1614 a1615 hbb1613 hx1617 hg1618 hf1616
          refine ⟨.inr (Gr.still hg1618), ?_⟩
          have hm1619 := hm1594.box hbb1613 hx1617 hg1618
          exact L1439 _ _ ⟨b1613, b569, A115, c116, A117, c118, A126, c127, A128, c129, hf1616.sel (l := [1, 6, 7, 30, 35, 36, 37, 42, 47, 48, 49, 54, 59, 60]) (by kernel_rfl), hm1619.sel [1, 0, 2, 3, 4, 5, 6, 7] _ rfl (by kernel_rfl)⟩
      refine memoStep (R := fun (a : Act) (w : World) => ∃ (b601 : Nat) (b619 : Nat) (A115 : Option Addr) (c116 : Nat) (A117 : Option Addr) (c118 : Nat), Fr 138 a [(1, .slice A1 x1.length c1), (5, .pointer (some ⟨b601, 0, none⟩)), (6, .pointer (some ⟨b619, 0, none⟩)), (30, .int .i64 (w64 (1 + (Int.tmod (w64 (x0.1)) 4)))), (35, .int .i64 (w64 (1 + (Int.tmod (w64 (x0.2.1)) 4)))), (36, .slice A1 x1.length c1), (37, .agg #[.slice A115 r39.Shape.length c116, .slice A117 r39.Data.length c118]), (42, .int .i64 (w64 (1 + (Int.tmod (w64 (x0.2.1)) 4)))), (47, .int .i64 (w64 (1 + (Int.tmod (w64 (x0.2.2.1)) 4)))), (48, .slice A1 x1.length c1), (54, .int .i64 (w64 (1 + (Int.tmod (w64 (x0.2.2.1)) 4)))), (59, .int .i64 (w64 (1 + (Int.tmod (w64 (x0.2.2.2)) 4)))), (60, .slice A1 x1.length c1)] ∧ Mem [] M w0 [.bx b619 [.slice none 0 0, .slice none 0 0] 42, .bx b601 [.slice none 0 0, .slice none 0 0] 42, .sl (Kd.int .i64) A115 c116 r39.Shape, .sl Kd.float A117 c118 r39.Data, .bx b21 [.int .u8 x0.1, .int .u8 x0.2.1, .int .u8 x0.2.2.1, .int .u8 x0.2.2.2] 50, .sl (Kd.int .i8) A1 c1 x1] w) #[true, true, true, true, true, true, true, true, true, true, true, true, true, true, true, true, true, true, true, true, true, true, true, false, true, true, true, true, true, true, true, true, true, true, true, false, true, true, false, false, false, false] 6 ?_ fun L1620 => ?_
      · rintro a1621 w1622 ⟨b601, b619, A115, c116, A117, c118, hf1623, hm1624⟩
        refine all2 23 38 (by kernel_rfl) ?_ ?_
        · refine opOf hf1623 rfl (by kernel_rfl) (aCall (fid := 36) (args := [.int .i64 (w64 (1 + (Int.tmod (w64 (x0.2.1)) 4))), .int .i64 (w64 (1 + (Int.tmod (w64 (x0.2.2.1)) 4))), .slice A1 x1.length c1, .int .i64 16]) (d := 49) hf1623 (by kernel_rfl) (by kernel_rfl) callable36 (law5_matrixOf.calls _ _ (w64 (1 + (Int.tmod (w64 (x0.2.1)) 4))) (w64 (1 + (Int.tmod (w64 (x0.2.2.1)) 4))) x1 A1 x1.length c1 rfl 16 (hm1624.give [5] [.sl (Kd.int .i8) A1 c1 x1] rfl rfl) r40 hr40) ?_)
          rintro _ w1629 a1630 ⟨A1625, c1626, A1627, c1628, rfl, hk1632⟩ hf1631
          refine ⟨.inr (Gr.still hk1632.cum.none), ?_⟩
          have hm1633 := hm1624.back hk1632
          have hm1634 := hm1633.seal 0 _ rfl rfl
          have hm1635 := hm1634.seal 1 _ rfl rfl
          exact L1309 _ _ ⟨b601, b619, A115, c116, A117, c118, A1625, c1626, A1627, c1628, hf1631.sel (l := [1, 5, 6, 30, 35, 36, 37, 42, 47, 48, 49, 54, 59, 60]) (by kernel_rfl), hm1635.sel [2, 3, 0, 1, 4, 5, 6, 7] _ rfl (by kernel_rfl)⟩
        · refine opOf hf1623 rfl (by kernel_rfl) (aNew (cs := [.slice none 0 0, .slice none 0 0]) (T := 42) (d := 7) hf1623 (by kernel_rfl) (by kernel_rfl) ?_)
          intro b1636 w1637 a1638 hbb1636 hx1640 hg1641 hf1639
          refine ⟨.inr (Gr.still hg1641), ?_⟩
          have hm1642 := hm1624.box hbb1636 hx1640 hg1641
          refine all1 23 (by kernel_rfl) ?_
          refine opOf hf1639 rfl (by kernel_rfl) (aCall (fid := 36) (args := [.int .i64 (w64 (1 + (Int.tmod (w64 (x0.2.1)) 4))), .int .i64 (w64 (1 + (Int.tmod (w64 (x0.2.2.1)) 4))), .slice A1 x1.length c1, .int .i64 16]) (d := 49) hf1639 (by kernel_rfl) (by kernel_rfl) callable36 (law5_matrixOf.calls _ _ (w64 (1 + (Int.tmod (w64 (x0.2.1)) 4))) (w64 (1 + (Int.tmod (w64 (x0.2.2.1)) 4))) x1 A1 x1.length c1 rfl 16 (hm1642.give [6] [.sl (Kd.int .i8) A1 c1 x1] rfl rfl) r40 hr40) ?_)
          rintro _ w1647 a1648 ⟨A1643, c1644, A1645, c1646, rfl, hk1650⟩ hf1649
          refine ⟨.inr (Gr.still hk1650.cum.none), ?_⟩
          have hm1651 := hm1642.back hk1650
          have hm1652 := hm1651.seal 0 _ rfl rfl
          have hm1653 := hm1652.seal 1 _ rfl rfl
          refine all1 35 (by kernel_rfl) ?_
          refine opOf hf1649 rfl (by kernel_rfl) (aCall (fid := 36) (args := [.int .i64 (w64 (1 + (Int.tmod (w64 (x0.2.2.1)) 4))), .int .i64 (w64 (1 + (Int.tmod (w64 (x0.2.2.2)) 4))), .slice A1 x1.length c1, .int .i64 32]) (d := 61) hf1649 (by kernel_rfl) (by kernel_rfl) callable36 (law5_matrixOf.calls _ _ (w64 (1 + (Int.tmod (w64 (x0.2.2.1)) 4))) (w64 (1 + (Int.tmod (w64 (x0.2.2.2)) 4))) x1 A1 x1.length c1 rfl 32 (hm1653.give [8] [.sl (Kd.int .i8) A1 c1 x1] rfl rfl) r41 hr41) ?_)
          rintro _ w1658 a1659 ⟨A1654, c1655, A1656, c1657, rfl, hk1661⟩ hf1660
          refine ⟨.inr (Gr.still hk1661.cum.none), ?_⟩
          have hm1662 := hm1653.back hk1661
          have hm1663 := hm1662.seal 0 _ rfl rfl
          have hm1664 := hm1663.seal 1 _ rfl rfl
          refine all1 39 (by kernel_rfl) ?_
          refine opOf hf1660 rfl (by kernel_rfl) (aStoreB (b := b601) (j := 0) (T := 42) (cs := [.slice none 0 0, .slice none 0 0]) (us := [.slice A115 r39.Shape.length c116, .slice A117 r39.Data.length c118]) (cs' := [.slice A115 r39.Shape.length c116, .slice A117 r39.Data.length c118]) hf1660 (by kernel_rfl) (hm1664.bxAt 6 rfl) (by kernel_rfl) (by kernel_rfl) (by kernel_rfl) ?_)
          intro w1665 hx1666 hg1667
          refine ⟨.inl (by decide), ?_⟩
          have hm1668 := hm1664.setBox 6 _ rfl rfl hx1666 hg1667
          refine all1 40 (by kernel_rfl) ?_
          refine opOf hf1660 rfl (by kernel_rfl) (aStoreB (b := b619) (j := 0) (T := 42) (cs := [.slice none 0 0, .slice none 0 0]) (us := [.slice A1643 r40.Shape.length c1644, .slice A1645 r40.Data.length c1646]) (cs' := [.slice A1643 r40.Shape.length c1644, .slice A1645 r40.Data.length c1646]) hf1660 (by kernel_rfl) (hm1668.bxAt 5 rfl) (by kernel_rfl) (by kernel_rfl) (by kernel_rfl) ?_)
          intro w1669 hx1670 hg1671
          refine ⟨.inl (by decide), ?_⟩
          have hm1672 := hm1668.setBox 5 _ rfl rfl hx1670 hg1671
          refine all1 41 (by kernel_rfl) ?_
          refine opOf hf1660 rfl (by kernel_rfl) (aStoreB (b := b1636) (j := 0) (T := 42) (cs := [.slice none 0 0, .slice none 0 0]) (us := [.slice A1654 r41.Shape.length c1655, .slice A1656 r41.Data.length c1657]) (cs' := [.slice A1654 r41.Shape.length c1655, .slice A1656 r41.Data.length c1657]) hf1660 (by kernel_rfl) (hm1672.bxAt 4 rfl) (by kernel_rfl) (by kernel_rfl) (by kernel_rfl) ?_)
          intro w1673 hx1674 hg1675
          refine ⟨.inl (by decide), ?_⟩
          have hm1676 := hm1672.setBox 4 _ rfl rfl hx1674 hg1675
          refine allDone (by kernel_rfl) ⟨rfl, b601, b619, b1636, A1654, c1655, A1656, c1657, A1643, c1644, A1645, c1646, A115, c116, A117, c118, hf1660.sel (l := [1, 5, 6, 7]) (by kernel_rfl), hm1676.sel [4, 5, 6, 0, 1, 2, 3, 7, 8, 10] _ rfl (by kernel_rfl)⟩
      refine memoStep (R := fun (a : Act) (w : World) => ∃ (b601 : Nat) (b678 : Nat) (A115 : Option Addr) (c116 : Nat) (A117 : Option Addr) (c118 : Nat), Fr 138 a [(1, .slice A1 x1.length c1), (5, .pointer (some ⟨b601, 0, none⟩)), (7, .pointer (some ⟨b678, 0, none⟩)), (30, .int .i64 (w64 (1 + (Int.tmod (w64 (x0.1)) 4)))), (35, .int .i64 (w64 (1 + (Int.tmod (w64 (x0.2.1)) 4)))), (36, .slice A1 x1.length c1), (37, .agg #[.slice A115 r39.Shape.length c116, .slice A117 r39.Data.length c118]), (42, .int .i64 (w64 (1 + (Int.tmod (w64 (x0.2.1)) 4)))), (47, .int .i64 (w64 (1 + (Int.tmod (w64 (x0.2.2.1)) 4)))), (48, .slice A1 x1.length c1), (54, .int .i64 (w64 (1 + (Int.tmod (w64 (x0.2.2.1)) 4)))), (59, .int .i64 (w64 (1 + (Int.tmod (w64 (x0.2.2.2)) 4)))), (60, .slice A1 x1.length c1)] ∧ Mem [] M w0 [.bx b678 [.slice none 0 0, .slice none 0 0] 42, .bx b601 [.slice none 0 0, .slice none 0 0] 42, .sl (Kd.int .i64) A115 c116 r39.Shape, .sl Kd.float A117 c118 r39.Data, .bx b21 [.int .u8 x0.1, .int .u8 x0.2.1, .int .u8 x0.2.2.1, .int .u8 x0.2.2.2] 50, .sl (Kd.int .i8) A1 c1 x1] w) #[true, true, true, true, true, true, true, true, true, true, true, true, true, true, true, true, true, true, true, true, true, true, true, false, true, true, true, true, true, true, true, true, true, true, true, false, true, false, true, false, false, false] 6 ?_ fun L1677 => ?_
      · rintro a1678 w1679 ⟨b601, b678, A115, c116, A117, c118, hf1680, hm1681⟩
        refine all2 23 37 (by kernel_rfl) ?_ ?_
        · refine opOf hf1680 rfl (by kernel_rfl) (aCall (fid := 36) (args := [.int .i64 (w64 (1 + (Int.tmod (w64 (x0.2.1)) 4))), .int .i64 (w64 (1 + (Int.tmod (w64 (x0.2.2.1)) 4))), .slice A1 x1.length c1, .int .i64 16]) (d := 49) hf1680 (by kernel_rfl) (by kernel_rfl) callable36 (law5_matrixOf.calls _ _ (w64 (1 + (Int.tmod (w64 (x0.2.1)) 4))) (w64 (1 + (Int.tmod (w64 (x0.2.2.1)) 4))) x1 A1 x1.length c1 rfl 16 (hm1681.give [5] [.sl (Kd.int .i8) A1 c1 x1] rfl rfl) r40 hr40) ?_)
          rintro _ w1686 a1687 ⟨A1682, c1683, A1684, c1685, rfl, hk1689⟩ hf1688
          refine ⟨.inr (Gr.still hk1689.cum.none), ?_⟩
          have hm1690 := hm1681.back hk1689
          have hm1691 := hm1690.seal 0 _ rfl rfl
          have hm1692 := hm1691.seal 1 _ rfl rfl
          exact L1374 _ _ ⟨b601, b678, A115, c116, A117, c118, A1682, c1683, A1684, c1685, hf1688.sel (l := [1, 5, 7, 30, 35, 36, 37, 42, 47, 48, 49, 54, 59, 60]) (by kernel_rfl), hm1692.sel [2, 3, 0, 1, 4, 5, 6, 7] _ rfl (by kernel_rfl)⟩
        · refine opOf hf1680 rfl (by kernel_rfl) (aNew (cs := [.slice none 0 0, .slice none 0 0]) (T := 42) (d := 6) hf1680 (by kernel_rfl) (by kernel_rfl) ?_)
          intro b1693 w1694 a1695 hbb1693 hx1697 hg1698 hf1696
          refine ⟨.inr (Gr.still hg1698), ?_⟩
          have hm1699 := hm1681.box hbb1693 hx1697 hg1698
          refine all1 23 (by kernel_rfl) ?_
          refine opOf hf1696 rfl (by kernel_rfl) (aCall (fid := 36) (args := [.int .i64 (w64 (1 + (Int.tmod (w64 (x0.2.1)) 4))), .int .i64 (w64 (1 + (Int.tmod (w64 (x0.2.2.1)) 4))), .slice A1 x1.length c1, .int .i64 16]) (d := 49) hf1696 (by kernel_rfl) (by kernel_rfl) callable36 (law5_matrixOf.calls _ _ (w64 (1 + (Int.tmod (w64 (x0.2.1)) 4))) (w64 (1 + (Int.tmod (w64 (x0.2.2.1)) 4))) x1 A1 x1.length c1 rfl 16 (hm1699.give [6] [.sl (Kd.int .i8) A1 c1 x1] rfl rfl) r40 hr40) ?_)
          rintro _ w1704 a1705 ⟨A1700, c1701, A1702, c1703, rfl, hk1707⟩ hf1706
          refine ⟨.inr (Gr.still hk1707.cum.none), ?_⟩
          have hm1708 := hm1699.back hk1707
          have hm1709 := hm1708.seal 0 _ rfl rfl
          have hm1710 := hm1709.seal 1 _ rfl rfl
          refine all1 35 (by kernel_rfl) ?_
          refine opOf hf1706 rfl (by kernel_rfl) (aCall (fid := 36) (args := [.int .i64 (w64 (1 + (Int.tmod (w64 (x0.2.2.1)) 4))), .int .i64 (w64 (1 + (Int.tmod (w64 (x0.2.2.2)) 4))), .slice A1 x1.length c1, .int .i64 32]) (d := 61) hf1706 (by kernel_rfl) (by kernel_rfl) callable36 (law5_matrixOf.calls _ _ (w64 (1 + (Int.tmod (w64 (x0.2.2.1)) 4))) (w64 (1 + (Int.tmod (w64 (x0.2.2.2)) 4))) x1 A1 x1.length c1 rfl 32 (hm1710.give [8] [.sl (Kd.int .i8) A1 c1 x1] rfl rfl) r41 hr41) ?_)
          rintro _ w1715 a1716 ⟨A1711, c1712, A1713, c1714, rfl, hk1718⟩ hf1717
          refine ⟨.inr (Gr.still hk1718.cum.none), ?_⟩
          have hm1719 := hm1710.back hk1718
          have hm1720 := hm1719.seal 0 _ rfl rfl
          have hm1721 := hm1720.seal 1 _ rfl rfl
          refine all1 39 (by kernel_rfl) ?_
          refine opOf hf1717 rfl (by kernel_rfl) (aStoreB (b := b601) (j := 0) (T := 42) (cs := [.slice none 0 0, .slice none 0 0]) (us := [.slice A115 r39.Shape.length c116, .slice A117 r39.Data.length c118]) (cs' := [.slice A115 r39.Shape.length c116, .slice A117 r39.Data.length c118]) hf1717 (by kernel_rfl) (hm1721.bxAt 6 rfl) (by kernel_rfl) (by kernel_rfl) (by kernel_rfl) ?_)
          intro w1722 hx1723 hg1724
          refine ⟨.inl (by decide), ?_⟩
          have hm1725 := hm1721.setBox 6 _ rfl rfl hx1723 hg1724
          refine all1 40 (by kernel_rfl) ?_
          refine opOf hf1717 rfl (by kernel_rfl) (aStoreB (b := b1693) (j := 0) (T := 42) (cs := [.slice none 0 0, .slice none 0 0]) (us := [.slice A1700 r40.Shape.length c1701, .slice A1702 r40.Data.length c1703]) (cs' := [.slice A1700 r40.Shape.length c1701, .slice A1702 r40.Data.length c1703]) hf1717 (by kernel_rfl) (hm1725.bxAt 4 rfl) (by kernel_rfl) (by kernel_rfl) (by kernel_rfl) ?_)
          intro w1726 hx1727 hg1728
          refine ⟨.inl (by decide), ?_⟩
          have hm1729 := hm1725.setBox 4 _ rfl rfl hx1727 hg1728
          refine all1 41 (by kernel_rfl) ?_
          refine opOf hf1717 rfl (by kernel_rfl) (aStoreB (b := b678) (j := 0) (T := 42) (cs := [.slice none 0 0, .slice none 0 0]) (us := [.slice A1711 r41.Shape.length c1712, .slice A1713 r41.Data.length c1714]) (cs' := [.slice A1711 r41.Shape.length c1712, .slice A1713 r41.Data.length c1714]) hf1717 (by kernel_rfl) (hm1729.bxAt 5 rfl) (by kernel_rfl) (by kernel_rfl) (by kernel_rfl) ?_)
          intro w1730 hx1731 hg1732
          refine ⟨.inl (by decide), ?_⟩
          have hm1733 := hm1729.setBox 5 _ rfl rfl hx1731 hg1732
          refine allDone (by kernel_rfl) ⟨rfl, b601, b1693, b678, A1711, c1712, A1713, c1714, A1700, c1701, A1702, c1703, A115, c116, A117, c118, hf1717.sel (l := [1, 5, 6, 7]) (by kernel_rfl), hm1733.sel [5, 4, 6, 0, 1, 2, 3, 7, 8, 10] _ rfl (by kernel_rfl)⟩
      refine memoStep (R := fun (a : Act) (w : World) => ∃ (b737 : Nat) (b762 : Nat) (A115 : Option Addr) (c116 : Nat) (A117 : Option Addr) (c118 : Nat), Fr 138 a [(1, .slice A1 x1.length c1), (6, .pointer (some ⟨b737, 0, none⟩)), (7, .pointer (some ⟨b762, 0, none⟩)), (30, .int .i64 (w64 (1 + (Int.tmod (w64 (x0.1)) 4)))), (35, .int .i64 (w64 (1 + (Int.tmod (w64 (x0.2.1)) 4)))), (36, .slice A1 x1.length c1), (37, .agg #[.slice A115 r39.Shape.length c116, .slice A117 r39.Data.length c118]), (42, .int .i64 (w64 (1 + (Int.tmod (w64 (x0.2.1)) 4)))), (47, .int .i64 (w64 (1 + (Int.tmod (w64 (x0.2.2.1)) 4)))), (48, .slice A1 x1.length c1), (54, .int .i64 (w64 (1 + (Int.tmod (w64 (x0.2.2.1)) 4)))), (59, .int .i64 (w64 (1 + (Int.tmod (w64 (x0.2.2.2)) 4)))), (60, .slice A1 x1.length c1)] ∧ Mem [] M w0 [.bx b762 [.slice none 0 0, .slice none 0 0] 42, .bx b737 [.slice none 0 0, .slice none 0 0] 42, .sl (Kd.int .i64) A115 c116 r39.Shape, .sl Kd.float A117 c118 r39.Data, .bx b21 [.int .u8 x0.1, .int .u8 x0.2.1, .int .u8 x0.2.2.1, .int .u8 x0.2.2.2] 50, .sl (Kd.int .i8) A1 c1 x1] w) #[true, true, true, true, true, true, true, true, true, true, true, true, true, true, true, true, true, true, true, true, true, true, true, false, true, true, true, true, true, true, true, true, true, true, true, false, false, true, true, false, false, false] 6 ?_ fun L1734 => ?_
      · rintro a1735 w1736 ⟨b737, b762, A115, c116, A117, c118, hf1737, hm1738⟩
        refine all2 23 36 (by kernel_rfl) ?_ ?_
        · refine opOf hf1737 rfl (by kernel_rfl) (aCall (fid := 36) (args := [.int .i64 (w64 (1 + (Int.tmod (w64 (x0.2.1)) 4))), .int .i64 (w64 (1 + (Int.tmod (w64 (x0.2.2.1)) 4))), .slice A1 x1.length c1, .int .i64 16]) (d := 49) hf1737 (by kernel_rfl) (by kernel_rfl) callable36 (law5_matrixOf.calls _ _ (w64 (1 + (Int.tmod (w64 (x0.2.1)) 4))) (w64 (1 + (Int.tmod (w64 (x0.2.2.1)) 4))) x1 A1 x1.length c1 rfl 16 (hm1738.give [5] [.sl (Kd.int .i8) A1 c1 x1] rfl rfl) r40 hr40) ?_)
          rintro _ w1743 a1744 ⟨A1739, c1740, A1741, c1742, rfl, hk1746⟩ hf1745
          refine ⟨.inr (Gr.still hk1746.cum.none), ?_⟩
          have hm1747 := hm1738.back hk1746
          have hm1748 := hm1747.seal 0 _ rfl rfl
          have hm1749 := hm1748.seal 1 _ rfl rfl
          exact L1439 _ _ ⟨b737, b762, A115, c116, A117, c118, A1739, c1740, A1741, c1742, hf1745.sel (l := [1, 6, 7, 30, 35, 36, 37, 42, 47, 48, 49, 54, 59, 60]) (by kernel_rfl), hm1749.sel [2, 3, 0, 1, 4, 5, 6, 7] _ rfl (by kernel_rfl)⟩
        · refine opOf hf1737 rfl (by kernel_rfl) (aNew (cs := [.slice none 0 0, .slice none 0 0]) (T := 42) (d := 5) hf1737 (by kernel_rfl) (by kernel_rfl) ?_)
          intro b1750 w1751 a1752 hbb1750 hx1754 hg1755 hf1753
          refine ⟨.inr (Gr.still hg1755), ?_⟩
          have hm1756 := hm1738.box hbb1750 hx1754 hg1755
          refine all1 23 (by kernel_rfl) ?_
          refine opOf hf1753 rfl (by kernel_rfl) (aCall (fid := 36) (args := [.int .i64 (w64 (1 + (Int.tmod (w64 (x0.2.1)) 4))), .int .i64 (w64 (1 + (Int.tmod (w64 (x0.2.2.1)) 4))), .slice A1 x1.length c1, .int .i64 16]) (d := 49) hf1753 (by kernel_rfl) (by kernel_rfl) callable36 (law5_matrixOf.calls _ _ (w64 (1 + (Int.tmod (w64 (x0.2.1)) 4))) (w64 (1 + (Int.tmod (w64 (x0.2.2.1)) 4))) x1 A1 x1.length c1 rfl 16 (hm1756.give [6] [.sl (Kd.int .i8) A1 c1 x1] rfl rfl) r40 hr40) ?_)
          rintro _ w1761 a1762 ⟨A1757, c1758, A1759, c1760, rfl, hk1764⟩ hf1763
          refine ⟨.inr (Gr.still hk1764.cum.none), ?_⟩
          have hm1765 := hm1756.back hk1764
          have hm1766 := hm1765.seal 0 _ rfl rfl
          have hm1767 := hm1766.seal 1 _ rfl rfl
          refine all1 35 (by kernel_rfl) ?_
          refine opOf hf1763 rfl (by kernel_rfl) (aCall (fid := 36) (args := [.int .i64 (w64 (1 + (Int.tmod (w64 (x0.2.2.1)) 4))), .int .i64 (w64 (1 + (Int.tmod (w64 (x0.2.2.2)) 4))), .slice A1 x1.length c1, .int .i64 32]) (d := 61) hf1763 (by kernel_rfl) (by kernel_rfl) callable36 (law5_matrixOf.calls _ _ (w64 (1 + (Int.tmod (w64 (x0.2.2.1)) 4))) (w64 (1 + (Int.tmod (w64 (x0.2.2.2)) 4))) x1 A1 x1.length c1 rfl 32 (hm1767.give [8] [.sl (Kd.int .i8) A1 c1 x1] rfl rfl) r41 hr41) ?_)
          rintro _ w1772 a1773 ⟨A1768, c1769, A1770, c1771, rfl, hk1775⟩ hf1774
          refine ⟨.inr (Gr.still hk1775.cum.none), ?_⟩
          have hm1776 := hm1767.back hk1775
          have hm1777 := hm1776.seal 0 _ rfl rfl
          have hm1778 := hm1777.seal 1 _ rfl rfl
          refine all1 39 (by kernel_rfl) ?_
          refine opOf hf1774 rfl (by kernel_rfl) (aStoreB (b := b1750) (j := 0) (T := 42) (cs := [.slice none 0 0, .slice none 0 0]) (us := [.slice A115 r39.Shape.length c116, .slice A117 r39.Data.length c118]) (cs' := [.slice A115 r39.Shape.length c116, .slice A117 r39.Data.length c118]) hf1774 (by kernel_rfl) (hm1778.bxAt 4 rfl) (by kernel_rfl) (by kernel_rfl) (by kernel_rfl) ?_)
          intro w1779 hx1780 hg1781
          refine ⟨.inl (by decide), ?_⟩
          have hm1782 := hm1778.setBox 4 _ rfl rfl hx1780 hg1781
          refine all1 40 (by kernel_rfl) ?_
          refine opOf hf1774 rfl (by kernel_rfl) (aStoreB (b := b737) (j := 0) (T := 42) (cs := [.slice none 0 0, .slice none 0 0]) (us := [.slice A1757 r40.Shape.length c1758, .slice A1759 r40.Data.length c1760]) (cs' := [.slice A1757 r40.Shape.length c1758, .slice A1759 r40.Data.length c1760]) hf1774 (by kernel_rfl) (hm1782.bxAt 6 rfl) (by kernel_rfl) (by kernel_rfl) (by kernel_rfl) ?_)
          intro w1783 hx1784 hg1785
          refine ⟨.inl (by decide), ?_⟩
          have hm1786 := hm1782.setBox 6 _ rfl rfl hx1784 hg1785
          refine all1 41 (by kernel_rfl) ?_
          refine opOf hf1774 rfl (by kernel_rfl) (aStoreB (b := b762) (j := 0) (T := 42) (cs := [.slice none 0 0, .slice none 0 0]) (us := [.slice A1768 r41.Shape.length c1769, .slice A1770 r41.Data.length c1771]) (cs' := [.slice A1768 r41.Shape.length c1769, .slice A1770 r41.Data.length c1771]) hf1774 (by kernel_rfl) (hm1786.bxAt 5 rfl) (by kernel_rfl) (by kernel_rfl) (by kernel_rfl) ?_)
          intro w1787 hx1788 hg1789
          refine ⟨.inl (by decide), ?_⟩
          have hm1790 := hm1786.setBox 5 _ rfl rfl hx1788 hg1789
          refine allDone (by kernel_rfl) ⟨rfl, b1750, b737, b762, A1768, c1769, A1770, c1771, A1757, c1758, A1759, c1760, A115, c116, A117, c118, hf1774.sel (l := [1, 5, 6, 7]) (by kernel_rfl), hm1790.sel [5, 6, 4, 0, 1, 2, 3, 7, 8, 10] _ rfl (by kernel_rfl)⟩
      refine memoStep (R := fun (a : Act) (w : World) => ∃ (A115 : Option Addr) (c116 : Nat) (A117 : Option Addr) (c118 : Nat) (A126 : Option Addr) (c127 : Nat) (A128 : Option Addr) (c129 : Nat), Fr 138 a [(1, .slice A1 x1.length c1), (30, .int .i64 (w64 (1 + (Int.tmod (w64 (x0.1)) 4)))), (35, .int .i64 (w64 (1 + (Int.tmod (w64 (x0.2.1)) 4)))), (36, .slice A1 x1.length c1), (37, .agg #[.slice A115 r39.Shape.length c116, .slice A117 r39.Data.length c118]), (42, .int .i64 (w64 (1 + (Int.tmod (w64 (x0.2.1)) 4)))), (47, .int .i64 (w64 (1 + (Int.tmod (w64 (x0.2.2.1)) 4)))), (48, .slice A1 x1.length c1), (49, .agg #[.slice A126 r40.Shape.length c127, .slice A128 r40.Data.length c129]), (54, .int .i64 (w64 (1 + (Int.tmod (w64 (x0.2.2.1)) 4)))), (59, .int .i64 (w64 (1 + (Int.tmod (w64 (x0.2.2.2)) 4)))), (60, .slice A1 x1.length c1)] ∧ Mem [] M w0 [.sl (Kd.int .i64) A126 c127 r40.Shape, .sl Kd.float A128 c129 r40.Data, .sl (Kd.int .i64) A115 c116 r39.Shape, .sl Kd.float A117 c118 r39.Data, .bx b21 [.int .u8 x0.1, .int .u8 x0.2.1, .int .u8 x0.2.2.1, .int .u8 x0.2.2.2] 50, .sl (Kd.int .i8) A1 c1 x1] w) #[true, true, true, true, true, true, true, true, true, true, true, true, true, true, true, true, true, true, true, true, true, true, true, true, true, true, true, true, true, true, true, true, true, true, true, false, false, false, false, false, false, false] 7 ?_ fun L1791 => ?_
      · rintro a1792 w1793 ⟨A115, c116, A117, c118, A126, c127, A128, c129, hf1794, hm1795⟩
        refine all4 35 36 37 38 (by kernel_rfl) ?_ ?_ ?_ ?_
        · refine opOf hf1794 rfl (by kernel_rfl) (aCall (fid := 36) (args := [.int .i64 (w64 (1 + (Int.tmod (w64 (x0.2.2.1)) 4))), .int .i64 (w64 (1 + (Int.tmod (w64 (x0.2.2.2)) 4))), .slice A1 x1.length c1, .int .i64 32]) (d := 61) hf1794 (by kernel_rfl) (by kernel_rfl) callable36 (law5_matrixOf.calls _ _ (w64 (1 + (Int.tmod (w64 (x0.2.2.1)) 4))) (w64 (1 + (Int.tmod (w64 (x0.2.2.2)) 4))) x1 A1 x1.length c1 rfl 32 (hm1795.give [5] [.sl (Kd.int .i8) A1 c1 x1] rfl rfl) r41 hr41) ?_)
          rintro _ w1800 a1801 ⟨A1796, c1797, A1798, c1799, rfl, hk1803⟩ hf1802
          refine ⟨.inr (Gr.still hk1803.cum.none), ?_⟩
          have hm1804 := hm1795.back hk1803
          have hm1805 := hm1804.seal 0 _ rfl rfl
          have hm1806 := hm1805.seal 1 _ rfl rfl
          exact L1504 _ _ ⟨A115, c116, A117, c118, A126, c127, A128, c129, A1796, c1797, A1798, c1799, hf1802.sel (l := [1, 30, 35, 36, 37, 42, 47, 48, 49, 54, 59, 60, 61]) (by kernel_rfl), hm1806.sel [0, 1, 2, 3, 4, 5, 6, 7] _ rfl (by kernel_rfl)⟩
        · refine opOf hf1794 rfl (by kernel_rfl) (aNew (cs := [.slice none 0 0, .slice none 0 0]) (T := 42) (d := 5) hf1794 (by kernel_rfl) (by kernel_rfl) ?_)
          intro b1807 w1808 a1809 hbb1807 hx1811 hg1812 hf1810
          refine ⟨.inr (Gr.still hg1812), ?_⟩
          have hm1813 := hm1795.box hbb1807 hx1811 hg1812
          exact L1530 _ _ ⟨b1807, A115, c116, A117, c118, A126, c127, A128, c129, hf1810.sel (l := [1, 5, 30, 35, 36, 37, 42, 47, 48, 49, 54, 59, 60]) (by kernel_rfl), hm1813.sel [0, 1, 2, 3, 4, 5, 6] _ rfl (by kernel_rfl)⟩
        · refine opOf hf1794 rfl (by kernel_rfl) (aNew (cs := [.slice none 0 0, .slice none 0 0]) (T := 42) (d := 6) hf1794 (by kernel_rfl) (by kernel_rfl) ?_)
          intro b1814 w1815 a1816 hbb1814 hx1818 hg1819 hf1817
          refine ⟨.inr (Gr.still hg1819), ?_⟩
          have hm1820 := hm1795.box hbb1814 hx1818 hg1819
          exact L1560 _ _ ⟨b1814, A115, c116, A117, c118, A126, c127, A128, c129, hf1817.sel (l := [1, 6, 30, 35, 36, 37, 42, 47, 48, 49, 54, 59, 60]) (by kernel_rfl), hm1820.sel [0, 1, 2, 3, 4, 5, 6] _ rfl (by kernel_rfl)⟩
        · refine opOf hf1794 rfl (by kernel_rfl) (aNew (cs := [.slice none 0 0, .slice none 0 0]) (T := 42) (d := 7) hf1794 (by kernel_rfl) (by kernel_rfl) ?_)
          intro b1821 w1822 a1823 hbb1821 hx1825 hg1826 hf1824
          refine ⟨.inr (Gr.still hg1826), ?_⟩
          have hm1827 := hm1795.box hbb1821 hx1825 hg1826
          exact L1590 _ _ ⟨b1821, A115, c116, A117, c118, A126, c127, A128, c129, hf1824.sel (l := [1, 7, 30, 35, 36, 37, 42, 47, 48, 49, 54, 59, 60]) (by kernel_rfl), hm1827.sel [0, 1, 2, 3, 4, 5, 6] _ rfl (by kernel_rfl)⟩
      refine memoStep (R := fun (a : Act) (w : World) => ∃ (b601 : Nat) (A115 : Option Addr) (c116 : Nat) (A117 : Option Addr) (c118 : Nat), Fr 138 a [(1, .slice A1 x1.length c1), (5, .pointer (some ⟨b601, 0, none⟩)), (30, .int .i64 (w64 (1 + (Int.tmod (w64 (x0.1)) 4)))), (35, .int .i64 (w64 (1 + (Int.tmod (w64 (x0.2.1)) 4)))), (36, .slice A1 x1.length c1), (37, .agg #[.slice A115 r39.Shape.length c116, .slice A117 r39.Data.length c118]), (42, .int .i64 (w64 (1 + (Int.tmod (w64 (x0.2.1)) 4)))), (47, .int .i64 (w64 (1 + (Int.tmod (w64 (x0.2.2.1)) 4)))), (48, .slice A1 x1.length c1), (54, .int .i64 (w64 (1 + (Int.tmod (w64 (x0.2.2.1)) 4)))), (59, .int .i64 (w64 (1 + (Int.tmod (w64 (x0.2.2.2)) 4)))), (60, .slice A1 x1.length c1)] ∧ Mem [] M w0 [.bx b601 [.slice none 0 0, .slice none 0 0] 42, .sl (Kd.int .i64) A115 c116 r39.Shape, .sl Kd.float A117 c118 r39.Data, .bx b21 [.int .u8 x0.1, .int .u8 x0.2.1, .int .u8 x0.2.2.1, .int .u8 x0.2.2.2] 50, .sl (Kd.int .i8) A1 c1 x1] w) #[true, true, true, true, true, true, true, true, true, true, true, true, true, true, true, true, true, true, true, true, true, true, true, false, true, true, true, true, true, true, true, true, true, true, true, false, true, false, false, false, false, false] 7 ?_ fun L1828 => ?_
      · rintro a1829 w1830 ⟨b601, A115, c116, A117, c118, hf1831, hm1832⟩
        refine all3 23 37 38 (by kernel_rfl) ?_ ?_ ?_
        · refine opOf hf1831 rfl (by kernel_rfl) (aCall (fid := 36) (args := [.int .i64 (w64 (1 + (Int.tmod (w64 (x0.2.1)) 4))), .int .i64 (w64 (1 + (Int.tmod (w64 (x0.2.2.1)) 4))), .slice A1 x1.length c1, .int .i64 16]) (d := 49) hf1831 (by kernel_rfl) (by kernel_rfl) callable36 (law5_matrixOf.calls _ _ (w64 (1 + (Int.tmod (w64 (x0.2.1)) 4))) (w64 (1 + (Int.tmod (w64 (x0.2.2.1)) 4))) x1 A1 x1.length c1 rfl 16 (hm1832.give [4] [.sl (Kd.int .i8) A1 c1 x1] rfl rfl) r40 hr40) ?_)
          rintro _ w1837 a1838 ⟨A1833, c1834, A1835, c1836, rfl, hk1840⟩ hf1839
          refine ⟨.inr (Gr.still hk1840.cum.none), ?_⟩
          have hm1841 := hm1832.back hk1840
          have hm1842 := hm1841.seal 0 _ rfl rfl
          have hm1843 := hm1842.seal 1 _ rfl rfl
          exact L1530 _ _ ⟨b601, A115, c116, A117, c118, A1833, c1834, A1835, c1836, hf1839.sel (l := [1, 5, 30, 35, 36, 37, 42, 47, 48, 49, 54, 59, 60]) (by kernel_rfl), hm1843.sel [2, 0, 1, 3, 4, 5, 6] _ rfl (by kernel_rfl)⟩
        · refine opOf hf1831 rfl (by kernel_rfl) (aNew (cs := [.slice none 0 0, .slice none 0 0]) (T := 42) (d := 6) hf1831 (by kernel_rfl) (by kernel_rfl) ?_)
          intro b1844 w1845 a1846 hbb1844 hx1848 hg1849 hf1847
          refine ⟨.inr (Gr.still hg1849), ?_⟩
          have hm1850 := hm1832.box hbb1844 hx1848 hg1849
          exact L1620 _ _ ⟨b601, b1844, A115, c116, A117, c118, hf1847.sel (l := [1, 5, 6, 30, 35, 36, 37, 42, 47, 48, 54, 59, 60]) (by kernel_rfl), hm1850.sel [0, 1, 2, 3, 4, 5] _ rfl (by kernel_rfl)⟩
        · refine opOf hf1831 rfl (by kernel_rfl) (aNew (cs := [.slice none 0 0, .slice none 0 0]) (T := 42) (d := 7) hf1831 (by kernel_rfl) (by kernel_rfl) ?_)
          intro b1851 w1852 a1853 hbb1851 hx1855 hg1856 hf1854
          refine ⟨.inr (Gr.still hg1856), ?_⟩
          have hm1857 := hm1832.box hbb1851 hx1855 hg1856
          exact L1677 _ _ ⟨b601, b1851, A115, c116, A117, c118, hf1854.sel (l := [1, 5, 7, 30, 35, 36, 37, 42, 47, 48, 54, 59, 60]) (by kernel_rfl), hm1857.sel [0, 1, 2, 3, 4, 5] _ rfl (by kernel_rfl)⟩
      refine memoStep (R := fun (a : Act) (w : World) => ∃ (b737 : Nat) (A115 : Option Addr) (c116 : Nat) (A117 : Option Addr) (c118 : Nat), Fr 138 a [(1, .slice A1 x1.length c1), (6, .pointer (some ⟨b737, 0, none⟩)), (30, .int .i64 (w64 (1 + (Int.tmod (w64 (x0.1)) 4)))), (35, .int .i64 (w64 (1 + (Int.tmod (w64 (x0.2.1)) 4)))), (36, .slice A1 x1.length c1), (37, .agg #[.slice A115 r39.Shape.length c116, .slice A117 r39.Data.length c118]), (42, .int .i64 (w64 (1 + (Int.tmod (w64 (x0.2.1)) 4)))), (47, .int .i64 (w64 (1 + (Int.tmod (w64 (x0.2.2.1)) 4)))), (48, .slice A1 x1.length c1), (54, .int .i64 (w64 (1 + (Int.tmod (w64 (x0.2.2.1)) 4)))), (59, .int .i64 (w64 (1 + (Int.tmod (w64 (x0.2.2.2)) 4)))), (60, .slice A1 x1.length c1)] ∧ Mem [] M w0 [.bx b737 [.slice none 0 0, .slice none 0 0] 42, .sl (Kd.int .i64) A115 c116 r39.Shape, .sl Kd.float A117 c118 r39.Data, .bx b21 [.int .u8 x0.1, .int .u8 x0.2.1, .int .u8 x0.2.2.1, .int .u8 x0.2.2.2] 50, .sl (Kd.int .i8) A1 c1 x1] w) #[true, true, true, true, true, true, true, true, true, true, true, true, true, true, true, true, true, true, true, true, true, true, true, false, true, true, true, true, true, true, true, true, true, true, true, false, false, true, false, false, false, false] 7 ?_ fun L1858 => ?_
      · rintro a1859 w1860 ⟨b737, A115, c116, A117, c118, hf1861, hm1862⟩
        refine all3 23 36 38 (by kernel_rfl) ?_ ?_ ?_
        · refine opOf hf1861 rfl (by kernel_rfl) (aCall (fid := 36) (args := [.int .i64 (w64 (1 + (Int.tmod (w64 (x0.2.1)) 4))), .int .i64 (w64 (1 + (Int.tmod (w64 (x0.2.2.1)) 4))), .slice A1 x1.length c1, .int .i64 16]) (d := 49) hf1861 (by kernel_rfl) (by kernel_rfl) callable36 (law5_matrixOf.calls _ _ (w64 (1 + (Int.tmod (w64 (x0.2.1)) 4))) (w64 (1 + (Int.tmod (w64 (x0.2.2.1)) 4))) x1 A1 x1.length c1 rfl 16 (hm1862.give [4] [.sl (Kd.int .i8) A1 c1 x1] rfl rfl) r40 hr40) ?_)
          rintro _ w1867 a1868 ⟨A1863, c1864, A1865, c1866, rfl, hk1870⟩ hf1869
          refine ⟨.inr (Gr.still hk1870.cum.none), ?_⟩
          have hm1871 := hm1862.back hk1870
          have hm1872 := hm1871.seal 0 _ rfl rfl
          have hm1873 := hm1872.seal 1 _ rfl rfl
          exact L1560 _ _ ⟨b737, A115, c116, A117, c118, A1863, c1864, A1865, c1866, hf1869.sel (l := [1, 6, 30, 35, 36, 37, 42, 47, 48, 49, 54, 59, 60]) (by kernel_rfl), hm1873.sel [2, 0, 1, 3, 4, 5, 6] _ rfl (by kernel_rfl)⟩
        · refine opOf hf1861 rfl (by kernel_rfl) (aNew (cs := [.slice none 0 0, .slice none 0 0]) (T := 42) (d := 5) hf1861 (by kernel_rfl) (by kernel_rfl) ?_)
          intro b1874 w1875 a1876 hbb1874 hx1878 hg1879 hf1877
          refine ⟨.inr (Gr.still hg1879), ?_⟩
          have hm1880 := hm1862.box hbb1874 hx1878 hg1879
          exact L1620 _ _ ⟨b1874, b737, A115, c116, A117, c118, hf1877.sel (l := [1, 5, 6, 30, 35, 36, 37, 42, 47, 48, 54, 59, 60]) (by kernel_rfl), hm1880.sel [1, 0, 2, 3, 4, 5] _ rfl (by kernel_rfl)⟩
        · refine opOf hf1861 rfl (by kernel_rfl) (aNew (cs := [.slice none 0 0, .slice none 0 0]) (T := 42) (d := 7) hf1861 (by kernel_rfl) (by kernel_rfl) ?_)
          intro b1881 w1882 a1883 hbb1881 hx1885 hg1886 hf1884
          refine ⟨.inr (Gr.still hg1886), ?_⟩
          have hm1887 := hm1862.box hbb1881 hx1885 hg1886
          exact L1734 _ _ ⟨b737, b1881, A115, c116, A117, c118, hf1884.sel (l := [1, 6, 7, 30, 35, 36, 37, 42, 47, 48, 54, 59, 60]) (by kernel_rfl), hm1887.sel [0, 1, 2, 3, 4, 5] _ rfl (by kernel_rfl)⟩
      refine memoStep (R := fun (a : Act) (w : World) => ∃ (b821 : Nat) (A115 : Option Addr) (c116 : Nat) (A117 : Option Addr) (c118 : Nat), Fr 138 a [(1, .slice A1 x1.length c1), (7, .pointer (some ⟨b821, 0, none⟩)), (30, .int .i64 (w64 (1 + (Int.tmod (w64 (x0.1)) 4)))), (35, .int .i64 (w64 (1 + (Int.tmod (w64 (x0.2.1)) 4)))), (36, .slice A1 x1.length c1), (37, .agg #[.slice A115 r39.Shape.length c116, .slice A117 r39.Data.length c118]), (42, .int .i64 (w64 (1 + (Int.tmod (w64 (x0.2.1)) 4)))), (47, .int .i64 (w64 (1 + (Int.tmod (w64 (x0.2.2.1)) 4)))), (48, .slice A1 x1.length c1), (54, .int .i64 (w64 (1 + (Int.tmod (w64 (x0.2.2.1)) 4)))), (59, .int .i64 (w64 (1 + (Int.tmod (w64 (x0.2.2.2)) 4)))), (60, .slice A1 x1.length c1)] ∧ Mem [] M w0 [.bx b821 [.slice none 0 0, .slice none 0 0] 42, .sl (Kd.int .i64) A115 c116 r39.Shape, .sl Kd.float A117 c118 r39.Data, .bx b21 [.int .u8 x0.1, .int .u8 x0.2.1, .int .u8 x0.2.2.1, .int .u8 x0.2.2.2] 50, .sl (Kd.int .i8) A1 c1 x1] w) #[true, true, true, true, true, true, true, true, true, true, true, true, true, true, true, true, true, true, true, true, true, true, true, false, true, true, true, true, true, true, true, true, true, true, true, false, false, false, true, false, false, false] 7 ?_ fun L1888 => ?_
      · rintro a1889 w1890 ⟨b821, A115, c116, A117, c118, hf1891, hm1892⟩
        refine all3 23 36 37 (by kernel_rfl) ?_ ?_ ?_
        · refine opOf hf1891 rfl (by kernel_rfl) (aCall (fid := 36) (args := [.int .i64 (w64 (1 + (Int.tmod (w64 (x0.2.1)) 4))), .int .i64 (w64 (1 + (Int.tmod (w64 (x0.2.2.1)) 4))), .slice A1 x1.length c1, .int .i64 16]) (d := 49) hf1891 (by kernel_rfl) (by kernel_rfl) callable36 (law5_matrixOf.calls _ _ (w64 (1 + (Int.tmod (w64 (x0.2.1)) 4))) (w64 (1 + (Int.tmod (w64 (x0.2.2.1)) 4))) x1 A1 x1.length c1 rfl 16 (hm1892.give [4] [.sl (Kd.int .i8) A1 c1 x1] rfl rfl) r40 hr40) ?_)
          rintro _ w1897 a1898 ⟨A1893, c1894, A1895, c1896, rfl, hk1900⟩ hf1899
          refine ⟨.inr (Gr.still hk1900.cum.none), ?_⟩
          have hm1901 := hm1892.back hk1900
          have hm1902 := hm1901.seal 0 _ rfl rfl
          have hm1903 := hm1902.seal 1 _ rfl rfl
          exact L1590 _ _ ⟨b821, A115, c116, A117, c118, A1893, c1894, A1895, c1896, hf1899.sel (l := [1, 7, 30, 35, 36, 37, 42, 47, 48, 49, 54, 59, 60]) (by kernel_rfl), hm1903.sel [2, 0, 1, 3, 4, 5, 6] _ rfl (by kernel_rfl)⟩
        · refine opOf hf1891 rfl (by kernel_rfl) (aNew (cs := [.slice none 0 0, .slice none 0 0]) (T := 42) (d := 5) hf1891 (by kernel_rfl) (by kernel_rfl) ?_)
          intro b1904 w1905 a1906 hbb1904 hx1908 hg1909 hf1907
          refine ⟨.inr (Gr.still hg1909), ?_⟩
          have hm1910 := hm1892.box hbb1904 hx1908 hg1909
          exact L1677 _ _ ⟨b1904, b821, A115, c116, A117, c118, hf1907.sel (l := [1, 5, 7, 30, 35, 36, 37, 42, 47, 48, 54, 59, 60]) (by kernel_rfl), hm1910.sel [1, 0, 2, 3, 4, 5] _ rfl (by kernel_rfl)⟩
        · refine opOf hf1891 rfl (by kernel_rfl) (aNew (cs := [.slice none 0 0, .slice none 0 0]) (T := 42) (d := 6) hf1891 (by kernel_rfl) (by kernel_rfl) ?_)
          intro b1911 w1912 a1913 hbb1911 hx1915 hg1916 hf1914
          refine ⟨.inr (Gr.still hg1916), ?_⟩
          have hm1917 := hm1892.box hbb1911 hx1915 hg1916
          exact L1734 _ _ ⟨b1911, b821, A115, c116, A117, c118, hf1914.sel (l := [1, 6, 7, 30, 35, 36, 37, 42, 47, 48, 54, 59, 60]) (by kernel_rfl), hm1917.sel [1, 0, 2, 3, 4, 5] _ rfl (by kernel_rfl)⟩
      refine memoStep (R := fun (a : Act) (w : World) => ∃ (b853 : Nat) (b871 : Nat), Fr 138 a [(1, .slice A1 x1.length c1), (5, .pointer (some ⟨b853, 0, none⟩)), (6, .pointer (some ⟨b871, 0, none⟩)), (30, .int .i64 (w64 (1 + (Int.tmod (w64 (x0.1)) 4)))), (35, .int .i64 (w64 (1 + (Int.tmod (w64 (x0.2.1)) 4)))), (36, .slice A1 x1.length c1), (42, .int .i64 (w64 (1 + (Int.tmod (w64 (x0.2.1)) 4)))), (47, .int .i64 (w64 (1 + (Int.tmod (w64 (x0.2.2.1)) 4)))), (48, .slice A1 x1.length c1), (54, .int .i64 (w64 (1 + (Int.tmod (w64 (x0.2.2.1)) 4)))), (59, .int .i64 (w64 (1 + (Int.tmod (w64 (x0.2.2.2)) 4)))), (60, .slice A1 x1.length c1)] ∧ Mem [] M w0 [.bx b871 [.slice none 0 0, .slice none 0 0] 42, .bx b853 [.slice none 0 0, .slice none 0 0] 42, .bx b21 [.int .u8 x0.1, .int .u8 x0.2.1, .int .u8 x0.2.2.1, .int .u8 x0.2.2.2] 50, .sl (Kd.int .i8) A1 c1 x1] w) #[true, true, true, true, true, true, true, true, true, true, true, false, true, true, true, true, true, true, true, true, true, true, true, false, true, true, true, true, true, true, true, true, true, true, true, false, true, true, false, false, false, false] 7 ?_ fun L1918 => ?_
      · rintro a1919 w1920 ⟨b853, b871, hf1921, hm1922⟩
        refine all2 11 38 (by kernel_rfl) ?_ ?_
        · refine opOf hf1921 rfl (by kernel_rfl) (aCall (fid := 36) (args := [.int .i64 (w64 (1 + (Int.tmod (w64 (x0.1)) 4))), .int .i64 (w64 (1 + (Int.tmod (w64 (x0.2.1)) 4))), .slice A1 x1.length c1, .int .i64 0]) (d := 37) hf1921 (by kernel_rfl) (by kernel_rfl) callable36 (law5_matrixOf.calls _ _ (w64 (1 + (Int.tmod (w64 (x0.1)) 4))) (w64 (1 + (Int.tmod (w64 (x0.2.1)) 4))) x1 A1 x1.length c1 rfl 0 (hm1922.give [3] [.sl (Kd.int .i8) A1 c1 x1] rfl rfl) r39 hr39) ?_)
          rintro _ w1927 a1928 ⟨A1923, c1924, A1925, c1926, rfl, hk1930⟩ hf1929
          refine ⟨.inr (Gr.still hk1930.cum.none), ?_⟩
          have hm1931 := hm1922.back hk1930
          have hm1932 := hm1931.seal 0 _ rfl rfl
          have hm1933 := hm1932.seal 1 _ rfl rfl
          exact L1620 _ _ ⟨b853, b871, A1923, c1924, A1925, c1926, hf1929.sel (l := [1, 5, 6, 30, 35, 36, 37, 42, 47, 48, 54, 59, 60]) (by kernel_rfl), hm1933.sel [2, 3, 0, 1, 4, 5] _ rfl (by kernel_rfl)⟩
        · refine opOf hf1921 rfl (by kernel_rfl) (aNew (cs := [.slice none 0 0, .slice none 0 0]) (T := 42) (d := 7) hf1921 (by kernel_rfl) (by kernel_rfl) ?_)
          intro b1934 w1935 a1936 hbb1934 hx1938 hg1939 hf1937
          refine ⟨.inr (Gr.still hg1939), ?_⟩
          have hm1940 := hm1922.box hbb1934 hx1938 hg1939
          refine all1 11 (by kernel_rfl) ?_
          refine opOf hf1937 rfl (by kernel_rfl) (aCall (fid := 36) (args := [.int .i64 (w64 (1 + (Int.tmod (w64 (x0.1)) 4))), .int .i64 (w64 (1 + (Int.tmod (w64 (x0.2.1)) 4))), .slice A1 x1.length c1, .int .i64 0]) (d := 37) hf1937 (by kernel_rfl) (by kernel_rfl) callable36 (law5_matrixOf.calls _ _ (w64 (1 + (Int.tmod (w64 (x0.1)) 4))) (w64 (1 + (Int.tmod (w64 (x0.2.1)) 4))) x1 A1 x1.length c1 rfl 0 (hm1940.give [4] [.sl (Kd.int .i8) A1 c1 x1] rfl rfl) r39 hr39) ?_)
          rintro _ w1945 a1946 ⟨A1941, c1942, A1943, c1944, rfl, hk1948⟩ hf1947
          refine ⟨.inr (Gr.still hk1948.cum.none), ?_⟩
          have hm1949 := hm1940.back hk1948
          have hm1950 := hm1949.seal 0 _ rfl rfl
          have hm1951 := hm1950.seal 1 _ rfl rfl
          refine all1 23 (by kernel_rfl) ?_
          refine opOf hf1947 rfl (by kernel_rfl) (aCall (fid := 36) (args := [.int .i64 (w64 (1 + (Int.tmod (w64 (x0.2.1)) 4))), .int .i64 (w64 (1 + (Int.tmod (w64 (x0.2.2.1)) 4))), .slice A1 x1.length c1, .int .i64 16]) (d := 49) hf1947 (by kernel_rfl) (by kernel_rfl) callable36 (law5_matrixOf.calls _ _ (w64 (1 + (Int.tmod (w64 (x0.2.1)) 4))) (w64 (1 + (Int.tmod (w64 (x0.2.2.1)) 4))) x1 A1 x1.length c1 rfl 16 (hm1951.give [6] [.sl (Kd.int .i8) A1 c1 x1] rfl rfl) r40 hr40) ?_)
          rintro _ w1956 a1957 ⟨A1952, c1953, A1954, c1955, rfl, hk1959⟩ hf1958
          refine ⟨.inr (Gr.still hk1959.cum.none), ?_⟩
          have hm1960 := hm1951.back hk1959
          have hm1961 := hm1960.seal 0 _ rfl rfl
          have hm1962 := hm1961.seal 1 _ rfl rfl
          refine all1 35 (by kernel_rfl) ?_
          refine opOf hf1958 rfl (by kernel_rfl) (aCall (fid := 36) (args := [.int .i64 (w64 (1 + (Int.tmod (w64 (x0.2.2.1)) 4))), .int .i64 (w64 (1 + (Int.tmod (w64 (x0.2.2.2)) 4))), .slice A1 x1.length c1, .int .i64 32]) (d := 61) hf1958 (by kernel_rfl) (by kernel_rfl) callable36 (law5_matrixOf.calls _ _ (w64 (1 + (Int.tmod (w64 (x0.2.2.1)) 4))) (w64 (1 + (Int.tmod (w64 (x0.2.2.2)) 4))) x1 A1 x1.length c1 rfl 32 (hm1962.give [8] [.sl (Kd.int .i8) A1 c1 x1] rfl rfl) r41 hr41) ?_)
          rintro _ w1967 a1968 ⟨A1963, c1964, A1965, c1966, rfl, hk1970⟩ hf1969
          refine ⟨.inr (Gr.still hk1970.cum.none), ?_⟩
          have hm1971 := hm1962.back hk1970
          have hm1972 := hm1971.seal 0 _ rfl rfl
          have hm1973 := hm1972.seal 1 _ rfl rfl
          refine all1 39 (by kernel_rfl) ?_
          refine opOf hf1969 rfl (by kernel_rfl) (aStoreB (b := b853) (j := 0) (T := 42) (cs := [.slice none 0 0, .slice none 0 0]) (us := [.slice A1941 r39.Shape.length c1942, .slice A1943 r39.Data.length c1944]) (cs' := [.slice A1941 r39.Shape.length c1942, .slice A1943 r39.Data.length c1944]) hf1969 (by kernel_rfl) (hm1973.bxAt 8 rfl) (by kernel_rfl) (by kernel_rfl) (by kernel_rfl) ?_)
          intro w1974 hx1975 hg1976
          refine ⟨.inl (by decide), ?_⟩
          have hm1977 := hm1973.setBox 8 _ rfl rfl hx1975 hg1976
          refine all1 40 (by kernel_rfl) ?_
          refine opOf hf1969 rfl (by kernel_rfl) (aStoreB (b := b871) (j := 0) (T := 42) (cs := [.slice none 0 0, .slice none 0 0]) (us := [.slice A1952 r40.Shape.length c1953, .slice A1954 r40.Data.length c1955]) (cs' := [.slice A1952 r40.Shape.length c1953, .slice A1954 r40.Data.length c1955]) hf1969 (by kernel_rfl) (hm1977.bxAt 7 rfl) (by kernel_rfl) (by kernel_rfl) (by kernel_rfl) ?_)
          intro w1978 hx1979 hg1980
          refine ⟨.inl (by decide), ?_⟩
          have hm1981 := hm1977.setBox 7 _ rfl rfl hx1979 hg1980
          refine all1 41 (by kernel_rfl) ?_
          refine opOf hf1969 rfl (by kernel_rfl) (aStoreB (b := b1934) (j := 0) (T := 42) (cs := [.slice none 0 0, .slice none 0 0]) (us := [.slice A1963 r41.Shape.length c1964, .slice A1965 r41.Data.length c1966]) (cs' := [.slice A1963 r41.Shape.length c1964, .slice A1965 r41.Data.length c1966]) hf1969 (by kernel_rfl) (hm1981.bxAt 6 rfl) (by kernel_rfl) (by kernel_rfl) (by kernel_rfl) ?_)
          intro w1982 hx1983 hg1984
          refine ⟨.inl (by decide), ?_⟩
          have hm1985 := hm1981.setBox 6 _ rfl rfl hx1983 hg1984
          refine allDone (by kernel_rfl) ⟨rfl, b853, b871, b1934, A1963, c1964, A1965, c1966, A1952, c1953, A1954, c1955, A1941, c1942, A1943, c1944, hf1969.sel (l := [1, 5, 6, 7]) (by kernel_rfl), hm1985.sel [6, 7, 8, 0, 1, 2, 3, 4, 5, 10] _ rfl (by kernel_rfl)⟩
      refine memoStep (R := fun (a : Act) (w : World) => ∃ (b853 : Nat) (b941 : Nat), Fr 138 a [(1, .slice A1 x1.length c1), (5, .pointer (some ⟨b853, 0, none⟩)), (7, .pointer (some ⟨b941, 0, none⟩)), (30, .int .i64 (w64 (1 + (Int.tmod (w64 (x0.1)) 4)))), (35, .int .i64 (w64 (1 + (Int.tmod (w64 (x0.2.1)) 4)))), (36, .slice A1 x1.length c1), (42, .int .i64 (w64 (1 + (Int.tmod (w64 (x0.2.1)) 4)))), (47, .int .i64 (w64 (1 + (Int.tmod (w64 (x0.2.2.1)) 4)))), (48, .slice A1 x1.length c1), (54, .int .i64 (w64 (1 + (Int.tmod (w64 (x0.2.2.1)) 4)))), (59, .int .i64 (w64 (1 + (Int.tmod (w64 (x0.2.2.2)) 4)))), (60, .slice A1 x1.length c1)] ∧ Mem [] M w0 [.bx b941 [.slice none 0 0, .slice none 0 0] 42, .bx b853 [.slice none 0 0, .slice none 0 0] 42, .bx b21 [.int .u8 x0.1, .int .u8 x0.2.1, .int .u8 x0.2.2.1, .int .u8 x0.2.2.2] 50, .sl (Kd.int .i8) A1 c1 x1] w) #[true, true, true, true, true, true, true, true, true, true, true, false, true, true, true, true, true, true, true, true, true, true, true, false, true, true, true, true, true, true, true, true, true, true, true, false, true, false, true, false, false, false] 7 ?_ fun L1986 => ?_
      · rintro a1987 w1988 ⟨b853, b941, hf1989, hm1990⟩
        refine all2 11 37 (by kernel_rfl) ?_ ?_
        · refine opOf hf1989 rfl (by kernel_rfl) (aCall (fid := 36) (args := [.int .i64 (w64 (1 + (Int.tmod (w64 (x0.1)) 4))), .int .i64 (w64 (1 + (Int.tmod (w64 (x0.2.1)) 4))), .slice A1 x1.length c1, .int .i64 0]) (d := 37) hf1989 (by kernel_rfl) (by kernel_rfl) callable36 (law5_matrixOf.calls _ _ (w64 (1 + (Int.tmod (w64 (x0.1)) 4))) (w64 (1 + (Int.tmod (w64 (x0.2.1)) 4))) x1 A1 x1.length c1 rfl 0 (hm1990.give [3] [.sl (Kd.int .i8) A1 c1 x1] rfl rfl) r39 hr39) ?_)
          rintro _ w1995 a1996 ⟨A1991, c1992, A1993, c1994, rfl, hk1998⟩ hf1997
          refine ⟨.inr (Gr.still hk1998.cum.none), ?_⟩
          have hm1999 := hm1990.back hk1998
          have hm2000 := hm1999.seal 0 _ rfl rfl
          have hm2001 := hm2000.seal 1 _ rfl rfl
          exact L1677 _ _ ⟨b853, b941, A1991, c1992, A1993, c1994, hf1997.sel (l := [1, 5, 7, 30, 35, 36, 37, 42, 47, 48, 54, 59, 60]) (by kernel_rfl), hm2001.sel [2, 3, 0, 1, 4, 5] _ rfl (by kernel_rfl)⟩
        · refine opOf hf1989 rfl (by kernel_rfl) (aNew (cs := [.slice none 0 0, .slice none 0 0]) (T := 42) (d := 6) hf1989 (by kernel_rfl) (by kernel_rfl) ?_)
          intro b2002 w2003 a2004 hbb2002 hx2006 hg2007 hf2005
          refine ⟨.inr (Gr.still hg2007), ?_⟩
          have hm2008 := hm1990.box hbb2002 hx2006 hg2007
          refine all1 11 (by kernel_rfl) ?_
          refine opOf hf2005 rfl (by kernel_rfl) (aCall (fid := 36) (args := [.int .i64 (w64 (1 + (Int.tmod (w64 (x0.1)) 4))), .int .i64 (w64 (1 + (Int.tmod (w64 (x0.2.1)) 4))), .slice A1 x1.length c1, .int .i64 0]) (d := 37) hf2005 (by kernel_rfl) (by kernel_rfl) callable36 (law5_matrixOf.calls _ _ (w64 (1 + (Int.tmod (w64 (x0.1)) 4))) (w64 (1 + (Int.tmod (w64 (x0.2.1)) 4))) x1 A1 x1.length c1 rfl 0 (hm2008.give [4] [.sl (Kd.int .i8) A1 c1 x1] rfl rfl) r39 hr39) ?_)
          rintro _ w2013 a2014 ⟨A2009, c2010, A2011, c2012, rfl, hk2016⟩ hf2015
          refine ⟨.inr (Gr.still hk2016.cum.none), ?_⟩
          have hm2017 := hm2008.back hk2016
          have hm2018 := hm2017.seal 0 _ rfl rfl
          have hm2019 := hm2018.seal 1 _ rfl rfl
          refine all1 23 (by kernel_rfl) ?_
          refine opOf hf2015 rfl (by kernel_rfl) (aCall (fid := 36) (args := [.int .i64 (w64 (1 + (Int.tmod (w64 (x0.2.1)) 4))), .int .i64 (w64 (1 + (Int.tmod (w64 (x0.2.2.1)) 4))), .slice A1 x1.length c1, .int .i64 16]) (d := 49) hf2015 (by kernel_rfl) (by kernel_rfl) callable36 (law5_matrixOf.calls _ _ (w64 (1 + (Int.tmod (w64 (x0.2.1)) 4))) (w64 (1 + (Int.tmod (w64 (x0.2.2.1)) 4))) x1 A1 x1.length c1 rfl 16 (hm2019.give [6] [.sl (Kd.int .i8) A1 c1 x1] rfl rfl) r40 hr40) ?_)
          rintro _ w2024 a2025 ⟨A2020, c2021, A2022, c2023, rfl, hk2027⟩ hf2026
          refine ⟨.inr (Gr.still hk2027.cum.none), ?_⟩
          have hm2028 := hm2019.back hk2027
          have hm2029 := hm2028.seal 0 _ rfl rfl
          have hm2030 := hm2029.seal 1 _ rfl rfl
          refine all1 35 (by kernel_rfl) ?_
          refine opOf hf2026 rfl (by kernel_rfl) (aCall (fid := 36) (args := [.int .i64 (w64 (1 + (Int.tmod (w64 (x0.2.2.1)) 4))), .int .i64 (w64 (1 + (Int.tmod (w64 (x0.2.2.2)) 4))), .slice A1 x1.length c1, .int .i64 32]) (d := 61) hf2026 (by kernel_rfl) (by kernel_rfl) callable36 (law5_matrixOf.calls _ _ (w64 (1 + (Int.tmod (w64 (x0.2.2.1)) 4))) (w64 (1 + (Int.tmod (w64 (x0.2.2.2)) 4))) x1 A1 x1.length c1 rfl 32 (hm2030.give [8] [.sl (Kd.int .i8) A1 c1 x1] rfl rfl) r41 hr41) ?_)
          rintro _ w2035 a2036 ⟨A2031, c2032, A2033, c2034, rfl, hk2038⟩ hf2037
          refine ⟨.inr (Gr.still hk2038.cum.none), ?_⟩
          have hm2039 := hm2030.back hk2038
          have hm2040 := hm2039.seal 0 _ rfl rfl
          have hm2041 := hm2040.seal 1 _ rfl rfl
          refine all1 39 (by kernel_rfl) ?_
          refine opOf hf2037 rfl (by kernel_rfl) (aStoreB (b := b853) (j := 0) (T := 42) (cs := [.slice none 0 0, .slice none 0 0]) (us := [.slice A2009 r39.Shape.length c2010, .slice A2011 r39.Data.length c2012]) (cs' := [.slice A2009 r39.Shape.length c2010, .slice A2011 r39.Data.length c2012]) hf2037 (by kernel_rfl) (hm2041.bxAt 8 rfl) (by kernel_rfl) (by kernel_rfl) (by kernel_rfl) ?_)
          intro w2042 hx2043 hg2044
          refine ⟨.inl (by decide), ?_⟩
          have hm2045 := hm2041.setBox 8 _ rfl rfl hx2043 hg2044
          refine all1 40 (by kernel_rfl) ?_
          refine opOf hf2037 rfl (by kernel_rfl) (aStoreB (b := b2002) (j := 0) (T := 42) (cs := [.slice none 0 0, .slice none 0 0]) (us := [.slice A2020 r40.Shape.length c2021, .slice A2022 r40.Data.length c2023]) (cs' := [.slice A2020 r40.Shape.length c2021, .slice A2022 r40.Data.length c2023]) hf2037 (by kernel_rfl) (hm2045.bxAt 6 rfl) (by kernel_rfl) (by kernel_rfl) (by kernel_rfl) ?_)
          intro w2046 hx2047 hg2048
          refine ⟨.inl (by decide), ?_⟩
          have hm2049 := hm2045.setBox 6 _ rfl rfl hx2047 hg2048
          refine all1 41 (by kernel_rfl) ?_
          refine opOf hf2037 rfl (by kernel_rfl) (aStoreB (b := b941) (j := 0) (T := 42) (cs := [.slice none 0 0, .slice none 0 0]) (us := [.slice A2031 r41.Shape.length c2032, .slice A2033 r41.Data.length c2034]) (cs' := [.slice A2031 r41.Shape.length c2032, .slice A2033 r41.Data.length c2034]) hf2037 (by kernel_rfl) (hm2049.bxAt 7 rfl) (by kernel_rfl) (by kernel_rfl) (by kernel_rfl) ?_)
          intro w2050 hx2051 hg2052
          refine ⟨.inl (by decide), ?_⟩
          have hm2053 := hm2049.setBox 7 _ rfl rfl hx2051 hg2052
          refine allDone (by kernel_rfl) ⟨rfl, b853, b2002, b941, A2031, c2032, A2033, c2034, A2020, c2021, A2022, c2023, A2009, c2010, A2011, c2012, hf2037.sel (l := [1, 5, 6, 7]) (by kernel_rfl), hm2053.sel [7, 6, 8, 0, 1, 2, 3, 4, 5, 10] _ rfl (by kernel_rfl)⟩
      refine memoStep (R := fun (a : Act) (w : World) => ∃ (b1011 : Nat) (b1036 : Nat), Fr 138 a [(1, .slice A1 x1.length c1), (6, .pointer (some ⟨b1011, 0, none⟩)), (7, .pointer (some ⟨b1036, 0, none⟩)), (30, .int .i64 (w64 (1 + (Int.tmod (w64 (x0.1)) 4)))), (35, .int .i64 (w64 (1 + (Int.tmod (w64 (x0.2.1)) 4)))), (36, .slice A1 x1.length c1), (42, .int .i64 (w64 (1 + (Int.tmod (w64 (x0.2.1)) 4)))), (47, .int .i64 (w64 (1 + (Int.tmod (w64 (x0.2.2.1)) 4)))), (48, .slice A1 x1.length c1), (54, .int .i64 (w64 (1 + (Int.tmod (w64 (x0.2.2.1)) 4)))), (59, .int .i64 (w64 (1 + (Int.tmod (w64 (x0.2.2.2)) 4)))), (60, .slice A1 x1.length c1)] ∧ Mem [] M w0 [.bx b1036 [.slice none 0 0, .slice none 0 0] 42, .bx b1011 [.slice none 0 0, .slice none 0 0] 42, .bx b21 [.int .u8 x0.1, .int .u8 x0.2.1, .int .u8 x0.2.2.1, .int .u8 x0.2.2.2] 50, .sl (Kd.int .i8) A1 c1 x1] w) #[true, true, true, true, true, true, true, true, true, true, true, false, true, true, true, true, true, true, true, true, true, true, true, false, true, true, true, true, true, true, true, true, true, true, true, false, false, true, true, false, false, false] 7 ?_ fun L2054 => ?_
      · rintro a2055 w2056 ⟨b1011, b1036, hf2057, hm2058⟩
        refine all2 11 36 (by kernel_rfl) ?_ ?_
        · refine opOf hf2057 rfl (by kernel_rfl) (aCall (fid := 36) (args := [.int .i64 (w64 (1 + (Int.tmod (w64 (x0.1)) 4))), .int .i64 (w64 (1 + (Int.tmod (w64 (x0.2.1)) 4))), .slice A1 x1.length c1, .int .i64 0]) (d := 37) hf2057 (by kernel_rfl) (by kernel_rfl) callable36 (law5_matrixOf.calls _ _ (w64 (1 + (Int.tmod (w64 (x0.1)) 4))) (w64 (1 + (Int.tmod (w64 (x0.2.1)) 4))) x1 A1 x1.length c1 rfl 0 (hm2058.give [3] [.sl (Kd.int .i8) A1 c1 x1] rfl rfl) r39 hr39) ?_)
          rintro _ w2063 a2064 ⟨A2059, c2060, A2061, c2062, rfl, hk2066⟩ hf2065
          refine ⟨.inr (Gr.still hk2066.cum.none), ?_⟩
          have hm2067 := hm2058.back hk2066
          have hm2068 := hm2067.seal 0 _ rfl rfl
          have hm2069 := hm2068.seal 1 _ rfl rfl
          exact L1734 _ _ ⟨b1011, b1036, A2059, c2060, A2061, c2062, hf2065.sel (l := [1, 6, 7, 30, 35, 36, 37, 42, 47, 48, 54, 59, 60]) (by kernel_rfl), hm2069.sel [2, 3, 0, 1, 4, 5] _ rfl (by kernel_rfl)⟩
        · refine opOf hf2057 rfl (by kernel_rfl) (aNew (cs := [.slice none 0 0, .slice none 0 0]) (T := 42) (d := 5) hf2057 (by kernel_rfl) (by kernel_rfl) ?_)
          intro b2070 w2071 a2072 hbb2070 hx2074 hg2075 hf2073
          refine ⟨.inr (Gr.still hg2075), ?_⟩
          have hm2076 := hm2058.box hbb2070 hx2074 hg2075
          refine all1 11 (by kernel_rfl) ?_
          refine opOf hf2073 rfl (by kernel_rfl) (aCall (fid := 36) (args := [.int .i64 (w64 (1 + (Int.tmod (w64 (x0.1)) 4))), .int .i64 (w64 (1 + (Int.tmod (w64 (x0.2.1)) 4))), .slice A1 x1.length c1, .int .i64 0]) (d := 37) hf2073 (by kernel_rfl) (by kernel_rfl) callable36 (law5_matrixOf.calls _ _ (w64 (1 + (Int.tmod (w64 (x0.1)) 4))) (w64 (1 + (Int.tmod (w64 (x0.2.1)) 4))) x1 A1 x1.length c1 rfl 0 (hm2076.give [4] [.sl (Kd.int .i8) A1 c1 x1] rfl rfl) r39 hr39) ?_)
          rintro _ w2081 a2082 ⟨A2077, c2078, A2079, c2080, rfl, hk2084⟩ hf2083
          refine ⟨.inr (Gr.still hk2084.cum.none), ?_⟩
          have hm2085 := hm2076.back hk2084
          have hm2086 := hm2085.seal 0 _ rfl rfl
          have hm2087 := hm2086.seal 1 _ rfl rfl
          refine all1 23 (by kernel_rfl) ?_
          refine opOf hf2083 rfl (by kernel_rfl) (aCall (fid := 36) (args := [.int .i64 (w64 (1 + (Int.tmod (w64 (x0.2.1)) 4))), .int .i64 (w64 (1 + (Int.tmod (w64 (x0.2.2.1)) 4))), .slice A1 x1.length c1, .int .i64 16]) (d := 49) hf2083 (by kernel_rfl) (by kernel_rfl) callable36 (law5_matrixOf.calls _ _ (w64 (1 + (Int.tmod (w64 (x0.2.1)) 4))) (w64 (1 + (Int.tmod (w64 (x0.2.2.1)) 4))) x1 A1 x1.length c1 rfl 16 (hm2087.give [6] [.sl (Kd.int .i8) A1 c1 x1] rfl rfl) r40 hr40) ?_)
          rintro _ w2092 a2093 ⟨A2088, c2089, A2090, c2091, rfl, hk2095⟩ hf2094
          refine ⟨.inr (Gr.still hk2095.cum.none), ?_⟩
          have hm2096 := hm2087.back hk2095
          have hm2097 := hm2096.seal 0 _ rfl rfl
          have hm2098 := hm2097.seal 1 _ rfl rfl
          refine all1 35 (by kernel_rfl) ?_
          refine opOf hf2094 rfl (by kernel_rfl) (aCall (fid := 36) (args := [.int .i64 (w64 (1 + (Int.tmod (w64 (x0.2.2.1)) 4))), .int .i64 (w64 (1 + (Int.tmod (w64 (x0.2.2.2)) 4))), .slice A1 x1.length c1, .int .i64 32]) (d := 61) hf2094 (by kernel_rfl) (by kernel_rfl) callable36 (law5_matrixOf.calls _ _ (w64 (1 + (Int.tmod (w64 (x0.2.2.1)) 4))) (w64 (1 + (Int.tmod (w64 (x0.2.2.2)) 4))) x1 A1 x1.length c1 rfl 32 (hm2098.give [8] [.sl (Kd.int .i8) A1 c1 x1] rfl rfl) r41 hr41) ?_)
          rintro _ w2103 a2104 ⟨A2099, c2100, A2101, c2102, rfl, hk2106⟩ hf2105
          refine ⟨.inr (Gr.still hk2106.cum.none), ?_⟩
          have hm2107 := hm2098.back hk2106
          have hm2108 := hm2107.seal 0 _ rfl rfl
          have hm2109 := hm2108.seal 1 _ rfl rfl
          refine all1 39 (by kernel_rfl) ?_
          refine opOf hf2105 rfl (by kernel_rfl) (aStoreB (b := b2070) (j := 0) (T := 42) (cs := [.slice none 0 0, .slice none 0 0]) (us := [.slice A2077 r39.Shape.length c2078, .slice A2079 r39.Data.length c2080]) (cs' := [.slice A2077 r39.Shape.length c2078, .slice A2079 r39.Data.length c2080]) hf2105 (by kernel_rfl) (hm2109.bxAt 6 rfl) (by kernel_rfl) (by kernel_rfl) (by kernel_rfl) ?_)
          intro w2110 hx2111 hg2112
          refine ⟨.inl (by decide), ?_⟩
          have hm2113 := hm2109.setBox 6 _ rfl rfl hx2111 hg2112
          refine all1 40 (by kernel_rfl) ?_
          refine opOf hf2105 rfl (by kernel_rfl) (aStoreB (b := b1011) (j := 0) (T := 42) (cs := [.slice none 0 0, .slice none 0 0]) (us := [.slice A2088 r40.Shape.length c2089, .slice A2090 r40.Data.length c2091]) (cs' := [.slice A2088 r40.Shape.length c2089, .slice A2090 r40.Data.length c2091]) hf2105 (by kernel_rfl) (hm2113.bxAt 8 rfl) (by kernel_rfl) (by kernel_rfl) (by kernel_rfl) ?_)
          intro w2114 hx2115 hg2116
          refine ⟨.inl (by decide), ?_⟩
          have hm2117 := hm2113.setBox 8 _ rfl rfl hx2115 hg2116
          refine all1 41 (by kernel_rfl) ?_
          refine opOf hf2105 rfl (by kernel_rfl) (aStoreB (b := b1036) (j := 0) (T := 42) (cs := [.slice none 0 0, .slice none 0 0]) (us := [.slice A2099 r41.Shape.length c2100, .slice A2101 r41.Data.length c2102]) (cs' := [.slice A2099 r41.Shape.length c2100, .slice A2101 r41.Data.length c2102]) hf2105 (by kernel_rfl) (hm2117.bxAt 7 rfl) (by kernel_rfl) (by kernel_rfl) (by kernel_rfl) ?_)
          intro w2118 hx2119 hg2120
          refine ⟨.inl (by decide), ?_⟩
          have hm2121 := hm2117.setBox 7 _ rfl rfl hx2119 hg2120
          refine allDone (by kernel_rfl) ⟨rfl, b2070, b1011, b1036, A2099, c2100, A2101, c2102, A2088, c2089, A2090, c2091, A2077, c2078, A2079, c2080, hf2105.sel (l := [1, 5, 6, 7]) (by kernel_rfl), hm2121.sel [7, 8, 6, 0, 1, 2, 3, 4, 5, 10] _ rfl (by kernel_rfl)⟩
      refine memoStep (R := fun (a : Act) (w : World) => ∃ (A115 : Option Addr) (c116 : Nat) (A117 : Option Addr) (c118 : Nat), Fr 138 a [(1, .slice A1 x1.length c1), (30, .int .i64 (w64 (1 + (Int.tmod (w64 (x0.1)) 4)))), (35, .int .i64 (w64 (1 + (Int.tmod (w64 (x0.2.1)) 4)))), (36, .slice A1 x1.length c1), (37, .agg #[.slice A115 r39.Shape.length c116, .slice A117 r39.Data.length c118]), (42, .int .i64 (w64 (1 + (Int.tmod (w64 (x0.2.1)) 4)))), (47, .int .i64 (w64 (1 + (Int.tmod (w64 (x0.2.2.1)) 4)))), (48, .slice A1 x1.length c1), (54, .int .i64 (w64 (1 + (Int.tmod (w64 (x0.2.2.1)) 4)))), (59, .int .i64 (w64 (1 + (Int.tmod (w64 (x0.2.2.2)) 4)))), (60, .slice A1 x1.length c1)] ∧ Mem [] M w0 [.sl (Kd.int .i64) A115 c116 r39.Shape, .sl Kd.float A117 c118 r39.Data, .bx b21 [.int .u8 x0.1, .int .u8 x0.2.1, .int .u8 x0.2.2.1, .int .u8 x0.2.2.2] 50, .sl (Kd.int .i8) A1 c1 x1] w) #[true, true, true, true, true, true, true, true, true, true, true, true, true, true, true, true, true, true, true, true, true, true, true, false, true, true, true, true, true, true, true, true, true, true, true, false, false, false, false, false, false, false] 8 ?_ fun L2122 => ?_
      · rintro a2123 w2124 ⟨A115, c116, A117, c118, hf2125, hm2126⟩
        refine all4 23 36 37 38 (by kernel_rfl) ?_ ?_ ?_ ?_
        · refine opOf hf2125 rfl (by kernel_rfl) (aCall (fid := 36) (args := [.int .i64 (w64 (1 + (Int.tmod (w64 (x0.2.1)) 4))), .int .i64 (w64 (1 + (Int.tmod (w64 (x0.2.2.1)) 4))), .slice A1 x1.length c1, .int .i64 16]) (d := 49) hf2125 (by kernel_rfl) (by kernel_rfl) callable36 (law5_matrixOf.calls _ _ (w64 (1 + (Int.tmod (w64 (x0.2.1)) 4))) (w64 (1 + (Int.tmod (w64 (x0.2.2.1)) 4))) x1 A1 x1.length c1 rfl 16 (hm2126.give [3] [.sl (Kd.int .i8) A1 c1 x1] rfl rfl) r40 hr40) ?_)
          rintro _ w2131 a2132 ⟨A2127, c2128, A2129, c2130, rfl, hk2134⟩ hf2133
          refine ⟨.inr (Gr.still hk2134.cum.none), ?_⟩
          have hm2135 := hm2126.back hk2134
          have hm2136 := hm2135.seal 0 _ rfl rfl
          have hm2137 := hm2136.seal 1 _ rfl rfl
          exact L1791 _ _ ⟨A115, c116, A117, c118, A2127, c2128, A2129, c2130, hf2133.sel (l := [1, 30, 35, 36, 37, 42, 47, 48, 49, 54, 59, 60]) (by kernel_rfl), hm2137.sel [0, 1, 2, 3, 4, 5] _ rfl (by kernel_rfl)⟩
        · refine opOf hf2125 rfl (by kernel_rfl) (aNew (cs := [.slice none 0 0, .slice none 0 0]) (T := 42) (d := 5) hf2125 (by kernel_rfl) (by kernel_rfl) ?_)
          intro b2138 w2139 a2140 hbb2138 hx2142 hg2143 hf2141
          refine ⟨.inr (Gr.still hg2143), ?_⟩
          have hm2144 := hm2126.box hbb2138 hx2142 hg2143
          exact L1828 _ _ ⟨b2138, A115, c116, A117, c118, hf2141.sel (l := [1, 5, 30, 35, 36, 37, 42, 47, 48, 54, 59, 60]) (by kernel_rfl), hm2144.sel [0, 1, 2, 3, 4] _ rfl (by kernel_rfl)⟩
        · refine opOf hf2125 rfl (by kernel_rfl) (aNew (cs := [.slice none 0 0, .slice none 0 0]) (T := 42) (d := 6) hf2125 (by kernel_rfl) (by kernel_rfl) ?_)
          intro b2145 w2146 a2147 hbb2145 hx2149 hg2150 hf2148
          refine ⟨.inr (Gr.still hg2150), ?_⟩
          have hm2151 := hm2126.box hbb2145 hx2149 hg2150
          exact L1858 _ _ ⟨b2145, A115, c116, A117, c118, hf2148.sel (l := [1, 6, 30, 35, 36, 37, 42, 47, 48, 54, 59, 60]) (by kernel_rfl), hm2151.sel [0, 1, 2, 3, 4] _ rfl (by kernel_rfl)⟩
        · refine opOf hf2125 rfl (by kernel_rfl) (aNew (cs := [.slice none 0 0, .slice none 0 0]) (T := 42) (d := 7) hf2125 (by kernel_rfl) (by kernel_rfl) ?_)
          intro b2152 w2153 a2154 hbb2152 hx2156 hg2157 hf2155
          refine ⟨.inr (Gr.still hg2157), ?_⟩
          have hm2158 := hm2126.box hbb2152 hx2156 hg2157
          exact L1888 _ _ ⟨b2152, A115, c116, A117, c118, hf2155.sel (l := [1, 7, 30, 35, 36, 37, 42, 47, 48, 54, 59, 60]) (by kernel_rfl), hm2158.sel [0, 1, 2, 3, 4] _ rfl (by kernel_rfl)⟩
      refine memoStep (R := fun (a : Act) (w : World) => ∃ (b853 : Nat), Fr 138 a [(1, .slice A1 x1.length c1), (5, .pointer (some ⟨b853, 0, none⟩)), (30, .int .i64 (w64 (1 + (Int.tmod (w64 (x0.1)) 4)))), (35, .int .i64 (w64 (1 + (Int.tmod (w64 (x0.2.1)) 4)))), (36, .slice A1 x1.length c1), (42, .int .i64 (w64 (1 + (Int.tmod (w64 (x0.2.1)) 4)))), (47, .int .i64 (w64 (1 + (Int.tmod (w64 (x0.2.2.1)) 4)))), (48, .slice A1 x1.length c1), (54, .int .i64 (w64 (1 + (Int.tmod (w64 (x0.2.2.1)) 4)))), (59, .int .i64 (w64 (1 + (Int.tmod (w64 (x0.2.2.2)) 4)))), (60, .slice A1 x1.length c1)] ∧ Mem [] M w0 [.bx b853 [.slice none 0 0, .slice none 0 0] 42, .bx b21 [.int .u8 x0.1, .int .u8 x0.2.1, .int .u8 x0.2.2.1, .int .u8 x0.2.2.2] 50, .sl (Kd.int .i8) A1 c1 x1] w) #[true, true, true, true, true, true, true, true, true, true, true, false, true, true, true, true, true, true, true, true, true, true, true, false, true, true, true, true, true, true, true, true, true, true, true, false, true, false, false, false, false, false] 8 ?_ fun L2159 => ?_
      · rintro a2160 w2161 ⟨b853, hf2162, hm2163⟩
        refine all3 11 37 38 (by kernel_rfl) ?_ ?_ ?_
        · refine opOf hf2162 rfl (by kernel_rfl) (aCall (fid := 36) (args := [.int .i64 (w64 (1 + (Int.tmod (w64 (x0.1)) 4))), .int .i64 (w64 (1 + (Int.tmod (w64 (x0.2.1)) 4))), .slice A1 x1.length c1, .int .i64 0]) (d := 37) hf2162 (by kernel_rfl) (by kernel_rfl) callable36 (law5_matrixOf.calls _ _ (w64 (1 + (Int.tmod (w64 (x0.1)) 4))) (w64 (1 + (Int.tmod (w64 (x0.2.1)) 4))) x1 A1 x1.length c1 rfl 0 (hm2163.give [2] [.sl (Kd.int .i8) A1 c1 x1] rfl rfl) r39 hr39) ?_)
          rintro _ w2168 a2169 ⟨A2164, c2165, A2166, c2167, rfl, hk2171⟩ hf2170
          refine ⟨.inr (Gr.still hk2171.cum.none), ?_⟩
          have hm2172 := hm2163.back hk2171
          have hm2173 := hm2172.seal 0 _ rfl rfl
          have hm2174 := hm2173.seal 1 _ rfl rfl
          exact L1828 _ _ ⟨b853, A2164, c2165, A2166, c2167, hf2170.sel (l := [1, 5, 30, 35, 36, 37, 42, 47, 48, 54, 59, 60]) (by kernel_rfl), hm2174.sel [2, 0, 1, 3, 4] _ rfl (by kernel_rfl)⟩
        · refine opOf hf2162 rfl (by kernel_rfl) (aNew (cs := [.slice none 0 0, .slice none 0 0]) (T := 42) (d := 6) hf2162 (by kernel_rfl) (by kernel_rfl) ?_)
          intro b2175 w2176 a2177 hbb2175 hx2179 hg2180 hf2178
          refine ⟨.inr (Gr.still hg2180), ?_⟩
          have hm2181 := hm2163.box hbb2175 hx2179 hg2180
          exact L1918 _ _ ⟨b853, b2175, hf2178.sel (l := [1, 5, 6, 30, 35, 36, 42, 47, 48, 54, 59, 60]) (by kernel_rfl), hm2181.sel [0, 1, 2, 3] _ rfl (by kernel_rfl)⟩
        · refine opOf hf2162 rfl (by kernel_rfl) (aNew (cs := [.slice none 0 0, .slice none 0 0]) (T := 42) (d := 7) hf2162 (by kernel_rfl) (by kernel_rfl) ?_)
          intro b2182 w2183 a2184 hbb2182 hx2186 hg2187 hf2185
          refine ⟨.inr (Gr.still hg2187), ?_⟩
          have hm2188 := hm2163.box hbb2182 hx2186 hg2187
          exact L1986 _ _ ⟨b853, b2182, hf2185.sel (l := [1, 5, 7, 30, 35, 36, 42, 47, 48, 54, 59, 60]) (by kernel_rfl), hm2188.sel [0, 1, 2, 3] _ rfl (by kernel_rfl)⟩
      refine memoStep (R := fun (a : Act) (w : World) => ∃ (b1011 : Nat), Fr 138 a [(1, .slice A1 x1.length c1), (6, .pointer (some ⟨b1011, 0, none⟩)), (30, .int .i64 (w64 (1 + (Int.tmod (w64 (x0.1)) 4)))), (35, .int .i64 (w64 (1 + (Int.tmod (w64 (x0.2.1)) 4)))), (36, .slice A1 x1.length c1), (42, .int .i64 (w64 (1 + (Int.tmod (w64 (x0.2.1)) 4)))), (47, .int .i64 (w64 (1 + (Int.tmod (w64 (x0.2.2.1)) 4)))), (48, .slice A1 x1.length c1), (54, .int .i64 (w64 (1 + (Int.tmod (w64 (x0.2.2.1)) 4)))), (59, .int .i64 (w64 (1 + (Int.tmod (w64 (x0.2.2.2)) 4)))), (60, .slice A1 x1.length c1)] ∧ Mem [] M w0 [.bx b1011 [.slice none 0 0, .slice none 0 0] 42, .bx b21 [.int .u8 x0.1, .int .u8 x0.2.1, .int .u8 x0.2.2.1, .int .u8 x0.2.2.2] 50, .sl (Kd.int .i8) A1 c1 x1] w) #[true, true, true, true, true, true, true, true, true, true, true, false, true, true, true, true, true, true, true, true, true, true, true, false, true, true, true, true, true, true, true, true, true, true, true, false, false, true, false, false, false, false] 8 ?_ fun L2189 => ?_
      · rintro a2190 w2191 ⟨b1011, hf2192, hm2193⟩
        refine all3 11 36 38 (by kernel_rfl) ?_ ?_ ?_
        · refine opOf hf2192 rfl (by kernel_rfl) (aCall (fid := 36) (args := [.int .i64 (w64 (1 + (Int.tmod (w64 (x0.1)) 4))), .int .i64 (w64 (1 + (Int.tmod (w64 (x0.2.1)) 4))), .slice A1 x1.length c1, .int .i64 0]) (d := 37) hf2192 (by kernel_rfl) (by kernel_rfl) callable36 (law5_matrixOf.calls _ _ (w64 (1 + (Int.tmod (w64 (x0.1)) 4))) (w64 (1 + (Int.tmod (w64 (x0.2.1)) 4))) x1 A1 x1.length c1 rfl 0 (hm2193.give [2] [.sl (Kd.int .i8) A1 c1 x1] rfl rfl) r39 hr39) ?_)
          rintro _ w2198 a2199 ⟨A2194, c2195, A2196, c2197, rfl, hk2201⟩ hf2200
          refine ⟨.inr (Gr.still hk2201.cum.none), ?_⟩
          have hm2202 := hm2193.back hk2201
          have hm2203 := hm2202.seal 0 _ rfl rfl
          have hm2204 := hm2203.seal 1 _ rfl rfl
          exact L1858 _ _ ⟨b1011, A2194, c2195, A2196, c2197, hf2200.sel (l := [1, 6, 30, 35, 36, 37, 42, 47, 48, 54, 59, 60]) (by kernel_rfl), hm2204.sel [2, 0, 1, 3, 4] _ rfl (by kernel_rfl)⟩
        · refine opOf hf2192 rfl (by kernel_rfl) (aNew (cs := [.slice none 0 0, .slice none 0 0]) (T := 42) (d := 5) hf2192 (by kernel_rfl) (by kernel_rfl) ?_)
          intro b2205 w2206 a2207 hbb2205 hx2209 hg2210 hf2208
          refine ⟨.inr (Gr.still hg2210), ?_⟩
          have hm2211 := hm2193.box hbb2205 hx2209 hg2210
          exact L1918 _ _ ⟨b2205, b1011, hf2208.sel (l := [1, 5, 6, 30, 35, 36, 42, 47, 48, 54, 59, 60]) (by kernel_rfl), hm2211.sel [1, 0, 2, 3] _ rfl (by kernel_rfl)⟩
        · refine opOf hf2192 rfl (by kernel_rfl) (aNew (cs := [.slice none 0 0, .slice none 0 0]) (T := 42) (d := 7) hf2192 (by kernel_rfl) (by kernel_rfl) ?_)
          intro b2212 w2213 a2214 hbb2212 hx2216 hg2217 hf2215
          refine ⟨.inr (Gr.still hg2217), ?_⟩
          have hm2218 := hm2193.box hbb2212 hx2216 hg2217
          exact L2054 _ _ ⟨b1011, b2212, hf2215.sel (l := [1, 6, 7, 30, 35, 36, 42, 47, 48, 54, 59, 60]) (by kernel_rfl), hm2218.sel [0, 1, 2, 3] _ rfl (by kernel_rfl)⟩
      refine memoStep (R := fun (a : Act) (w : World) => ∃ (b1106 : Nat), Fr 138 a [(1, .slice A1 x1.length c1), (7, .pointer (some ⟨b1106, 0, none⟩)), (30, .int .i64 (w64 (1 + (Int.tmod (w64 (x0.1)) 4)))), (35, .int .i64 (w64 (1 + (Int.tmod (w64 (x0.2.1)) 4)))), (36, .slice A1 x1.length c1), (42, .int .i64 (w64 (1 + (Int.tmod (w64 (x0.2.1)) 4)))), (47, .int .i64 (w64 (1 + (Int.tmod (w64 (x0.2.2.1)) 4)))), (48, .slice A1 x1.length c1), (54, .int .i64 (w64 (1 + (Int.tmod (w64 (x0.2.2.1)) 4)))), (59, .int .i64 (w64 (1 + (Int.tmod (w64 (x0.2.2.2)) 4)))), (60, .slice A1 x1.length c1)] ∧ Mem [] M w0 [.bx b1106 [.slice none 0 0, .slice none 0 0] 42, .bx b21 [.int .u8 x0.1, .int .u8 x0.2.1, .int .u8 x0.2.2.1, .int .u8 x0.2.2.2] 50, .sl (Kd.int .i8) A1 c1 x1] w) #[true, true, true, true, true, true, true, true, true, true, true, false, true, true, true, true, true, true, true, true, true, true, true, false, true, true, true, true, true, true, true, true, true, true, true, false, false, false, true, false, false, false] 8 ?_ fun L2219 => ?_
      · rintro a2220 w2221 ⟨b1106, hf2222, hm2223⟩
        refine all3 11 36 37 (by kernel_rfl) ?_ ?_ ?_
        · refine opOf hf2222 rfl (by kernel_rfl) (aCall (fid := 36) (args := [.int .i64 (w64 (1 + (Int.tmod (w64 (x0.1)) 4))), .int .i64 (w64 (1 + (Int.tmod (w64 (x0.2.1)) 4))), .slice A1 x1.length c1, .int .i64 0]) (d := 37) hf2222 (by kernel_rfl) (by kernel_rfl) callable36 (law5_matrixOf.calls _ _ (w64 (1 + (Int.tmod (w64 (x0.1)) 4))) (w64 (1 + (Int.tmod (w64 (x0.2.1)) 4))) x1 A1 x1.length c1 rfl 0 (hm2223.give [2] [.sl (Kd.int .i8) A1 c1 x1] rfl rfl) r39 hr39) ?_)
          rintro _ w2228 a2229 ⟨A2224, c2225, A2226, c2227, rfl, hk2231⟩ hf2230
          refine ⟨.inr (Gr.still hk2231.cum.none), ?_⟩
          have hm2232 := hm2223.back hk2231
          have hm2233 := hm2232.seal 0 _ rfl rfl
          have hm2234 := hm2233.seal 1 _ rfl rfl
          exact L1888 _ _ ⟨b1106, A2224, c2225, A2226, c2227, hf2230.sel (l := [1, 7, 30, 35, 36, 37, 42, 47, 48, 54, 59, 60]) (by kernel_rfl), hm2234.sel [2, 0, 1, 3, 4] _ rfl (by kernel_rfl)⟩
        · refine opOf hf2222 rfl (by kernel_rfl) (aNew (cs := [.slice none 0 0, .slice none 0 0]) (T := 42) (d := 5) hf2222 (by kernel_rfl) (by kernel_rfl) ?_)
          intro b2235 w2236 a2237 hbb2235 hx2239 hg2240 hf2238
          refine ⟨.inr (Gr.still hg2240), ?_⟩
          have hm2241 := hm2223.box hbb2235 hx2239 hg2240
          exact L1986 _ _ ⟨b2235, b1106, hf2238.sel (l := [1, 5, 7, 30, 35, 36, 42, 47, 48, 54, 59, 60]) (by kernel_rfl), hm2241.sel [1, 0, 2, 3] _ rfl (by kernel_rfl)⟩
        · refine opOf hf2222 rfl (by kernel_rfl) (aNew (cs := [.slice none 0 0, .slice none 0 0]) (T := 42) (d := 6) hf2222 (by kernel_rfl) (by kernel_rfl) ?_)
          intro b2242 w2243 a2244 hbb2242 hx2246 hg2247 hf2245
          refine ⟨.inr (Gr.still hg2247), ?_⟩
          have hm2248 := hm2223.box hbb2242 hx2246 hg2247
          exact L2054 _ _ ⟨b2242, b1106, hf2245.sel (l := [1, 6, 7, 30, 35, 36, 42, 47, 48, 54, 59, 60]) (by kernel_rfl), hm2248.sel [1, 0, 2, 3] _ rfl (by kernel_rfl)⟩
      refine memoStep (R := fun (a : Act) (w : World) => Fr 138 a [(1, .slice A1 x1.length c1), (30, .int .i64 (w64 (1 + (Int.tmod (w64 (x0.1)) 4)))), (35, .int .i64 (w64 (1 + (Int.tmod (w64 (x0.2.1)) 4)))), (36, .slice A1 x1.length c1), (42, .int .i64 (w64 (1 + (Int.tmod (w64 (x0.2.1)) 4)))), (47, .int .i64 (w64 (1 + (Int.tmod (w64 (x0.2.2.1)) 4)))), (48, .slice A1 x1.length c1), (54, .int .i64 (w64 (1 + (Int.tmod (w64 (x0.2.2.1)) 4)))), (59, .int .i64 (w64 (1 + (Int.tmod (w64 (x0.2.2.2)) 4)))), (60, .slice A1 x1.length c1)] ∧ Mem [] M w0 [.bx b21 [.int .u8 x0.1, .int .u8 x0.2.1, .int .u8 x0.2.2.1, .int .u8 x0.2.2.2] 50, .sl (Kd.int .i8) A1 c1 x1] w) #[true, true, true, true, true, true, true, true, true, true, true, false, true, true, true, true, true, true, true, true, true, true, true, false, true, true, true, true, true, true, true, true, true, true, true, false, false, false, false, false, false, false] 9 ?_ fun L2249 => ?_
      · rintro a2250 w2251 ⟨hf2252, hm2253⟩
        refine all4 11 36 37 38 (by kernel_rfl) ?_ ?_ ?_ ?_
        · refine opOf hf2252 rfl (by kernel_rfl) (aCall (fid := 36) (args := [.int .i64 (w64 (1 + (Int.tmod (w64 (x0.1)) 4))), .int .i64 (w64 (1 + (Int.tmod (w64 (x0.2.1)) 4))), .slice A1 x1.length c1, .int .i64 0]) (d := 37) hf2252 (by kernel_rfl) (by kernel_rfl) callable36 (law5_matrixOf.calls _ _ (w64 (1 + (Int.tmod (w64 (x0.1)) 4))) (w64 (1 + (Int.tmod (w64 (x0.2.1)) 4))) x1 A1 x1.length c1 rfl 0 (hm2253.give [1] [.sl (Kd.int .i8) A1 c1 x1] rfl rfl) r39 hr39) ?_)
          rintro _ w2258 a2259 ⟨A2254, c2255, A2256, c2257, rfl, hk2261⟩ hf2260
          refine ⟨.inr (Gr.still hk2261.cum.none), ?_⟩
          have hm2262 := hm2253.back hk2261
          have hm2263 := hm2262.seal 0 _ rfl rfl
          have hm2264 := hm2263.seal 1 _ rfl rfl
          exact L2122 _ _ ⟨A2254, c2255, A2256, c2257, hf2260.sel (l := [1, 30, 35, 36, 37, 42, 47, 48, 54, 59, 60]) (by kernel_rfl), hm2264.sel [0, 1, 2, 3] _ rfl (by kernel_rfl)⟩
        · refine opOf hf2252 rfl (by kernel_rfl) (aNew (cs := [.slice none 0 0, .slice none 0 0]) (T := 42) (d := 5) hf2252 (by kernel_rfl) (by kernel_rfl) ?_)
          intro b2265 w2266 a2267 hbb2265 hx2269 hg2270 hf2268
          refine ⟨.inr (Gr.still hg2270), ?_⟩
          have hm2271 := hm2253.box hbb2265 hx2269 hg2270
          exact L2159 _ _ ⟨b2265, hf2268.sel (l := [1, 5, 30, 35, 36, 42, 47, 48, 54, 59, 60]) (by kernel_rfl), hm2271.sel [0, 1, 2] _ rfl (by kernel_rfl)⟩
        · refine opOf hf2252 rfl (by kernel_rfl) (aNew (cs := [.slice none 0 0, .slice none 0 0]) (T := 42) (d := 6) hf2252 (by kernel_rfl) (by kernel_rfl) ?_)
          intro b2272 w2273 a2274 hbb2272 hx2276 hg2277 hf2275
          refine ⟨.inr (Gr.still hg2277), ?_⟩
          have hm2278 := hm2253.box hbb2272 hx2276 hg2277
          exact L2189 _ _ ⟨b2272, hf2275.sel (l := [1, 6, 30, 35, 36, 42, 47, 48, 54, 59, 60]) (by kernel_rfl), hm2278.sel [0, 1, 2] _ rfl (by kernel_rfl)⟩
        · refine opOf hf2252 rfl (by kernel_rfl) (aNew (cs := [.slice none 0 0, .slice none 0 0]) (T := 42) (d := 7) hf2252 (by kernel_rfl) (by kernel_rfl) ?_)
          intro b2279 w2280 a2281 hbb2279 hx2283 hg2284 hf2282
          refine ⟨.inr (Gr.still hg2284), ?_⟩
          have hm2285 := hm2253.box hbb2279 hx2283 hg2284
          exact L2219 _ _ ⟨b2279, hf2282.sel (l := [1, 7, 30, 35, 36, 42, 47, 48, 54, 59, 60]) (by kernel_rfl), hm2285.sel [0, 1, 2] _ rfl (by kernel_rfl)⟩
      refine quiet0 [0, 1, 2, 3, 4, 5, 6, 7, 8, 9, 10, 12, 13, 14, 15, 16, 17, 18, 19, 20, 21, 22, 24, 25, 26, 27, 28, 29, 30, 31, 32, 33, 34] [.int .u8 x0.1, .int .u8 x0.2.1, .int .u8 x0.2.1, .int .u8 x0.2.2.1, .int .u8 x0.2.2.1, .int .u8 x0.2.2.2] [1, 30, 35, 36, 42, 47, 48, 54, 59, 60] #[true, true, true, true, true, true, true, true, true, true, true, false, true, true, true, true, true, true, true, true, true, true, true, false, true, true, true, true, true, true, true, true, true, true, true, false, false, false, false, false, false, false] [(1, .slice A1 x1.length c1), (30, .int .i64 (w64 (1 + (Int.tmod (w64 (x0.1)) 4)))), (35, .int .i64 (w64 (1 + (Int.tmod (w64 (x0.2.1)) 4)))), (36, .slice A1 x1.length c1), (42, .int .i64 (w64 (1 + (Int.tmod (w64 (x0.2.1)) 4)))), (47, .int .i64 (w64 (1 + (Int.tmod (w64 (x0.2.2.1)) 4)))), (48, .slice A1 x1.length c1), (54, .int .i64 (w64 (1 + (Int.tmod (w64 (x0.2.2.1)) 4)))), (59, .int .i64 (w64 (1 + (Int.tmod (w64 (x0.2.2.2)) 4)))), (60, .slice A1 x1.length c1)] [.is ((0 : Int) ≤ 0 ∧ 0 < (4 : Int)), .cell ⟨b21, 0, none⟩ (.int .u8 x0.1), .is ((4 : Int) ≠ 0), .is ((0 : Int) ≤ 1 ∧ 1 < (4 : Int)), .cell ⟨b21, 1, none⟩ (.int .u8 x0.2.1), .is ((4 : Int) ≠ 0), .is ((0 : Int) ≤ 1 ∧ 1 < (4 : Int)), .cell ⟨b21, 1, none⟩ (.int .u8 x0.2.1), .is ((4 : Int) ≠ 0), .is ((0 : Int) ≤ 2 ∧ 2 < (4 : Int)), .cell ⟨b21, 2, none⟩ (.int .u8 x0.2.2.1), .is ((4 : Int) ≠ 0), .is ((0 : Int) ≤ 2 ∧ 2 < (4 : Int)), .cell ⟨b21, 2, none⟩ (.int .u8 x0.2.2.1), .is ((4 : Int) ≠ 0), .is ((0 : Int) ≤ 3 ∧ 3 < (4 : Int)), .cell ⟨b21, 3, none⟩ (.int .u8 x0.2.2.2), .is ((4 : Int) ≠ 0)] 9 rfl (by kernel_rfl) (fun _ _ _ _ _ h => nomatch h.1) hf38 (by kernel_rfl) ⟨(okIs (by decide)), (hm112.cell 0 rfl rfl), (okIs (by decide)), (okIs (by decide)), (hm112.cell 0 rfl rfl), (okIs (by decide)), (okIs (by decide)), (hm112.cell 0 rfl rfl), (okIs (by decide)), (okIs (by decide)), (hm112.cell 0 rfl rfl), (okIs (by decide)), (okIs (by decide)), (hm112.cell 0 rfl rfl), (okIs (by decide)), (okIs (by decide)), (hm112.cell 0 rfl rfl), (okIs (by decide)), trivial⟩ fun a2286 hf2287 => ?_
      exact L2249 _ _ ⟨hf2287.sel (l := [1, 30, 35, 36, 42, 47, 48, 54, 59, 60]) (by kernel_rfl), hm112.sel [0, 1] _ rfl (by kernel_rfl)⟩
    rintro a2288 w2289 ⟨b76, b83, b90, A65, c66, A67, c68, A53, c54, A55, c56, A42, c43, A44, c45, hf2290, hm2291⟩
    refine thenN ?_
    refine wp_seq ?_
    refine wp_seq ?_
    rcases if_split H0 with ⟨c2292, H0⟩ | ⟨c2292, H0⟩
    · refine reg [.bool true] [5, 6, 7, 64] [(5, .pointer (some ⟨b76, 0, none⟩)), (6, .pointer (some ⟨b83, 0, none⟩)), (7, .pointer (some ⟨b90, 0, none⟩)), (64, .bool true)] [.is (decide (300 < (x1.length : Int)) = true)] hf2290 (by kernel_rfl) ⟨(decide_eq_true c2292), trivial⟩ fun a2293 hf2294 => ?_
      have hm2295 := hm2291.sel [0, 1, 2, 3, 4, 5, 6, 7, 8] _ rfl (by kernel_rfl)
      refine thenN ?_
      refine condT hf2294 (by kernel_rfl) ?_
      refine wp_seq ?_
      refine reg [] [4] [(4, .bool true)] [] hf2294 (by kernel_rfl) trivial fun a2296 hf2297 => ?_
      have hm2298 := hm2295.sel [] _ rfl (by kernel_rfl)
      refine thenN ?_
      refine wp_ret ?_
      refine thenR ?_
      have hm2299 : Mem [] M w0 [] w2289 := hm2298.sel [] _ rfl (by kernel_rfl)
      obtain rfl := Option.some.inj H0
      refine ret [] [.bool true] [] hf2297 (by kernel_rfl) trivial ?_
      exact ⟨_, rfl, rfl, hm2299⟩
    · refine reg [.bool false] [5, 6, 7, 64] [(5, .pointer (some ⟨b76, 0, none⟩)), (6, .pointer (some ⟨b83, 0, none⟩)), (7, .pointer (some ⟨b90, 0, none⟩)), (64, .bool false)] [.is (decide (300 < (x1.length : Int)) = false)] hf2290 (by kernel_rfl) ⟨(decide_eq_false c2292), trivial⟩ fun a2301 hf2302 => ?_
      have hm2303 := hm2291.sel [0, 1, 2, 3, 4, 5, 6, 7, 8] _ rfl (by kernel_rfl)
      refine thenN ?_
      refine condF hf2302 (by kernel_rfl) ?_
      refine wp_skip ?_
      refine thenN ?_
      refine wp_seq ?_
      obtain ⟨r2304, hr2304, H0⟩ := ob_split H0
      refine inReg ?_
      refine go 2 [.agg #[.slice A42 r39.Shape.length c43, .slice A44 r39.Data.length c45], .agg #[.slice A53 r40.Shape.length c54, .slice A55 r40.Data.length c56]] [5, 6, 7, 66, 67] [(5, .pointer (some ⟨b76, 0, none⟩)), (6, .pointer (some ⟨b83, 0, none⟩)), (7, .pointer (some ⟨b90, 0, none⟩)), (66, .agg #[.slice A42 r39.Shape.length c43, .slice A44 r39.Data.length c45]), (67, .agg #[.slice A53 r40.Shape.length c54, .slice A55 r40.Data.length c56])] [.cell ⟨b76, 0, none⟩ (.slice A42 r39.Shape.length c43), .cell ⟨b76, 1, none⟩ (.slice A44 r39.Data.length c45), .cell ⟨b83, 0, none⟩ (.slice A53 r40.Shape.length c54), .cell ⟨b83, 1, none⟩ (.slice A55 r40.Data.length c56)] hf2302 (by kernel_rfl) ⟨(hm2303.cell 2 rfl rfl), (hm2303.cell 2 rfl rfl), (hm2303.cell 1 rfl rfl), (hm2303.cell 1 rfl rfl), trivial⟩ fun a2305 hf2306 => ?_
      refine listOf hf2306 rfl (by kernel_rfl) (aCall (fid := 34) (args := [.agg #[.slice A42 r39.Shape.length c43, .slice A44 r39.Data.length c45], .agg #[.slice A53 r40.Shape.length c54, .slice A55 r40.Data.length c56]]) (d := 68) hf2306 (by kernel_rfl) (by kernel_rfl) callable34 (matrix_Mul.calls _ _ r39 A42 r39.Shape.length c43 rfl A44 r39.Data.length c45 rfl r40 A53 r40.Shape.length c54 rfl A55 r40.Data.length c56 rfl (hm2303.give [7, 8, 5, 6] [.sl (Kd.int .i64) A42 c43 r39.Shape, .sl Kd.float A44 c45 r39.Data, .sl (Kd.int .i64) A53 c54 r40.Shape, .sl Kd.float A55 c56 r40.Data] rfl rfl) r2304 hr2304) ?_)
      rintro _ w2311 a2312 ⟨A2307, c2308, A2309, c2310, rfl, hk2314⟩ hf2313
      have hm2315 := hm2303.back hk2314
      have hm2316 := hm2315.seal 0 _ rfl rfl
      have hm2317 := hm2316.seal 1 _ rfl rfl
      refine go 3 [] [5, 6, 7, 69, 70] [(5, .pointer (some ⟨b76, 0, none⟩)), (6, .pointer (some ⟨b83, 0, none⟩)), (7, .pointer (some ⟨b90, 0, none⟩)), (69, .agg #[.slice A2307 r2304.1.Shape.length c2308, .slice A2309 r2304.1.Data.length c2310]), (70, .int .i64 r2304.2)] [] hf2313 (by kernel_rfl) trivial fun a2318 hf2319 => ?_
      refine listOf hf2319 rfl (by kernel_rfl) (aNew (cs := [.slice none 0 0, .slice none 0 0]) (T := 42) (d := 8) hf2319 (by kernel_rfl) (by kernel_rfl) ?_)
      intro b2320 w2321 a2322 hbb2320 hx2324 hg2325 hf2323
      have hm2326 := hm2317.box hbb2320 hx2324 hg2325
      refine listOf hf2323 rfl (by kernel_rfl) (aStoreB (b := b2320) (j := 0) (T := 42) (cs := [.slice none 0 0, .slice none 0 0]) (us := [.slice A2307 r2304.1.Shape.length c2308, .slice A2309 r2304.1.Data.length c2310]) (cs' := [.slice A2307 r2304.1.Shape.length c2308, .slice A2309 r2304.1.Data.length c2310]) hf2323 (by kernel_rfl) (hm2326.bxAt 0 rfl) (by kernel_rfl) (by kernel_rfl) (by kernel_rfl) ?_)
      intro w2327 hx2328 hg2329
      have hm2330 := hm2326.setBox 0 _ rfl rfl hx2328 hg2329
      refine go 1 [] [5, 6, 7, 8, 9] [(5, .pointer (some ⟨b76, 0, none⟩)), (6, .pointer (some ⟨b83, 0, none⟩)), (7, .pointer (some ⟨b90, 0, none⟩)), (8, .pointer (some ⟨b2320, 0, none⟩)), (9, .int .i64 r2304.2)] [] hf2323 (by kernel_rfl) trivial fun a2331 hf2332 => ?_
      refine endL rfl ?_
      refine thenN ?_
      refine wp_seq ?_
      obtain ⟨r2333, hr2333, H0⟩ := ob_split H0
      refine inReg ?_
      refine go 2 [.agg #[.slice A53 r40.Shape.length c54, .slice A55 r40.Data.length c56], .agg #[.slice A65 r41.Shape.length c66, .slice A67 r41.Data.length c68]] [5, 6, 7, 8, 9, 72, 73] [(5, .pointer (some ⟨b76, 0, none⟩)), (6, .pointer (some ⟨b83, 0, none⟩)), (7, .pointer (some ⟨b90, 0, none⟩)), (8, .pointer (some ⟨b2320, 0, none⟩)), (9, .int .i64 r2304.2), (72, .agg #[.slice A53 r40.Shape.length c54, .slice A55 r40.Data.length c56]), (73, .agg #[.slice A65 r41.Shape.length c66, .slice A67 r41.Data.length c68])] [.cell ⟨b83, 0, none⟩ (.slice A53 r40.Shape.length c54), .cell ⟨b83, 1, none⟩ (.slice A55 r40.Data.length c56), .cell ⟨b90, 0, none⟩ (.slice A65 r41.Shape.length c66), .cell ⟨b90, 1, none⟩ (.slice A67 r41.Data.length c68)] hf2332 (by kernel_rfl) ⟨(hm2330.cell 4 rfl rfl), (hm2330.cell 4 rfl rfl), (hm2330.cell 3 rfl rfl), (hm2330.cell 3 rfl rfl), trivial⟩ fun a2334 hf2335 => ?_
      refine listOf hf2335 rfl (by kernel_rfl) (aCall (fid := 34) (args := [.agg #[.slice A53 r40.Shape.length c54, .slice A55 r40.Data.length c56], .agg #[.slice A65 r41.Shape.length c66, .slice A67 r41.Data.length c68]]) (d := 74) hf2335 (by kernel_rfl) (by kernel_rfl) callable34 (matrix_Mul.calls _ _ r40 A53 r40.Shape.length c54 rfl A55 r40.Data.length c56 rfl r41 A65 r41.Shape.length c66 rfl A67 r41.Data.length c68 rfl (hm2330.give [8, 9, 6, 7] [.sl (Kd.int .i64) A53 c54 r40.Shape, .sl Kd.float A55 c56 r40.Data, .sl (Kd.int .i64) A65 c66 r41.Shape, .sl Kd.float A67 c68 r41.Data] rfl rfl) r2333 hr2333) ?_)
      rintro _ w2340 a2341 ⟨A2336, c2337, A2338, c2339, rfl, hk2343⟩ hf2342
      have hm2344 := hm2330.back hk2343
      have hm2345 := hm2344.seal 0 _ rfl rfl
      have hm2346 := hm2345.seal 1 _ rfl rfl
      refine go 3 [] [5, 6, 7, 8, 9, 75, 76] [(5, .pointer (some ⟨b76, 0, none⟩)), (6, .pointer (some ⟨b83, 0, none⟩)), (7, .pointer (some ⟨b90, 0, none⟩)), (8, .pointer (some ⟨b2320, 0, none⟩)), (9, .int .i64 r2304.2), (75, .agg #[.slice A2336 r2333.1.Shape.length c2337, .slice A2338 r2333.1.Data.length c2339]), (76, .int .i64 r2333.2)] [] hf2342 (by kernel_rfl) trivial fun a2347 hf2348 => ?_
      refine listOf hf2348 rfl (by kernel_rfl) (aNew (cs := [.slice none 0 0, .slice none 0 0]) (T := 42) (d := 10) hf2348 (by kernel_rfl) (by kernel_rfl) ?_)
      intro b2349 w2350 a2351 hbb2349 hx2353 hg2354 hf2352
      have hm2355 := hm2346.box hbb2349 hx2353 hg2354
      refine listOf hf2352 rfl (by kernel_rfl) (aStoreB (b := b2349) (j := 0) (T := 42) (cs := [.slice none 0 0, .slice none 0 0]) (us := [.slice A2336 r2333.1.Shape.length c2337, .slice A2338 r2333.1.Data.length c2339]) (cs' := [.slice A2336 r2333.1.Shape.length c2337, .slice A2338 r2333.1.Data.length c2339]) hf2352 (by kernel_rfl) (hm2355.bxAt 0 rfl) (by kernel_rfl) (by kernel_rfl) (by kernel_rfl) ?_)
      intro w2356 hx2357 hg2358
      have hm2359 := hm2355.setBox 0 _ rfl rfl hx2357 hg2358
      refine go 1 [] [5, 6, 7, 8, 9, 10, 11] [(5, .pointer (some ⟨b76, 0, none⟩)), (6, .pointer (some ⟨b83, 0, none⟩)), (7, .pointer (some ⟨b90, 0, none⟩)), (8, .pointer (some ⟨b2320, 0, none⟩)), (9, .int .i64 r2304.2), (10, .pointer (some ⟨b2349, 0, none⟩)), (11, .int .i64 r2333.2)] [] hf2352 (by kernel_rfl) trivial fun a2360 hf2361 => ?_
      refine endL rfl ?_
      refine thenN ?_
      refine wp_seq ?_
      obtain ⟨r2362, hr2362, H0⟩ := ob_split H0
      refine inReg ?_
      refine go 2 [.agg #[.slice A2307 r2304.1.Shape.length c2308, .slice A2309 r2304.1.Data.length c2310], .agg #[.slice A65 r41.Shape.length c66, .slice A67 r41.Data.length c68]] [5, 6, 8, 9, 10, 11, 78, 79] [(5, .pointer (some ⟨b76, 0, none⟩)), (6, .pointer (some ⟨b83, 0, none⟩)), (8, .pointer (some ⟨b2320, 0, none⟩)), (9, .int .i64 r2304.2), (10, .pointer (some ⟨b2349, 0, none⟩)), (11, .int .i64 r2333.2), (78, .agg #[.slice A2307 r2304.1.Shape.length c2308, .slice A2309 r2304.1.Data.length c2310]), (79, .agg #[.slice A65 r41.Shape.length c66, .slice A67 r41.Data.length c68])] [.cell ⟨b2320, 0, none⟩ (.slice A2307 r2304.1.Shape.length c2308), .cell ⟨b2320, 1, none⟩ (.slice A2309 r2304.1.Data.length c2310), .cell ⟨b90, 0, none⟩ (.slice A65 r41.Shape.length c66), .cell ⟨b90, 1, none⟩ (.slice A67 r41.Data.length c68)] hf2361 (by kernel_rfl) ⟨(hm2359.cell 3 rfl rfl), (hm2359.cell 3 rfl rfl), (hm2359.cell 6 rfl rfl), (hm2359.cell 6 rfl rfl), trivial⟩ fun a2363 hf2364 => ?_
      refine listOf hf2364 rfl (by kernel_rfl) (aCall (fid := 34) (args := [.agg #[.slice A2307 r2304.1.Shape.length c2308, .slice A2309 r2304.1.Data.length c2310], .agg #[.slice A65 r41.Shape.length c66, .slice A67 r41.Data.length c68]]) (d := 80) hf2364 (by kernel_rfl) (by kernel_rfl) callable34 (matrix_Mul.calls _ _ r2304.1 A2307 r2304.1.Shape.length c2308 rfl A2309 r2304.1.Data.length c2310 rfl r41 A65 r41.Shape.length c66 rfl A67 r41.Data.length c68 rfl (hm2359.give [4, 5, 9, 10] [.sl (Kd.int .i64) A2307 c2308 r2304.1.Shape, .sl Kd.float A2309 c2310 r2304.1.Data, .sl (Kd.int .i64) A65 c66 r41.Shape, .sl Kd.float A67 c68 r41.Data] rfl rfl) r2362 hr2362) ?_)
      rintro _ w2369 a2370 ⟨A2365, c2366, A2367, c2368, rfl, hk2372⟩ hf2371
      have hm2373 := hm2359.back hk2372
      have hm2374 := hm2373.seal 0 _ rfl rfl
      have hm2375 := hm2374.seal 1 _ rfl rfl
      refine go 3 [] [5, 6, 8, 9, 10, 11, 81, 82] [(5, .pointer (some ⟨b76, 0, none⟩)), (6, .pointer (some ⟨b83, 0, none⟩)), (8, .pointer (some ⟨b2320, 0, none⟩)), (9, .int .i64 r2304.2), (10, .pointer (some ⟨b2349, 0, none⟩)), (11, .int .i64 r2333.2), (81, .agg #[.slice A2365 r2362.1.Shape.length c2366, .slice A2367 r2362.1.Data.length c2368]), (82, .int .i64 r2362.2)] [] hf2371 (by kernel_rfl) trivial fun a2376 hf2377 => ?_
      refine listOf hf2377 rfl (by kernel_rfl) (aNew (cs := [.slice none 0 0, .slice none 0 0]) (T := 42) (d := 12) hf2377 (by kernel_rfl) (by kernel_rfl) ?_)
      intro b2378 w2379 a2380 hbb2378 hx2382 hg2383 hf2381
      have hm2384 := hm2375.box hbb2378 hx2382 hg2383
      refine listOf hf2381 rfl (by kernel_rfl) (aStoreB (b := b2378) (j := 0) (T := 42) (cs := [.slice none 0 0, .slice none 0 0]) (us := [.slice A2365 r2362.1.Shape.length c2366, .slice A2367 r2362.1.Data.length c2368]) (cs' := [.slice A2365 r2362.1.Shape.length c2366, .slice A2367 r2362.1.Data.length c2368]) hf2381 (by kernel_rfl) (hm2384.bxAt 0 rfl) (by kernel_rfl) (by kernel_rfl) (by kernel_rfl) ?_)
      intro w2385 hx2386 hg2387
      have hm2388 := hm2384.setBox 0 _ rfl rfl hx2386 hg2387
      refine go 1 [] [5, 6, 8, 9, 10, 11, 12, 13] [(5, .pointer (some ⟨b76, 0, none⟩)), (6, .pointer (some ⟨b83, 0, none⟩)), (8, .pointer (some ⟨b2320, 0, none⟩)), (9, .int .i64 r2304.2), (10, .pointer (some ⟨b2349, 0, none⟩)), (11, .int .i64 r2333.2), (12, .pointer (some ⟨b2378, 0, none⟩)), (13, .int .i64 r2362.2)] [] hf2381 (by kernel_rfl) trivial fun a2389 hf2390 => ?_
      refine endL rfl ?_
      have hm2391 := hm2388.sel [0, 1, 2, 3, 4, 5, 6, 7, 8, 10, 11, 14, 15, 16, 17] _ rfl (by kernel_rfl)
      refine thenN ?_
      refine wp_seq ?_
      obtain ⟨r2392, hr2392, H0⟩ := ob_split H0
      refine inReg ?_
      refine go 2 [.agg #[.slice A42 r39.Shape.length c43, .slice A44 r39.Data.length c45], .agg #[.slice A2336 r2333.1.Shape.length c2337, .slice A2338 r2333.1.Data.length c2339]] [5, 6, 8, 9, 11, 12, 13, 84, 85] [(5, .pointer (some ⟨b76, 0, none⟩)), (6, .pointer (some ⟨b83, 0, none⟩)), (8, .pointer (some ⟨b2320, 0, none⟩)), (9, .int .i64 r2304.2), (11, .int .i64 r2333.2), (12, .pointer (some ⟨b2378, 0, none⟩)), (13, .int .i64 r2362.2), (84, .agg #[.slice A42 r39.Shape.length c43, .slice A44 r39.Data.length c45]), (85, .agg #[.slice A2336 r2333.1.Shape.length c2337, .slice A2338 r2333.1.Data.length c2339])] [.cell ⟨b76, 0, none⟩ (.slice A42 r39.Shape.length c43), .cell ⟨b76, 1, none⟩ (.slice A44 r39.Data.length c45), .cell ⟨b2349, 0, none⟩ (.slice A2336 r2333.1.Shape.length c2337), .cell ⟨b2349, 1, none⟩ (.slice A2338 r2333.1.Data.length c2339)] hf2390 (by kernel_rfl) ⟨(hm2391.cell 10 rfl rfl), (hm2391.cell 10 rfl rfl), (hm2391.cell 3 rfl rfl), (hm2391.cell 3 rfl rfl), trivial⟩ fun a2393 hf2394 => ?_
      refine listOf hf2394 rfl (by kernel_rfl) (aCall (fid := 34) (args := [.agg #[.slice A42 r39.Shape.length c43, .slice A44 r39.Data.length c45], .agg #[.slice A2336 r2333.1.Shape.length c2337, .slice A2338 r2333.1.Data.length c2339]]) (d := 86) hf2394 (by kernel_rfl) (by kernel_rfl) callable34 (matrix_Mul.calls _ _ r39 A42 r39.Shape.length c43 rfl A44 r39.Data.length c45 rfl r2333.1 A2336 r2333.1.Shape.length c2337 rfl A2338 r2333.1.Data.length c2339 rfl (hm2391.give [13, 14, 4, 5] [.sl (Kd.int .i64) A42 c43 r39.Shape, .sl Kd.float A44 c45 r39.Data, .sl (Kd.int .i64) A2336 c2337 r2333.1.Shape, .sl Kd.float A2338 c2339 r2333.1.Data] rfl rfl) r2392 hr2392) ?_)
      rintro _ w2399 a2400 ⟨A2395, c2396, A2397, c2398, rfl, hk2402⟩ hf2401
      have hm2403 := hm2391.back hk2402
      have hm2404 := hm2403.seal 0 _ rfl rfl
      have hm2405 := hm2404.seal 1 _ rfl rfl
      refine go 3 [] [5, 6, 8, 9, 11, 12, 13, 87, 88] [(5, .pointer (some ⟨b76, 0, none⟩)), (6, .pointer (some ⟨b83, 0, none⟩)), (8, .pointer (some ⟨b2320, 0, none⟩)), (9, .int .i64 r2304.2), (11, .int .i64 r2333.2), (12, .pointer (some ⟨b2378, 0, none⟩)), (13, .int .i64 r2362.2), (87, .agg #[.slice A2395 r2392.1.Shape.length c2396, .slice A2397 r2392.1.Data.length c2398]), (88, .int .i64 r2392.2)] [] hf2401 (by kernel_rfl) trivial fun a2406 hf2407 => ?_
      refine listOf hf2407 rfl (by kernel_rfl) (aNew (cs := [.slice none 0 0, .slice none 0 0]) (T := 42) (d := 14) hf2407 (by kernel_rfl) (by kernel_rfl) ?_)
      intro b2408 w2409 a2410 hbb2408 hx2412 hg2413 hf2411
      have hm2414 := hm2405.box hbb2408 hx2412 hg2413
      refine listOf hf2411 rfl (by kernel_rfl) (aStoreB (b := b2408) (j := 0) (T := 42) (cs := [.slice none 0 0, .slice none 0 0]) (us := [.slice A2395 r2392.1.Shape.length c2396, .slice A2397 r2392.1.Data.length c2398]) (cs' := [.slice A2395 r2392.1.Shape.length c2396, .slice A2397 r2392.1.Data.length c2398]) hf2411 (by kernel_rfl) (hm2414.bxAt 0 rfl) (by kernel_rfl) (by kernel_rfl) (by kernel_rfl) ?_)
      intro w2415 hx2416 hg2417
      have hm2418 := hm2414.setBox 0 _ rfl rfl hx2416 hg2417
      refine go 1 [] [5, 6, 8, 9, 11, 12, 13, 14, 15] [(5, .pointer (some ⟨b76, 0, none⟩)), (6, .pointer (some ⟨b83, 0, none⟩)), (8, .pointer (some ⟨b2320, 0, none⟩)), (9, .int .i64 r2304.2), (11, .int .i64 r2333.2), (12, .pointer (some ⟨b2378, 0, none⟩)), (13, .int .i64 r2362.2), (14, .pointer (some ⟨b2408, 0, none⟩)), (15, .int .i64 r2392.2)] [] hf2411 (by kernel_rfl) trivial fun a2419 hf2420 => ?_
      refine endL rfl ?_
      have hm2421 := hm2418.sel [0, 1, 2, 3, 4, 5, 9, 10, 11, 12, 13, 14, 15, 16, 17] _ rfl (by kernel_rfl)
      refine thenN ?_
      refine wp_seq ?_
      obtain ⟨r2422, hr2422, H0⟩ := ob_split H0
      refine inReg ?_
      refine go 1 [.agg #[.slice A42 r39.Shape.length c43, .slice A44 r39.Data.length c45]] [6, 8, 9, 11, 12, 13, 14, 15, 90] [(6, .pointer (some ⟨b83, 0, none⟩)), (8, .pointer (some ⟨b2320, 0, none⟩)), (9, .int .i64 r2304.2), (11, .int .i64 r2333.2), (12, .pointer (some ⟨b2378, 0, none⟩)), (13, .int .i64 r2362.2), (14, .pointer (some ⟨b2408, 0, none⟩)), (15, .int .i64 r2392.2), (90, .agg #[.slice A42 r39.Shape.length c43, .slice A44 r39.Data.length c45])] [.cell ⟨b76, 0, none⟩ (.slice A42 r39.Shape.length c43), .cell ⟨b76, 1, none⟩ (.slice A44 r39.Data.length c45)] hf2420 (by kernel_rfl) ⟨(hm2421.cell 10 rfl rfl), (hm2421.cell 10 rfl rfl), trivial⟩ fun a2423 hf2424 => ?_
      refine listOf hf2424 rfl (by kernel_rfl) (aCall (fid := 37) (args := [.agg #[.slice A42 r39.Shape.length c43, .slice A44 r39.Data.length c45]]) (d := 91) hf2424 (by kernel_rfl) (by kernel_rfl) callable37 (matrix_Turn.calls _ _ r39 A42 r39.Shape.length c43 rfl A44 r39.Data.length c45 rfl (hm2421.give [13, 14] [.sl (Kd.int .i64) A42 c43 r39.Shape, .sl Kd.float A44 c45 r39.Data] rfl rfl) r2422 hr2422) ?_)
      rintro _ w2429 a2430 ⟨A2425, c2426, A2427, c2428, rfl, hk2432⟩ hf2431
      have hm2433 := hm2421.back hk2432
      have hm2434 := hm2433.seal 0 _ rfl rfl
      have hm2435 := hm2434.seal 1 _ rfl rfl
      refine go 3 [] [6, 8, 9, 11, 12, 13, 14, 15, 92, 93] [(6, .pointer (some ⟨b83, 0, none⟩)), (8, .pointer (some ⟨b2320, 0, none⟩)), (9, .int .i64 r2304.2), (11, .int .i64 r2333.2), (12, .pointer (some ⟨b2378, 0, none⟩)), (13, .int .i64 r2362.2), (14, .pointer (some ⟨b2408, 0, none⟩)), (15, .int .i64 r2392.2), (92, .agg #[.slice A2425 r2422.1.Shape.length c2426, .slice A2427 r2422.1.Data.length c2428]), (93, .int .i64 r2422.2)] [] hf2431 (by kernel_rfl) trivial fun a2436 hf2437 => ?_
      refine listOf hf2437 rfl (by kernel_rfl) (aNew (cs := [.slice none 0 0, .slice none 0 0]) (T := 42) (d := 16) hf2437 (by kernel_rfl) (by kernel_rfl) ?_)
      intro b2438 w2439 a2440 hbb2438 hx2442 hg2443 hf2441
      have hm2444 := hm2435.box hbb2438 hx2442 hg2443
      refine listOf hf2441 rfl (by kernel_rfl) (aStoreB (b := b2438) (j := 0) (T := 42) (cs := [.slice none 0 0, .slice none 0 0]) (us := [.slice A2425 r2422.1.Shape.length c2426, .slice A2427 r2422.1.Data.length c2428]) (cs' := [.slice A2425 r2422.1.Shape.length c2426, .slice A2427 r2422.1.Data.length c2428]) hf2441 (by kernel_rfl) (hm2444.bxAt 0 rfl) (by kernel_rfl) (by kernel_rfl) (by kernel_rfl) ?_)
      intro w2445 hx2446 hg2447
      have hm2448 := hm2444.setBox 0 _ rfl rfl hx2446 hg2447
      refine go 1 [] [6, 8, 9, 11, 12, 13, 14, 15, 16] [(6, .pointer (some ⟨b83, 0, none⟩)), (8, .pointer (some ⟨b2320, 0, none⟩)), (9, .int .i64 r2304.2), (11, .int .i64 r2333.2), (12, .pointer (some ⟨b2378, 0, none⟩)), (13, .int .i64 r2362.2), (14, .pointer (some ⟨b2408, 0, none⟩)), (15, .int .i64 r2392.2), (16, .pointer (some ⟨b2438, 0, none⟩))] [] hf2441 (by kernel_rfl) trivial fun a2449 hf2450 => ?_
      refine endL rfl ?_
      have hm2451 := hm2448.sel [0, 1, 2, 3, 4, 5, 6, 7, 8, 9, 10, 11, 12, 14, 15] _ rfl (by kernel_rfl)
      refine thenN ?_
      refine wp_seq ?_
      obtain ⟨r2452, hr2452, H0⟩ := ob_split H0
      refine inReg ?_
      refine go 1 [.agg #[.slice A53 r40.Shape.length c54, .slice A55 r40.Data.length c56]] [8, 9, 11, 12, 13, 14, 15, 16, 95] [(8, .pointer (some ⟨b2320, 0, none⟩)), (9, .int .i64 r2304.2), (11, .int .i64 r2333.2), (12, .pointer (some ⟨b2378, 0, none⟩)), (13, .int .i64 r2362.2), (14, .pointer (some ⟨b2408, 0, none⟩)), (15, .int .i64 r2392.2), (16, .pointer (some ⟨b2438, 0, none⟩)), (95, .agg #[.slice A53 r40.Shape.length c54, .slice A55 r40.Data.length c56])] [.cell ⟨b83, 0, none⟩ (.slice A53 r40.Shape.length c54), .cell ⟨b83, 1, none⟩ (.slice A55 r40.Data.length c56)] hf2450 (by kernel_rfl) ⟨(hm2451.cell 12 rfl rfl), (hm2451.cell 12 rfl rfl), trivial⟩ fun a2453 hf2454 => ?_
      refine listOf hf2454 rfl (by kernel_rfl) (aCall (fid := 37) (args := [.agg #[.slice A53 r40.Shape.length c54, .slice A55 r40.Data.length c56]]) (d := 96) hf2454 (by kernel_rfl) (by kernel_rfl) callable37 (matrix_Turn.calls _ _ r40 A53 r40.Shape.length c54 rfl A55 r40.Data.length c56 rfl (hm2451.give [13, 14] [.sl (Kd.int .i64) A53 c54 r40.Shape, .sl Kd.float A55 c56 r40.Data] rfl rfl) r2452 hr2452) ?_)
      rintro _ w2459 a2460 ⟨A2455, c2456, A2457, c2458, rfl, hk2462⟩ hf2461
      have hm2463 := hm2451.back hk2462
      have hm2464 := hm2463.seal 0 _ rfl rfl
      have hm2465 := hm2464.seal 1 _ rfl rfl
      refine go 3 [] [8, 9, 11, 12, 13, 14, 15, 16, 97, 98] [(8, .pointer (some ⟨b2320, 0, none⟩)), (9, .int .i64 r2304.2), (11, .int .i64 r2333.2), (12, .pointer (some ⟨b2378, 0, none⟩)), (13, .int .i64 r2362.2), (14, .pointer (some ⟨b2408, 0, none⟩)), (15, .int .i64 r2392.2), (16, .pointer (some ⟨b2438, 0, none⟩)), (97, .agg #[.slice A2455 r2452.1.Shape.length c2456, .slice A2457 r2452.1.Data.length c2458]), (98, .int .i64 r2452.2)] [] hf2461 (by kernel_rfl) trivial fun a2466 hf2467 => ?_
      refine listOf hf2467 rfl (by kernel_rfl) (aNew (cs := [.slice none 0 0, .slice none 0 0]) (T := 42) (d := 18) hf2467 (by kernel_rfl) (by kernel_rfl) ?_)
      intro b2468 w2469 a2470 hbb2468 hx2472 hg2473 hf2471
      have hm2474 := hm2465.box hbb2468 hx2472 hg2473
      refine listOf hf2471 rfl (by kernel_rfl) (aStoreB (b := b2468) (j := 0) (T := 42) (cs := [.slice none 0 0, .slice none 0 0]) (us := [.slice A2455 r2452.1.Shape.length c2456, .slice A2457 r2452.1.Data.length c2458]) (cs' := [.slice A2455 r2452.1.Shape.length c2456, .slice A2457 r2452.1.Data.length c2458]) hf2471 (by kernel_rfl) (hm2474.bxAt 0 rfl) (by kernel_rfl) (by kernel_rfl) (by kernel_rfl) ?_)
      intro w2475 hx2476 hg2477
      have hm2478 := hm2474.setBox 0 _ rfl rfl hx2476 hg2477
      refine go 1 [] [8, 9, 11, 12, 13, 14, 15, 16, 18] [(8, .pointer (some ⟨b2320, 0, none⟩)), (9, .int .i64 r2304.2), (11, .int .i64 r2333.2), (12, .pointer (some ⟨b2378, 0, none⟩)), (13, .int .i64 r2362.2), (14, .pointer (some ⟨b2408, 0, none⟩)), (15, .int .i64 r2392.2), (16, .pointer (some ⟨b2438, 0, none⟩)), (18, .pointer (some ⟨b2468, 0, none⟩))] [] hf2471 (by kernel_rfl) trivial fun a2479 hf2480 => ?_
      refine endL rfl ?_
      have hm2481 := hm2478.sel [0, 1, 2, 3, 4, 5, 6, 7, 8, 9, 10, 11, 12, 13, 14] _ rfl (by kernel_rfl)
      refine thenN ?_
      refine wp_seq ?_
      obtain ⟨r2482, hr2482, H0⟩ := ob_split H0
      refine inReg ?_
      refine go 2 [.agg #[.slice A2455 r2452.1.Shape.length c2456, .slice A2457 r2452.1.Data.length c2458], .agg #[.slice A2425 r2422.1.Shape.length c2426, .slice A2427 r2422.1.Data.length c2428]] [8, 9, 11, 12, 13, 14, 15, 100, 101] [(8, .pointer (some ⟨b2320, 0, none⟩)), (9, .int .i64 r2304.2), (11, .int .i64 r2333.2), (12, .pointer (some ⟨b2378, 0, none⟩)), (13, .int .i64 r2362.2), (14, .pointer (some ⟨b2408, 0, none⟩)), (15, .int .i64 r2392.2), (100, .agg #[.slice A2455 r2452.1.Shape.length c2456, .slice A2457 r2452.1.Data.length c2458]), (101, .agg #[.slice A2425 r2422.1.Shape.length c2426, .slice A2427 r2422.1.Data.length c2428])] [.cell ⟨b2468, 0, none⟩ (.slice A2455 r2452.1.Shape.length c2456), .cell ⟨b2468, 1, none⟩ (.slice A2457 r2452.1.Data.length c2458), .cell ⟨b2438, 0, none⟩ (.slice A2425 r2422.1.Shape.length c2426), .cell ⟨b2438, 1, none⟩ (.slice A2427 r2422.1.Data.length c2428)] hf2480 (by kernel_rfl) ⟨(hm2481.cell 0 rfl rfl), (hm2481.cell 0 rfl rfl), (hm2481.cell 3 rfl rfl), (hm2481.cell 3 rfl rfl), trivial⟩ fun a2483 hf2484 => ?_
      refine listOf hf2484 rfl (by kernel_rfl) (aCall (fid := 34) (args := [.agg #[.slice A2455 r2452.1.Shape.length c2456, .slice A2457 r2452.1.Data.length c2458], .agg #[.slice A2425 r2422.1.Shape.length c2426, .slice A2427 r2422.1.Data.length c2428]]) (d := 102) hf2484 (by kernel_rfl) (by kernel_rfl) callable34 (matrix_Mul.calls _ _ r2452.1 A2455 r2452.1.Shape.length c2456 rfl A2457 r2452.1.Data.length c2458 rfl r2422.1 A2425 r2422.1.Shape.length c2426 rfl A2427 r2422.1.Data.length c2428 rfl (hm2481.give [1, 2, 4, 5] [.sl (Kd.int .i64) A2455 c2456 r2452.1.Shape, .sl Kd.float A2457 c2458 r2452.1.Data, .sl (Kd.int .i64) A2425 c2426 r2422.1.Shape, .sl Kd.float A2427 c2428 r2422.1.Data] rfl rfl) r2482 hr2482) ?_)
      rintro _ w2489 a2490 ⟨A2485, c2486, A2487, c2488, rfl, hk2492⟩ hf2491
      have hm2493 := hm2481.back hk2492
      have hm2494 := hm2493.seal 0 _ rfl rfl
      have hm2495 := hm2494.seal 1 _ rfl rfl
      refine go 3 [] [8, 9, 11, 12, 13, 14, 15, 103, 104] [(8, .pointer (some ⟨b2320, 0, none⟩)), (9, .int .i64 r2304.2), (11, .int .i64 r2333.2), (12, .pointer (some ⟨b2378, 0, none⟩)), (13, .int .i64 r2362.2), (14, .pointer (some ⟨b2408, 0, none⟩)), (15, .int .i64 r2392.2), (103, .agg #[.slice A2485 r2482.1.Shape.length c2486, .slice A2487 r2482.1.Data.length c2488]), (104, .int .i64 r2482.2)] [] hf2491 (by kernel_rfl) trivial fun a2496 hf2497 => ?_
      refine listOf hf2497 rfl (by kernel_rfl) (aNew (cs := [.slice none 0 0, .slice none 0 0]) (T := 42) (d := 20) hf2497 (by kernel_rfl) (by kernel_rfl) ?_)
      intro b2498 w2499 a2500 hbb2498 hx2502 hg2503 hf2501
      have hm2504 := hm2495.box hbb2498 hx2502 hg2503
      refine listOf hf2501 rfl (by kernel_rfl) (aStoreB (b := b2498) (j := 0) (T := 42) (cs := [.slice none 0 0, .slice none 0 0]) (us := [.slice A2485 r2482.1.Shape.length c2486, .slice A2487 r2482.1.Data.length c2488]) (cs' := [.slice A2485 r2482.1.Shape.length c2486, .slice A2487 r2482.1.Data.length c2488]) hf2501 (by kernel_rfl) (hm2504.bxAt 0 rfl) (by kernel_rfl) (by kernel_rfl) (by kernel_rfl) ?_)
      intro w2505 hx2506 hg2507
      have hm2508 := hm2504.setBox 0 _ rfl rfl hx2506 hg2507
      refine go 1 [] [8, 9, 11, 12, 13, 14, 15, 20, 21] [(8, .pointer (some ⟨b2320, 0, none⟩)), (9, .int .i64 r2304.2), (11, .int .i64 r2333.2), (12, .pointer (some ⟨b2378, 0, none⟩)), (13, .int .i64 r2362.2), (14, .pointer (some ⟨b2408, 0, none⟩)), (15, .int .i64 r2392.2), (20, .pointer (some ⟨b2498, 0, none⟩)), (21, .int .i64 r2482.2)] [] hf2501 (by kernel_rfl) trivial fun a2509 hf2510 => ?_
      refine endL rfl ?_
      have hm2511 := hm2508.sel [0, 1, 2, 9, 10, 11, 12, 13, 14, 15, 16, 17] _ rfl (by kernel_rfl)
      refine thenN ?_
      refine wp_seq ?_
      obtain ⟨r2512, hr2512, H0⟩ := ob_split H0
      refine inReg ?_
      refine go 1 [.agg #[.slice A2485 r2482.1.Shape.length c2486, .slice A2487 r2482.1.Data.length c2488]] [8, 9, 11, 12, 13, 14, 15, 21, 106] [(8, .pointer (some ⟨b2320, 0, none⟩)), (9, .int .i64 r2304.2), (11, .int .i64 r2333.2), (12, .pointer (some ⟨b2378, 0, none⟩)), (13, .int .i64 r2362.2), (14, .pointer (some ⟨b2408, 0, none⟩)), (15, .int .i64 r2392.2), (21, .int .i64 r2482.2), (106, .agg #[.slice A2485 r2482.1.Shape.length c2486, .slice A2487 r2482.1.Data.length c2488])] [.cell ⟨b2498, 0, none⟩ (.slice A2485 r2482.1.Shape.length c2486), .cell ⟨b2498, 1, none⟩ (.slice A2487 r2482.1.Data.length c2488)] hf2510 (by kernel_rfl) ⟨(hm2511.cell 0 rfl rfl), (hm2511.cell 0 rfl rfl), trivial⟩ fun a2513 hf2514 => ?_
      refine listOf hf2514 rfl (by kernel_rfl) (aCall (fid := 37) (args := [.agg #[.slice A2485 r2482.1.Shape.length c2486, .slice A2487 r2482.1.Data.length c2488]]) (d := 107) hf2514 (by kernel_rfl) (by kernel_rfl) callable37 (matrix_Turn.calls _ _ r2482.1 A2485 r2482.1.Shape.length c2486 rfl A2487 r2482.1.Data.length c2488 rfl (hm2511.give [1, 2] [.sl (Kd.int .i64) A2485 c2486 r2482.1.Shape, .sl Kd.float A2487 c2488 r2482.1.Data] rfl rfl) r2512 hr2512) ?_)
      rintro _ w2519 a2520 ⟨A2515, c2516, A2517, c2518, rfl, hk2522⟩ hf2521
      have hm2523 := hm2511.back hk2522
      have hm2524 := hm2523.seal 0 _ rfl rfl
      have hm2525 := hm2524.seal 1 _ rfl rfl
      refine go 3 [] [8, 9, 11, 12, 13, 14, 15, 21, 108, 109] [(8, .pointer (some ⟨b2320, 0, none⟩)), (9, .int .i64 r2304.2), (11, .int .i64 r2333.2), (12, .pointer (some ⟨b2378, 0, none⟩)), (13, .int .i64 r2362.2), (14, .pointer (some ⟨b2408, 0, none⟩)), (15, .int .i64 r2392.2), (21, .int .i64 r2482.2), (108, .agg #[.slice A2515 r2512.1.Shape.length c2516, .slice A2517 r2512.1.Data.length c2518]), (109, .int .i64 r2512.2)] [] hf2521 (by kernel_rfl) trivial fun a2526 hf2527 => ?_
      refine listOf hf2527 rfl (by kernel_rfl) (aNew (cs := [.slice none 0 0, .slice none 0 0]) (T := 42) (d := 22) hf2527 (by kernel_rfl) (by kernel_rfl) ?_)
      intro b2528 w2529 a2530 hbb2528 hx2532 hg2533 hf2531
      have hm2534 := hm2525.box hbb2528 hx2532 hg2533
      refine listOf hf2531 rfl (by kernel_rfl) (aStoreB (b := b2528) (j := 0) (T := 42) (cs := [.slice none 0 0, .slice none 0 0]) (us := [.slice A2515 r2512.1.Shape.length c2516, .slice A2517 r2512.1.Data.length c2518]) (cs' := [.slice A2515 r2512.1.Shape.length c2516, .slice A2517 r2512.1.Data.length c2518]) hf2531 (by kernel_rfl) (hm2534.bxAt 0 rfl) (by kernel_rfl) (by kernel_rfl) (by kernel_rfl) ?_)
      intro w2535 hx2536 hg2537
      have hm2538 := hm2534.setBox 0 _ rfl rfl hx2536 hg2537
      refine go 1 [] [8, 9, 11, 12, 13, 14, 15, 21, 22] [(8, .pointer (some ⟨b2320, 0, none⟩)), (9, .int .i64 r2304.2), (11, .int .i64 r2333.2), (12, .pointer (some ⟨b2378, 0, none⟩)), (13, .int .i64 r2362.2), (14, .pointer (some ⟨b2408, 0, none⟩)), (15, .int .i64 r2392.2), (21, .int .i64 r2482.2), (22, .pointer (some ⟨b2528, 0, none⟩))] [] hf2531 (by kernel_rfl) trivial fun a2539 hf2540 => ?_
      refine endL rfl ?_
      have hm2541 := hm2538.sel [0, 1, 2, 6, 7, 8, 9, 10, 11, 12, 13, 14] _ rfl (by kernel_rfl)
      refine thenN ?_
      refine wp_seq ?_
      rcases if_split H0 with ⟨c2542, H0⟩ | ⟨c2542, H0⟩
      · rcases if_split H0 with ⟨c2543, H0⟩ | ⟨c2543, H0⟩
        · rcases if_split H0 with ⟨c2544, H0⟩ | ⟨c2544, H0⟩
          · rcases if_split H0 with ⟨c2545, H0⟩ | ⟨c2545, H0⟩
            · rcases if_split H0 with ⟨c2546, H0⟩ | ⟨c2546, H0⟩
              · obtain ⟨r2547, hr2547, H0⟩ := ob_split H0
                rcases ifb_split H0 with ⟨c2548, H0⟩ | ⟨c2548, H0⟩
                · obtain ⟨r2549, hr2549, H0⟩ := ob_split H0
                  refine inReg ?_
                  refine go 21 [.bool true, .bool true, .bool true, .bool true, .bool true, .agg #[.slice A2365 r2362.1.Shape.length c2366, .slice A2367 r2362.1.Data.length c2368], .agg #[.slice A2395 r2392.1.Shape.length c2396, .slice A2397 r2392.1.Data.length c2398]] [8, 22, 128, 129, 130] [(8, .pointer (some ⟨b2320, 0, none⟩)), (22, .pointer (some ⟨b2528, 0, none⟩)), (128, .bool true), (129, .agg #[.slice A2365 r2362.1.Shape.length c2366, .slice A2367 r2362.1.Data.length c2368]), (130, .agg #[.slice A2395 r2392.1.Shape.length c2396, .slice A2397 r2392.1.Data.length c2398])] [.is (((r2304.2 : Int) == 0) = true), .is (((r2333.2 : Int) == 0) = true), .is (((r2362.2 : Int) == 0) = true), .is (((r2392.2 : Int) == 0) = true), .is (((r2482.2 : Int) == 0) = true), .cell ⟨b2378, 0, none⟩ (.slice A2365 r2362.1.Shape.length c2366), .cell ⟨b2378, 1, none⟩ (.slice A2367 r2362.1.Data.length c2368), .cell ⟨b2408, 0, none⟩ (.slice A2395 r2392.1.Shape.length c2396), .cell ⟨b2408, 1, none⟩ (.slice A2397 r2392.1.Data.length c2398)] hf2540 (by kernel_rfl) ⟨(eqT c2542), (eqT c2543), (eqT c2544), (eqT c2545), (eqT c2546), (hm2541.cell 6 rfl rfl), (hm2541.cell 6 rfl rfl), (hm2541.cell 3 rfl rfl), (hm2541.cell 3 rfl rfl), trivial⟩ fun a2550 hf2551 => ?_
                  refine listOf hf2551 rfl (by kernel_rfl) (aCall (fid := 38) (args := [.agg #[.slice A2365 r2362.1.Shape.length c2366, .slice A2367 r2362.1.Data.length c2368], .agg #[.slice A2395 r2392.1.Shape.length c2396, .slice A2397 r2392.1.Data.length c2398]]) (d := 131) hf2551 (by kernel_rfl) (by kernel_rfl) callable38 (law5_equal.calls _ _ r2362.1 A2365 r2362.1.Shape.length c2366 rfl A2367 r2362.1.Data.length c2368 rfl r2392.1 A2395 r2392.1.Shape.length c2396 rfl A2397 r2392.1.Data.length c2398 rfl (hm2541.give [7, 8, 4, 5] [.sl (Kd.int .i64) A2365 c2366 r2362.1.Shape, .sl Kd.float A2367 c2368 r2362.1.Data, .sl (Kd.int .i64) A2395 c2396 r2392.1.Shape, .sl Kd.float A2397 c2398 r2392.1.Data] rfl rfl) r2547 hr2547) ?_)
                  rintro _ w2552 a2553 ⟨rfl, hk2555⟩ hf2554
                  have hm2556 := hm2541.still hk2555.cum.none
                  rw [c2548] at hf2554
                  refine go 4 [.agg #[.slice A2307 r2304.1.Shape.length c2308, .slice A2309 r2304.1.Data.length c2310], .agg #[.slice A2515 r2512.1.Shape.length c2516, .slice A2517 r2512.1.Data.length c2518]] [133, 134, 135] [(133, .bool true), (134, .agg #[.slice A2307 r2304.1.Shape.length c2308, .slice A2309 r2304.1.Data.length c2310]), (135, .agg #[.slice A2515 r2512.1.Shape.length c2516, .slice A2517 r2512.1.Data.length c2518])] [.cell ⟨b2320, 0, none⟩ (.slice A2307 r2304.1.Shape.length c2308), .cell ⟨b2320, 1, none⟩ (.slice A2309 r2304.1.Data.length c2310), .cell ⟨b2528, 0, none⟩ (.slice A2515 r2512.1.Shape.length c2516), .cell ⟨b2528, 1, none⟩ (.slice A2517 r2512.1.Data.length c2518)] hf2554 (by kernel_rfl) ⟨(hm2556.cell 9 rfl rfl), (hm2556.cell 9 rfl rfl), (hm2556.cell 0 rfl rfl), (hm2556.cell 0 rfl rfl), trivial⟩ fun a2557 hf2558 => ?_
                  refine listOf hf2558 rfl (by kernel_rfl) (aCall (fid := 38) (args := [.agg #[.slice A2307 r2304.1.Shape.length c2308, .slice A2309 r2304.1.Data.length c2310], .agg #[.slice A2515 r2512.1.Shape.length c2516, .slice A2517 r2512.1.Data.length c2518]]) (d := 136) hf2558 (by kernel_rfl) (by kernel_rfl) callable38 (law5_equal.calls _ _ r2304.1 A2307 r2304.1.Shape.length c2308 rfl A2309 r2304.1.Data.length c2310 rfl r2512.1 A2515 r2512.1.Shape.length c2516 rfl A2517 r2512.1.Data.length c2518 rfl (hm2556.give [10, 11, 1, 2] [.sl (Kd.int .i64) A2307 c2308 r2304.1.Shape, .sl Kd.float A2309 c2310 r2304.1.Data, .sl (Kd.int .i64) A2515 c2516 r2512.1.Shape, .sl Kd.float A2517 c2518 r2512.1.Data] rfl rfl) r2549 hr2549) ?_)
                  rintro _ w2559 a2560 ⟨rfl, hk2562⟩ hf2561
                  have hm2563 := hm2556.still hk2562.cum.none
                  refine go 2 [] [4] [(4, .bool r2549)] [] hf2561 (by kernel_rfl) trivial fun a2564 hf2565 => ?_
                  refine endL rfl ?_
                  have hm2566 := hm2563.sel [] _ rfl (by kernel_rfl)
                  refine thenN ?_
                  refine wp_ret ?_
                  have hm2567 : Mem [] M w0 [] w2559 := hm2566.sel [] _ rfl (by kernel_rfl)
                  obtain rfl := Option.some.inj H0
                  refine ret [] [.bool r2549] [] hf2565 (by kernel_rfl) trivial ?_
                  exact ⟨_, rfl, rfl, hm2567⟩
                · refine inReg ?_
                  refine go 21 [.bool true, .bool true, .bool true, .bool true, .bool true, .agg #[.slice A2365 r2362.1.Shape.length c2366, .slice A2367 r2362.1.Data.length c2368], .agg #[.slice A2395 r2392.1.Shape.length c2396, .slice A2397 r2392.1.Data.length c2398]] [8, 22, 128, 129, 130] [(8, .pointer (some ⟨b2320, 0, none⟩)), (22, .pointer (some ⟨b2528, 0, none⟩)), (128, .bool true), (129, .agg #[.slice A2365 r2362.1.Shape.length c2366, .slice A2367 r2362.1.Data.length c2368]), (130, .agg #[.slice A2395 r2392.1.Shape.length c2396, .slice A2397 r2392.1.Data.length c2398])] [.is (((r2304.2 : Int) == 0) = true), .is (((r2333.2 : Int) == 0) = true), .is (((r2362.2 : Int) == 0) = true), .is (((r2392.2 : Int) == 0) = true), .is (((r2482.2 : Int) == 0) = true), .cell ⟨b2378, 0, none⟩ (.slice A2365 r2362.1.Shape.length c2366), .cell ⟨b2378, 1, none⟩ (.slice A2367 r2362.1.Data.length c2368), .cell ⟨b2408, 0, none⟩ (.slice A2395 r2392.1.Shape.length c2396), .cell ⟨b2408, 1, none⟩ (.slice A2397 r2392.1.Data.length c2398)] hf2540 (by kernel_rfl) ⟨(eqT c2542), (eqT c2543), (eqT c2544), (eqT c2545), (eqT c2546), (hm2541.cell 6 rfl rfl), (hm2541.cell 6 rfl rfl), (hm2541.cell 3 rfl rfl), (hm2541.cell 3 rfl rfl), trivial⟩ fun a2569 hf2570 => ?_
                  refine listOf hf2570 rfl (by kernel_rfl) (aCall (fid := 38) (args := [.agg #[.slice A2365 r2362.1.Shape.length c2366, .slice A2367 r2362.1.Data.length c2368], .agg #[.slice A2395 r2392.1.Shape.length c2396, .slice A2397 r2392.1.Data.length c2398]]) (d := 131) hf2570 (by kernel_rfl) (by kernel_rfl) callable38 (law5_equal.calls _ _ r2362.1 A2365 r2362.1.Shape.length c2366 rfl A2367 r2362.1.Data.length c2368 rfl r2392.1 A2395 r2392.1.Shape.length c2396 rfl A2397 r2392.1.Data.length c2398 rfl (hm2541.give [7, 8, 4, 5] [.sl (Kd.int .i64) A2365 c2366 r2362.1.Shape, .sl Kd.float A2367 c2368 r2362.1.Data, .sl (Kd.int .i64) A2395 c2396 r2392.1.Shape, .sl Kd.float A2397 c2398 r2392.1.Data] rfl rfl) r2547 hr2547) ?_)
                  rintro _ w2571 a2572 ⟨rfl, hk2574⟩ hf2573
                  have hm2575 := hm2541.still hk2574.cum.none
                  rw [c2548] at hf2573
                  refine go 7 [] [4] [(4, .bool false)] [] hf2573 (by kernel_rfl) trivial fun a2576 hf2577 => ?_
                  refine endL rfl ?_
                  have hm2578 := hm2575.sel [] _ rfl (by kernel_rfl)
                  refine thenN ?_
                  refine wp_ret ?_
                  have hm2579 : Mem [] M w0 [] w2571 := hm2578.sel [] _ rfl (by kernel_rfl)
                  obtain rfl := Option.some.inj H0
                  refine ret [] [.bool false] [] hf2577 (by kernel_rfl) trivial ?_
                  exact ⟨_, rfl, rfl, hm2579⟩
              · refine reg [.bool true, .bool true, .bool true, .bool true, .bool false] [4] [(4, .bool false)] [.is (((r2304.2 : Int) == 0) = true), .is (((r2333.2 : Int) == 0) = true), .is (((r2362.2 : Int) == 0) = true), .is (((r2392.2 : Int) == 0) = true), .is (((r2482.2 : Int) == 0) = false)] hf2540 (by kernel_rfl) ⟨(eqT c2542), (eqT c2543), (eqT c2544), (eqT c2545), (eqF c2546), trivial⟩ fun a2581 hf2582 => ?_
                have hm2583 := hm2541.sel [] _ rfl (by kernel_rfl)
                refine thenN ?_
                refine wp_ret ?_
                have hm2584 : Mem [] M w0 [] w2535 := hm2583.sel [] _ rfl (by kernel_rfl)
                obtain rfl := Option.some.inj H0
                refine ret [] [.bool false] [] hf2582 (by kernel_rfl) trivial ?_
                exact ⟨_, rfl, rfl, hm2584⟩
            · refine reg [.bool true, .bool true, .bool true, .bool false] [4] [(4, .bool false)] [.is (((r2304.2 : Int) == 0) = true), .is (((r2333.2 : Int) == 0) = true), .is (((r2362.2 : Int) == 0) = true), .is (((r2392.2 : Int) == 0) = false)] hf2540 (by kernel_rfl) ⟨(eqT c2542), (eqT c2543), (eqT c2544), (eqF c2545), trivial⟩ fun a2586 hf2587 => ?_
              have hm2588 := hm2541.sel [] _ rfl (by kernel_rfl)
              refine thenN ?_
              refine wp_ret ?_
              have hm2589 : Mem [] M w0 [] w2535 := hm2588.sel [] _ rfl (by kernel_rfl)
              obtain rfl := Option.some.inj H0
              refine ret [] [.bool false] [] hf2587 (by kernel_rfl) trivial ?_
              exact ⟨_, rfl, rfl, hm2589⟩
          · refine reg [.bool true, .bool true, .bool false] [4] [(4, .bool false)] [.is (((r2304.2 : Int) == 0) = true), .is (((r2333.2 : Int) == 0) = true), .is (((r2362.2 : Int) == 0) = false)] hf2540 (by kernel_rfl) ⟨(eqT c2542), (eqT c2543), (eqF c2544), trivial⟩ fun a2591 hf2592 => ?_
            have hm2593 := hm2541.sel [] _ rfl (by kernel_rfl)
            refine thenN ?_
            refine wp_ret ?_
            have hm2594 : Mem [] M w0 [] w2535 := hm2593.sel [] _ rfl (by kernel_rfl)
            obtain rfl := Option.some.inj H0
            refine ret [] [.bool false] [] hf2592 (by kernel_rfl) trivial ?_
            exact ⟨_, rfl, rfl, hm2594⟩
        · refine reg [.bool true, .bool false] [4] [(4, .bool false)] [.is (((r2304.2 : Int) == 0) = true), .is (((r2333.2 : Int) == 0) = false)] hf2540 (by kernel_rfl) ⟨(eqT c2542), (eqF c2543), trivial⟩ fun a2596 hf2597 => ?_
          have hm2598 := hm2541.sel [] _ rfl (by kernel_rfl)
          refine thenN ?_
          refine wp_ret ?_
          have hm2599 : Mem [] M w0 [] w2535 := hm2598.sel [] _ rfl (by kernel_rfl)
          obtain rfl := Option.some.inj H0
          refine ret [] [.bool false] [] hf2597 (by kernel_rfl) trivial ?_
          exact ⟨_, rfl, rfl, hm2599⟩
      · refine reg [.bool false] [4] [(4, .bool false)] [.is (((r2304.2 : Int) == 0) = false)] hf2540 (by kernel_rfl) ⟨(eqF c2542), trivial⟩ fun a2601 hf2602 => ?_
        have hm2603 := hm2541.sel [] _ rfl (by kernel_rfl)
        refine thenN ?_
        refine wp_ret ?_
        have hm2604 : Mem [] M w0 [] w2535 := hm2603.sel [] _ rfl (by kernel_rfl)
        obtain rfl := Option.some.inj H0
        refine ret [] [.bool false] [] hf2602 (by kernel_rfl) trivial ?_
        exact ⟨_, rfl, rfl, hm2604⟩
  · refine inReg ?_
    refine listOf hf29 rfl (by kernel_rfl) (aCall (fid := 32) (args := []) (d := 24) hf29 (by kernel_rfl) (by kernel_rfl) callable32 (law5_awake.calls _ _  (hm27.give [] [] rfl rfl) r30 hr30) ?_)
    rintro _ w2606 a2607 ⟨rfl, hk2609⟩ hf2608
    have hm2610 := hm27.still hk2609.cum.none
    rw [c31] at hf2608
    refine go 1 [] [1, 2, 25] [(1, .slice A1 x1.length c1), (2, .pointer (some ⟨b21, 0, none⟩)), (25, .bool true)] [] hf2608 (by kernel_rfl) trivial fun a2611 hf2612 => ?_
    refine endL rfl ?_
    refine thenN ?_
    refine condT hf2612 (by kernel_rfl) ?_
    refine wp_seq ?_
    refine reg [] [4] [(4, .bool false)] [] hf2612 (by kernel_rfl) trivial fun a2613 hf2614 => ?_
    have hm2615 := hm2610.sel [] _ rfl (by kernel_rfl)
    refine thenN ?_
    refine wp_ret ?_
    refine thenR ?_
    have hm2616 : Mem [] M w0 [] w2606 := hm2615.sel [] _ rfl (by kernel_rfl)
    obtain rfl := Option.some.inj H0
    refine ret [] [.bool false] [] hf2614 (by kernel_rfl) trivial ?_
    exact ⟨_, rfl, rfl, hm2616⟩
end Go.Proofs.Ytkcgiolledmbnaa
