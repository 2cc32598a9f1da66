/- The engine, part 15: what Go's library answers, over the contracts of the kit's shelf (laid in YtkdhahdfkonilaaDoorS); the tables that it reads. -/
import Derived.Test.YtkdhahdfkonilaaDoorE14
import Derived.Test.YtkdhahdfkonilaaDoorS
import Derived.Lib.SmallJoins
namespace Go.Proofs.YtkdhahdfkonilaaDoor
open Go Go.RowKit
set_option linter.unusedSimpArgs false
set_option linter.unusedVariables false

/-- what the package-level variables of the library hold; none of them is to be written (B: what may be written) -/
structure Glob (B : List (Option Nat)) (w : World) : Prop where
  size : 12 ≤ w.heap.size
  free : ∀ g, g < 12 → some g ∉ B
  pow : Lib.TabIs Tryd.prog w "internal/strconv.uint64pow10" .u64 Lib.pow10Tab
  asc : Lib.TabIs Tryd.prog w "strings.asciiSpace" .u8 Lib.asciiSpaceTab
  max : ∃ m, w.cell? ⟨2, 0, none⟩ = some (.int .i64 m)
  err : ∃ te pe, w.cell? ⟨7, 0, none⟩ = some (.iface te pe)

theorem tab_at {w w' : World} {name : String} {g : Nat} {k : IntKind} {zs : List Int} (hg : Tryd.prog.globalNamed name = some g) (h : w'.heap[g]? = w.heap[g]?) (ht : Lib.TabIs Tryd.prog w name k zs) : Lib.TabIs Tryd.prog w' name k zs := by
  unfold Lib.TabIs World.var? at ht ⊢
  rw [hg] at ht ⊢
  simp only [Option.bind_some, h] at ht ⊢
  exact ht

section
variable {B M : List (Option Nat)} {w0 w : World} {fs : List Fact}
theorem Glob.to {B' : List (Option Nat)} (G : Glob B w0) (hs : w0.heap.size ≤ w.heap.size) (hk : ∀ k, k < 12 → w.heap[k]? = w0.heap[k]?) (hf : ∀ g, g < 12 → some g ∉ B') : Glob B' w :=
  ⟨Nat.le_trans G.size hs, hf, tab_at (by kernel_rfl : Tryd.prog.globalNamed "internal/strconv.uint64pow10" = some 4) (hk 4 (by decide)) G.pow, tab_at (by kernel_rfl : Tryd.prog.globalNamed "strings.asciiSpace" = some 1) (hk 1 (by decide)) G.asc,
    let ⟨m, h⟩ := G.max; ⟨m, by rw [World.cell?_of_block (w := w0) (hk 2 (by decide))]; exact h⟩, let ⟨te, pe, h⟩ := G.err; ⟨te, pe, by rw [World.cell?_of_block (w := w0) (hk 7 (by decide))]; exact h⟩⟩
/-- later on they hold the same -/
theorem Glob.at (G : Glob B w0) (h : Mem B M w0 fs w) : Glob [] w :=
  G.to h.cum.size (fun k hk => h.cum.block k (Nat.lt_of_lt_of_le hk G.size) (G.free k hk)) (fun _ _ => by simp)
theorem Glob.atO (G : Glob B w0) (h : Mem B M w0 fs w) (is : List Nat) (own : List Fact) (hp : pickF fs is = some own) : Glob (rows own) w :=
  G.to h.cum.size (fun k hk => h.cum.block k (Nat.lt_of_lt_of_le hk G.size) (G.free k hk)) (fun g hg hc => by
    obtain ⟨f, hf, hr⟩ := rows_mem hc
    rcases (h.low g (mem_rows (pickF_mem hp f hf) hr)).1 with h1 | h1
    · have := G.size; omega
    · exact G.free g hg h1)
end

theorem drewS (w : World) (k : Nat) : w.grownBy (w.drewN k) none := grown_drewN w k
theorem growS (w : World) (k : Nat) (os : Array Obj) : w.grownBy (Sort.grow (w.drewN k) os) none :=
  ⟨rfl, rfl, rfl, by show w.heap.size ≤ (w.heap ++ os).size; simp, fun i hi _ => by show (w.heap ++ os)[i]? = w.heap[i]?; rw [Array.getElem?_append_left hi]⟩

/-! ### strconv -/
def strconv_Itoa.f (x0 : Int) : Option (List UInt8) := if -9223372036854775808 ≤ x0 ∧ x0 ≤ 9223372036854775807 then some (Lib.itoa x0) else none
theorem strconv_Itoa.calls (M : List (Option Nat)) (w0 : World) (x0 : Int) (hm0 : Mem [] M w0 [] w0) (r : List UInt8) (H0 : strconv_Itoa.f x0 = some r) (hG : Glob [] w0) :
    Calls Tryd.prog 48 [.int .i64 x0].toArray w0 (fun x w' => ∃ v, x = .returned v ∧ v = .string (bs r) ∧ Mem [] M w0 [] w') := by
  unfold strconv_Itoa.f at H0
  rcases if_split H0 with ⟨c, H0⟩ | ⟨_, H0⟩
  · obtain rfl := Option.some.inj H0
    refine (Tryd.strconv_Itoa x0 c.1 c.2 w0 hG.pow).mono ?_
    rintro e w' ⟨rfl, k, os, rfl⟩
    exact ⟨_, rfl, rfl, hm0.still (growS _ _ _)⟩
  · cases H0

/-- the number of a numeral, and whether it is one -/
def strconv_Atoi.f (x0 : List UInt8) : Option (Int × Bool) := if x0.length ≤ 18 then (match Lib.atoi x0 with | some n => some (n, true) | none => some (0, false)) else none
theorem strconv_Atoi.calls (M : List (Option Nat)) (w0 : World) (x0 : List UInt8) (hm0 : Mem [] M w0 [] w0) (r : Int × Bool) (H0 : strconv_Atoi.f x0 = some r) (hG : Glob [] w0) :
    Calls Tryd.prog 66 [.string (bs x0)].toArray w0 (fun x w' => ∃ v, x = .returned v ∧ ∃ ev, v = .tuple #[.int .i64 r.1, ev] ∧ ((r.2 = true ∧ ev = .nilIface) ∨ (r.2 = false ∧ ∃ t p, ev = .iface t p)) ∧ Mem [] M w0 [] w') := by
  unfold strconv_Atoi.f at H0
  rcases if_split H0 with ⟨c, H0⟩ | ⟨_, H0⟩
  · split at H0
    · rename_i n hn
      obtain rfl := Option.some.inj H0
      refine (Tryd.strconv_Atoi (bs x0) n c hn w0).mono ?_
      rintro e w' ⟨rfl, t, rfl⟩
      exact ⟨_, rfl, _, rfl, .inl ⟨rfl, rfl⟩, hm0.still (grown_of_below (Go.Joins.below_bytesWorld _ _ _ _ (Nat.le_refl _)))⟩
    · rename_i hn
      obtain rfl := Option.some.inj H0
      obtain ⟨te, pe, hv⟩ := hG.err
      refine (Tryd.strconv_Atoi_err (bs x0) c hn (.iface te pe) w0 hv (.inr ⟨te, pe, rfl⟩)).mono ?_
      rintro e w' ⟨N, rfl, _, _, hb⟩
      exact ⟨_, rfl, _, rfl, .inr ⟨rfl, _, _, rfl⟩, hm0.still (grown_of_below hb)⟩
  · cases H0

/-! ### strings -/
def strings_IndexByte.f (x0 : List UInt8) (x1 : Int) : Option Int := some (Lib.indexByte x0 x1.toNat.toUInt8)
theorem strings_IndexByte.calls (M : List (Option Nat)) (w0 : World) (x0 : List UInt8) (x1 : Int) (hm0 : Mem [] M w0 [] w0) (r : Int) (H0 : strings_IndexByte.f x0 x1 = some r) :
    Calls Tryd.prog 34 [.string (bs x0), .int .u8 x1].toArray w0 (fun x w' => ∃ v, x = .returned v ∧ v = .int .i64 r ∧ Mem [] M w0 [] w') := by
  obtain rfl := Option.some.inj H0
  refine (Tryd.strings_IndexByte (bs x0) x1 w0).mono ?_
  rintro e w' ⟨rfl, rfl⟩
  exact ⟨_, rfl, rfl, hm0⟩

def strings_Cut.f (x0 x1 : List UInt8) : Option (List UInt8 × List UInt8 × Bool) := if x0.length < 4294967281 then some (Lib.cut x0 x1) else none
theorem strings_Cut.calls (M : List (Option Nat)) (w0 : World) (x0 x1 : List UInt8) (hm0 : Mem [] M w0 [] w0) (r : List UInt8 × List UInt8 × Bool) (H0 : strings_Cut.f x0 x1 = some r) (hG : Glob [] w0) :
    Calls Tryd.prog 29 [.string (bs x0), .string (bs x1)].toArray w0 (fun x w' => ∃ v, x = .returned v ∧ v = .tuple #[.string (bs r.1), .string (bs r.2.1), .bool r.2.2] ∧ Mem [] M w0 [] w') := by
  unfold strings_Cut.f at H0
  rcases if_split H0 with ⟨c, H0⟩ | ⟨_, H0⟩
  · obtain rfl := Option.some.inj H0
    obtain ⟨m, hm⟩ := hG.max
    refine (Tryd.strings_Cut (bs x0) (bs x1) m w0 c hm).mono ?_
    rintro e w' ⟨rfl, n, rfl⟩
    exact ⟨_, rfl, rfl, hm0.still (drewS _ _)⟩
  · cases H0

/-- a new row of strings -/
theorem newStrs {M : List (Option Nat)} {w0 : World} (hm0 : Mem [] M w0 [] w0) (xs : List (List UInt8)) (hl : xs.length ≤ maxLen) : Mem [] M w0 [.ow Kd.str 9 (some ⟨w0.heap.size, 0, none⟩) xs.length xs] (w0.alloc (.cells (xs.map fun l => Value.string (bs l)).toArray 9)) := by
  have hb : Bx (w0.alloc (.cells (xs.map fun l => Value.string (bs l)).toArray 9)) w0.heap.size (xs.map fun l => Value.string (bs l)) 9 := by
    show (w0.alloc (.cells (xs.map fun l => Value.string (bs l)).toArray 9)).heap[w0.heap.size]? = _
    rw [show ∀ o, (w0.alloc o).heap = w0.heap.push o from fun _ => rfl]
    simp
  have hg : w0.grownBy (w0.alloc (.cells (xs.map fun l => Value.string (bs l)).toArray 9)) none := ⟨rfl, rfl, rfl, by rw [show ∀ o, (w0.alloc o).heap = w0.heap.push o from fun _ => rfl]; simp, fun k hk _ => by rw [show ∀ o, (w0.alloc o).heap = w0.heap.push o from fun _ => rfl, Array.getElem?_push, if_neg (Nat.ne_of_lt hk)]⟩
  refine hm0.litOwn rfl hb hg ⟨by simp [Kd.str], fun i hi => ⟨[.string (bs xs[i])], rfl, fun j u hj => ?_⟩⟩ hl
  have h0 : j = 0 := by
    have := (List.getElem?_eq_some_iff.1 hj).1
    simp at this; exact this
  subst h0
  simp at hj
  subst hj
  have e : i * (Kd.str).n + 0 = i := by show i * 1 + 0 = i; omega
  rw [e, List.getElem?_map, List.getElem?_eq_getElem hi]
  rfl

def strings_Split.f (x0 x1 : List UInt8) : Option (List (List UInt8)) :=
  if x0.length < 4294967281 ∧ 1 ≤ x1.length then some ((Lib.splitB (bs x1) 0 (Lib.countB (bs x0) (bs x1)) (bs x0)).map (·.data.toList)) else none
theorem strings_Split.calls (M : List (Option Nat)) (w0 : World) (x0 x1 : List UInt8) (hm0 : Mem [] M w0 [] w0) (r : List (List UInt8)) (H0 : strings_Split.f x0 x1 = some r) (hG : Glob [] w0) :
    Calls Tryd.prog 42 [.string (bs x0), .string (bs x1)].toArray w0 (fun x w' => ∃ v, x = .returned v ∧ ∃ Ar0 cr0, v = .slice Ar0 r.length cr0 ∧ Mem [] M w0 [.ow Kd.str 9 Ar0 cr0 r] w') := by
  unfold strings_Split.f at H0
  rcases if_split H0 with ⟨c, H0⟩ | ⟨_, H0⟩
  · obtain rfl := Option.some.inj H0
    obtain ⟨m, hm⟩ := hG.max
    have hlen := Lib.splitB_all (bs x1) c.2 0 _ (bs x0) rfl
    have hle := Lib.countB_le (bs x1) c.2 (bs x0).size (bs x0) (Nat.le_refl _)
    have h1 : (Lib.splitB (bs x1) 0 (Lib.countB (bs x0) (bs x1)) (bs x0)).length = Lib.countB (bs x0) (bs x1) + 1 := hlen
    refine (Tryd.strings_Split (bs x0) (bs x1) m w0 c.1 hm c.2).mono ?_
    rintro e w' ⟨rfl, rfl⟩
    have key := newStrs hm0 ((Lib.splitB (bs x1) 0 (Lib.countB (bs x0) (bs x1)) (bs x0)).map (·.data.toList)) (by
      rw [List.length_map, h1]
      have : (bs x0).size = x0.length := rfl
      unfold maxLen; omega)
    simp only [List.length_map, h1] at key ⊢
    have e2 : ((Lib.splitB (bs x1) 0 (Lib.countB (bs x0) (bs x1)) (bs x0)).map (·.data.toList)).map (fun l => Value.string (bs l)) = (Lib.splitB (bs x1) 0 (Lib.countB (bs x0) (bs x1)) (bs x0)).map Value.string := by
      rw [List.map_map]; rfl
    rw [e2] at key
    exact ⟨_, rfl, _, _, rfl, key⟩
  · cases H0

def strings_Fields.f (x0 : List UInt8) : Option (List (List UInt8)) := if x0.length < 4294967281 ∧ (∀ b ∈ x0, b.toNat < 128) ∧ (Lib.fields x0).length ≤ 9223372036854775807 then some (Lib.fields x0) else none
theorem strings_Fields.calls (M : List (Option Nat)) (w0 : World) (x0 : List UInt8) (hm0 : Mem [] M w0 [] w0) (r : List (List UInt8)) (H0 : strings_Fields.f x0 = some r) (hG : Glob [] w0) :
    Calls Tryd.prog 47 [.string (bs x0)].toArray w0 (fun x w' => ∃ v, x = .returned v ∧ ∃ Ar0 cr0, v = .slice Ar0 r.length cr0 ∧ Mem [] M w0 [.ow Kd.str 9 Ar0 cr0 r] w') := by
  unfold strings_Fields.f at H0
  rcases if_split H0 with ⟨c, H0⟩ | ⟨_, H0⟩
  · obtain rfl := Option.some.inj H0
    refine (Tryd.strings_Fields (bs x0) w0 c.1 (fun j b hj => c.2.1 b (List.mem_of_getElem? hj)) hG.asc).mono ?_
    rintro e w' ⟨rfl, rfl⟩
    exact ⟨_, rfl, _, _, rfl, newStrs hm0 (Lib.fields x0) c.2.2⟩
  · cases H0

def strings_Join.f (x0 : List (List UInt8)) (x1 : List UInt8) : Option (List UInt8) :=
  if x0.length ≤ 140737488355328 ∧ (Lib.join x0 x1).length ≤ 140737488355328 then some (Lib.join x0 x1) else none
theorem strings_Join.calls (M : List (Option Nat)) (w0 : World) (x0 : List (List UInt8)) (A0 : Option Addr) (n0 c0 : Nat) (e0 : n0 = x0.length) (x1 : List UInt8) (hm0 : Mem [] M w0 [.sl Kd.str A0 c0 x0] w0) (r : List UInt8) (H0 : strings_Join.f x0 x1 = some r) :
    Calls Tryd.prog 24 [.slice A0 n0 c0, .string (bs x1)].toArray w0 (fun x w' => ∃ v, x = .returned v ∧ v = .string (bs r) ∧ Mem [] M w0 [] w') := by
  subst e0
  unfold strings_Join.f at H0
  have hm1 : Mem [] M w0 [] w0 := hm0.sel [] _ rfl (by kernel_rfl)
  rcases if_split H0 with ⟨c, H0⟩ | ⟨_, H0⟩
  · obtain rfl := Option.some.inj H0
    obtain ⟨hcp, hsl⟩ := hm0.get 0 (f := .sl Kd.str A0 c0 x0) rfl
    have em : (x0.map bs).map (·.data.toList) = x0 := by rw [List.map_map]; exact List.map_id x0
    rcases hsl with rfl | ⟨b, o, rfl, _, hb, he⟩
    · refine (Tryd.strings_Join_none A0 c0 (bs x1) w0).mono ?_
      rintro e w' ⟨rfl, rfl⟩
      exact ⟨_, rfl, rfl, hm1⟩
    · have hJ := Tryd.strings_Join b o c0 (x0.map bs) (bs x1) w0 (fun j x hj => by
        rw [List.getElem?_map] at hj
        obtain ⟨y, hy, rfl⟩ := Option.map_eq_some_iff.1 hj
        obtain ⟨hjl, rfl⟩ := List.getElem?_eq_some_iff.1 hy
        obtain ⟨us, q1, q2⟩ := he j hjl
        have q1 : us = _ := q1
        subst q1
        have := q2 0 _ rfl
        have e : (Kd.str).n = 1 := rfl
        rw [e, Nat.mul_one, Nat.add_zero] at this
        exact this) hb (by simpa using c.1) (by simpa using hcp.1) (by rw [em]; exact c.2)
      rw [em, List.length_map] at hJ
      refine hJ.mono ?_
      rintro e w' ⟨rfl, hbel⟩
      exact ⟨_, rfl, rfl, hm1.still (grown_of_below hbel)⟩
  · cases H0
end Go.Proofs.YtkdhahdfkonilaaDoor
