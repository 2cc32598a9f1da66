/- The engine, part 16: a strings.Builder of our own. -/
import Derived.Test.YtkdhahdfkonilaaDoorE15
namespace Go.Proofs.YtkdhahdfkonilaaDoor
open Go Go.RowKit
set_option linter.unusedSimpArgs false
set_option linter.unusedVariables false

def Kd.byte : Kd UInt8 where
  n := 1
  rep := fun _ _ cs x => cs = [.int .u8 x.toNat]
  len := by rintro S w cs x rfl; rfl
  one := by rintro S w cs x rfl u hu; simp at hu; subst hu; rfl
  move := fun _ _ h => h

/-- what a builder's first field holds: nothing, or where the builder is -/
def bptr (b : Nat) : Bool → Value
  | true => .pointer (some ⟨b, 0, none⟩)
  | false => .pointer none

theorem Els.bytes {S : Nat → Prop} {w : World} {cs : List Value} {xs : List UInt8} (h : Els Kd.byte S w cs xs) : cs = Lib.byteCells xs := by
  have hn : Kd.byte.n = 1 := rfl
  have hl : cs.length = xs.length := by rw [h.1, hn, Nat.mul_one]
  apply List.ext_getElem
  · rw [hl, Lib.byteCells_length]
  · intro i h1 h2
    obtain ⟨us, q1, q2⟩ := h.2 i (by omega)
    have q1 : us = _ := q1
    subst q1
    have := q2 0 _ rfl
    rw [hn, Nat.mul_one, Nat.add_zero, List.getElem?_eq_getElem h1] at this
    have := Option.some.inj this
    rw [this]
    simp [Lib.byteCells]

theorem bytesEls {S : Nat → Prop} {w : World} (xs : List UInt8) : Els Kd.byte S w (Lib.byteCells xs) xs :=
  ⟨by rw [Lib.byteCells_length]; exact (Nat.mul_one _).symm, fun i hi => ⟨[.int .u8 xs[i].toNat], rfl, fun j u hj => by
    have h0 : j = 0 := by
      have := (List.getElem?_eq_some_iff.1 hj).1
      simp at this; exact this
    subst h0
    simp at hj
    subst hj
    have e : i * Kd.byte.n + 0 = i := by show i * 1 + 0 = i; omega
    rw [e]
    simp [Lib.byteCells, hi]⟩⟩

section
variable {M : List (Option Nat)} {w0 w : World} {fs ps : List Fact} {b c : Nat} {A : Option Addr} {xs : List UInt8} {u : Bool}

theorem Mem.isBuilder (h : Mem [] M w0 fs w) (i j : Nat) (hij : i ≠ j) (hi : fs[i]? = some (.bx b [bptr b u, .slice A xs.length c] 59)) (hj : fs[j]? = some (.ow Kd.byte 5 A c xs)) : Lib.IsBuilder 59 5 w0.heap.size b (Lib.byteCells xs) w := by
  have hbm : some b ∈ rows fs := mem_rows (List.mem_of_getElem? hi) (by simp [Fact.row])
  have hbl : w0.heap.size ≤ b := by
    rcases (h.low b hbm).1 with h1 | h1
    · exact h1
    · cases h1
  have hbx : Bx w b [bptr b u, .slice A xs.length c] 59 := h.bxAt i hi
  obtain ⟨cs, hown, hels⟩ := h.owAt j hj
  have hcs := hels.bytes
  subst hcs
  have key : Lib.BuilderAt 59 5 w0.heap.size b (bptr b u) (Lib.byteCells xs) w := by
    refine ⟨hbl, .slice A xs.length c, hbx, ?_, ?_⟩
    · rw [Lib.byteCells_length]
      refine ⟨hown.1, ?_⟩
      rcases hown.2 with h1 | ⟨g, cap, cur, h1, h2, h3⟩
      · exact .inl h1
      · refine .inr ⟨g, cap, cur, h1, ?_, h3⟩
        have hA : A = some ⟨g, 0, none⟩ := by simp only [Value.slice.injEq] at h1; exact h1.1
        have hgm : some g ∈ rows fs := mem_rows (List.mem_of_getElem? hj) (by simp [Fact.row, bk, hA])
        rcases (h.low g hgm).1 with h4 | h4
        · exact h4
        · cases h4
    · intro hc
      rcases getElem?_inj_rows h.nd hi hj hij (r := some b) (by simp [Fact.row]) with h1 | h1
      · cases h1
      · apply h1
        cases A with
        | none => simp [Value.ownBlock] at hc
        | some a => simp only [Value.ownBlock, Option.some.injEq] at hc; simp [Fact.row, bk, hc]
  cases u with
  | true => exact .inr key
  | false => exact .inl key

theorem builderBack (hm0 : Mem [] M w0 ps w0) (hps : noRows ps = true) (hb : Below w0.heap.size w0 w) (h : Lib.BuilderAt 59 5 w0.heap.size b (.pointer (some ⟨b, 0, none⟩)) (Lib.byteCells xs) w) :
    ∃ A c, Mem [] M w0 (.bx b [bptr b true, .slice A xs.length c] 59 :: .ow Kd.byte 5 A c xs :: ps) w := by
  obtain ⟨hbl, v, hbx, hown, hne⟩ := h
  rw [Lib.byteCells_length] at hown
  have hrp : rows ps = [] := by
    have h1 := noRows_spec hps
    clear hm0 hps
    induction ps with
    | nil => rfl
    | cons g l ih => simp [rows, h1 g (by simp), ih (fun f hf => h1 f (by simp [hf]))]
  have hlt : b < w.heap.size := (Array.getElem?_eq_some_iff.1 hbx).1
  obtain ⟨A, c, hv, hA⟩ : ∃ A c, v = .slice A xs.length c ∧ ∀ k, bk A = some k → w0.heap.size ≤ k ∧ k < w.heap.size ∧ k ≠ b := by
    rcases hown.2 with ⟨h1, h2⟩ | ⟨g, cap, cur, h1, h2, h3, _⟩
    · exact ⟨none, 0, by rw [h1, h2], fun k hk => by cases hk⟩
    · refine ⟨some ⟨g, 0, none⟩, cap, h1, fun k hk => ?_⟩
      simp only [bk, Option.map_some, Option.some.injEq] at hk
      subst hk
      refine ⟨h2, (Array.getElem?_eq_some_iff.1 h3).1, fun hc => hne ?_⟩
      rw [h1, ← hc]; rfl
  subst hv
  refine ⟨A, c, hm0.lt, ⟨hb.os, hb.tape, hb.output, hb.size, fun k hk _ => hb.block k hk⟩, ?_, ?_, ?_⟩
  · show apartRows ([some b] ++ ([bk A] ++ rows ps))
    rw [hrp]
    refine ⟨.inr ?_, .inr (by simp), trivial⟩
    intro hc
    simp at hc
    exact (hA b hc.symm).2.2 rfl
  · intro k hk
    have hk : some k ∈ [some b] ++ ([bk A] ++ rows ps) := hk
    rw [hrp] at hk
    simp at hk
    have hM : ∀ k, w0.heap.size ≤ k → some k ∉ M := fun k h1 h2 => by have := hm0.lt k h2; omega
    rcases hk with rfl | hk
    · exact ⟨.inl hbl, hlt, hM _ hbl⟩
    · obtain ⟨h1, h2, _⟩ := hA k hk.symm
      exact ⟨.inl h1, h2, hM _ h1⟩
  · intro f hf
    rcases List.mem_cons.1 hf with rfl | hf
    · exact hbx
    rcases List.mem_cons.1 hf with rfl | hf
    · refine ⟨Lib.byteCells xs, ⟨hown.1, ?_⟩, bytesEls xs⟩
      rcases hown.2 with h1 | ⟨g, cap, cur, h1, h2, h3⟩
      · exact .inl h1
      · exact .inr ⟨g, cap, cur, h1, Nat.zero_le _, h3⟩
    · refine Fact.ok_tr (row := none) ⟨hb.os, hb.tape, hb.output, hb.size, fun k hk _ => hb.block k hk⟩ (fun k hk hM => ⟨fun hc => ?_, hb.block k hk⟩) (fun r _ => by cases r <;> simp) (hm0.ok f hf)
      rw [hrp] at hM
      rcases List.mem_append.1 hc with hc | hc
      · have hc : some k ∈ [some b] ++ ([bk A] ++ rows ps) := hc
        rw [hrp] at hc
        simp at hc
        rcases hc with rfl | hc
        · omega
        · have := (hA k hc.symm).1; omega
      · exact hM (by simpa using hc)

theorem Below.of_gb {B : Nat} (h : Gb [] w0 w) (hB : B ≤ w0.heap.size) : Below B w0 w := ⟨h.os, h.tape, h.output, h.size, fun k hk => h.block k (Nat.lt_of_lt_of_le hk hB) (by simp)⟩

theorem write_calls (hm0 : Mem [] M w0 ps w0) (hps : noRows ps = true) (h : Mem [] M w0 fs w) (i j : Nat) (hij : i ≠ j) (hi : fs[i]? = some (.bx b [bptr b u, .slice A xs.length c] 59)) (hj : fs[j]? = some (.ow Kd.byte 5 A c xs))
    (s : List UInt8) (hl : xs.length + s.length ≤ 140737488355328) :
    Calls Tryd.prog 23 [.pointer (some ⟨b, 0, none⟩), .string (bs s)].toArray w (fun x w' => ∃ v, x = .returned v ∧ ∃ A' c', v = .tuple #[.int .i64 (s.length : Int), .nilIface] ∧ Mem [] M w0 (.bx b [bptr b true, .slice A' (xs ++ s).length c'] 59 :: .ow Kd.byte 5 A' c' (xs ++ s) :: ps) w') := by
  have hB := h.isBuilder i j hij hi hj
  have hC := Any.Builder_WriteString (ρ := Tryd.lays156_ren) { Tryd.lays156 with } Tryd.Builder_Extra_156 w0.heap.size b (Lib.byteCells xs) (bs s) w hB (by rw [Lib.byteCells_length]; exact hl) h.cum.size
  refine Calls.mono hC ?_
  rintro e w' ⟨rfl, hat, hbel⟩
  have e1 : Lib.byteCells xs ++ Lib.strCells (bs s) = Lib.byteCells (xs ++ s) := by simp [Lib.byteCells, Lib.strCells, bs]
  rw [e1] at hat
  obtain ⟨A', c', hm⟩ := builderBack hm0 hps ((Below.of_gb h.cum (Nat.le_refl _)).trans hbel) hat
  exact ⟨_, rfl, A', c', rfl, hm⟩

theorem string_calls (hm0 : Mem [] M w0 ps w0) (hps : noRows ps = true) (h : Mem [] M w0 fs w) (i j : Nat) (hij : i ≠ j) (hi : fs[i]? = some (.bx b [bptr b u, .slice A xs.length c] 59)) (hj : fs[j]? = some (.ow Kd.byte 5 A c xs)) :
    Calls Tryd.prog 25 [.pointer (some ⟨b, 0, none⟩)].toArray w (fun x w' => ∃ v, x = .returned v ∧ v = .string (bs xs) ∧ Mem [] M w0 ps w') := by
  have hB := h.isBuilder i j hij hi hj
  refine (Tryd.Builder_String_any w0.heap.size b xs w hB h.cum.size).mono ?_
  rintro e w' ⟨rfl, hbel⟩
  refine ⟨_, rfl, rfl, ?_⟩
  have hb := (Below.of_gb h.cum (Nat.le_refl _)).trans hbel
  exact hm0.still ⟨hb.os, hb.tape, hb.output, hb.size, fun k hk _ => hb.block k hk⟩
end
/-- a part of a string -/
def slc (x : List UInt8) (lo hi : Int) : List UInt8 := ((bs x).extract lo.toNat hi.toNat).data.toList
theorem slc_eq (x : List UInt8) (lo hi : Int) : slc x lo hi = (x.take hi.toNat).drop lo.toNat := by
  unfold slc bs
  rw [ByteArray.data_extract]
  rw [Array.toList_extract, List.drop_take]
end Go.Proofs.YtkdhahdfkonilaaDoor
