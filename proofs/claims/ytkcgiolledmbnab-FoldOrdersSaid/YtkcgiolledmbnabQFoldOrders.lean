/- Plain law of FoldOrders: in whatever order slots are filled, what they come to is the same. -/
import Derived.Test.YtkcgiolledmbnabQA8
import Derived.Test.YtkcgiolledmbnabP9
import Derived.Test.YtkcgiolledmbnabLFoldOrders
namespace Go.Proofs.Ytkcgiolledmbnab
open Go Go.RowKit
set_option linter.unusedSimpArgs false
set_option linter.unusedVariables false

theorem mem_erase {ls : List Nat} (hn : ls.Nodup) {k : Nat} (hk : k < ls.length) (x : Nat) : x ∈ ls.eraseIdx k ↔ x ∈ ls ∧ x ≠ ls[k] := by
  rw [List.mem_eraseIdx_iff_getElem]
  constructor
  · rintro ⟨i, hi, hne, rfl⟩
    refine ⟨List.getElem_mem _, fun h => hne ?_⟩
    have hp := List.pairwise_iff_getElem.1 hn
    rcases Nat.lt_trichotomy i k with hlt | heq | hgt
    · exact absurd h (hp i k hi hk hlt)
    · exact heq
    · exact absurd h.symm (hp k i hk hi hgt)
  · rintro ⟨hm, hne⟩
    obtain ⟨i, hi, rfl⟩ := List.mem_iff_getElem.1 hm
    exact ⟨i, hi, fun h => hne (by subst h; rfl), rfl⟩

theorem rd_map (ls : List Nat) (k : Nat) (h : k < ls.length) : rd (ls.map Int.ofNat) (k : Int) = (ls[k] : Int) := by
  rw [rd_nat _ k (by simpa using h)]
  simp

/-- what is known between rounds -/
structure Inv (l : List Tensor) (ls : List Nat) (L : List Tensor) (F : List Bool) : Prop where
  nd : ls.Nodup
  lt : ∀ x ∈ ls, x < l.length
  lL : L.length = l.length
  lF : F.length = l.length
  fil : ∀ j (h : j < F.length), F[j] = true ↔ j ∉ ls
  val : ∀ j (h : j < L.length) (h' : j < l.length), j ∉ ls → L[j] = l[j]

theorem Inv.next {l : List Tensor} {ls : List Nat} {L : List Tensor} {F : List Bool} (h : Inv l ls L F) {k : Nat} (hk : k < ls.length) (he : ls[k] < l.length) :
    Inv l (ls.eraseIdx k) (L.set ls[k] l[ls[k]]) (F.set ls[k] true) := by
  have hm := mem_erase h.nd hk
  refine ⟨h.nd.sublist (List.eraseIdx_sublist _ _), fun x hx => h.lt x ((hm x).1 hx).1, by simp [h.lL], by simp [h.lF], fun j hj => ?_, fun j hj hj' hn => ?_⟩
  · simp only [List.length_set] at hj
    rw [List.getElem_set, hm j]
    by_cases hjk : ls[k] = j
    · rw [if_pos hjk]
      exact ⟨fun _ c => c.2 hjk.symm, fun _ => rfl⟩
    · rw [if_neg hjk, h.fil j hj]
      constructor
      · intro h1 h2; exact h1 h2.1
      · intro h1 h2; exact h1 ⟨h2, fun c => hjk c.symm⟩
  · simp only [List.length_set] at hj
    rw [List.getElem_set]
    by_cases hjk : ls[k] = j
    · subst hjk; rw [if_pos rfl]
    · rw [if_neg hjk]
      refine h.val j hj hj' (fun c => hn ((hm j).2 ⟨c, fun c2 => hjk c2.symm⟩))

theorem put_ok {S : List Int} {l L : List Tensor} {F : List Bool} {rem : Int} {e : Nat} (hl : l.length ≤ 1000) (he : e < l.length) (hL : L.length = l.length) (hF : F.length = l.length) (hf : ¬ rd F (e : Int) = true) (ht : tmay l[e] = true) (hs : l[e].Shape = S) :
    fold_Slots_Put.f ⟨S, L, F, rem⟩ (e : Int) ⟨l[e].Shape, l[e].Data⟩ = some (L.set e l[e], F.set e true, w64 (rem - 1), 0) := by
  obtain ⟨_, k2, _, k4, _⟩ := tmay_fits ht
  unfold fold_Slots_Put.f
  simp only
  rw [if_neg (by omega), if_neg (by omega), if_pos (by omega), if_neg hf, tensor_May_eq, obind, if_pos ht, shape_Same_eq _ _ (by omega), obind, if_pos (decide_eq_true hs), tensor_Copy_eq _ (by simp only; omega) (by simp only; omega), obind, if_pos (by omega), put_at L _ e _ rfl, put_at F _ e _ rfl]

theorem put_again {S : List Int} {l L : List Tensor} {F : List Bool} {rem : Int} {e : Nat} (t : Tensor) (he : e < l.length) (hL : L.length = l.length) (hF : F.length = l.length) (hf : rd F (e : Int) = true) :
    fold_Slots_Put.f ⟨S, L, F, rem⟩ (e : Int) t = some (L, F, rem, 1) := by
  unfold fold_Slots_Put.f
  simp only
  rw [if_neg (by omega), if_neg (by omega), if_pos (by omega), if_pos hf]

theorem erase_int {ls : List Nat} {k : Nat} (hk : k < ls.length) : (([] : List Int) ++ ((List.take k (ls.map Int.ofNat)).drop 0)) ++ ((List.take (ls.map Int.ofNat).length (ls.map Int.ofNat)).drop (k + 1)) = (ls.eraseIdx k).map Int.ofNat := by
  rw [List.nil_append, List.drop_zero, List.take_length, List.eraseIdx_eq_take_drop_succ, List.map_append, List.map_take, List.map_drop]

theorem orders_loop (l : List Tensor) (ord : List Int) (y : Slots) (hl : l.length ≤ 40) (hf : fitL l) (h0 : l ≠ []) (hy : y.s = (rd l 0).Shape) (ho : ∀ x ∈ ord, 0 ≤ x ∧ x ≤ 255) (hol : ord.length ≤ 100) :
    ∀ (ls : List Nat) (i : Nat) (L : List Tensor) (F : List Bool), Inv l ls L F → i + ls.length ≤ 40 →
      ∃ i' : Int, loop (law8_FoldOrders.l1 ord y l) (ls.map Int.ofNat, (i : Int), (ls.length : Int), L, F) = some (.go ([], i', 0, l, (List.replicate l.length true))) := by
  intro ls
  generalize hn : ls.length = n
  induction n generalizing ls with
  | zero =>
    intro i L F h hil
    have : ls = [] := List.length_eq_zero_iff.1 hn
    subst this
    refine ⟨i, ?_⟩
    have eL : L = l := List.ext_getElem h.lL (fun j h1 h2 => h.val j h1 h2 (by simp))
    have eF : F = List.replicate l.length true := List.ext_getElem (by simp [h.lF]) (fun j h1 h2 => by rw [List.getElem_replicate]; exact (h.fil j h1).2 (by simp))
    rw [loop_eq]
    unfold law8_FoldOrders.l1
    simp only [List.map_nil, List.length_nil]
    rw [if_neg (by omega), eL, eF]
    rfl
  | succ n ih =>
    intro i L F h hil
    have hll := h.lt
    have round : ∀ k : Nat, (hk : k < ls.length) → law8_FoldOrders.l1 ord y l (ls.map Int.ofNat, (i : Int), ((n + 1 : Nat) : Int), L, F) = .next ((ls.eraseIdx k).map Int.ofNat, ((i + 1 : Nat) : Int), (n : Int), L.set ls[k] (l[ls[k]]'(hll _ (List.getElem_mem hk))), F.set ls[k] true) →
        ∃ i' : Int, loop (law8_FoldOrders.l1 ord y l) (ls.map Int.ofNat, (i : Int), ((n + 1 : Nat) : Int), L, F) = some (.go ([], i', 0, l, (List.replicate l.length true))) := by
      intro k hk hb
      have he := hll _ (List.getElem_mem hk)
      have hlen : (ls.eraseIdx k).length = n := by rw [List.length_eraseIdx_of_lt hk]; omega
      obtain ⟨i', e⟩ := ih (ls.eraseIdx k) hlen (i + 1) _ _ (h.next hk he) (by omega)
      exact ⟨i', by rw [loop_eq, hb]; exact e⟩
    have hnl : n + 1 ≤ l.length := by
      have h1 : ls.length ≤ (List.range l.length).length := (h.nd).length_le_of_subset (fun x hx => List.mem_range.2 (hll x hx))
      rw [List.length_range] at h1
      omega
    have hv : fold_Slots_Value.f ⟨y.s, L, F, ((n + 1 : Nat) : Int)⟩ = some (noT, 1) := by
      unfold fold_Slots_Value.f
      simp only
      rw [if_pos (by omega)]
      rfl
    have facts : ∀ k : Nat, (hk : k < ls.length) → fold_Slots_Put.f ⟨y.s, L, F, ((n + 1 : Nat) : Int)⟩ (ls[k] : Int) ⟨(rd l (ls[k] : Int)).Shape, (rd l (ls[k] : Int)).Data⟩ = some (L.set ls[k] (l[ls[k]]'(hll _ (List.getElem_mem hk))), F.set ls[k] true, (n : Int), 0) ∧
        fold_Slots_Put.f ⟨y.s, L.set ls[k] (l[ls[k]]'(hll _ (List.getElem_mem hk))), F.set ls[k] true, (n : Int)⟩ (ls[k] : Int) ⟨(rd l (ls[k] : Int)).Shape, (rd l (ls[k] : Int)).Data⟩ = some (L.set ls[k] (l[ls[k]]'(hll _ (List.getElem_mem hk))), F.set ls[k] true, (n : Int), 1) ∧ (ls[k] : Int) < (l.length : Int) := by
      intro k hk
      have he := hll _ (List.getElem_mem hk)
      have hx := hf _ (List.getElem_mem he)
      have hF : ls[k] < F.length := by rw [h.lF]; exact he
      refine ⟨?_, ?_, by omega⟩
      · rw [rd_nat l _ he, put_ok (rem := ((n + 1 : Nat) : Int)) (by omega) he h.lL h.lF (fun c => ?_) hx.1 (by rw [hx.2, hy])]
        · rw [w64_id (by omega) (by omega)]
          congr 3
          congr 1
          omega
        · rw [rd_nat F _ hF] at c
          exact (h.fil _ hF).1 c (List.getElem_mem hk)
      · refine put_again (l := l) _ he (by simp [h.lL]) (by simp [h.lF]) ?_
        rw [rd_nat _ _ (by simpa using hF), List.getElem_set_self]
    have hml : ((ls.map Int.ofNat).length : Int) = ((n + 1 : Nat) : Int) := by simp [hn]
    by_cases hi2 : i < ord.length
    · have hx := ho ord[i] (List.getElem_mem hi2)
      obtain ⟨k, ek, hk⟩ := tmod_nat hx (r := n + 1) (by omega)
      have hk' : k < ls.length := by omega
      refine round k hk' ?_
      obtain ⟨f1, f2, f3⟩ := facts k hk'
      have ek1 : w64 ((k : Int) + 1) = ((k + 1 : Nat) : Int) := by rw [w64_id (by omega) (by omega)]; omega
      unfold law8_FoldOrders.l1
      simp only [hml]
      rw [if_pos (by omega), if_pos (by omega), if_pos (by omega), rd_nat ord i hi2, ek, if_pos (by omega)]
      simp only [hv, bindS, rd_map ls k hk', f1, f2, ek1, Int.toNat_natCast]
      rw [if_pos trivial]
      simp only [fold_Slots_Left.f]
      rw [if_pos (by first | trivial | omega | (simp; omega)), if_pos (by first | trivial | omega | (simp; omega)), if_pos (by first | trivial | omega | (simp; omega)), if_pos (by first | trivial | omega | (simp; omega)), if_pos (by first | trivial | omega | (simp; omega)), if_pos (by first | trivial | omega | (simp; omega)), if_pos (by first | trivial | omega | (simp; omega)), if_pos (by first | trivial | omega | (simp; omega)), if_pos (by first | trivial | omega | (simp; omega)), erase_int hk']
      rw [w64_id (by omega) (by omega)]
      rfl
    · refine round 0 (by omega) ?_
      have hk' : 0 < ls.length := by omega
      obtain ⟨f1, f2, f3⟩ := facts 0 hk'
      have rm : rd (ls.map Int.ofNat) 0 = (ls[0] : Int) := rd_map ls 0 hk'
      unfold law8_FoldOrders.l1
      simp only [hml]
      rw [if_pos (by omega), if_neg (by omega)]
      simp only [hv, bindS, rm, f1, f2]
      rw [if_pos trivial]
      simp only [fold_Slots_Left.f]
      rw [if_pos (by first | trivial | omega | (simp; omega)), if_pos (by first | trivial | omega | (simp; omega)), if_pos (by first | trivial | omega | (simp; omega)), if_pos (by first | trivial | omega | (simp; omega)), if_pos (by first | trivial | omega | (simp; omega)), if_pos (by first | trivial | omega | (simp; omega)), if_pos (by first | trivial | omega | (simp; omega)), if_pos (by first | trivial | omega | (simp; omega)), if_pos (by first | trivial | omega | (simp; omega))]
      have e := erase_int hk'
      rw [show ((0 : Int)).toNat = 0 from rfl, show ((1 : Int)).toNat = 0 + 1 from rfl, e, w64_id (by omega) (by omega)]
      rfl

theorem left_loop (l : List Tensor) (hl : l.length ≤ 40) : loop (law8_FoldOrders.l0 l) (0, []) = some ((l.length : Int), (List.range l.length).map Int.ofNat) := by
  refine loop_to _ (fun k st => ∃ j : Nat, k + j = l.length ∧ st = ((j : Int), (List.range j).map Int.ofNat)) ?_ l.length _ ⟨0, rfl, rfl⟩
  rintro k _ ⟨j, hk, rfl⟩
  unfold law8_FoldOrders.l0
  simp only
  by_cases hj : j < l.length
  · right
    rw [if_pos (by omega), if_pos (by simp; omega)]
    refine ⟨_, k - 1, rfl, by omega, j + 1, by omega, ?_⟩
    rw [w64_id (by omega) (by omega), List.range_succ, List.map_append]
    rfl
  · left
    have hz : j = l.length := by omega
    subst hz
    rw [if_neg (by omega)]

theorem law8_FoldOrders.plain (l : List Tensor) (ord : List Int) (o : l.length ≤ 9223372036854775807) (ho : ∀ x ∈ ord, 0 ≤ x ∧ x ≤ 255) : law8_FoldOrders.f l ord = some true := by
  unfold law8_FoldOrders.f
  rw [law8_awake_ev, obind, if_pos rfl]
  obtain ⟨b, h1, h2⟩ := law8_Few_ex l o
  rw [h1, obind]
  by_cases hb : b = true
  rotate_left
  · rw [if_neg hb]
  have hl := (h2 hb).1
  rw [if_pos hb]
  by_cases c0 : (l.length : Int) = 0
  · rw [if_pos c0]
  rw [if_neg c0]
  by_cases c1 : 100 < (ord.length : Int)
  · rw [if_pos c1]
  rw [if_neg c1, ref6_Tree_eq l (by omega), obind]
  by_cases c2 : (treeT l).2 = 0
  rotate_left
  · rw [if_neg c2]
  obtain ⟨h0, hf, hm⟩ := treeT_may c2
  have h00 := (fitL_data hf h0).1
  have hlt : 0 < l.length := List.length_pos_iff.2 h0
  obtain ⟨k1, k2, k3, k4, k5⟩ := tmay_fits h00
  have hs : (size (rd l 0).Shape).2 = 0 := by rw [size_may k1]
  have hnew : fold_New.f (rd l 0).Shape (l.length : Int) = some (some ⟨(rd l 0).Shape, List.replicate l.length noT, List.replicate l.length false, (l.length : Int)⟩, 0) := by
    unfold fold_New.f
    rw [shape_Size_eq, obind, if_pos hs, if_neg (by omega), if_neg (by omega), slices_Clone_int_eq _ (by omega), obind, if_pos (by omega), Int.toNat_natCast]
    rfl
  rw [if_pos c2, if_pos (by omega), hnew, obind]
  simp only [onPtr]
  rw [if_pos trivial, left_loop l hl, obind]
  have inv : Inv l (List.range l.length) (List.replicate l.length noT) (List.replicate l.length false) := by
    refine ⟨List.nodup_range, fun x hx => List.mem_range.1 hx, by simp, by simp, fun j hj => ?_, fun j hj hj' hn => ?_⟩
    · simp only [List.length_replicate] at hj
      simp [hj]
    · exact absurd (List.mem_range.2 hj') hn
  obtain ⟨i', e⟩ := orders_loop l ord ⟨(rd l 0).Shape, List.replicate l.length noT, List.replicate l.length false, (l.length : Int)⟩ hl hf h0 rfl ho (by omega) (List.range l.length) 0 _ _ inv (by simp; omega)
  rw [List.length_range] at e
  have e' : loop (law8_FoldOrders.l1 ord ⟨(rd l 0).Shape, List.replicate l.length noT, List.replicate l.length false, (l.length : Int)⟩ l) ((List.range l.length).map Int.ofNat, 0, (l.length : Int), List.replicate l.length noT, List.replicate l.length false) = _ := e
  rw [e', obind]
  simp only [Out2.on]
  have hv : fold_Slots_Value.f ⟨(rd l 0).Shape, l, List.replicate l.length true, 0⟩ = some (treeT l) := by
    unfold fold_Slots_Value.f
    simp only
    rw [if_neg (by omega), if_neg c0, fold_Tree_eq l (by omega), obind]
  have hsm := treeT_small l
  rw [hv, obind, if_pos c2]
  simp only [fold_Slots_Left.f]
  rw [obind, if_pos rfl, ref1_SameTensor_eq _ _ (by omega) (by omega), obind, sameT_refl]

end Go.Proofs.Ytkcgiolledmbnab
