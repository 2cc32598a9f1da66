/- The engine, part 13: the steps again, with what the kernel works out left out of the text. -/
import Derived.Test.YtkdhahdfkonilaaDoorE12
namespace Go.Proofs.YtkdhahdfkonilaaDoor
open Go Go.RowKit
set_option linter.unusedSimpArgs false
set_option linter.unusedVariables false

section
variable {P : Program} {n id : Nat} {ops : Array Oper} {Q : Exit → Act → World → Prop} {w : World} {a : Act} {e : Env} {l : List Oper} {o : Oper} {K : Act → World → Prop} {ob : List Ob}

theorem oi {p : Prop} (h : p) (r : obs w ob) : obs w (.is p :: ob) := ⟨h, r⟩
theorem oc {x : Addr} {v : Value} (h : w.cell? x = some v) (r : obs w ob) : obs w (.cell x v :: ob) := ⟨h, r⟩
theorem ot : obs w [] := trivial
/-- the first n of an array of marks, by bits -/
def fb (n m : Nat) : Array Bool := ((List.range n).map (fun i => m.testBit i)).toArray
def vp (b : Nat) : Value := .pointer (some ⟨b, 0, none⟩)
def vi (i : Int) : Value := .int .i64 i
def vf (b : Nat) : Value := .float .f64 b

theorem rg (ora : List Value) (e' : Env) (hf : Fr n a e) (ho : obs w ob) (hk : ∀ a', Fr n a' e' → Q .normal a' w) (hr : runs P n ops.toList ops.toList e ora (e'.map (·.1)) = some (e', ob) := by kernel_rfl) : (Code.region id ops false).wp P Q a w :=
  reg ora _ e' ob hf hr ho hk
theorem rq (ora : List Value) (e' : Env) (hf : Fr n a e) (ho : obs w ob) (hk : ∀ a' w', Fr n a' e' → w.grownBy w' none → Q .normal a' w') (hm : P.follows .mixedOrders = true := by kernel_rfl) (hB : Region.lexB .any ops = true := by kernel_rfl)
    (hr : runs P n ops.toList ops.toList e ora (e'.map (·.1)) = some (e', ob) := by kernel_rfl) : (Code.region id ops true).wp P Q a w :=
  regQ ora _ e' ob hm hB hf hr ho hk
theorem gg (m : Nat) (ora : List Value) (e' : Env) (hf : Fr n a e) (ho : obs w ob) (hk : ∀ a', Fr n a' e' → wpList P ops Q (l.drop m) a' w) (hr : runs P n ops.toList (l.take m) e ora (e'.map (·.1)) = some (e', ob) := by kernel_rfl) : wpList P ops Q l a w :=
  go m ora _ e' ob hf hr ho hk
theorem lo {r : List Oper} (hf : Fr n a e) (hl : l = o :: r) (h : o.wp P a w (wpList P ops Q r) Q) (hg : guardOk ops.toList e o = some true := by kernel_rfl) : wpList P ops Q l a w := listOf hf hl hg h
theorem oo {i : Nat} (hf : Fr n a e) (hi : ops[i]? = some o) (h : o.wp P a w K Q) (hg : guardOk ops.toList e o = some true := by kernel_rfl) : wpOp P ops Q i K a w := opOf hf hi hg h
theorem cT {c : Operand} {x y : Code} (hf : Fr n a e) (h : x.wp P Q a w) (hc : ev e c = some (.bool true) := by kernel_rfl) : (Code.cond c x y).wp P Q a w := condT hf hc h
theorem cF {c : Operand} {x y : Code} (hf : Fr n a e) (h : y.wp P Q a w) (hc : ev e c = some (.bool false) := by kernel_rfl) : (Code.cond c x y).wp P Q a w := condF hf hc h
theorem rt {fn : Func} {R : Ending → World → Prop} (ora : List Value) (vs : List Value) (hf : Fr n a e) (ho : obs w ob) (hR : R (.returned (pack vs)) w) (h : resV P e fn.results.toList ora = some (vs, ob) := by kernel_rfl) : bodyPost P fn R .ret a w := ret ora vs ob hf h ho hR
theorem cl {fid : FuncId} {args : List Value} {R : Value → World → Prop} (d : Tmp) (hf : Fr n a e) (hfn : callable P fid = true) (C : Calls P fid args.toArray w fun x w' => ∃ v, x = .returned v ∧ R v w')
    (hk : ∀ v w' a', R v w' → Fr n a' ((d, v) :: e) → K a' w') (hc : callO e o = some (fid, args, d) := by kernel_rfl) (hd : Nat.blt d n = true := by kernel_rfl) : o.wp P a w K Q := aCall hf hc hd hfn C hk
theorem nw {d : Tmp} {cs : List Value} {T : TypeId} (hf : Fr n a e) (hk : ∀ b w' a', b = w.heap.size → Bx w' b cs T → w.grownBy w' none → Fr n a' ((d, .pointer (some ⟨b, 0, none⟩)) :: e) → K a' w') (hc : newO P e o = some (cs, T, d) := by kernel_rfl) (hd : Nat.blt d n = true := by kernel_rfl) : o.wp P a w K Q := aNew hf hc hd hk
theorem li {cs : List Value} {E : TypeId} {len : Nat} {d : Tmp} (hf : Fr n a e)
    (hk : ∀ b w' a', b = w.heap.size → Bx w' b cs E → w.grownBy w' none → Fr n a' ((d, .slice (some ⟨b, 0, none⟩) len len) :: e) → K a' w') (hc : litO P e o = some (cs, E, len, d) := by kernel_rfl) (hd : Nat.blt d n = true := by kernel_rfl) : o.wp P a w K Q := aLit hf hc hd hk
theorem ar {k b c x y : Nat} {d : Tmp} (hf : Fr n a e) (hb : FR b x) (hcc : FR c y)
    (hk : ∀ r w' a', FR r (fop k x y) → w.grownBy w' none → Fr n a' ((d, .float .f64 r) :: e) → K a' w') (hc : arithO e o = some (k, b, c, d) := by kernel_rfl) (hd : Nat.blt d n = true := by kernel_rfl) : o.wp P a w K Q := aArith hf hc hd hb hcc hk
theorem ap {α : Type} {kd : Kd α} {M : List (Option Nat)} {E : TypeId} {A B : Option Addr} {c c2 : Nat} {xs ys : List α} {k m : Nat} {sz : Nat} {d : Tmp} (hf : Fr n a e)
    (hk1 : k = xs.length) (hm1 : m = ys.length)
    (hown : Ow kd (U (bk A :: M)) 0 E w A c xs) (hsrc : Sl kd (U (bk A :: M)) w B ys) (hcp : Cp B ys.length c2) (hl : xs.length + ys.length ≤ 549755813888)
    (hk : ∀ A' c' w' a', Ow kd (U (bk A' :: M)) 0 E w' A' c' (xs ++ ys) → w.grownBy w' (bk A) → (bk A' = bk A ∨ bk A' = some w.heap.size) →
      Fr n a' ((d, .slice A' (xs ++ ys).length c') :: e) → K a' w') (hc : appO P e o = some (A, k, c, B, m, c2, E, sz, d) := by kernel_rfl) (hd : Nat.blt d n = true := by kernel_rfl) (hkd : kd.n = sz := by rfl) (hn : Nat.blt 0 sz = true := by kernel_rfl) : o.wp P a w K Q :=
  aApp hf hc hk1 hm1 hd hkd hn hown hsrc hcp (Nat.zero_le _) hl hk
theorem sb {b j : Nat} {T : TypeId} {cs us cs' : List Value} (hf : Fr n a e) (hb : Bx w b cs T) (hk : ∀ w', Bx w' b cs' T → w.grownBy w' (some b) → K a w')
    (hc : storeO P e o = some (⟨b, j, none⟩, us) := by kernel_rfl) (h1 : us.all (·.oneCell') = true := by kernel_rfl) (hj : Nat.ble (j + us.length) cs.length = true := by kernel_rfl) (hs : splice cs j us = cs' := by kernel_rfl) : o.wp P a w K Q := aStoreB hf hc hb h1 hj hs hk
theorem so {α : Type} {kd : Kd α} {M : List (Option Nat)} {E : TypeId} {A : Option Addr} {c : Nat} {xs : List α} {i : Int} {x : α} {us : List Value} {sz : Nat} (hf : Fr n a e)
    (hown : Ow kd (U (bk A :: M)) 0 E w A c xs) (hx : kd.rep (U (bk A :: M)) w us x) (h0 : 0 ≤ i) (h1 : i < (xs.length : Int))
    (hk : ∀ w', Ow kd (U (bk A :: M)) 0 E w' A c (put xs i x) → w.grownBy w' (bk A) → K a w') (hc : storeO P e o = some ((ad A).add (i.toNat * sz), us) := by kernel_rfl) (hkd : kd.n = sz := by rfl) (hn : Nat.blt 0 sz = true := by kernel_rfl) : o.wp P a w K Q :=
  aStoreO hf hc hkd hn hown hx h0 h1 hk
theorem on (ora : List Value) (v : Value) (d : Tmp) (hf : Fr n a e) (ho : obs w ob) (hk : ∀ a', Fr n a' ((d, v) :: e) → K a' w)
    (hr : one P e o ora = some (v, [], ob) := by kernel_rfl) (hdst : o.dst = some d := by rfl) (hd : Nat.blt d n = true := by kernel_rfl) : o.wp P a w K Q := aOne ora v ob d hf hr hdst hd ho hk

theorem Mem.se {B M : List (Option Nat)} {w0 : World} {fs : List Fact} (h : Mem B M w0 fs w) (is : List Nat) (fs' : List Fact) (hp : pickF fs is = some fs') (hd : distinct is = true := by kernel_rfl) : Mem B M w0 fs' w := h.sel is fs' hp hd
theorem Fr.se {e' : Env} (h : Fr n a e) (l : List Nat) (he : Go.Proofs.YtkdhahdfkonilaaDoor.sel e l = some e' := by kernel_rfl) : Fr n a e' := h.sel he
end

section
variable {P : Program} {n : Nat} {ops : Array Oper} {Q : Exit → Act → World → Prop} {Ls : List Nat} {K : List (Option Nat)} {w : World} {a : Act} {e : Env} {listed : Array Bool} {fuel : Nat} {ob : List Ob}
theorem qt (is : List Nat) (ora : List Value) (l' : Array Bool) (e' : Env) (fuel' : Nat) (hf : Fr n a e) (ho : obs w ob) (hk : ∀ a', Fr n a' e' → wpAnyG P ops Q Ls K fuel' l' a' w)
    (hfu : fuel = fuel' + is.length := by rfl) (hs : Region.noSelect ops = true := by kernel_rfl) (hQ : ∀ d v c a w, Q (.panic c) (a.put d v) w → Q (.panic c) a w := by exact fun _ _ _ _ _ h => nomatch h.1)
    (hr : quietsS P n ops Ls K is listed e ora (e'.map (·.1)) = some (l', e', ob) := by kernel_rfl) : wpAnyG P ops Q Ls K fuel listed a w := quiet0 is ora _ l' e' ob fuel' hfu hs hQ hf hr ho hk
theorem aD (h : Q .normal a w) (hr : Region.ready .any ops listed = [] := by kernel_rfl) : wpAnyG P ops Q Ls K 0 listed a w := allDone hr h
theorem ms {R : Act → World → Prop} {listed' : Array Bool} {fuel' : Nat} (L : ∀ a w, R a w → wpAnyG P ops Q Ls K fuel' listed' a w) (h : R a w) (hl : listed = listed' := by kernel_rfl) (hfu : fuel = fuel' := by rfl) : wpAnyG P ops Q Ls K fuel listed a w := by
  subst hl hfu; exact L _ _ h
theorem a1 (i : Nat) (h : wpOp P ops Q i (fun a' w' => (i ∈ Ls ∨ Gr K w w') ∧ wpAnyG P ops Q Ls K fuel (listed.setIfInBounds i true) a' w') a w) (hr : Region.ready .any ops listed = [i] := by kernel_rfl) : wpAnyG P ops Q Ls K (fuel + 1) listed a w := all1 i hr h
end
end Go.Proofs.YtkdhahdfkonilaaDoor
