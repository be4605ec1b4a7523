/- The contracts of num and of the document's numbers, as calls of values. -/
import Derived.Test.YtfadclnaahanmaaBg
import Derived.Test.YtfadclnaahanmaaNf
import Derived.Test.YtfadclnaahanmaaNe
set_option linter.unusedVariables false
set_option linter.unusedSimpArgs false
namespace Go.Abs
open Go Go.Proofs
set_option maxRecDepth 100000

/-! ### numbers as values -/
def sgn (z : Int) : Bool := decide (z < 0)
def lmb (z : Int) : List Int := limbs z.natAbs
abbrev In (n : Bool) (l : List Int) : Value := .agg ⟨[.bool n, Vv eU l]⟩
abbrev Zn (z : Int) : Value := .agg ⟨[.bool (sgn z), Vv eU (lmb z)]⟩
def Lb (l : List Int) : Prop := Lim l ∧ l.length ≤ 2 ^ 40
theorem den_z (z : Int) : den (sgn z) (lmb z) = z := den_limbs z
theorem len_z (z : Int) : (lmb z).length = ln z := rfl
theorem lb_z {z : Int} (h : ln z ≤ 2 ^ 40) : Lb (lmb z) := ⟨lim_limbs _, h⟩
theorem may_z (z : Int) : mayB (sgn z) (lmb z) = true := may_limbs z
theorem lmb_zero : lmb 0 = [] := limbs_zero
theorem pu_in {n : Bool} {l : List Int} : Pu (In n l) := .agg (.cons (.ground rfl) (.cons pu_U .nil))

theorem Zn_eq (z : Int) : Zn z = .agg ⟨[.bool (sgn z), Vv eU (lmb z)]⟩ := _root_.id rfl
theorem In_eq (n : Bool) (l : List Int) : In n l = .agg ⟨[.bool n, Vv eU l]⟩ := _root_.id rfl
attribute [go_sem] den_z len_z Zn_eq In_eq
variable {g : FuncId} {n m : Bool} {l k : List Int} {q : Value → Prop}
theorem FzRel.ofN {H : Heap} {v : Value} {z : Int} (h : IN H v z) : FzRel Try.prog H (Zn z) v := FzRel.ofI h
theorem PK.i1 (h1 : Lb l) (hg : goodFn Try.prog g) (h : ∀ H v, IZ H v (den n l) l.length → ACalls Try.prog g [v] H fun u H' => ∃ r, FzRel Try.prog H' r u ∧ Pu r ∧ q r) : PK Try.prog g [In n l] q :=
  PK.th1 (Th.I (a := ⟨n, l⟩) h1.1) hg fun H v hi => h H v ⟨_, _, hi, rfl, Nat.le_refl _⟩
theorem PK.i2 (h1 : Lb l) (h2 : Lb k) (hg : goodFn Try.prog g) (h : ∀ H v w, IZ H v (den n l) l.length → IZ H w (den m k) k.length → ACalls Try.prog g [v, w] H fun u H' => ∃ r, FzRel Try.prog H' r u ∧ Pu r ∧ q r) : PK Try.prog g [In n l, In m k] q :=
  PK.th2 (Th.I (a := ⟨n, l⟩) h1.1) (Th.I (a := ⟨m, k⟩) h2.1) hg fun H v w hi hj => h H v w ⟨_, _, hi, rfl, Nat.le_refl _⟩ ⟨_, _, hj, rfl, Nat.le_refl _⟩
theorem rN {H H' : Heap} {u : Value} {z : Int} (h : IN H' u z ∧ Hle H H') : ∃ r, FzRel Try.prog H' r u ∧ Pu r ∧ r = Zn z := ⟨_, .ofN h.1, pu_in, rfl⟩
theorem rG {H H' : Heap} {u w : Value} (hw : ground w = true) (h : u = w ∧ Hle H H') : ∃ r, FzRel Try.prog H' r u ∧ Pu r ∧ r = w := ⟨_, .rfl, by rw [h.1]; exact .ground hw, h.1⟩

theorem p54 (h1 : Lb l) (h2 : Lb k) : PC Try.prog 64 [In n l, In m k] (Zn (den n l * den m k)) := PK.i2 h1 h2 ⟨_, Try.func64, rfl, rfl⟩ fun H v w hi hj => (c54 hi hj (by have := h1.2; omega) (by have := h2.2; omega)).mono fun _ _ h => rN h
theorem p65 (h1 : Lb l) (h2 : Lb k) : PC Try.prog 66 [In n l, In m k] (Zn (den n l * den m k)) := PK.i2 h1 h2 ⟨_, Try.func66, rfl, rfl⟩ fun H v w hi hj => (z65 hi hj (by have := h1.2; omega) (by have := h2.2; omega)).mono fun _ _ h => rN h
theorem p51 (h1 : Lb l) : PC Try.prog 105 [In n l] (.bool (mayB n l)) := PK.th1 (Th.I (a := ⟨n, l⟩) h1.1) ⟨_, Try.func105, rfl, rfl⟩ fun H v hi => (c51 hi (by have := h1.2; simp only; omega)).mono fun _ _ h => rG rfl h
theorem p52 (h1 : Lb l) : PC Try.prog 111 [In n l] (.bool (mayB n l)) := PK.th1 (Th.I (a := ⟨n, l⟩) h1.1) ⟨_, Try.func111, rfl, rfl⟩ fun H v hi => (c52 hi (by have := h1.2; simp only; omega)).mono fun _ _ h => rG rfl h
theorem p44 (h1 : Lb l) (h2 : Lb k) : PC Try.prog 23 [In n l, In m k] (.bool (decide (n = m ∧ l = k))) := PK.th2 (Th.I (a := ⟨n, l⟩) h1.1) (Th.I (a := ⟨m, k⟩) h2.1) ⟨_, Try.func23, rfl, rfl⟩ fun H v w hi hj => (c44 hi hj (by have := h1.2; simp only; omega)).mono fun _ _ h => rG rfl h
theorem p50 {x : Int} (hx : -9223372036854775808 ≤ x ∧ x ≤ 9223372036854775807) : PC Try.prog 62 [.int .i64 x] (Zn x) := PC.of' (.cons (.ground rfl) .nil) fun N _ => (z50 hx).mono fun _ _ h => rN h
theorem p53 {x : Int} (hx : -9223372036854775808 ≤ x ∧ x ≤ 9223372036854775807) : PC Try.prog 30 [.int .i64 x] (Zn x) := PC.of' (.cons (.ground rfl) .nil) fun N _ => (z53 hx).mono fun _ _ h => rN h
/-! ### limbs as values -/
theorem PK.u1 (hg : goodFn Try.prog g) (h : ∀ H v, U Try.prog H v l → ACalls Try.prog g [v] H fun u H' => ∃ r, FzRel Try.prog H' r u ∧ Pu r ∧ q r) : PK Try.prog g [Vv eU l] q := PK.th1 Th.U hg h
theorem PK.u2 (hg : goodFn Try.prog g) (h : ∀ H v w, U Try.prog H v l → U Try.prog H w k → ACalls Try.prog g [v, w] H fun u H' => ∃ r, FzRel Try.prog H' r u ∧ Pu r ∧ q r) : PK Try.prog g [Vv eU l, Vv eU k] q := PK.th2 Th.U Th.U hg h
end Go.Abs
