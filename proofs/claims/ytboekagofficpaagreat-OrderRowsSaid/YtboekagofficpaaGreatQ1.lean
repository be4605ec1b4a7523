/- The contracts of num and of the document's numbers, as calls of values. -/
import Derived.Test.YtboekagofficpaaGreatBg
import Derived.Test.YtboekagofficpaaGreatNf
import Derived.Test.YtboekagofficpaaGreatNe
set_option linter.unusedVariables false
set_option linter.unusedSimpArgs false
namespace Go.Abs
open Go Go.Proofs
set_option maxRecDepth 100000

/-! ### numbers as values -/
def sgn (z : Int) : Bool := decide (z < 0)
def lmb (z : Int) : List Int := limbs z.natAbs
abbrev In (n : Bool) (l : List Int) : Value := .agg ⟨[.bool n, Vv eU l]⟩
abbrev Zn (z : Int) : Value := .agg ⟨[.bool (sgn z), Vv eU (lmb z)]⟩
/-- Limbs, not too many. -/
def Lb (l : List Int) : Prop := Lim l ∧ l.length ≤ 2 ^ 40
theorem den_z (z : Int) : den (sgn z) (lmb z) = z := den_limbs z
theorem val_z (z : Int) : val (lmb z) = z.natAbs := val_limbs _
theorem lim_z (z : Int) : Lim (lmb z) := lim_limbs _
theorem len_z (z : Int) : (lmb z).length = ln z := rfl
theorem lb_z {z : Int} (h : ln z ≤ 2 ^ 40) : Lb (lmb z) := ⟨lim_limbs _, h⟩
theorem lb_nil : Lb [] := ⟨Lim.nil, by simp⟩
theorem den_nil (n : Bool) : den n [] = 0 := by unfold den; cases n <;> simp [mayB, val]
theorem may_z (z : Int) : mayB (sgn z) (lmb z) = true := may_limbs z
theorem sgn_lt (z : Int) : (sgn z = true) = (z < 0) := by simp [sgn]
theorem lmb_zero : lmb 0 = [] := limbs_zero
theorem sgn_zero : sgn 0 = false := rfl
theorem pu_in {n : Bool} {l : List Int} : Pu (In n l) := .agg (.cons (.ground rfl) (.cons pu_U .nil))

theorem Zn_eq (z : Int) : Zn z = .agg ⟨[.bool (sgn z), Vv eU (lmb z)]⟩ := _root_.id rfl
theorem In_eq (n : Bool) (l : List Int) : In n l = .agg ⟨[.bool n, Vv eU l]⟩ := _root_.id rfl
theorem isSl_Vv' {l : List Int} : isSl (Vv eU l) = true := rfl
attribute [go_sem] den_z len_z Zn_eq In_eq
variable {g : FuncId} {n m : Bool} {l k : List Int} {q : Value → Prop}
theorem FzRel.ofN {H : Heap} {v : Value} {z : Int} (h : IN H v z) : FzRel Tryz.prog H (Zn z) v := FzRel.ofI h
theorem PK.i1 (h1 : Lb l) (hg : goodFn Tryz.prog g) (h : ∀ H v, IZ H v (den n l) l.length → ACalls Tryz.prog g [v] H fun u H' => ∃ r, FzRel Tryz.prog H' r u ∧ Pu r ∧ q r) : PK Tryz.prog g [In n l] q :=
  PK.th1 (Th.I (a := ⟨n, l⟩) h1.1) hg fun H v hi => h H v ⟨_, _, hi, rfl, Nat.le_refl _⟩
theorem PK.i2 (h1 : Lb l) (h2 : Lb k) (hg : goodFn Tryz.prog g) (h : ∀ H v w, IZ H v (den n l) l.length → IZ H w (den m k) k.length → ACalls Tryz.prog g [v, w] H fun u H' => ∃ r, FzRel Tryz.prog H' r u ∧ Pu r ∧ q r) : PK Tryz.prog g [In n l, In m k] q :=
  PK.th2 (Th.I (a := ⟨n, l⟩) h1.1) (Th.I (a := ⟨m, k⟩) h2.1) hg fun H v w hi hj => h H v w ⟨_, _, hi, rfl, Nat.le_refl _⟩ ⟨_, _, hj, rfl, Nat.le_refl _⟩
theorem rN {H H' : Heap} {u : Value} {z : Int} (h : IN H' u z ∧ Hle H H') : ∃ r, FzRel Tryz.prog H' r u ∧ Pu r ∧ r = Zn z := ⟨_, .ofN h.1, pu_in, rfl⟩
theorem rG {H H' : Heap} {u w : Value} (hw : ground w = true) (h : u = w ∧ Hle H H') : ∃ r, FzRel Tryz.prog H' r u ∧ Pu r ∧ r = w := ⟨_, .rfl, by rw [h.1]; exact .ground hw, h.1⟩

theorem p67 (h1 : Lb l) : PC Tryz.prog 122 [In n l] (Zn (-(den n l))) := PK.i1 h1 ⟨_, Tryz.func122, rfl, rfl⟩ fun H v hi => (z67 hi (by have := h1.2; omega)).mono fun _ _ h => rN h
theorem p148 (h1 : Lb l) : PC Tryz.prog 105 [In n l] (Zn (den n l)) := PK.i1 h1 ⟨_, Tryz.func105, rfl, rfl⟩ fun H v hi => (z148 hi (by have := h1.2; omega)).mono fun _ _ h => rN h
theorem p63 (h1 : Lb l) (h2 : Lb k) : PC Tryz.prog 123 [In n l, In m k] (Zn (den n l + den m k)) := PK.i2 h1 h2 ⟨_, Tryz.func123, rfl, rfl⟩ fun H v w hi hj => (z63 hi hj (by have := h1.2; omega) (by have := h2.2; omega)).mono fun _ _ h => rN h
theorem p64 (h1 : Lb l) (h2 : Lb k) : PC Tryz.prog 124 [In n l, In m k] (Zn (den n l - den m k)) := PK.i2 h1 h2 ⟨_, Tryz.func124, rfl, rfl⟩ fun H v w hi hj => (z64 hi hj (by have := h1.2; omega) (by have := h2.2; omega)).mono fun _ _ h => rN h
theorem p65 (h1 : Lb l) (h2 : Lb k) : PC Tryz.prog 125 [In n l, In m k] (Zn (den n l * den m k)) := PK.i2 h1 h2 ⟨_, Tryz.func125, rfl, rfl⟩ fun H v w hi hj => (z65 hi hj (by have := h1.2; omega) (by have := h2.2; omega)).mono fun _ _ h => rN h
theorem p51 (h1 : Lb l) : PC Tryz.prog 65 [In n l] (.bool (mayB n l)) := PK.th1 (Th.I (a := ⟨n, l⟩) h1.1) ⟨_, Tryz.func65, rfl, rfl⟩ fun H v hi => (c51 hi (by have := h1.2; simp only; omega)).mono fun _ _ h => rG rfl h
theorem p52 (h1 : Lb l) : PC Tryz.prog 68 [In n l] (.bool (mayB n l)) := PK.th1 (Th.I (a := ⟨n, l⟩) h1.1) ⟨_, Tryz.func68, rfl, rfl⟩ fun H v hi => (c52 hi (by have := h1.2; simp only; omega)).mono fun _ _ h => rG rfl h
theorem p53 {x : Int} (hx : -9223372036854775808 ≤ x ∧ x ≤ 9223372036854775807) : PC Tryz.prog 57 [.int .i64 x] (Zn x) := PC.of' (.cons (.ground rfl) .nil) fun N _ => (z53 hx).mono fun _ _ h => rN h
/-! ### limbs as values -/
theorem PK.u1 (hg : goodFn Tryz.prog g) (h : ∀ H v, U Tryz.prog H v l → ACalls Tryz.prog g [v] H fun u H' => ∃ r, FzRel Tryz.prog H' r u ∧ Pu r ∧ q r) : PK Tryz.prog g [Vv eU l] q := PK.th1 Th.U hg h
theorem PK.u2 (hg : goodFn Tryz.prog g) (h : ∀ H v w, U Tryz.prog H v l → U Tryz.prog H w k → ACalls Tryz.prog g [v, w] H fun u H' => ∃ r, FzRel Tryz.prog H' r u ∧ Pu r ∧ q r) : PK Tryz.prog g [Vv eU l, Vv eU k] q := PK.th2 Th.U Th.U hg h
theorem p159 (h1 : Lb l) (h2 : Lb k) (t1 : Top l) (t2 : Top k) : PC Tryz.prog 145 [Vv eU l, Vv eU k] (.int .i64 (sg (val l - val k))) :=
  PK.u2 ⟨_, Tryz.func145, rfl, rfl⟩ fun H v w hu hv => (c159 hu hv h1.1 h2.1 t1 t2 (by have := h1.2; omega) (by have := h2.2; omega)).mono fun _ _ h => rG rfl ⟨h.1, Hle.rfl⟩
theorem p150 (h1 : Lb l) : PC Tryz.prog 90 [.bool n, Vv eU l] (Zn (if n = true then -(val l) else val l)) :=
  PK.th2 (Th.G (.ground rfl)) Th.U ⟨_, Tryz.func90, rfl, rfl⟩ fun H v w hv hu => by rw [hv]; exact (z150 hu h1.1 (by have := h1.2; omega)).mono fun _ _ h => rN h
theorem p215 (h1 : l.length < 2 ^ 62) : PC Tryz.prog 114 [Vv eU l] (Vv eU (trimL l)) :=
  PK.u1 ⟨_, Tryz.func114, rfl, rfl⟩ fun H v hu => (c215 hu h1).mono fun _ _ h => ⟨_, .ofU h.1, pu_U, rfl⟩
theorem lmb_of {o : List Int} {z : Int} (h1 : Lim o) (h2 : Top o) (h3 : val o = z) (hz : 0 ≤ z) : o = lmb z := limbs_of' h1 h2 (by rw [h3]; omega)
theorem p155 {d : Int} (h1 : Lb l) (hd : 0 < d ∧ d < 4294967296) : PC Tryz.prog 106 [Vv eU l, .int .u64 d] (.tuple ⟨[Vv eU (lmb (val l / d)), .int .u64 (val l % d)]⟩) :=
  PK.th2 Th.U (Th.G (.ground rfl)) ⟨_, Tryz.func106, rfl, rfl⟩ fun H v w hu hw => by
    rw [hw]
    refine (c155 hu h1.1 hd h1.2).mono ?_
    rintro r H' ⟨s, o, rfl, h2, h3, h4, h5, h6, h7⟩
    have := lmb_of h3 h6 h4 (Int.ediv_nonneg (val_nonneg h1.1) (by omega))
    subst this
    exact ⟨_, .tuple (.cons (.ofU h2) (.cons .rfl .nil)), .tuple (.cons pu_U (.cons (.ground rfl) .nil)), rfl⟩
theorem p160 (h1 : Lb l) (h2 : k.length ≤ l.length) (h3 : Lim k) (h4 : val k ≤ val l) : PC Tryz.prog 146 [Vv eU l, Vv eU k] (Vv eU (lmb (val l - val k))) :=
  PK.u2 ⟨_, Tryz.func146, rfl, rfl⟩ fun H v w hu hv => by
    refine (c160 hu hv h1.1 h3 h1.2 h2 h4).mono ?_
    rintro r H' ⟨o, k1, k2, k3, k4, k5, k6⟩
    have := lmb_of k2 k5 k3 (by omega)
    subst this
    exact ⟨_, .ofU k1, pu_U, rfl⟩
theorem p158 (h1 : Lb l) (h2 : Lb k) : PC Tryz.prog 144 [Vv eU l, Vv eU k] (Vv eU (lmb (val l + val k))) :=
  PK.u2 ⟨_, Tryz.func144, rfl, rfl⟩ fun H v w hu hv => by
    refine (c158 hu hv h1.1 h2.1 h1.2 h2.2).mono ?_
    rintro r H' ⟨o, k1, k2, k3, k4, k5, k6⟩
    have := lmb_of k2 k5 k3 (by have := val_nonneg h1.1; have := val_nonneg h2.1; omega)
    subst this
    exact ⟨_, .ofU k1, pu_U, rfl⟩
end Go.Abs
