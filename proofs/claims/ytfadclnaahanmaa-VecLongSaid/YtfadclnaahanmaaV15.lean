/- What laws on tables call beside. -/
import Derived.Test.YtfadclnaahanmaaVd
set_option linter.unusedVariables false
set_option linter.unusedSimpArgs false
namespace Go.Abs
open Go Go.Proofs
set_option maxRecDepth 100000
set_option maxHeartbeats 4000000
/-! ### the lesser, the greater of more -/
section
variable {P : Program} {e : Env} {H : Heap} {K : Value → Heap → Prop} {d : Option Tmp} {ty : TypeId} {ps : String} {af : Array Edge} {gd : Option (Nat × Bool)}
def aMns (P : Program) (ats : Array TypeId) (ty : TypeId) (l : List Value) : Option Value := if l.all gr = true then scal P (Builtin.min_ ats ty ⟨l⟩) else none
def aMxs (P : Program) (ats : Array TypeId) (ty : TypeId) (l : List Value) : Option Value := if l.all gr = true then scal P (Builtin.max_ ats ty ⟨l⟩) else none
theorem s_min3 {x y z : Operand} {ats : Array TypeId} : aStep P e H ⟨d, .call ⟨.builtin .min, ⟨[x, y, z]⟩, ats⟩, ty, ps, af, gd⟩ K = ob (e x) fun a => ob (e y) fun b => ob (e z) fun c => ob (aMns P ats ty [a, b, c]) fun v => K v H := by
  show ob (aPure P e _) _ = _
  simp only [aPure, evs]
  cases e x <;> cases e y <;> cases e z <;> rfl
theorem s_min4 {x y z u : Operand} {ats : Array TypeId} : aStep P e H ⟨d, .call ⟨.builtin .min, ⟨[x, y, z, u]⟩, ats⟩, ty, ps, af, gd⟩ K = ob (e x) fun a => ob (e y) fun b => ob (e z) fun c => ob (e u) fun f => ob (aMns P ats ty [a, b, c, f]) fun v => K v H := by
  show ob (aPure P e _) _ = _
  simp only [aPure, evs]
  cases e x <;> cases e y <;> cases e z <;> cases e u <;> rfl
theorem s_max3 {x y z : Operand} {ats : Array TypeId} : aStep P e H ⟨d, .call ⟨.builtin .max, ⟨[x, y, z]⟩, ats⟩, ty, ps, af, gd⟩ K = ob (e x) fun a => ob (e y) fun b => ob (e z) fun c => ob (aMxs P ats ty [a, b, c]) fun v => K v H := by
  show ob (aPure P e _) _ = _
  simp only [aPure, evs]
  cases e x <;> cases e y <;> cases e z <;> rfl
theorem mn_if {a b : Int} : (if b < a then b else a) = min a b := by omega
theorem mx_if {a b : Int} : (if a < b then b else a) = max a b := by omega
theorem mn3 {ats : Array TypeId} {k k1 k2 : IntKind} {a b c : Int} : aMns P ats ty [.int k a, .int k1 b, .int k2 c] = some (.int k (min (min a b) c)) := by
  unfold aMns
  rw [if_pos (by simp [gr_int])]
  simp [scal, semPure, Builtin.min_, Builtin.min2, pure, gr, ground, bind, Sem.bind, mn_if]
theorem mn4 {ats : Array TypeId} {k k1 k2 k3 : IntKind} {a b c f : Int} : aMns P ats ty [.int k a, .int k1 b, .int k2 c, .int k3 f] = some (.int k (min (min (min a b) c) f)) := by
  unfold aMns
  rw [if_pos (by simp [gr_int])]
  simp [scal, semPure, Builtin.min_, Builtin.min2, pure, gr, ground, bind, Sem.bind, mn_if]
theorem mx3 {ats : Array TypeId} {k k1 k2 : IntKind} {a b c : Int} : aMxs P ats ty [.int k a, .int k1 b, .int k2 c] = some (.int k (max (max a b) c)) := by
  unfold aMxs
  rw [if_pos (by simp [gr_int])]
  simp [scal, semPure, Builtin.max_, Builtin.max2, pure, gr, ground, bind, Sem.bind, mx_if]
end
attribute [go_sem] s_min3 s_min4 s_max3 mn3 mn4 mx3
theorem Rg.nil : Rg [] := ⟨by decide, fun a ha => by cases ha⟩
theorem Rg.dot {a b : List RQ} (ha : Rg a) (hb : Rg b) : lq (dotV a b) ≤ 2601 := by
  have h1 := lq_sumI (n := a.length) (B := 12) (f := fun i => ev a i * ev b i) fun i _ => by
    have := lq_mul (ev a i) (ev b i); have := ha.le i; have := hb.le i; omega
  have := ha.1
  unfold dotV
  omega
theorem rwi_mem {m : List (List RQ)} {j : Nat} (h : j < m.length) : rwi m j ∈ m := by
  unfold rwi
  rw [getD_eq h]
  exact List.getElem_mem h
theorem rwi_ge {m : List (List RQ)} {j : Nat} (h : m.length ≤ j) : rwi m j = [] := by
  unfold rwi; rw [List.getD_eq_getElem?_getD, List.getElem?_eq_none h]; rfl
theorem Gd.rows {m : List (List RQ)} (h : Gd m) (k : ∀ r ∈ m, ∀ a ∈ r, LimQ a) (j : Nat) : Rg (rwi m j) := by
  rcases Nat.lt_or_ge j m.length with hj | hj
  · exact h.at hj rfl (k _ (rwi_mem hj))
  · rw [rwi_ge hj]; exact Rg.nil
theorem Rg.times {m : List (List RQ)} {x : List RQ} (hm : m.length ≤ 200) (h : ∀ j, Rg (rwi m j)) (hx : Rg x) : Rw (timesV m x) :=
  Rw.tab (by omega) fun i _ => by have := (h i).dot hx; omega
theorem Rg.prod {a b : List RQ} (ha : Rg a) (hb : Rg b) (i k : Nat) : lq (ev a i * ev b k) ≤ 12 := by
  have := lq_mul (ev a i) (ev b k); have := ha.le i; have := hb.le k; omega
theorem Rg.left {m : List (List RQ)} {y : List RQ} {n : Nat} (hn : n ≤ 1000) (hm : m.length ≤ 200) (h : ∀ j, Rg (rwi m j)) (hy : Rg y) : Rw (leftV y m n) ∧ ∀ i, i < n → lq (ev (leftV y m n) i) ≤ 2601 := by
  have hz (k : Nat) : lq (sumI m.length fun j => ev y j * ev (rwi m j) k) ≤ 2601 := by
    have := lq_sumI (n := m.length) (B := 12) (f := fun j => ev y j * ev (rwi m j) k) fun j _ => hy.prod (h j) j k
    omega
  exact ⟨Rw.tab (by omega) fun k _ => by have := hz k; omega, fun i hi => by
    unfold leftV lefP; rw [ev_tab hi]; exact hz i⟩
theorem two_len {a b : List RQ} (ha : a.length ≤ maxLen) (hb : b.length ≤ maxLen) (j : Nat) : (rwi [a, b] j).length ≤ 9223372036854775807 := by
  have hM : maxLen = 9223372036854775807 := rfl
  match j with
  | 0 => show a.length ≤ _; omega
  | 1 => show b.length ≤ _; omega
  | j + 2 => show ([] : List RQ).length ≤ _; decide
theorem rows_len {m : List (List RQ)} (h : ∀ r ∈ m, r.length ≤ maxLen) (j : Nat) : (rwi m j).length ≤ 9223372036854775807 := by
  rcases Nat.lt_or_ge j m.length with hj | hj
  · exact h _ (rwi_mem hj)
  · rw [rwi_ge hj]; decide
end Go.Abs
