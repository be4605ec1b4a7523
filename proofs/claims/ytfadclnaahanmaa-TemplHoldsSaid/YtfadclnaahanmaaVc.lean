/- Joined: V10, V11. -/
import Derived.Test.YtfadclnaahanmaaVb
/- Rows of quotients: sameness, sizes, tables times rows. -/
set_option linter.unusedVariables false
set_option linter.unusedSimpArgs false
namespace Go.Abs
open Go Go.Proofs
set_option maxRecDepth 100000
set_option maxHeartbeats 4000000

def plV10_84_2 : Plan := ⟨[0], [(1, [], [2, 3, 4]), (5, [4], []), (6, [], [7, 8])]⟩
def plV10_89_6 : Plan := ⟨[0, 1, 2, 3, 4, 5, 6, 7], [(8, [], [9])]⟩
def plV10_97_6 : Plan := ⟨[0, 1, 2, 3, 4, 5, 6, 7], [(8, [], [9])]⟩
theorem PK.peek {P : Program} {g : FuncId} {ps us : List Value} {q : Value → Prop} {H : Heap} {K : Value → Heap → Prop} (h : PK P g ps q) (hr : ∀ r, q r → ground r = true) (ha : FzRels P H ps us) (k : ∀ r, q r → K r H) : ACalls P g us H K :=
  (h.look hr ha).mono fun v H' ⟨h1, h2⟩ => by rw [h2]; exact k v h1
theorem getD_eq {α : Type} {l : List α} {i : Nat} {d : α} (h : i < l.length) : l.getD i d = l[i] := by
  rw [List.getD_eq_getElem?_getD, List.getElem?_eq_getElem h]; rfl

/-! ### sameness -/
theorem p75s {a : RQ} (h : Rz a) : PC Try.prog 58 [.agg ⟨eQ.enc a⟩, .agg ⟨eQ.enc a⟩] (.bool true) :=
  (p75 (pn := a.p.neg) (qn := a.q.neg) (pn' := a.p.neg) (qn' := a.q.neg) h.lp.lb h.lq'.lb h.lp.lb h.lq'.lb).ok (by simp)
theorem p89 {a : List RQ} (ha : Rw a) : PC Try.prog 49 [Vv eQ a, Vv eQ a] (.bool true) := by
  refine PC.of (.cons pu_Qs (.cons pu_Qs .nil)) (.ground rfl) fun N hN => ?_
  have hn := ha.1
  refine ACalls.of_code T.hm (n := 25) Try.func49 rfl rfl rfl rfl ?_; simp only [List.replicate_succ, List.replicate_zero, List.cons_append, List.nil_append]
  simp (maxSteps := 1000000) (disch := first | exact sd | fail) only [go_sem, Nat.reduceAdd, Nat.reduceSub, Nat.reduceLeDiff, ↓reduceIte, decide_eq_true_eq, if_true, if_false, Bool.false_eq_true, Int.lt_irrefl, implies_true, true_and, and_true, eq_self, and_self, beq_self_eq_true, aw_plan (id := 6) plV10_89_6, plV10_89_6, ne_eq, not_true_eq_false]
  refine aw_loopS (σ := Nat) (fun k J => [Vv eQ a, Vv eQ a, J 2, J 3, .bool false, .int .i64 k, J 6, J 7, J 8, J 9, J 10, J 11, J 12, J 13, J 14, J 15, J 16, J 17, J 18, J 19, J 20, J 21, J 22, J 23, J 24, J 25, J 26]) (fun m k => m = a.length - k ∧ k ≤ a.length) a.length 0 rfl ⟨rfl, Nat.zero_le _⟩ ?_
  rintro m k J ⟨rfl, hk⟩
  by_cases h4 : (k : Int) < a.length
  · simp (maxSteps := 1000000) (disch := first | exact sd | fail) only [go_sem, Nat.reduceAdd, Nat.reduceSub, Nat.reduceLeDiff, ↓reduceIte, decide_eq_true_eq, if_true, if_false, Bool.false_eq_true, Int.lt_irrefl, implies_true, true_and, and_true, eq_self, and_self, beq_self_eq_true, aw_plan (id := 6) plV10_89_6, plV10_89_6, h4, Int.toNat_natCast]
    refine (PC.peek (p75s (ha.getD k)) rfl .refl ?_)
    simp (maxSteps := 1000000) (disch := first | exact sd | fail) only [go_sem, Nat.reduceAdd, Nat.reduceSub, Nat.reduceLeDiff, ↓reduceIte, decide_eq_true_eq, if_true, if_false, Bool.false_eq_true, Int.lt_irrefl, implies_true, true_and, and_true, eq_self, and_self, beq_self_eq_true, aw_plan (id := 6) plV10_89_6, plV10_89_6]
    exact IJ_intro (k := a.length - (k + 1)) (by omega) (k + 1) rfl ⟨⟨rfl, by omega⟩, rfl⟩
  · simp (maxSteps := 1000000) (disch := first | exact sd | fail) only [go_sem, Nat.reduceAdd, Nat.reduceSub, Nat.reduceLeDiff, ↓reduceIte, decide_eq_true_eq, if_true, if_false, Bool.false_eq_true, Int.lt_irrefl, implies_true, true_and, and_true, eq_self, and_self, beq_self_eq_true, aw_plan (id := 6) plV10_89_6, plV10_89_6, h4]
    exact .rfl
def sameV (a b : List RQ) : Bool := decide (a.length = b.length) && (List.range a.length).all fun i => decide (ev a i = ev b i)
theorem p97 {a b : List RQ} (ha : Rw a) (hb : Rw b) : PC Try.prog 31 [Vv eQ a, Vv eQ b] (.bool (sameV a b)) := by
  refine PC.of (.cons pu_Qs (.cons pu_Qs .nil)) (.ground rfl) fun N hN => ?_
  have hn := ha.1
  unfold sameV
  refine ACalls.of_code T.hm (n := 25) Try.func31 rfl rfl rfl rfl ?_; simp only [List.replicate_succ, List.replicate_zero, List.cons_append, List.nil_append]
  by_cases hl : (a.length : Int) = b.length
  · have hl' : a.length = b.length := by omega
    rw [decide_eq_true hl', Bool.true_and]
    simp (maxSteps := 1000000) (disch := first | exact sd | fail) only [go_sem, Nat.reduceAdd, Nat.reduceSub, Nat.reduceLeDiff, ↓reduceIte, decide_eq_true_eq, if_true, if_false, Bool.false_eq_true, Int.lt_irrefl, implies_true, true_and, and_true, eq_self, and_self, beq_self_eq_true, aw_plan (id := 6) plV10_97_6, plV10_97_6, hl, ne_eq, not_true_eq_false]
    rw [← hl']
    refine aw_loopS (σ := Nat) (fun k J => [Vv eQ a, Vv eQ b, J 2, J 3, .bool false, .int .i64 k, J 6, J 7, J 8, J 9, J 10, J 11, J 12, J 13, J 14, J 15, J 16, J 17, J 18, J 19, J 20, J 21, J 22, J 23, J 24, J 25, J 26]) (fun m k => m = a.length - k ∧ k ≤ a.length ∧ ∀ i, i < k → ev a i = ev b i) a.length 0 rfl ⟨rfl, Nat.zero_le _, fun i hi => by omega⟩ ?_
    rintro m k J ⟨rfl, hk, hall⟩
    by_cases h4 : (k : Int) < a.length
    · have h5 : (k : Int) < b.length := by omega
      have q1 := p98v (ha.getD k) (hb.getD k)
      change PC Try.prog 45 _ (.int .i64 (cq (ev a k) (ev b k))) at q1
      by_cases e : ev a k = ev b k
      · have c0 : cq (ev a k) (ev b k) = 0 := cq_eq.2 e
        rw [c0] at q1
        simp (maxSteps := 1000000) (disch := first | exact sd | fail) only [go_sem, Nat.reduceAdd, Nat.reduceSub, Nat.reduceLeDiff, ↓reduceIte, decide_eq_true_eq, if_true, if_false, Bool.false_eq_true, Int.lt_irrefl, implies_true, true_and, and_true, eq_self, and_self, beq_self_eq_true, aw_plan (id := 6) plV10_97_6, plV10_97_6, h4, h5, Int.toNat_natCast]
        refine (PC.peek q1 rfl .refl ?_)
        simp (maxSteps := 1000000) (disch := first | exact sd | fail) only [go_sem, Nat.reduceAdd, Nat.reduceSub, Nat.reduceLeDiff, ↓reduceIte, decide_eq_true_eq, if_true, if_false, Bool.false_eq_true, Int.lt_irrefl, implies_true, true_and, and_true, eq_self, and_self, beq_self_eq_true, aw_plan (id := 6) plV10_97_6, plV10_97_6, ne_eq, not_true_eq_false]
        refine IJ_intro (k := a.length - (k + 1)) (by omega) (k + 1) rfl ⟨⟨rfl, by omega, fun i hi => ?_⟩, rfl⟩
        rcases Nat.lt_or_ge i k with h6 | h6
        · exact hall i h6
        · have : i = k := by omega
          subst this; exact e
      · have c0 : ¬ cq (ev a k) (ev b k) = 0 := fun h => e (cq_eq.1 h)
        simp (maxSteps := 1000000) (disch := first | exact sd | fail) only [go_sem, Nat.reduceAdd, Nat.reduceSub, Nat.reduceLeDiff, ↓reduceIte, decide_eq_true_eq, if_true, if_false, Bool.false_eq_true, Int.lt_irrefl, implies_true, true_and, and_true, eq_self, and_self, beq_self_eq_true, aw_plan (id := 6) plV10_97_6, plV10_97_6, h4, h5, Int.toNat_natCast]
        refine (PC.peek q1 rfl .refl ?_)
        simp (maxSteps := 1000000) (disch := first | exact sd | fail) only [go_sem, Nat.reduceAdd, Nat.reduceSub, Nat.reduceLeDiff, ↓reduceIte, decide_eq_true_eq, if_true, if_false, Bool.false_eq_true, Int.lt_irrefl, implies_true, true_and, and_true, eq_self, and_self, beq_self_eq_true, aw_plan (id := 6) plV10_97_6, plV10_97_6, c0, ne_eq, not_false_eq_true]
        have : (List.range a.length).all (fun i => decide (ev a i = ev b i)) = false := by
          rw [List.all_eq_false]
          exact ⟨k, List.mem_range.2 (by omega), by simp [e]⟩
        rw [this]
        exact .rfl
    · simp (maxSteps := 1000000) (disch := first | exact sd | fail) only [go_sem, Nat.reduceAdd, Nat.reduceSub, Nat.reduceLeDiff, ↓reduceIte, decide_eq_true_eq, if_true, if_false, Bool.false_eq_true, Int.lt_irrefl, implies_true, true_and, and_true, eq_self, and_self, beq_self_eq_true, aw_plan (id := 6) plV10_97_6, plV10_97_6, h4]
      have : (List.range a.length).all (fun i => decide (ev a i = ev b i)) = true := by
        simp only [List.all_eq_true, List.mem_range, decide_eq_true_eq]
        intro i hi; exact hall i (by omega)
      rw [this]
      exact .rfl
  · have hl' : ¬ a.length = b.length := by omega
    rw [decide_eq_false hl', Bool.false_and]
    simp (maxSteps := 1000000) (disch := first | exact sd | fail) only [go_sem, Nat.reduceAdd, Nat.reduceSub, Nat.reduceLeDiff, ↓reduceIte, decide_eq_true_eq, if_true, if_false, Bool.false_eq_true, Int.lt_irrefl, implies_true, true_and, and_true, eq_self, and_self, beq_self_eq_true, aw_plan (id := 6) plV10_97_6, plV10_97_6, hl, ne_eq, not_false_eq_true]
    exact .rfl
/-! ### sizes -/
def rwi (m : List (List RQ)) (i : Nat) : List RQ := m.getD i []
def cnt (m : List (List RQ)) : Nat → Nat
  | 0 => 0
  | i + 1 => cnt m i + 1 + min (rwi m i).length 201
def Gd (m : List (List RQ)) : Prop := m.length ≤ 200 ∧ ∀ j, j < m.length → (rwi m j).length ≤ 200 ∧ (rwi m j).any gq = false
theorem pu_Rs {m : List (List RQ)} : Pu (Vv eR m) := .fz (Pus.flat fun _ _ => .cons pu_Qs .nil)
/-! ### tables times rows -/
end Go.Abs

/- Tables times rows. -/
set_option linter.unusedVariables false
set_option linter.unusedSimpArgs false
namespace Go.Abs
open Go Go.Proofs
set_option maxRecDepth 100000
set_option maxHeartbeats 4000000

theorem VO.mono {α : Type} {E : En α} {P : Program} {H0 H H' : Heap} {el : TypeId} {sl : Value} {l : List α} (h : VO P E el H0 H sl l) (hle : Hle H H') : VO P E el H0 H' sl l := Ow.mono h hle
def okT (m : List (List RQ)) (n : Nat) : Prop := ∀ j, j < m.length → (rwi m j).length = n
def timesV (m : List (List RQ)) (x : List RQ) : List RQ := tab m.length fun i => dotV (rwi m i) x
end Go.Abs
