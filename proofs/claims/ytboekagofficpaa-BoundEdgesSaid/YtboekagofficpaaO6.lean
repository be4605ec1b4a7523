/- How many strategies there are at most: plainly; many numbers times one another. -/
import Derived.Test.YtboekagofficpaaO5
set_option linter.unusedVariables false
set_option linter.unusedSimpArgs false
namespace Go.Abs
open Go Go.Proofs
set_option maxRecDepth 100000
set_option maxHeartbeats 4000000
def ri (z : Int) : RI := ⟨sgn z, lmb z⟩
theorem ri_getD {l : List Int} {s : Nat} (h : s < l.length) : (l.map ri).getD s eI.d = ri (l.getD s 0) := by
  rw [List.getD_eq_getElem?_getD, List.getD_eq_getElem?_getD, List.getElem?_map, List.getElem?_eq_getElem h]
  rfl
def prd (l : List Int) : Int := l.foldl (· * ·) 1
theorem prd_snoc {l : List Int} {x : Int} : prd (l ++ [x]) = prd l * x := by unfold prd; rw [List.foldl_append]; rfl
theorem take_snocD {l : List Int} {s : Nat} (h : s < l.length) : l.take (s + 1) = l.take s ++ [l.getD s 0] := by
  rw [List.take_add_one, List.getD_eq_getElem?_getD, List.getElem?_eq_getElem h]
  rfl
theorem ln_prd {a : Int} {l : List Int} (ha : ln a ≤ 2) (h : ∀ x ∈ l, x.natAbs < 4294967296) : ∀ s, s ≤ l.length → ln (a * prd (l.take s)) ≤ 2 + s
  | 0, _ => by rw [List.take_zero]; show ln (a * 1) ≤ _; rw [Int.mul_one]; omega
  | s + 1, hs => by
    rw [take_snocD (by omega), prd_snoc, ← Int.mul_assoc]
    have h1 := ln_mul (a * prd (l.take s)) (l.getD s 0)
    have h2 := ln_prd ha h s (by omega)
    have h3 : ln (l.getD s 0) ≤ 1 := ln_small (getDm (P := fun x : Int => x.natAbs < 4294967296) (by omega) h)
    omega
theorem ln_prd' {a : Int} {l : List Int} (ha : ln a ≤ 2) (h : ∀ x ∈ l, x.natAbs < 4294967296) : ln (a * prd l) ≤ 2 + l.length := by
  have := ln_prd ha h l.length (Nat.le_refl _)
  rwa [List.take_length] at this
/-- How many edges lead there. -/
def cntE (E : List RE) (i : Nat) : Nat := (E.filter fun e => decide (e.t = (i : Int))).length
theorem cntE_le {E : List RE} {i : Nat} : cntE E i ≤ E.length := List.length_filter_le _ _
theorem takeE {E : List RE} {s : Nat} (h : s < E.length) : E.take (s + 1) = E.take s ++ [E.getD s eE.d] := by
  rw [List.take_add_one, List.getD_eq_getElem?_getD, List.getElem?_eq_getElem h]
  rfl
theorem cntE_succ {E : List RE} {i s : Nat} (h : s < E.length) : cntE (E.take (s + 1)) i = cntE (E.take s) i + if (E.getD s eE.d).t = i then 1 else 0 := by
  unfold cntE
  rw [takeE h, List.filter_append, List.length_append]
  congr 1
  rw [List.filter_cons, List.filter_nil]
  split <;> simp_all
def alls (E : List RE) (n s : Nat) : List Int := (List.range s).flatMap fun i => List.replicate n ((cntE E i : Int) + 2)
theorem alls_succ {E : List RE} {n s : Nat} : alls E n (s + 1) = alls E n s ++ List.replicate n ((cntE E s : Int) + 2) := by
  unfold alls
  rw [List.range_succ, List.flatMap_append, List.flatMap_singleton]
theorem alls_len {E : List RE} {n : Nat} : ∀ {s : Nat}, (alls E n s).length = s * n
  | 0 => by simp [alls]
  | s + 1 => by rw [alls_succ, List.length_append, alls_len, List.length_replicate, Nat.succ_mul]
theorem alls_mem {E : List RE} {n s : Nat} (hE : E.length ≤ 200) : ∀ x ∈ alls E n s, x.natAbs < 4294967296 := by
  intro x hx
  unfold alls at hx
  obtain ⟨i, _, hi⟩ := List.mem_flatMap.1 hx
  obtain ⟨_, rfl⟩ := List.mem_replicate.1 hi
  have := cntE_le (E := E) (i := i)
  omega
def fewN (r : Int) : Nat := (max 0 (min r 40)).toNat
theorem fewN_le (r : Int) : fewN r ≤ 40 := by unfold fewN; omega
theorem fewN_eq (r : Int) : max 0 (min r 40) = (fewN r : Int) := by unfold fewN; omega
theorem fewN_if {r : Int} : (if (0 : Int) < if 40 < r then 40 else r then if 40 < r then 40 else r else 0) = (fewN r : Int) := by
  rw [← fewN_eq]; split <;> split <;> omega
def rndV (l : RW) (r : Int) : Int := if okW l then ((l.locs.length * fewN r + 1 : Nat) : Int) * prd (alls l.edges (fewN r) l.locs.length) else 0
theorem p54z {a b : Int} (ha : ln a ≤ 2 ^ 30) (hb : ln b ≤ 2 ^ 30) : PC Try.prog 28 [Zn a, Zn b] (Zn (a * b)) := by
  have := p54 (n := sgn a) (m := sgn b) (lb_z (z := a) (by omega)) (lb_z (z := b) (by omega))
  rwa [den_z, den_z] at this
theorem p65z {a b : Int} (ha : ln a ≤ 2 ^ 30) (hb : ln b ≤ 2 ^ 30) : PC Try.prog 30 [Zn a, Zn b] (Zn (a * b)) := by
  have := p65 (n := sgn a) (m := sgn b) (lb_z (z := a) (by omega)) (lb_z (z := b) (by omega))
  rwa [den_z, den_z] at this
theorem p200 {r : Int} : PC Try.prog 21 [.int .i64 r] (.int .i64 (fewN r)) := by
  refine PC.of (.cons (.ground rfl) .nil) (.ground rfl) fun N hN => ?_
  refine ACalls.of_code T.hm (n := 5) Try.func21 rfl rfl rfl rfl ?_; simp only [List.replicate_succ, List.replicate_zero, List.cons_append, List.nil_append]
  simp (maxSteps := 1000000) (disch := first | exact sd | fail) only [go_sem, Nat.reduceAdd, Nat.reduceSub, Nat.reduceLeDiff, ↓reduceIte, decide_eq_true_eq, if_true, if_false, Bool.false_eq_true, Int.lt_irrefl, implies_true, true_and, and_true, eq_self, and_self, beq_self_eq_true]
  rw [fewN_if]
  exact .rfl
theorem p201 {a : Int} {ns : List Int} (ha : ln a ≤ 2) (h : ∀ x ∈ ns, x.natAbs < 4294967296) (hl : ns.length ≤ 2 ^ 20) : PC Try.prog 27 [.func (.func 28) ⟨[]⟩ ⟨[]⟩, Zn a, Vv eI (ns.map ri)] (Zn (a * prd ns)) := by
  refine PC.of (.cons pu_fn (.cons pu_in (.cons pu_Is .nil))) pu_in fun N hN => ?_
  have hlm : (ns.map ri).length = ns.length := List.length_map ..
  have hb := ln_prd ha h
  have h0 : a * prd (ns.take 0) = a := by rw [List.take_zero]; exact Int.mul_one a
  refine ACalls.of_code T.hm (n := 18) Try.func27 rfl rfl rfl rfl ?_; simp only [List.replicate_succ, List.replicate_zero, List.cons_append, List.nil_append]
  simp (maxSteps := 1000000) (disch := first | exact sd | fail) only [go_sem, Nat.reduceAdd, Nat.reduceSub, Nat.reduceLeDiff, ↓reduceIte, decide_eq_true_eq, if_true, if_false, Bool.false_eq_true, Int.lt_irrefl, implies_true, true_and, and_true, eq_self, and_self, beq_self_eq_true, hlm]
  refine aw_loopJ (σ := Nat) (fun s J => [.func (.func 28) ⟨[]⟩ ⟨[]⟩, J 1, J 2, J 3, .pointer (some ⟨N, 0, none⟩), J 5, .pointer (some ⟨N + 1, 0, none⟩), J 7, J 8, Vv eI (ns.map ri), .int .i64 ns.length, .int .i64 s, J 12, J 13, J 14, J 15, J 16, J 17, J 18, J 19, J 20]) (fun m s H1 => m = ns.length - s ∧ s ≤ ns.length ∧ N + 1 < H1.next ∧ H1.get N = some (.row true 47 [.bool (sgn (a * prd (ns.take s))), Vv eU (lmb (a * prd (ns.take s)))]) ∧ H1.get (N + 1) = some (.row true 47 [.bool false, .slice none 0 0])) ns.length 0 rfl ⟨rfl, Nat.zero_le _, by simp only [next_push, next_E0]; omega, by rw [h0]; simp (maxSteps := 1000000) (disch := first | exact sd | fail) only [go_sem, Nat.reduceAdd, Nat.reduceSub, Nat.reduceLeDiff, ↓reduceIte, decide_eq_true_eq, if_true, if_false, Bool.false_eq_true, Int.lt_irrefl, implies_true, true_and, and_true, eq_self, and_self, beq_self_eq_true], by simp (maxSteps := 1000000) (disch := first | exact sd | fail) only [go_sem, Nat.reduceAdd, Nat.reduceSub, Nat.reduceLeDiff, ↓reduceIte, decide_eq_true_eq, if_true, if_false, Bool.false_eq_true, Int.lt_irrefl, implies_true, true_and, and_true, eq_self, and_self, beq_self_eq_true]⟩ ?_
  rintro m s J H1 ⟨rfl, hs, hn, g1, g2⟩
  by_cases h4 : (s : Int) < ns.length
  · have h5 : (s : Int).toNat = s := rfl
    have e1 := hb s hs
    have e2 : ln (ns.getD s 0) ≤ 1 := ln_small (getDm (P := fun x : Int => x.natAbs < 4294967296) (by omega) h)
    have es : a * prd (ns.take (s + 1)) = a * prd (ns.take s) * ns.getD s 0 := by rw [take_snocD (by omega), prd_snoc, Int.mul_assoc]
    have q := p54z (a := a * prd (ns.take s)) (b := ns.getD s 0) (by omega) (by omega)
    have hi := ri_getD (l := ns) (s := s) (by omega)
    generalize a * prd (ns.take s) = A at *
    generalize ns.getD s 0 = B at *
    simp (maxSteps := 1000000) (disch := first | exact sd | fail) only [go_sem, Nat.reduceAdd, Nat.reduceSub, Nat.reduceLeDiff, ↓reduceIte, decide_eq_true_eq, if_true, if_false, Bool.false_eq_true, Int.lt_irrefl, implies_true, true_and, and_true, eq_self, and_self, beq_self_eq_true, h4, h5, hlm, hi, g1, ri]
    refine PC.step (q) fun m1 j1 => ?_
    try simp only [Heap.next_push, Heap.next_set, Heap.next_kill, next_bump, next_E0] at j1
    rw [← es]
    simp (maxSteps := 1000000) (disch := first | exact sd | fail) only [go_sem, Nat.reduceAdd, Nat.reduceSub, Nat.reduceLeDiff, ↓reduceIte, decide_eq_true_eq, if_true, if_false, Bool.false_eq_true, Int.lt_irrefl, implies_true, true_and, and_true, eq_self, and_self, beq_self_eq_true, g1, g2]
    exact IJ_intro (k := ns.length - (s + 1)) (by omega) (s + 1) rfl ⟨rfl, by omega, by simp only [next_bump, next_push, next_set] at j1 ⊢; omega, by simp (maxSteps := 1000000) (disch := first | exact sd | fail) only [go_sem, Nat.reduceAdd, Nat.reduceSub, Nat.reduceLeDiff, ↓reduceIte, decide_eq_true_eq, if_true, if_false, Bool.false_eq_true, Int.lt_irrefl, implies_true, true_and, and_true, eq_self, and_self, beq_self_eq_true], by simp (maxSteps := 1000000) (disch := first | exact sd | fail) only [go_sem, Nat.reduceAdd, Nat.reduceSub, Nat.reduceLeDiff, ↓reduceIte, decide_eq_true_eq, if_true, if_false, Bool.false_eq_true, Int.lt_irrefl, implies_true, true_and, and_true, eq_self, and_self, beq_self_eq_true, g2]⟩
  · have e : s = ns.length := by omega
    subst e
    rw [List.take_length] at g1
    simp (maxSteps := 1000000) (disch := first | exact sd | fail) only [go_sem, Nat.reduceAdd, Nat.reduceSub, Nat.reduceLeDiff, ↓reduceIte, decide_eq_true_eq, if_true, if_false, Bool.false_eq_true, Int.lt_irrefl, implies_true, true_and, and_true, eq_self, and_self, beq_self_eq_true, h4, g1, g2]
    exact .rfl
end Go.Abs
