/- What options are right; how often one is turned. -/
import Derived.Test.YtboekagofficpaaO6
import Derived.Test.YtboekagofficpaaO17
set_option linter.unusedVariables false
set_option linter.unusedSimpArgs false
namespace Go.Abs
open Go Go.Proofs
set_option maxRecDepth 100000
set_option maxHeartbeats 4000000
def plO15_137_3 : Plan := ⟨[0, 1, 2, 4, 5, 6, 7], [(3, [5, 1], [8, 9, 10])]⟩
/-- More than six limbs? -/
def gqU (a : RQ) : Bool := decide (6 < a.p.l.length) || decide (6 < a.q.l.length)
theorem pu_QsU {l : List RQ} : Pu (Vv eQ l) := .fz (Pus.flat fun _ _ => .cons (.ground rfl) (.cons pu_U (.cons (.ground rfl) (.cons pu_U .nil))))
theorem p69U {ls : List RQ} (hb : ls.length ≤ 9223372036854775807) : PC Try.prog 18 [Vv eQ ls] (.bool (ls.any gqU)) := by
  refine PC.of (.cons pu_QsU .nil) (.ground rfl) fun N hN => ?_
  refine ACalls.of_code T.hm (n := 27) Try.func18 rfl rfl rfl rfl ?_; simp only [List.replicate_succ, List.replicate_zero, List.cons_append, List.nil_append]
  simp (maxSteps := 1000000) (disch := first | exact sd | fail) only [go_sem, Nat.reduceAdd, Nat.reduceSub, Nat.reduceLeDiff, ↓reduceIte, decide_eq_true_eq, if_true, if_false, Bool.false_eq_true, Int.lt_irrefl, implies_true, true_and, and_true, eq_self, and_self, beq_self_eq_true]
  refine aw_loopS (σ := Nat) (fun k J => [Vv eQ ls, J 1, .bool false, .int .i64 k, J 4, J 5, J 6, J 7, J 8, J 9, J 10, J 11, J 12, J 13, J 14, J 15, J 16, J 17, J 18, J 19, J 20, J 21, J 22, J 23, J 24, J 25, J 26, J 27]) (fun m k => m = ls.length - k ∧ k ≤ ls.length ∧ ∀ i, i < k → ∀ p, ls[i]? = some p → gqU p = false) ls.length 0 rfl ⟨rfl, Nat.zero_le _, fun i hi => by omega⟩ ?_
  rintro m k J ⟨rfl, hk, hall⟩
  by_cases h4 : (k : Int) < ls.length
  · have hk' : k < ls.length := by omega
    have eg : ls.getD k eQ.d = ls[k] := by rw [List.getD_eq_getElem?_getD, List.getElem?_eq_getElem hk']; rfl
    have ht (h : gqU ls[k] = true) : (ls.any gqU) = true := by
      rw [List.any_eq_true]
      exact ⟨ls[k], List.getElem_mem hk', h⟩
    by_cases h5 : (6 : Int) < (ls[k]).p.l.length
    · simp (maxSteps := 1000000) (disch := first | exact sd | fail) only [go_sem, Nat.reduceAdd, Nat.reduceSub, Nat.reduceLeDiff, ↓reduceIte, decide_eq_true_eq, if_true, if_false, Bool.false_eq_true, Int.lt_irrefl, implies_true, true_and, and_true, eq_self, and_self, beq_self_eq_true, h4, Int.toNat_natCast, eg, h5]
      rw [ht (by unfold gqU; simp; omega)]
      exact .rfl
    · by_cases h6 : (6 : Int) < (ls[k]).q.l.length
      · simp (maxSteps := 1000000) (disch := first | exact sd | fail) only [go_sem, Nat.reduceAdd, Nat.reduceSub, Nat.reduceLeDiff, ↓reduceIte, decide_eq_true_eq, if_true, if_false, Bool.false_eq_true, Int.lt_irrefl, implies_true, true_and, and_true, eq_self, and_self, beq_self_eq_true, h4, Int.toNat_natCast, eg, h5, h6]
        rw [ht (by unfold gqU; simp; omega)]
        exact .rfl
      · simp (maxSteps := 1000000) (disch := first | exact sd | fail) only [go_sem, Nat.reduceAdd, Nat.reduceSub, Nat.reduceLeDiff, ↓reduceIte, decide_eq_true_eq, if_true, if_false, Bool.false_eq_true, Int.lt_irrefl, implies_true, true_and, and_true, eq_self, and_self, beq_self_eq_true, h4, Int.toNat_natCast, eg, h5, h6]
        refine IJ_intro (k := ls.length - (k + 1)) (by omega) (k + 1) rfl ⟨⟨rfl, by omega, fun i hi p hp => ?_⟩, rfl⟩
        by_cases h6 : i = k
        · subst h6
          rw [List.getElem?_eq_getElem hk'] at hp
          injection hp with hp; subst hp
          unfold gqU
          simp; omega
        · exact hall i (by omega) p hp
  · simp (maxSteps := 1000000) (disch := first | exact sd | fail) only [go_sem, Nat.reduceAdd, Nat.reduceSub, Nat.reduceLeDiff, ↓reduceIte, decide_eq_true_eq, if_true, if_false, Bool.false_eq_true, Int.lt_irrefl, implies_true, true_and, and_true, eq_self, and_self, beq_self_eq_true, h4]
    have : (ls.any gqU) = false := by
      rw [List.any_eq_false]
      intro p hp
      obtain ⟨i, hi, rfl⟩ := List.getElem_of_mem hp
      have := hall i (by omega) _ (List.getElem?_eq_getElem hi)
      simp [this]
    rw [this]
    exact .rfl
def rwiU (m : List (List RQ)) (i : Nat) : List RQ := m.getD i []
/-- What Great counts. -/
def cntU (m : List (List RQ)) : Nat → Nat
  | 0 => 0
  | i + 1 => cntU m i + 1 + min (rwiU m i).length 201
theorem cnt_geU {m : List (List RQ)} : ∀ {i : Nat}, i ≤ cntU m i ∧ ∀ j, j < i → min (rwiU m j).length 201 ≤ cntU m i
  | 0 => ⟨Nat.le_refl _, fun j hj => by omega⟩
  | i + 1 => by
    obtain ⟨h1, h2⟩ := cnt_geU (m := m) (i := i)
    rw [cntU]
    refine ⟨by omega, fun j hj => ?_⟩
    rcases Nat.lt_or_ge j i with h | h
    · have := h2 j h; omega
    · have : j = i := by omega
      subst this; omega
/-- What Great lets through. -/
def GdU (m : List (List RQ)) : Prop := m.length ≤ 200 ∧ ∀ j, j < m.length → (rwiU m j).length ≤ 200 ∧ (rwiU m j).any gqU = false
theorem pu_RsU {m : List (List RQ)} : Pu (Vv eR m) := .fz (Pus.flat fun _ _ => .cons pu_QsU .nil)
theorem p83U {m : List (List RQ)} (hm : m.length ≤ 9223372036854775807) (hr : ∀ j, (rwiU m j).length ≤ 9223372036854775807) : PK Try.prog 6 [Vv eR m] fun r => ∃ b, r = .bool b ∧ (b = false → GdU m) := by
  refine PC.of' (.cons pu_RsU .nil) fun N hN => ?_
  refine ACalls.of_code T.hm (n := 38) Try.func6 rfl rfl rfl rfl ?_; simp only [List.replicate_succ, List.replicate_zero, List.cons_append, List.nil_append]
  simp (maxSteps := 1000000) (disch := first | exact sd | fail) only [go_sem, Nat.reduceAdd, Nat.reduceSub, Nat.reduceLeDiff, ↓reduceIte, decide_eq_true_eq, if_true, if_false, Bool.false_eq_true, Int.lt_irrefl, implies_true, true_and, and_true, eq_self, and_self, beq_self_eq_true]
  refine aw_loopS (σ := Nat) (fun k J => [Vv eR m, J 1, .bool false, .int .i64 (cntU m k), .int .i64 k, J 5, J 6, J 7, J 8, J 9, J 10, J 11, J 12, J 13, J 14, J 15, J 16, J 17, J 18, J 19, J 20, J 21, J 22, J 23, J 24, J 25, J 26, J 27, J 28, J 29, J 30, J 31, J 32, J 33, J 34, J 35, J 36, J 37, J 38]) (fun i k => i = m.length - k ∧ k ≤ m.length ∧ cntU m k ≤ 402 ∧ ∀ j, j < k → (rwiU m j).length ≤ 200 → (rwiU m j).any gqU = false) m.length 0 rfl ⟨rfl, Nat.zero_le _, by simp [cntU], fun j hj => by omega⟩ ?_
  rintro i k J ⟨rfl, hk, hc, hall⟩
  by_cases h4 : (k : Int) < m.length
  · by_cases h5 : (cntU m k : Int) ≤ 200
    · have es : cntU m (k + 1) = cntU m k + 1 + min (rwiU m k).length 201 := rfl
      have hrk := hr k
      by_cases h6 : ((rwiU m k).length : Int) ≤ 200
      · have e1 : (if (201 : Int) < (rwiU m k).length then 201 else ((rwiU m k).length : Int)) = (rwiU m k).length := by split <;> omega
        have e2 : (cntU m k : Int) + 1 + (rwiU m k).length = (cntU m (k + 1) : Nat) := by omega
        simp (maxSteps := 1000000) (disch := first | exact sd | fail) only [go_sem, Nat.reduceAdd, Nat.reduceSub, Nat.reduceLeDiff, ↓reduceIte, decide_eq_true_eq, if_true, if_false, Bool.false_eq_true, Int.lt_irrefl, implies_true, true_and, and_true, eq_self, and_self, beq_self_eq_true, h4, h5, h6, Int.toNat_natCast, show m.getD k [] = rwiU m k from rfl, e1, e2]
        refine PC.peek (p69U (by omega)) rfl .refl ?_
        cases hq : (rwiU m k).any gqU with
        | true => simp (maxSteps := 1000000) (disch := first | exact sd | fail) only [go_sem, Nat.reduceAdd, Nat.reduceSub, Nat.reduceLeDiff, ↓reduceIte, decide_eq_true_eq, if_true, if_false, Bool.false_eq_true, Int.lt_irrefl, implies_true, true_and, and_true, eq_self, and_self, beq_self_eq_true]; exact ⟨_, .rfl, .ground rfl, true, rfl, fun h => by cases h⟩
        | false =>
          simp (maxSteps := 1000000) (disch := first | exact sd | fail) only [go_sem, Nat.reduceAdd, Nat.reduceSub, Nat.reduceLeDiff, ↓reduceIte, decide_eq_true_eq, if_true, if_false, Bool.false_eq_true, Int.lt_irrefl, implies_true, true_and, and_true, eq_self, and_self, beq_self_eq_true]
          refine IJ_intro (k := m.length - (k + 1)) (by omega) (k + 1) rfl ⟨⟨rfl, by omega, by omega, fun j hj hl => ?_⟩, rfl⟩
          rcases Nat.lt_or_ge j k with h | h
          · exact hall j h hl
          · have : j = k := by omega
            subst this; exact hq
      · have e1 : (if (201 : Int) < (rwiU m k).length then 201 else ((rwiU m k).length : Int)) = 201 := by split <;> omega
        have e2 : (cntU m k : Int) + 1 + 201 = (cntU m (k + 1) : Nat) := by omega
        simp (maxSteps := 1000000) (disch := first | exact sd | fail) only [go_sem, Nat.reduceAdd, Nat.reduceSub, Nat.reduceLeDiff, ↓reduceIte, decide_eq_true_eq, if_true, if_false, Bool.false_eq_true, Int.lt_irrefl, implies_true, true_and, and_true, eq_self, and_self, beq_self_eq_true, h4, h5, h6, Int.toNat_natCast, show m.getD k [] = rwiU m k from rfl, e1, e2]
        refine IJ_intro (k := m.length - (k + 1)) (by omega) (k + 1) rfl ⟨⟨rfl, by omega, by omega, fun j hj hl => ?_⟩, rfl⟩
        rcases Nat.lt_or_ge j k with h | h
        · exact hall j h hl
        · have : j = k := by omega
          subst this; omega
    · simp (maxSteps := 1000000) (disch := first | exact sd | fail) only [go_sem, Nat.reduceAdd, Nat.reduceSub, Nat.reduceLeDiff, ↓reduceIte, decide_eq_true_eq, if_true, if_false, Bool.false_eq_true, Int.lt_irrefl, implies_true, true_and, and_true, eq_self, and_self, beq_self_eq_true, h4, h5, show (200 : Int) < cntU m k by omega, decide_true]
      exact ⟨_, .rfl, .ground rfl, true, rfl, fun h => by cases h⟩
  · simp (maxSteps := 1000000) (disch := first | exact sd | fail) only [go_sem, Nat.reduceAdd, Nat.reduceSub, Nat.reduceLeDiff, ↓reduceIte, decide_eq_true_eq, if_true, if_false, Bool.false_eq_true, Int.lt_irrefl, implies_true, true_and, and_true, eq_self, and_self, beq_self_eq_true, h4]
    refine ⟨_, .rfl, .ground rfl, _, rfl, fun h => ?_⟩
    have h := of_decide_eq_false h
    have e : k = m.length := by omega
    subst e
    obtain ⟨c1, c2⟩ := cnt_geU (m := m) (i := m.length)
    refine ⟨by omega, fun j hj => ?_⟩
    have := c2 j hj
    exact ⟨by omega, hall j hj (by omega)⟩
/-! ### options -/
def mayR (a : RQ) : Bool := mayQ a.p.neg a.p.l a.q.neg a.q.l
def Opv (d : Int) (th : List RQ) (w : Int) : Value := .agg ⟨[.int .i64 d, Vv eQ th, .int .i64 w]⟩
theorem pu_Op {d w : Int} {th : List RQ} : Pu (Opv d th w) := .agg (.cons (.ground rfl) (.cons pu_QsU (.cons (.ground rfl) .nil)))
/-- Numbers of a few limbs. -/
def SmR (a : RQ) : Prop := Lb a.p.l ∧ Lb a.q.l ∧ a.p.l.length ≤ 2 ^ 39 ∧ a.q.l.length ≤ 2 ^ 39
def SmT (th : List RQ) : Prop := th.length ≤ 200 ∧ ∀ a ∈ th, SmR a
theorem smT_of {th : List RQ} (h : ∀ a ∈ th, LimQ a) (g : GdU [th]) : SmT th := by
  have := g.2 0 (by show 0 < 1; omega)
  refine ⟨this.1, fun a ha => ?_⟩
  have h2 : th.any gqU = false := this.2
  rw [List.any_eq_false] at h2
  have h3 := h2 a ha
  unfold gqU at h3
  simp at h3
  exact ⟨⟨(h a ha).1, by omega⟩, ⟨(h a ha).2, by omega⟩, by omega, by omega⟩
def okO (d : Int) (th : List RQ) (w : Int) : Bool := decide (0 ≤ d ∧ d ≤ 20) && decide (0 ≤ w ∧ w ≤ 20) && decide (th.length ≤ 16) && th.all mayR
theorem p230 {m : Int} : PC Try.prog 34 [.int .i64 m] (.bool (decide (0 ≤ m ∧ m ≤ 20))) := by
  refine PC.of (.cons (.ground rfl) .nil) (.ground rfl) fun N hN => ?_
  refine ACalls.of_code T.hm (n := 8) Try.func34 rfl rfl rfl rfl ?_; simp only [List.replicate_succ, List.replicate_zero, List.cons_append, List.nil_append]
  by_cases c1 : 0 ≤ m
  · by_cases c2 : m ≤ 20
    · simp (maxSteps := 1000000) (disch := first | exact sd | fail) only [go_sem, Nat.reduceAdd, Nat.reduceSub, Nat.reduceLeDiff, ↓reduceIte, decide_eq_true_eq, if_true, if_false, Bool.false_eq_true, Int.lt_irrefl, implies_true, true_and, and_true, eq_self, and_self, beq_self_eq_true, c1, c2, decide_true]
      exact .rfl
    · simp (maxSteps := 1000000) (disch := first | exact sd | fail) only [go_sem, Nat.reduceAdd, Nat.reduceSub, Nat.reduceLeDiff, ↓reduceIte, decide_eq_true_eq, if_true, if_false, Bool.false_eq_true, Int.lt_irrefl, implies_true, true_and, and_true, eq_self, and_self, beq_self_eq_true, c1, c2, decide_false, and_false]
      exact .rfl
  · simp (maxSteps := 1000000) (disch := first | exact sd | fail) only [go_sem, Nat.reduceAdd, Nat.reduceSub, Nat.reduceLeDiff, ↓reduceIte, decide_eq_true_eq, if_true, if_false, Bool.false_eq_true, Int.lt_irrefl, implies_true, true_and, and_true, eq_self, and_self, beq_self_eq_true, c1, decide_false, false_and]
    exact .rfl
theorem p232 {a : RQ} (h : SmR a) : PC Try.prog 36 [.agg ⟨eQ.enc a⟩] (.bool (!mayR a)) := by
  refine PC.of (.cons pu_r4 .nil) (.ground rfl) fun N hN => ?_
  have q := p73 (pn := a.p.neg) (qn := a.q.neg) h.1 h.2.1 h.2.2.1 h.2.2.2
  change PC Try.prog 37 _ (.bool (mayR a)) at q
  rw [R4_eq] at q
  show ACalls _ _ [.agg ⟨[.bool a.p.neg, Vv eU a.p.l, .bool a.q.neg, Vv eU a.q.l]⟩] _ _
  refine ACalls.of_code T.hm (n := 5) Try.func36 rfl rfl rfl rfl ?_; simp only [List.replicate_succ, List.replicate_zero, List.cons_append, List.nil_append]
  simp (maxSteps := 1000000) (disch := first | exact sd | fail) only [go_sem, Nat.reduceAdd, Nat.reduceSub, Nat.reduceLeDiff, ↓reduceIte, decide_eq_true_eq, if_true, if_false, Bool.false_eq_true, Int.lt_irrefl, implies_true, true_and, and_true, eq_self, and_self, beq_self_eq_true]
  refine PC.step (q) fun m1 j1 => ?_
  try simp only [Heap.next_push, Heap.next_set, Heap.next_kill, next_bump, next_E0] at j1
  simp (maxSteps := 1000000) (disch := first | exact sd | fail) only [go_sem, Nat.reduceAdd, Nat.reduceSub, Nat.reduceLeDiff, ↓reduceIte, decide_eq_true_eq, if_true, if_false, Bool.false_eq_true, Int.lt_irrefl, implies_true, true_and, and_true, eq_self, and_self, beq_self_eq_true]
  exact .rfl
theorem p251 {l : List RQ} (h : SmT l) : PK Try.prog 54 [Vv eQ l, .func (.func 36) ⟨[]⟩ ⟨[]⟩] fun r => ∃ k : Int, r = .int .i64 k ∧ decide (0 ≤ k) = !l.all mayR := by
  have hl := h.1
  refine PC.of' (.cons pu_QsU (.cons pu_fn .nil)) fun N hN => ?_
  refine ACalls.of_code T.hm (n := 17) Try.func54 rfl rfl rfl rfl ?_; simp only [List.replicate_succ, List.replicate_zero, List.cons_append, List.nil_append]
  simp (maxSteps := 1000000) (disch := first | exact sd | fail) only [go_sem, Nat.reduceAdd, Nat.reduceSub, Nat.reduceLeDiff, ↓reduceIte, decide_eq_true_eq, if_true, if_false, Bool.false_eq_true, Int.lt_irrefl, implies_true, true_and, and_true, eq_self, and_self, beq_self_eq_true]
  refine aw_loopJ (σ := Nat) (fun s J => [Vv eQ l, .func (.func 36) ⟨[]⟩ ⟨[]⟩, J 2, J 3, .int .i64 0, J 5, J 6, .int .i64 l.length, .int .i64 s, J 9, J 10, J 11, J 12, J 13, J 14, J 15, J 16, J 17, J 18]) (fun m s H1 => m = l.length - s ∧ s ≤ l.length ∧ ∀ j, j < s → mayR (l.getD j eQ.d) = true) l.length 0 rfl ⟨rfl, Nat.zero_le _, fun j hj => by omega⟩ ?_
  rintro m s J H1 ⟨rfl, hs1, hall⟩
  by_cases h4 : (s : Int) < l.length
  · have h5 : (s : Int).toNat = s := rfl
    have hd : SmR (l.getD s eQ.d) := getDm (by omega) h.2
    have q := p232 hd
    rw [eQ_enc] at q
    simp (maxSteps := 1000000) (disch := first | exact sd | fail) only [go_sem, Nat.reduceAdd, Nat.reduceSub, Nat.reduceLeDiff, ↓reduceIte, decide_eq_true_eq, if_true, if_false, Bool.false_eq_true, Int.lt_irrefl, implies_true, true_and, and_true, eq_self, and_self, beq_self_eq_true, h4, h5]
    refine PC.step (q) fun m1 j1 => ?_
    try simp only [Heap.next_push, Heap.next_set, Heap.next_kill, next_bump, next_E0] at j1
    cases h6 : mayR (l.getD s eQ.d) with
    | true =>
      simp (maxSteps := 1000000) (disch := first | exact sd | fail) only [go_sem, Nat.reduceAdd, Nat.reduceSub, Nat.reduceLeDiff, ↓reduceIte, decide_eq_true_eq, if_true, if_false, Bool.false_eq_true, Int.lt_irrefl, implies_true, true_and, and_true, eq_self, and_self, beq_self_eq_true, Bool.not_true]
      exact IJ_intro (k := l.length - (s + 1)) (by omega) (s + 1) rfl ⟨rfl, by omega, upto_snoc hall h6⟩
    | false =>
      simp (maxSteps := 1000000) (disch := first | exact sd | fail) only [go_sem, Nat.reduceAdd, Nat.reduceSub, Nat.reduceLeDiff, ↓reduceIte, decide_eq_true_eq, if_true, if_false, Bool.false_eq_true, Int.lt_irrefl, implies_true, true_and, and_true, eq_self, and_self, beq_self_eq_true, Bool.not_false]
      refine ⟨_, .rfl, .ground rfl, s, rfl, ?_⟩
      rw [not_all (by omega) h6]
      exact decide_eq_true (by omega)
  · simp (maxSteps := 1000000) (disch := first | exact sd | fail) only [go_sem, Nat.reduceAdd, Nat.reduceSub, Nat.reduceLeDiff, ↓reduceIte, decide_eq_true_eq, if_true, if_false, Bool.false_eq_true, Int.lt_irrefl, implies_true, true_and, and_true, eq_self, and_self, beq_self_eq_true, h4]
    refine ⟨_, .rfl, .ground rfl, -1, rfl, ?_⟩
    rw [all_getD (d := eQ.d) fun j hj => hall j (by omega)]
    rfl
theorem p231 {l : List RQ} (h : SmT l) : PC Try.prog 35 [Vv eQ l, .func (.func 36) ⟨[]⟩ ⟨[]⟩] (.bool (!l.all mayR)) := by
  refine PC.of (.cons pu_QsU (.cons pu_fn .nil)) (.ground rfl) fun N hN => ?_
  refine ACalls.of_code T.hm (n := 7) Try.func35 rfl rfl rfl rfl ?_; simp only [List.replicate_succ, List.replicate_zero, List.cons_append, List.nil_append]
  simp (maxSteps := 1000000) (disch := first | exact sd | fail) only [go_sem, Nat.reduceAdd, Nat.reduceSub, Nat.reduceLeDiff, ↓reduceIte, decide_eq_true_eq, if_true, if_false, Bool.false_eq_true, Int.lt_irrefl, implies_true, true_and, and_true, eq_self, and_self, beq_self_eq_true]
  refine PK.step (p251 h) ?_
  rintro _ m1 ⟨k, rfl, hk⟩ j1
  simp (maxSteps := 1000000) (disch := first | exact sd | fail) only [go_sem, Nat.reduceAdd, Nat.reduceSub, Nat.reduceLeDiff, ↓reduceIte, decide_eq_true_eq, if_true, if_false, Bool.false_eq_true, Int.lt_irrefl, implies_true, true_and, and_true, eq_self, and_self, beq_self_eq_true]
  rw [hk]
  exact .rfl
theorem p203 {d w : Int} {th : List RQ} (h : SmT th) : PC Try.prog 20 [Opv d th w] (.bool (okO d th w)) := by
  have hl := h.1
  have q1 := p230 (m := d)
  have q2 := p230 (m := w)
  have q3 := p231 h
  refine PC.of (.cons pu_Op .nil) (.ground rfl) fun N hN => ?_
  unfold okO Opv
  refine ACalls.of_code T.hm (n := 25) Try.func20 rfl rfl rfl rfl ?_; simp only [List.replicate_succ, List.replicate_zero, List.cons_append, List.nil_append]
  generalize decide (0 ≤ d ∧ d ≤ 20) = b1 at *
  generalize decide (0 ≤ w ∧ w ≤ 20) = b2 at *
  simp (maxSteps := 1000000) (disch := first | exact sd | fail) only [go_sem, Nat.reduceAdd, Nat.reduceSub, Nat.reduceLeDiff, ↓reduceIte, decide_eq_true_eq, if_true, if_false, Bool.false_eq_true, Int.lt_irrefl, implies_true, true_and, and_true, eq_self, and_self, beq_self_eq_true]
  refine PC.step (q1) fun m1 j1 => ?_
  try simp only [Heap.next_push, Heap.next_set, Heap.next_kill, next_bump, next_E0] at j1
  cases b1 with
  | false => simp (maxSteps := 1000000) (disch := first | exact sd | fail) only [go_sem, Nat.reduceAdd, Nat.reduceSub, Nat.reduceLeDiff, ↓reduceIte, decide_eq_true_eq, if_true, if_false, Bool.false_eq_true, Int.lt_irrefl, implies_true, true_and, and_true, eq_self, and_self, beq_self_eq_true, Bool.false_and]; exact .rfl
  | true =>
  simp (maxSteps := 1000000) (disch := first | exact sd | fail) only [go_sem, Nat.reduceAdd, Nat.reduceSub, Nat.reduceLeDiff, ↓reduceIte, decide_eq_true_eq, if_true, if_false, Bool.false_eq_true, Int.lt_irrefl, implies_true, true_and, and_true, eq_self, and_self, beq_self_eq_true]
  refine PC.step (q2) fun m2 j2 => ?_
  try simp only [Heap.next_push, Heap.next_set, Heap.next_kill, next_bump, next_E0] at j2
  cases b2 with
  | false => simp (maxSteps := 1000000) (disch := first | exact sd | fail) only [go_sem, Nat.reduceAdd, Nat.reduceSub, Nat.reduceLeDiff, ↓reduceIte, decide_eq_true_eq, if_true, if_false, Bool.false_eq_true, Int.lt_irrefl, implies_true, true_and, and_true, eq_self, and_self, beq_self_eq_true, Bool.and_false, Bool.false_and]; exact .rfl
  | true =>
  by_cases c3 : (th.length : Int) ≤ 16
  · have k3 : th.length ≤ 16 := by omega
    simp (maxSteps := 1000000) (disch := first | exact sd | fail) only [go_sem, Nat.reduceAdd, Nat.reduceSub, Nat.reduceLeDiff, ↓reduceIte, decide_eq_true_eq, if_true, if_false, Bool.false_eq_true, Int.lt_irrefl, implies_true, true_and, and_true, eq_self, and_self, beq_self_eq_true, c3]
    refine PC.step (q3) fun m3 j3 => ?_
    try simp only [Heap.next_push, Heap.next_set, Heap.next_kill, next_bump, next_E0] at j3
    simp (maxSteps := 1000000) (disch := first | exact sd | fail) only [go_sem, Nat.reduceAdd, Nat.reduceSub, Nat.reduceLeDiff, ↓reduceIte, decide_eq_true_eq, if_true, if_false, Bool.false_eq_true, Int.lt_irrefl, implies_true, true_and, and_true, eq_self, and_self, beq_self_eq_true, Bool.not_not, k3, decide_true, Bool.true_and]
    exact .rfl
  · have k3 : ¬ th.length ≤ 16 := by omega
    simp (maxSteps := 1000000) (disch := first | exact sd | fail) only [go_sem, Nat.reduceAdd, Nat.reduceSub, Nat.reduceLeDiff, ↓reduceIte, decide_eq_true_eq, if_true, if_false, Bool.false_eq_true, Int.lt_irrefl, implies_true, true_and, and_true, eq_self, and_self, beq_self_eq_true, c3, k3, decide_false, Bool.and_false, Bool.false_and]
    exact .rfl
theorem p204 {d w : Int} {th : List RQ} (h : SmT th) : PC Try.prog 22 [Opv d th w] (.bool (okO d th w)) := by
  have hl := h.1
  refine PC.of (.cons pu_Op .nil) (.ground rfl) fun N hN => ?_
  unfold okO Opv
  refine ACalls.of_code T.hm (n := 41) Try.func22 rfl rfl rfl rfl ?_; simp only [List.replicate_succ, List.replicate_zero, List.cons_append, List.nil_append]
  by_cases c1 : d < 0
  · simp (maxSteps := 1000000) (disch := first | exact sd | fail) only [go_sem, Nat.reduceAdd, Nat.reduceSub, Nat.reduceLeDiff, ↓reduceIte, decide_eq_true_eq, if_true, if_false, Bool.false_eq_true, Int.lt_irrefl, implies_true, true_and, and_true, eq_self, and_self, beq_self_eq_true, c1]
    rw [decide_eq_false (show ¬ (0 ≤ d ∧ d ≤ 20) by omega)]; exact .rfl
  by_cases c2 : 20 < d
  · simp (maxSteps := 1000000) (disch := first | exact sd | fail) only [go_sem, Nat.reduceAdd, Nat.reduceSub, Nat.reduceLeDiff, ↓reduceIte, decide_eq_true_eq, if_true, if_false, Bool.false_eq_true, Int.lt_irrefl, implies_true, true_and, and_true, eq_self, and_self, beq_self_eq_true, c1, c2]
    rw [decide_eq_false (show ¬ (0 ≤ d ∧ d ≤ 20) by omega)]; exact .rfl
  by_cases c3 : w < 0
  · simp (maxSteps := 1000000) (disch := first | exact sd | fail) only [go_sem, Nat.reduceAdd, Nat.reduceSub, Nat.reduceLeDiff, ↓reduceIte, decide_eq_true_eq, if_true, if_false, Bool.false_eq_true, Int.lt_irrefl, implies_true, true_and, and_true, eq_self, and_self, beq_self_eq_true, c1, c2, c3]
    rw [decide_eq_false (show ¬ (0 ≤ w ∧ w ≤ 20) by omega), Bool.and_false]; exact .rfl
  by_cases k4 : 20 < w
  · simp (maxSteps := 1000000) (disch := first | exact sd | fail) only [go_sem, Nat.reduceAdd, Nat.reduceSub, Nat.reduceLeDiff, ↓reduceIte, decide_eq_true_eq, if_true, if_false, Bool.false_eq_true, Int.lt_irrefl, implies_true, true_and, and_true, eq_self, and_self, beq_self_eq_true, c1, c2, c3, k4]
    rw [decide_eq_false (show ¬ (0 ≤ w ∧ w ≤ 20) by omega), Bool.and_false]; exact .rfl
  by_cases c5 : (16 : Int) < th.length
  · simp (maxSteps := 1000000) (disch := first | exact sd | fail) only [go_sem, Nat.reduceAdd, Nat.reduceSub, Nat.reduceLeDiff, ↓reduceIte, decide_eq_true_eq, if_true, if_false, Bool.false_eq_true, Int.lt_irrefl, implies_true, true_and, and_true, eq_self, and_self, beq_self_eq_true, c1, c2, c3, k4, c5]
    rw [decide_eq_false (show ¬ th.length ≤ 16 by omega), Bool.and_false]; exact .rfl
  rw [decide_eq_true (show 0 ≤ d ∧ d ≤ 20 by omega), decide_eq_true (show 0 ≤ w ∧ w ≤ 20 by omega), decide_eq_true (show th.length ≤ 16 by omega), Bool.true_and, Bool.true_and, Bool.true_and]
  simp (maxSteps := 1000000) (disch := first | exact sd | fail) only [go_sem, Nat.reduceAdd, Nat.reduceSub, Nat.reduceLeDiff, ↓reduceIte, decide_eq_true_eq, if_true, if_false, Bool.false_eq_true, Int.lt_irrefl, implies_true, true_and, and_true, eq_self, and_self, beq_self_eq_true, c1, c2, c3, k4, c5]
  refine aw_loopJ (σ := Nat) (fun s J => [J 0, .pointer (some ⟨N, 0, none⟩), .bool false, .int .i64 s, J 4, J 5, J 6, J 7, J 8, J 9, J 10, J 11, J 12, J 13, J 14, J 15, J 16, J 17, J 18, J 19, J 20, J 21, J 22, J 23, J 24, J 25, J 26, J 27, J 28, J 29, J 30, J 31, J 32, J 33, J 34, J 35, J 36, J 37, J 38, J 39, J 40, J 41]) (fun m s H1 => m = th.length - s ∧ s ≤ th.length ∧ N < H1.next ∧ H1.get N = some (.row true 30 [.int .i64 d, Vv eQ th, .int .i64 w]) ∧ ∀ j, j < s → mayR (th.getD j eQ.d) = true) th.length 0 rfl ⟨rfl, Nat.zero_le _, by simp only [next_push, next_E0]; omega, by simp (maxSteps := 1000000) (disch := first | exact sd | fail) only [go_sem, Nat.reduceAdd, Nat.reduceSub, Nat.reduceLeDiff, ↓reduceIte, decide_eq_true_eq, if_true, if_false, Bool.false_eq_true, Int.lt_irrefl, implies_true, true_and, and_true, eq_self, and_self, beq_self_eq_true], fun j hj => by omega⟩ ?_
  rintro m s J H1 ⟨rfl, hs1, nx, gN, hall⟩
  by_cases h4 : (s : Int) < th.length
  · have h5 : (s : Int).toNat = s := rfl
    have hd : SmR (th.getD s eQ.d) := getDm (by omega) h.2
    have q := p74U (pn := (th.getD s eQ.d).p.neg) (qn := (th.getD s eQ.d).q.neg) hd.1 hd.2.1 hd.2.2.1 hd.2.2.2
    change PC Try.prog 38 _ (.bool (mayR (th.getD s eQ.d))) at q
    rw [R4_eq] at q
    simp (maxSteps := 1000000) (disch := first | exact sd | fail) only [go_sem, Nat.reduceAdd, Nat.reduceSub, Nat.reduceLeDiff, ↓reduceIte, decide_eq_true_eq, if_true, if_false, Bool.false_eq_true, Int.lt_irrefl, implies_true, true_and, and_true, eq_self, and_self, beq_self_eq_true, gN, h4, h5]
    refine PC.step (q) fun m1 j1 => ?_
    try simp only [Heap.next_push, Heap.next_set, Heap.next_kill, next_bump, next_E0] at j1
    cases h6 : mayR (th.getD s eQ.d) with
    | true =>
      simp (maxSteps := 1000000) (disch := first | exact sd | fail) only [go_sem, Nat.reduceAdd, Nat.reduceSub, Nat.reduceLeDiff, ↓reduceIte, decide_eq_true_eq, if_true, if_false, Bool.false_eq_true, Int.lt_irrefl, implies_true, true_and, and_true, eq_self, and_self, beq_self_eq_true, Bool.not_true]
      exact IJ_intro (k := th.length - (s + 1)) (by omega) (s + 1) rfl ⟨rfl, by omega, by simp only [next_bump] at j1 ⊢; omega, by simp (maxSteps := 1000000) (disch := first | exact sd | fail) only [go_sem, Nat.reduceAdd, Nat.reduceSub, Nat.reduceLeDiff, ↓reduceIte, decide_eq_true_eq, if_true, if_false, Bool.false_eq_true, Int.lt_irrefl, implies_true, true_and, and_true, eq_self, and_self, beq_self_eq_true, gN], upto_snoc hall h6⟩
    | false =>
      simp (maxSteps := 1000000) (disch := first | exact sd | fail) only [go_sem, Nat.reduceAdd, Nat.reduceSub, Nat.reduceLeDiff, ↓reduceIte, decide_eq_true_eq, if_true, if_false, Bool.false_eq_true, Int.lt_irrefl, implies_true, true_and, and_true, eq_self, and_self, beq_self_eq_true, Bool.not_false]
      rw [not_all (by omega) h6]
      exact .rfl
  · simp (maxSteps := 1000000) (disch := first | exact sd | fail) only [go_sem, Nat.reduceAdd, Nat.reduceSub, Nat.reduceLeDiff, ↓reduceIte, decide_eq_true_eq, if_true, if_false, Bool.false_eq_true, Int.lt_irrefl, implies_true, true_and, and_true, eq_self, and_self, beq_self_eq_true, gN, h4]
    rw [all_getD (d := eQ.d) fun j hj => hall j (by omega)]
    exact .rfl
/-! ### turns -/
def turnsV (d : Int) (th : List RQ) (w r : Int) : Nat := if okO d th w then d.toNat + fewN r * (th.length + 2) else 0
theorem okO_len {d w : Int} {th : List RQ} (h : okO d th w = true) : (0 ≤ d ∧ d ≤ 20) ∧ th.length ≤ 16 := by
  unfold okO at h
  rw [Bool.and_eq_true, Bool.and_eq_true, Bool.and_eq_true] at h
  exact ⟨of_decide_eq_true h.1.1.1, of_decide_eq_true h.1.2⟩
theorem turnsV_le {d w r : Int} {th : List RQ} : turnsV d th w r ≤ 740 := by
  unfold turnsV
  cases h : okO d th w with
  | false => rw [if_neg (by decide)]; omega
  | true =>
    obtain ⟨h1, h2⟩ := okO_len h
    rw [if_pos rfl]
    have : fewN r * (th.length + 2) ≤ 40 * 18 := Nat.mul_le_mul (fewN_le r) (by omega)
    omega
theorem p137 {d w r : Int} {th : List RQ} (h : SmT th) : PC Try.prog 8 [Opv d th w, .int .i64 r] (.int .i64 (turnsV d th w r)) := by
  have hl := h.1
  have q1 := p203 (d := d) (w := w) h
  have q2 := p200 (r := r)
  have hw := @okO_len d w th
  refine PC.of (.cons pu_Op (.cons (.ground rfl) .nil)) (.ground rfl) fun N hN => ?_
  unfold turnsV
  generalize okO d th w = b at *
  unfold Opv at *
  refine ACalls.of_code T.hm (n := 16) Try.func8 rfl rfl rfl rfl ?_; simp only [List.replicate_succ, List.replicate_zero, List.cons_append, List.nil_append]
  simp (maxSteps := 1000000) (disch := first | exact sd | fail) only [go_sem, Nat.reduceAdd, Nat.reduceSub, Nat.reduceLeDiff, ↓reduceIte, decide_eq_true_eq, if_true, if_false, Bool.false_eq_true, Int.lt_irrefl, implies_true, true_and, and_true, eq_self, and_self, beq_self_eq_true, aw_plan (id := 3) plO15_137_3, plO15_137_3]
  refine PC.step (q1) fun m1 j1 => ?_
  try simp only [Heap.next_push, Heap.next_set, Heap.next_kill, next_bump, next_E0] at j1
  cases b with
  | false => simp (maxSteps := 1000000) (disch := first | exact sd | fail) only [go_sem, Nat.reduceAdd, Nat.reduceSub, Nat.reduceLeDiff, ↓reduceIte, decide_eq_true_eq, if_true, if_false, Bool.false_eq_true, Int.lt_irrefl, implies_true, true_and, and_true, eq_self, and_self, beq_self_eq_true, aw_plan (id := 3) plO15_137_3, plO15_137_3, Bool.not_false]; exact .rfl
  | true =>
    obtain ⟨h1, h2⟩ := hw rfl
    have hm : fewN r * (th.length + 2) ≤ 40 * 18 := Nat.mul_le_mul (fewN_le r) (by omega)
    have hp : (fewN r : Int) * ((th.length : Int) + 2) = ((fewN r * (th.length + 2) : Nat) : Int) := by rw [Int.natCast_mul]; rfl
    rw [if_pos rfl]
    generalize fewN r * (th.length + 2) = p at *
    generalize fewN r = n at *
    simp (maxSteps := 1000000) (disch := first | exact sd | fail) only [go_sem, Nat.reduceAdd, Nat.reduceSub, Nat.reduceLeDiff, ↓reduceIte, decide_eq_true_eq, if_true, if_false, Bool.false_eq_true, Int.lt_irrefl, implies_true, true_and, and_true, eq_self, and_self, beq_self_eq_true, aw_plan (id := 3) plO15_137_3, plO15_137_3, Bool.not_true]
    refine PC.step (q2) fun m2 j2 => ?_
    try simp only [Heap.next_push, Heap.next_set, Heap.next_kill, next_bump, next_E0] at j2
    simp (maxSteps := 1000000) (disch := first | exact sd | fail) only [go_sem, Nat.reduceAdd, Nat.reduceSub, Nat.reduceLeDiff, ↓reduceIte, decide_eq_true_eq, if_true, if_false, Bool.false_eq_true, Int.lt_irrefl, implies_true, true_and, and_true, eq_self, and_self, beq_self_eq_true, aw_plan (id := 3) plO15_137_3, plO15_137_3, hp]
    have e : d + (p : Int) = ((d.toNat + p : Nat) : Int) := by omega
    rw [e]
    exact .rfl
theorem p138 {d w r : Int} {th : List RQ} (h : SmT th) : PC Try.prog 9 [Opv d th w, .int .i64 r] (.int .i64 (turnsV d th w r)) := by
  have hl := h.1
  have q1 := p204 (d := d) (w := w) h
  have hw := @okO_len d w th
  refine PC.of (.cons pu_Op (.cons (.ground rfl) .nil)) (.ground rfl) fun N hN => ?_
  unfold turnsV
  generalize okO d th w = b at *
  unfold Opv at *
  refine ACalls.of_code T.hm (n := 17) Try.func9 rfl rfl rfl rfl ?_; simp only [List.replicate_succ, List.replicate_zero, List.cons_append, List.nil_append]
  simp (maxSteps := 1000000) (disch := first | exact sd | fail) only [go_sem, Nat.reduceAdd, Nat.reduceSub, Nat.reduceLeDiff, ↓reduceIte, decide_eq_true_eq, if_true, if_false, Bool.false_eq_true, Int.lt_irrefl, implies_true, true_and, and_true, eq_self, and_self, beq_self_eq_true]
  refine PC.step (q1) fun m1 j1 => ?_
  try simp only [Heap.next_push, Heap.next_set, Heap.next_kill, next_bump, next_E0] at j1
  cases b with
  | false => simp (maxSteps := 1000000) (disch := first | exact sd | fail) only [go_sem, Nat.reduceAdd, Nat.reduceSub, Nat.reduceLeDiff, ↓reduceIte, decide_eq_true_eq, if_true, if_false, Bool.false_eq_true, Int.lt_irrefl, implies_true, true_and, and_true, eq_self, and_self, beq_self_eq_true, Bool.not_false]; exact .rfl
  | true =>
    obtain ⟨h1, h2⟩ := hw rfl
    have hm : fewN r * (th.length + 2) ≤ 40 * 18 := Nat.mul_le_mul (fewN_le r) (by omega)
    have hp : (fewN r : Int) * ((th.length : Int) + 2) = ((fewN r * (th.length + 2) : Nat) : Int) := by rw [Int.natCast_mul]; rfl
    have hf := fewN_if (r := r)
    rw [if_pos rfl]
    generalize fewN r * (th.length + 2) = p at *
    generalize fewN r = n at *
    simp (maxSteps := 1000000) (disch := first | exact sd | fail) only [go_sem, Nat.reduceAdd, Nat.reduceSub, Nat.reduceLeDiff, ↓reduceIte, decide_eq_true_eq, if_true, if_false, Bool.false_eq_true, Int.lt_irrefl, implies_true, true_and, and_true, eq_self, and_self, beq_self_eq_true, Bool.not_true, hf, hp]
    have e : d + (p : Int) = ((d.toNat + p : Nat) : Int) := by omega
    rw [e]
    exact .rfl
end Go.Abs
