/- Quotients with two ends: calls of values. -/
import Derived.Test.YthiaciajkjdcnaaV7
import Derived.Test.YthiaciajkjdcnaaB9
set_option linter.unusedVariables false
set_option linter.unusedSimpArgs false
namespace Go.Abs
open Go Go.Proofs
set_option maxRecDepth 100000
set_option maxHeartbeats 4000000

/-! ### plainly -/
inductive XR where
  | lo : XR
  | fin (x : Rat) : XR
  | hi : XR
def xk : XR → Int
  | .lo => -1
  | .fin _ => 0
  | .hi => 1
def xq : XR → Rat
  | .fin x => x
  | _ => 0
def mayX (k : Int) (pn : Bool) (pl : List Int) (qn : Bool) (ql : List Int) : Bool := if k = 0 then mayQ pn pl qn ql else if k = 1 ∨ k = -1 then zeroQ pn pl qn ql else false
def dx (k : Int) (pn : Bool) (pl : List Int) (qn : Bool) (ql : List Int) : XR := if mayX k pn pl qn ql = true then (if k = 0 then .fin (dq pn pl qn ql) else if k = 1 then .hi else .lo) else .fin 0
abbrev X5 (k : Int) (pn : Bool) (pl : List Int) (qn : Bool) (ql : List Int) : Value := .agg ⟨[.int .i64 k, .bool pn, Vv eU pl, .bool qn, Vv eU ql]⟩
def xv : XR → RX
  | .lo => ⟨-1, eQ.d⟩
  | .fin x => ⟨0, rq x⟩
  | .hi => ⟨1, eQ.d⟩
abbrev Xn (e : XR) : Value := .agg ⟨eX.enc (xv e)⟩
def lx (e : XR) : Nat := lq (xq e)
def cx (a b : XR) : Int := if xk a < xk b then -1 else if xk b < xk a then 1 else cq (xq a) (xq b)
theorem pu_x5 {k : Int} {pn qn : Bool} {pl ql : List Int} : Pu (X5 k pn pl qn ql) := .agg (.cons (.ground rfl) (.cons (.ground rfl) (.cons pu_U (.cons (.ground rfl) (.cons pu_U .nil)))))
theorem pu_x {e : XR} : Pu (Xn e) := pu_x5
theorem X5_eq {k : Int} {pn qn : Bool} {pl ql : List Int} : X5 k pn pl qn ql = .agg ⟨[.int .i64 k, .bool pn, Vv eU pl, .bool qn, Vv eU ql]⟩ := _root_.id rfl
theorem Xn_lo : Xn .lo = .agg ⟨[.int .i64 (-1), .bool false, Vv eU [], .bool false, Vv eU []]⟩ := _root_.id rfl
theorem Xn_hi : Xn .hi = .agg ⟨[.int .i64 1, .bool false, Vv eU [], .bool false, Vv eU []]⟩ := _root_.id rfl
theorem Xn_fin {x : Rat} : Xn (.fin x) = .agg ⟨[.int .i64 0, .bool (sgn x.num), Vv eU (lmb x.num), .bool (sgn x.den), Vv eU (lmb x.den)]⟩ := _root_.id rfl
attribute [go_sem] X5_eq Xn_lo Xn_hi Xn_fin
variable {pn qn pn' qn' : Bool} {pl ql pl' ql' : List Int} {k k' : Int} {H : Heap} {K : Value → Heap → Prop}
theorem nzQ {v : Value} : Nzs [v, R4 false [] false []] [v, .agg ⟨[.bool false, .slice none 0 0, .bool false, .slice none 0 0]⟩] := .cons .rfl (.cons (.agg (.cons .rfl (.cons .vnil (.cons .rfl (.cons .vnil .nil))))) .nil)
theorem lr_nil : Lr [] := ⟨Lim.nil, by simp⟩
theorem s78n (h1 : Lr pl) (h2 : Lr ql) (kk : ∀ m, H.next ≤ m → K (Qn (dq pn pl qn ql)) (H.bump m)) : ACalls Try.prog 49 [R4 pn pl qn ql, .agg ⟨[.bool false, .slice none 0 0, .bool false, .slice none 0 0]⟩] H K :=
  ACalls.nz nzQ (PC.step ((p78 h1 h2 lr_nil lr_nil).ok (by rw [dq_nought, Rat.add_zero])) kk)
theorem s114 (h1 : Lr pl) (h2 : Lr ql) : PC Try.prog 27 [R4 pn pl qn ql] (Xn (.fin (dq pn pl qn ql))) := by
  refine PC.of (.cons pu_r4 .nil) pu_x fun N hN => ?_
  generalize hx : dq pn pl qn ql = x
  refine ACalls.of_code T.hm (n := 6) Try.func27 rfl rfl rfl rfl ?_; simp only [List.replicate_succ, List.replicate_zero, List.cons_append, List.nil_append]
  simp (maxSteps := 1000000) (disch := first | exact sd | fail) only [go_sem, Nat.reduceAdd, Nat.reduceSub, Nat.reduceLeDiff, ↓reduceIte, decide_eq_true_eq, if_true, if_false, Bool.false_eq_true, Int.lt_irrefl, implies_true, true_and, and_true, eq_self, and_self, beq_self_eq_true]
  refine s78n h1 h2 fun m1 j1 => ?_
  try simp only [Heap.next_push, Heap.next_set, Heap.next_kill, next_bump, next_E0] at j1
  rw [hx]
  simp (maxSteps := 1000000) (disch := first | exact sd | fail) only [go_sem, Nat.reduceAdd, Nat.reduceSub, Nat.reduceLeDiff, ↓reduceIte, decide_eq_true_eq, if_true, if_false, Bool.false_eq_true, Int.lt_irrefl, implies_true, true_and, and_true, eq_self, and_self, beq_self_eq_true]
  exact .rfl
theorem p181 : PC Try.prog 50 [R4 pn pl qn ql] (.bool (zeroQ pn pl qn ql)) := by
  refine PC.of (.cons pu_r4 .nil) (.ground rfl) fun N hN => ?_
  unfold zeroQ
  refine ACalls.of_code T.hm (n := 26) Try.func50 rfl rfl rfl rfl ?_; simp only [List.replicate_succ, List.replicate_zero, List.cons_append, List.nil_append]
  cases pn with
  | true => simp (maxSteps := 1000000) (disch := first | exact sd | fail) only [go_sem, Nat.reduceAdd, Nat.reduceSub, Nat.reduceLeDiff, ↓reduceIte, decide_eq_true_eq, if_true, if_false, Bool.false_eq_true, Int.lt_irrefl, implies_true, true_and, and_true, eq_self, and_self, beq_self_eq_true, Bool.not_true, Bool.false_and]; exact .rfl
  | false =>
    by_cases h : (pl.length : Int) = 0
    · have h' : pl.length = 0 := by omega
      cases qn with
      | true => simp (maxSteps := 1000000) (disch := first | exact sd | fail) only [go_sem, Nat.reduceAdd, Nat.reduceSub, Nat.reduceLeDiff, ↓reduceIte, decide_eq_true_eq, if_true, if_false, Bool.false_eq_true, Int.lt_irrefl, implies_true, true_and, and_true, eq_self, and_self, beq_self_eq_true, Bool.not_true, Bool.not_false, Bool.and_false, Bool.false_and, h]; exact .rfl
      | false =>
        simp (maxSteps := 1000000) (disch := first | exact sd | fail) only [go_sem, Nat.reduceAdd, Nat.reduceSub, Nat.reduceLeDiff, ↓reduceIte, decide_eq_true_eq, if_true, if_false, Bool.false_eq_true, Int.lt_irrefl, implies_true, true_and, and_true, eq_self, and_self, beq_self_eq_true, Bool.not_true, Bool.not_false, Bool.true_and, h, h', decide_true, Int.ofNat_eq_zero]; exact .rfl
    · have h' : ¬ pl.length = 0 := by omega
      simp (maxSteps := 1000000) (disch := first | exact sd | fail) only [go_sem, Nat.reduceAdd, Nat.reduceSub, Nat.reduceLeDiff, ↓reduceIte, decide_eq_true_eq, if_true, if_false, Bool.false_eq_true, Int.lt_irrefl, implies_true, true_and, and_true, eq_self, and_self, beq_self_eq_true, Bool.not_true, Bool.not_false, Bool.and_false, Bool.false_and, h, h', decide_false]; exact .rfl
theorem p107 (h1 : Lb pl) (h2 : Lb ql) (k1 : pl.length ≤ 2 ^ 39) (k2 : ql.length ≤ 2 ^ 39) : PC Try.prog 20 [X5 k pn pl qn ql] (.bool (mayX k pn pl qn ql)) := by
  refine PC.of (.cons pu_x5 .nil) (.ground rfl) fun N hN => ?_
  have q1 := p181 (pn := pn) (pl := pl) (qn := qn) (ql := ql)
  have q2 := p73 (pn := pn) (qn := qn) h1 h2 k1 k2
  unfold mayX
  by_cases c0 : k = 0
  · subst c0
    rw [if_pos rfl]
    refine ACalls.of_code T.hm (n := 15) Try.func20 rfl rfl rfl rfl ?_; simp only [List.replicate_succ, List.replicate_zero, List.cons_append, List.nil_append]
    simp (maxSteps := 1000000) (disch := first | exact sd | fail) only [go_sem, Nat.reduceAdd, Nat.reduceSub, Nat.reduceLeDiff, ↓reduceIte, decide_eq_true_eq, if_true, if_false, Bool.false_eq_true, Int.lt_irrefl, implies_true, true_and, and_true, eq_self, and_self, beq_self_eq_true, show ¬ (0 : Int) = -1 by decide, show ¬ (0 : Int) = 1 by decide]
    refine PC.step (q2) fun m1 j1 => ?_
    try simp only [Heap.next_push, Heap.next_set, Heap.next_kill, next_bump, next_E0] at j1
    simp (maxSteps := 1000000) (disch := first | exact sd | fail) only [go_sem, Nat.reduceAdd, Nat.reduceSub, Nat.reduceLeDiff, ↓reduceIte, decide_eq_true_eq, if_true, if_false, Bool.false_eq_true, Int.lt_irrefl, implies_true, true_and, and_true, eq_self, and_self, beq_self_eq_true]
    exact .rfl
  · rw [if_neg c0]
    by_cases c1 : k = 1
    · subst c1
      rw [if_pos (.inl rfl)]
      refine ACalls.of_code T.hm (n := 15) Try.func20 rfl rfl rfl rfl ?_; simp only [List.replicate_succ, List.replicate_zero, List.cons_append, List.nil_append]
      simp (maxSteps := 1000000) (disch := first | exact sd | fail) only [go_sem, Nat.reduceAdd, Nat.reduceSub, Nat.reduceLeDiff, ↓reduceIte, decide_eq_true_eq, if_true, if_false, Bool.false_eq_true, Int.lt_irrefl, implies_true, true_and, and_true, eq_self, and_self, beq_self_eq_true, show ¬ (1 : Int) = -1 by decide]
      refine PC.step (q1) fun m1 j1 => ?_
      try simp only [Heap.next_push, Heap.next_set, Heap.next_kill, next_bump, next_E0] at j1
      simp (maxSteps := 1000000) (disch := first | exact sd | fail) only [go_sem, Nat.reduceAdd, Nat.reduceSub, Nat.reduceLeDiff, ↓reduceIte, decide_eq_true_eq, if_true, if_false, Bool.false_eq_true, Int.lt_irrefl, implies_true, true_and, and_true, eq_self, and_self, beq_self_eq_true]
      exact .rfl
    · by_cases c2 : k = -1
      · subst c2
        rw [if_pos (.inr rfl)]
        refine ACalls.of_code T.hm (n := 15) Try.func20 rfl rfl rfl rfl ?_; simp only [List.replicate_succ, List.replicate_zero, List.cons_append, List.nil_append]
        simp (maxSteps := 1000000) (disch := first | exact sd | fail) only [go_sem, Nat.reduceAdd, Nat.reduceSub, Nat.reduceLeDiff, ↓reduceIte, decide_eq_true_eq, if_true, if_false, Bool.false_eq_true, Int.lt_irrefl, implies_true, true_and, and_true, eq_self, and_self, beq_self_eq_true]
        refine PC.step (q1) fun m1 j1 => ?_
        try simp only [Heap.next_push, Heap.next_set, Heap.next_kill, next_bump, next_E0] at j1
        simp (maxSteps := 1000000) (disch := first | exact sd | fail) only [go_sem, Nat.reduceAdd, Nat.reduceSub, Nat.reduceLeDiff, ↓reduceIte, decide_eq_true_eq, if_true, if_false, Bool.false_eq_true, Int.lt_irrefl, implies_true, true_and, and_true, eq_self, and_self, beq_self_eq_true]
        exact .rfl
      · rw [if_neg (by rintro (h | h) <;> contradiction)]
        refine ACalls.of_code T.hm (n := 15) Try.func20 rfl rfl rfl rfl ?_; simp only [List.replicate_succ, List.replicate_zero, List.cons_append, List.nil_append]
        simp (maxSteps := 1000000) (disch := first | exact sd | fail) only [go_sem, Nat.reduceAdd, Nat.reduceSub, Nat.reduceLeDiff, ↓reduceIte, decide_eq_true_eq, if_true, if_false, Bool.false_eq_true, Int.lt_irrefl, implies_true, true_and, and_true, eq_self, and_self, beq_self_eq_true, c0, c1, c2]
        exact .rfl
theorem fz_x0 {e : Int} : FzRel Try.prog H (.agg ⟨[.int .i64 e, .bool false, Vv eU [], .bool false, Vv eU []]⟩) (.agg ⟨[.int .i64 e, .bool false, .slice none 0 0, .bool false, .slice none 0 0]⟩) :=
  .nz (.agg (.cons .rfl (.cons .rfl (.cons .vnil (.cons .rfl (.cons .vnil .nil))))))
theorem p176 (h1 : Lr pl) (h2 : Lr ql) : PC Try.prog 42 [X5 k pn pl qn ql] (Xn (dx k pn pl qn ql)) := by
  refine PC.of (.cons pu_x5 .nil) pu_x fun N hN => ?_
  have q1 := p107 (k := k) (pn := pn) (qn := qn) h1.lb h2.lb (by have := h1.2; omega) (by have := h2.2; omega)
  have e0 : dq pn pl qn ql = dq pn pl qn ql := rfl
  unfold dx
  cases hm : mayX k pn pl qn ql with
  | false =>
    rw [hm] at q1
    rw [if_neg (by decide)]
    have q2 := s114 (pn := false) (qn := false) lr_nil lr_nil
    rw [dq_nought] at q2
    refine ACalls.of_code T.hm (n := 18) Try.func42 rfl rfl rfl rfl ?_; simp only [List.replicate_succ, List.replicate_zero, List.cons_append, List.nil_append]
    simp (maxSteps := 1000000) (disch := first | exact sd | fail) only [go_sem, Nat.reduceAdd, Nat.reduceSub, Nat.reduceLeDiff, ↓reduceIte, decide_eq_true_eq, if_true, if_false, Bool.false_eq_true, Int.lt_irrefl, implies_true, true_and, and_true, eq_self, and_self, beq_self_eq_true]
    refine PC.step (q1) fun m1 j1 => ?_
    try simp only [Heap.next_push, Heap.next_set, Heap.next_kill, next_bump, next_E0] at j1
    simp (maxSteps := 1000000) (disch := first | exact sd | fail) only [go_sem, Nat.reduceAdd, Nat.reduceSub, Nat.reduceLeDiff, ↓reduceIte, decide_eq_true_eq, if_true, if_false, Bool.false_eq_true, Int.lt_irrefl, implies_true, true_and, and_true, eq_self, and_self, beq_self_eq_true, Bool.not_false]
    refine ACalls.nz (ps := [R4 false [] false []]) (.cons (.agg (.cons .rfl (.cons .vnil (.cons .rfl (.cons .vnil .nil))))) .nil) ?_
    refine PC.step (q2) fun m2 j2 => ?_
    try simp only [Heap.next_push, Heap.next_set, Heap.next_kill, next_bump, next_E0] at j2
    simp (maxSteps := 1000000) (disch := first | exact sd | fail) only [go_sem, Nat.reduceAdd, Nat.reduceSub, Nat.reduceLeDiff, ↓reduceIte, decide_eq_true_eq, if_true, if_false, Bool.false_eq_true, Int.lt_irrefl, implies_true, true_and, and_true, eq_self, and_self, beq_self_eq_true]
    exact .rfl
  | true =>
    rw [hm] at q1
    rw [if_pos rfl]
    have q2 := s114 (pn := pn) (qn := qn) h1 h2
    by_cases c0 : k = 0
    · subst c0
      rw [if_pos rfl]
      refine ACalls.of_code T.hm (n := 18) Try.func42 rfl rfl rfl rfl ?_; simp only [List.replicate_succ, List.replicate_zero, List.cons_append, List.nil_append]
      simp (maxSteps := 1000000) (disch := first | exact sd | fail) only [go_sem, Nat.reduceAdd, Nat.reduceSub, Nat.reduceLeDiff, ↓reduceIte, decide_eq_true_eq, if_true, if_false, Bool.false_eq_true, Int.lt_irrefl, implies_true, true_and, and_true, eq_self, and_self, beq_self_eq_true]
      refine PC.step (q1) fun m1 j1 => ?_
      try simp only [Heap.next_push, Heap.next_set, Heap.next_kill, next_bump, next_E0] at j1
      simp (maxSteps := 1000000) (disch := first | exact sd | fail) only [go_sem, Nat.reduceAdd, Nat.reduceSub, Nat.reduceLeDiff, ↓reduceIte, decide_eq_true_eq, if_true, if_false, Bool.false_eq_true, Int.lt_irrefl, implies_true, true_and, and_true, eq_self, and_self, beq_self_eq_true, Bool.not_true]
      refine PC.step (q2) fun m2 j2 => ?_
      try simp only [Heap.next_push, Heap.next_set, Heap.next_kill, next_bump, next_E0] at j2
      simp (maxSteps := 1000000) (disch := first | exact sd | fail) only [go_sem, Nat.reduceAdd, Nat.reduceSub, Nat.reduceLeDiff, ↓reduceIte, decide_eq_true_eq, if_true, if_false, Bool.false_eq_true, Int.lt_irrefl, implies_true, true_and, and_true, eq_self, and_self, beq_self_eq_true]
      exact .rfl
    · rw [if_neg c0]
      by_cases c1 : k = 1
      · subst c1
        rw [if_pos rfl]
        refine ACalls.of_code T.hm (n := 18) Try.func42 rfl rfl rfl rfl ?_; simp only [List.replicate_succ, List.replicate_zero, List.cons_append, List.nil_append]
        simp (maxSteps := 1000000) (disch := first | exact sd | fail) only [go_sem, Nat.reduceAdd, Nat.reduceSub, Nat.reduceLeDiff, ↓reduceIte, decide_eq_true_eq, if_true, if_false, Bool.false_eq_true, Int.lt_irrefl, implies_true, true_and, and_true, eq_self, and_self, beq_self_eq_true]
        refine PC.step (q1) fun m1 j1 => ?_
        try simp only [Heap.next_push, Heap.next_set, Heap.next_kill, next_bump, next_E0] at j1
        simp (maxSteps := 1000000) (disch := first | exact sd | fail) only [go_sem, Nat.reduceAdd, Nat.reduceSub, Nat.reduceLeDiff, ↓reduceIte, decide_eq_true_eq, if_true, if_false, Bool.false_eq_true, Int.lt_irrefl, implies_true, true_and, and_true, eq_self, and_self, beq_self_eq_true, Bool.not_true, show ¬ (1 : Int) = 0 by decide]
        exact fz_x0
      · have c2 : k = -1 := by
          unfold mayX at hm
          rw [if_neg c0] at hm
          split at hm
          · rename_i h; exact h.resolve_left c1
          · cases hm
        subst c2
        rw [if_neg c1]
        refine ACalls.of_code T.hm (n := 18) Try.func42 rfl rfl rfl rfl ?_; simp only [List.replicate_succ, List.replicate_zero, List.cons_append, List.nil_append]
        simp (maxSteps := 1000000) (disch := first | exact sd | fail) only [go_sem, Nat.reduceAdd, Nat.reduceSub, Nat.reduceLeDiff, ↓reduceIte, decide_eq_true_eq, if_true, if_false, Bool.false_eq_true, Int.lt_irrefl, implies_true, true_and, and_true, eq_self, and_self, beq_self_eq_true]
        refine PC.step (q1) fun m1 j1 => ?_
        try simp only [Heap.next_push, Heap.next_set, Heap.next_kill, next_bump, next_E0] at j1
        simp (maxSteps := 1000000) (disch := first | exact sd | fail) only [go_sem, Nat.reduceAdd, Nat.reduceSub, Nat.reduceLeDiff, ↓reduceIte, decide_eq_true_eq, if_true, if_false, Bool.false_eq_true, Int.lt_irrefl, implies_true, true_and, and_true, eq_self, and_self, beq_self_eq_true, Bool.not_true, show ¬ (-1 : Int) = 0 by decide]
        exact fz_x0
end Go.Abs
