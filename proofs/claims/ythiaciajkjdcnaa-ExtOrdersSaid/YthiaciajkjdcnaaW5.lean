/- Quotients' texts. -/
import Derived.Test.YthiaciajkjdcnaaW4
import Derived.Test.YthiaciajkjdcnaaY7
import Derived.Test.YthiaciajkjdcnaaY10
set_option linter.unusedVariables false
set_option linter.unusedSimpArgs false
namespace Go.Abs
open Go Go.Proofs
set_option maxRecDepth 100000
set_option maxHeartbeats 4000000
def plW5_81_3 : Plan := ⟨[0, 1], [(2, [1], []), (3, [], [4])]⟩
def plW5_82_2 : Plan := ⟨[0, 1], [(2, [1], []), (3, [], [])]⟩
def plW5_82_4 : Plan := ⟨[0, 1, 4, 5], [(2, [5], [3]), (6, [], [7, 8])]⟩
theorem chs_app (a b : ByteArray) : chs (a ++ b) = chs a ++ chs b := by
  unfold chs
  rw [ByteArray.data_append, Array.toList_append, List.map_append]
theorem bsOf_app {a b : List Int} (ha : ∀ x ∈ a, 0 ≤ x ∧ x < 256) (hb : ∀ x ∈ b, 0 ≤ x ∧ x < 256) : bsOf a ++ bsOf b = bsOf (a ++ b) := by
  apply chs_inj
  rw [chs_app, chs_bsOf ha, chs_bsOf hb, chs_bsOf]
  intro x hx
  rcases List.mem_append.1 hx with h | h
  · exact ha x h
  · exact hb x h
theorem bsOf_size {a : List Int} (ha : ∀ x ∈ a, 0 ≤ x ∧ x < 256) : (bsOf a).size = a.length := by rw [← chs_len, chs_bsOf ha]
def txtQ (x : Rat) : List Int := txt x.num ++ (if x.den = 1 then [] else 47 :: txt x.den)
def txtX : XR → List Int
  | .lo => [45, 105, 110, 102]
  | .hi => [105, 110, 102]
  | .fin x => txtQ x
theorem txt_mem {z x : Int} (h : x ∈ txt z) : x = 45 ∨ isDig x := by
  have h1 : ∀ n, ∀ x ∈ (decL n).reverse, isDig x := fun n x hx => decL_dig n x (List.mem_reverse.1 hx)
  unfold txt at h
  split at h
  · rcases List.mem_singleton.1 h with rfl; exact .inr ⟨by decide, by decide⟩
  · split at h
    · rcases List.mem_cons.1 h with rfl | h
      · exact .inl rfl
      · exact .inr (h1 _ x h)
    · exact .inr (h1 _ x h)
theorem txt_no {z : Int} {x : Int} (h : x ∈ txt z) : x ≠ 47 := by
  rcases txt_mem h with rfl | h
  · decide
  · unfold isDig at h; omega
theorem txtQ_mem {y : Rat} {x : Int} (h : x ∈ txtQ y) : x = 45 ∨ x = 47 ∨ isDig x := by
  unfold txtQ at h
  rcases List.mem_append.1 h with h | h
  · exact (txt_mem h).imp id .inr
  · split at h
    · cases h
    · rcases List.mem_cons.1 h with rfl | h
      · exact .inr (.inl rfl)
      · exact (txt_mem h).imp id .inr
theorem txtQ_bd (y : Rat) : ∀ x ∈ txtQ y, 0 ≤ x ∧ x < 256 := fun x hx => by
  rcases txtQ_mem hx with rfl | rfl | h
  · decide
  · decide
  · unfold isDig at h; omega
theorem txtX_bd (a : XR) : ∀ x ∈ txtX a, 0 ≤ x ∧ x < 256 := by
  rcases a with _ | y | _
  · intro x hx; simp [txtX] at hx; omega
  · exact txtQ_bd y
  · intro x hx; simp [txtX] at hx; omega
theorem part_inj {A B S T : List Int} (hA : ∀ x ∈ A, x ≠ 47) (hB : ∀ x ∈ B, x ≠ 47) (hS : S = [] ∨ ∃ s, S = 47 :: s) (hT : T = [] ∨ ∃ t, T = 47 :: t) (h : A ++ S = B ++ T) : A = B ∧ S = T := by
  induction A generalizing B with
  | nil =>
    cases B with
    | nil => exact ⟨rfl, h⟩
    | cons b B =>
      rcases hS with rfl | ⟨s, rfl⟩
      · cases h
      · injection h with h1 h2
        exact absurd h1.symm (hB b (by simp))
  | cons a A ih =>
    cases B with
    | nil =>
      rcases hT with rfl | ⟨t, rfl⟩
      · cases h
      · injection h with h1 h2
        exact absurd h1 (hA a (by simp))
    | cons b B =>
      injection h with h1 h2
      obtain ⟨e1, e2⟩ := ih (B := B) (fun x hx => hA x (by simp [hx])) (fun x hx => hB x (by simp [hx])) h2
      exact ⟨by rw [h1, e1], e2⟩
theorem txtQ_inj {x y : Rat} (h : txtQ x = txtQ y) : x = y := by
  have hs (z : Rat) : (if z.den = 1 then [] else 47 :: txt z.den) = [] ∨ ∃ s, (if z.den = 1 then [] else 47 :: txt z.den) = 47 :: s := by
    by_cases hd : z.den = 1
    · rw [if_pos hd]; exact .inl rfl
    · rw [if_neg hd]; exact .inr ⟨_, rfl⟩
  obtain ⟨e1, e2⟩ := part_inj (fun _ => txt_no) (fun _ => txt_no) (hs x) (hs y) h
  refine Rat.ext (txt_inj.1 e1) ?_
  by_cases h1 : x.den = 1 <;> by_cases h2 : y.den = 1
  · rw [h1, h2]
  · rw [if_pos h1, if_neg h2] at e2; cases e2
  · rw [if_neg h1, if_pos h2] at e2; cases e2
  · rw [if_neg h1, if_neg h2] at e2
    injection e2 with _ e2
    exact Int.ofNat.inj (txt_inj.1 e2)
theorem txtX_inj {a b : XR} (h : txtX a = txtX b) : a = b := by
  have no (y : Rat) : ¬ (105 : Int) ∈ txtQ y := fun h => by
    rcases txtQ_mem h with h | h | h
    · exact absurd h (by decide)
    · exact absurd h (by decide)
    · unfold isDig at h; omega
  have l1 : (105 : Int) ∈ txtX .lo := by decide
  have l2 : (105 : Int) ∈ txtX .hi := by decide
  rcases a with _ | x | _ <;> rcases b with _ | y | _
  · rfl
  · rw [h] at l1; exact absurd l1 (no y)
  · exact absurd h (by decide)
  · rw [← h] at l1; exact absurd l1 (no x)
  · rw [txtQ_inj h]
  · rw [← h] at l2; exact absurd l2 (no x)
  · exact absurd h (by decide)
  · rw [h] at l2; exact absurd l2 (no y)
  · rfl
instance : DecidableEq XR := fun a b => decidable_of_iff (cx a b = 0) cx_eq
theorem txtX_eq {a b : XR} : ((bsOf (txtX a)).toList == (bsOf (txtX b)).toList) = decide (a = b) := by
  rw [seql, chs_bsOf (txtX_bd a), chs_bsOf (txtX_bd b)]
  exact decide_eq_decide.2 ⟨txtX_inj, fun h => by rw [h]⟩
variable {pn qn pn' qn' : Bool} {pl ql pl' ql' : List Int} {k k' : Int} {H : Heap} {K : Value → Heap → Prop}
theorem slash_app {a b : Int} : bsOf (txt a) ++ (⟨#[47]⟩ ++ bsOf (txt b)) = bsOf (txt a ++ 47 :: txt b) := by
  have e : (⟨#[47]⟩ : ByteArray) = bsOf [47] := rfl
  have h47 : ∀ x ∈ [(47 : Int)], 0 ≤ x ∧ x < 256 := by decide
  rw [e, bsOf_app h47 (txt_bd b), bsOf_app (txt_bd a)]
  · rfl
  · intro x hx
    rcases List.mem_append.1 hx with h | h
    · exact h47 x h
    · exact txt_bd b x h
theorem slash_app2 {a b : Int} : bsOf (txt a) ++ ⟨#[47]⟩ ++ bsOf (txt b) = bsOf (txt a ++ 47 :: txt b) := by
  rw [ByteArray.append_assoc, slash_app]
theorem p81 (h1 : Lr pl) (h2 : Lr ql) (hq : lq (dq pn pl qn ql) ≤ 2 ^ 20) : PC Try.prog 43 [R4 pn pl qn ql] (.string (bsOf (txtQ (dq pn pl qn ql)))) := by
  refine PC.of (.cons pu_r4 .nil) (.ground rfl) fun N hN => ?_
  have q1 := p166 (pn := pn) (qn := qn) h1.lb h2.lb (by have := h1.2; omega) (by have := h2.2; omega)
  generalize dq pn pl qn ql = x at *
  have u1 := lq_num x
  have u2 := lq_den x
  have t1 := txt_len (z := x.num) (K := 2 ^ 20) (by omega)
  have t2 := txt_len (z := (x.den : Int)) (K := 2 ^ 20) (by omega)
  have s1 := bsOf_size (txt_bd x.num)
  have s2 := bsOf_size (txt_bd x.den)
  have s3 : (⟨#[47]⟩ : ByteArray).size = 1 := rfl
  have s4 : ((⟨#[47]⟩ : ByteArray) ++ bsOf (txt x.den)).size = 1 + (bsOf (txt x.den)).size := ByteArray.size_append
  unfold txtQ
  by_cases hd : x.den = 1
  · have c : sg ((x.den : Int) - 1) = 0 := sg_eq0.2 (by omega)
    rw [if_pos hd, List.append_nil]
    refine ACalls.of_code T.hm (n := 20) Try.func43 rfl rfl rfl rfl ?_; simp only [List.replicate_succ, List.replicate_zero, List.cons_append, List.nil_append]
    simp (maxSteps := 1000000) (disch := first | exact sd | fail) only [go_sem, Nat.reduceAdd, Nat.reduceSub, Nat.reduceLeDiff, ↓reduceIte, decide_eq_true_eq, if_true, if_false, Bool.false_eq_true, Int.lt_irrefl, implies_true, true_and, and_true, eq_self, and_self, beq_self_eq_true, aw_plan (id := 3) plW5_81_3, plW5_81_3]
    refine PC.step (q1) fun m1 j1 => ?_
    try simp only [Heap.next_push, Heap.next_set, Heap.next_kill, next_bump, next_E0] at j1
    simp (maxSteps := 1000000) (disch := first | exact sd | fail) only [go_sem, Nat.reduceAdd, Nat.reduceSub, Nat.reduceLeDiff, ↓reduceIte, decide_eq_true_eq, if_true, if_false, Bool.false_eq_true, Int.lt_irrefl, implies_true, true_and, and_true, eq_self, and_self, beq_self_eq_true, aw_plan (id := 3) plW5_81_3, plW5_81_3]
    refine PC.step (p58z (by omega)) fun m2 j2 => ?_
    try simp only [Heap.next_push, Heap.next_set, Heap.next_kill, next_bump, next_E0] at j2
    simp (maxSteps := 1000000) (disch := first | exact sd | fail) only [go_sem, Nat.reduceAdd, Nat.reduceSub, Nat.reduceLeDiff, ↓reduceIte, decide_eq_true_eq, if_true, if_false, Bool.false_eq_true, Int.lt_irrefl, implies_true, true_and, and_true, eq_self, and_self, beq_self_eq_true, aw_plan (id := 3) plW5_81_3, plW5_81_3]
    refine PC.step (p165) fun m3 j3 => ?_
    try simp only [Heap.next_push, Heap.next_set, Heap.next_kill, next_bump, next_E0] at j3
    simp (maxSteps := 1000000) (disch := first | exact sd | fail) only [go_sem, Nat.reduceAdd, Nat.reduceSub, Nat.reduceLeDiff, ↓reduceIte, decide_eq_true_eq, if_true, if_false, Bool.false_eq_true, Int.lt_irrefl, implies_true, true_and, and_true, eq_self, and_self, beq_self_eq_true, aw_plan (id := 3) plW5_81_3, plW5_81_3]
    refine PC.step (p55 (lb_z (by omega)) (lb_z (by rw [ln_one]; omega))) fun m4 j4 => ?_
    try simp only [Heap.next_push, Heap.next_set, Heap.next_kill, next_bump, next_E0] at j4
    rw [den_z, den_z]
    simp (maxSteps := 1000000) (disch := first | exact sd | fail) only [go_sem, Nat.reduceAdd, Nat.reduceSub, Nat.reduceLeDiff, ↓reduceIte, decide_eq_true_eq, if_true, if_false, Bool.false_eq_true, Int.lt_irrefl, implies_true, true_and, and_true, eq_self, and_self, beq_self_eq_true, aw_plan (id := 3) plW5_81_3, plW5_81_3, c, ne_eq, not_true_eq_false]
    exact .rfl
  · have c : ¬ sg ((x.den : Int) - 1) = 0 := fun h => hd (by have := sg_eq0.1 h; omega)
    rw [if_neg hd]
    have g1 : (⟨#[47]⟩ : ByteArray).size + (bsOf (txt x.den)).size ≤ 9223372036854775807 := by omega
    have g2 : (bsOf (txt x.num)).size + ((⟨#[47]⟩ : ByteArray) ++ bsOf (txt x.den)).size ≤ 9223372036854775807 := by omega
    refine ACalls.of_code T.hm (n := 20) Try.func43 rfl rfl rfl rfl ?_; simp only [List.replicate_succ, List.replicate_zero, List.cons_append, List.nil_append]
    simp (maxSteps := 1000000) (disch := first | exact sd | fail) only [go_sem, Nat.reduceAdd, Nat.reduceSub, Nat.reduceLeDiff, ↓reduceIte, decide_eq_true_eq, if_true, if_false, Bool.false_eq_true, Int.lt_irrefl, implies_true, true_and, and_true, eq_self, and_self, beq_self_eq_true, aw_plan (id := 3) plW5_81_3, plW5_81_3]
    refine PC.step (q1) fun m1 j1 => ?_
    try simp only [Heap.next_push, Heap.next_set, Heap.next_kill, next_bump, next_E0] at j1
    simp (maxSteps := 1000000) (disch := first | exact sd | fail) only [go_sem, Nat.reduceAdd, Nat.reduceSub, Nat.reduceLeDiff, ↓reduceIte, decide_eq_true_eq, if_true, if_false, Bool.false_eq_true, Int.lt_irrefl, implies_true, true_and, and_true, eq_self, and_self, beq_self_eq_true, aw_plan (id := 3) plW5_81_3, plW5_81_3]
    refine PC.step (p58z (by omega)) fun m2 j2 => ?_
    try simp only [Heap.next_push, Heap.next_set, Heap.next_kill, next_bump, next_E0] at j2
    simp (maxSteps := 1000000) (disch := first | exact sd | fail) only [go_sem, Nat.reduceAdd, Nat.reduceSub, Nat.reduceLeDiff, ↓reduceIte, decide_eq_true_eq, if_true, if_false, Bool.false_eq_true, Int.lt_irrefl, implies_true, true_and, and_true, eq_self, and_self, beq_self_eq_true, aw_plan (id := 3) plW5_81_3, plW5_81_3]
    refine PC.step (p165) fun m3 j3 => ?_
    try simp only [Heap.next_push, Heap.next_set, Heap.next_kill, next_bump, next_E0] at j3
    simp (maxSteps := 1000000) (disch := first | exact sd | fail) only [go_sem, Nat.reduceAdd, Nat.reduceSub, Nat.reduceLeDiff, ↓reduceIte, decide_eq_true_eq, if_true, if_false, Bool.false_eq_true, Int.lt_irrefl, implies_true, true_and, and_true, eq_self, and_self, beq_self_eq_true, aw_plan (id := 3) plW5_81_3, plW5_81_3]
    refine PC.step (p55 (lb_z (by omega)) (lb_z (by rw [ln_one]; omega))) fun m4 j4 => ?_
    try simp only [Heap.next_push, Heap.next_set, Heap.next_kill, next_bump, next_E0] at j4
    rw [den_z, den_z]
    simp (maxSteps := 1000000) (disch := first | exact sd | fail) only [go_sem, Nat.reduceAdd, Nat.reduceSub, Nat.reduceLeDiff, ↓reduceIte, decide_eq_true_eq, if_true, if_false, Bool.false_eq_true, Int.lt_irrefl, implies_true, true_and, and_true, eq_self, and_self, beq_self_eq_true, aw_plan (id := 3) plW5_81_3, plW5_81_3, c, ne_eq, not_false_eq_true]
    refine PC.step (p58z (by omega)) fun m5 j5 => ?_
    try simp only [Heap.next_push, Heap.next_set, Heap.next_kill, next_bump, next_E0] at j5
    simp (maxSteps := 1000000) (disch := first | exact sd | fail) only [go_sem, Nat.reduceAdd, Nat.reduceSub, Nat.reduceLeDiff, ↓reduceIte, decide_eq_true_eq, if_true, if_false, Bool.false_eq_true, Int.lt_irrefl, implies_true, true_and, and_true, eq_self, and_self, beq_self_eq_true, aw_plan (id := 3) plW5_81_3, plW5_81_3, bin_sadd g1, bin_sadd g2]
    rw [slash_app]
    exact .rfl
theorem p59z {z : Int} (h : ln z ≤ 2 ^ 30) : PC Try.prog 89 [Zn z] (.string (bsOf (txt z))) := (p59 (lb_z (by omega)) h).ok (by rw [den_z])
theorem p82 (h1 : Lr pl) (h2 : Lr ql) (hq : lq (dq pn pl qn ql) ≤ 2 ^ 20) : PC Try.prog 55 [R4 pn pl qn ql] (.string (bsOf (txtQ (dq pn pl qn ql)))) := by
  refine PC.of (.cons pu_r4 .nil) (.ground rfl) fun N hN => ?_
  have q1 := p171 (pn := pn) (qn := qn) h1.lb h2.lb (by have := h1.2; omega) (by have := h2.2; omega)
  generalize dq pn pl qn ql = x at *
  have u1 := lq_num x
  have u2 := lq_den x
  have t1 := txt_len (z := x.num) (K := 2 ^ 20) (by omega)
  have t2 := txt_len (z := (x.den : Int)) (K := 2 ^ 20) (by omega)
  have s1 := bsOf_size (txt_bd x.num)
  have s2 := bsOf_size (txt_bd x.den)
  have s3 : (⟨#[47]⟩ : ByteArray).size = 1 := rfl
  have s4 : (bsOf (txt x.num) ++ (⟨#[47]⟩ : ByteArray)).size = (bsOf (txt x.num)).size + 1 := ByteArray.size_append
  unfold txtQ
  have q2 := p44 (n := sgn x.den) (m := sgn 1) (l := lmb x.den) (k := lmb 1) (lb_z (by omega)) (lb_z (by rw [ln_one]; omega))
  by_cases hd : x.den = 1
  · have c : decide (sgn (x.den : Int) = sgn 1 ∧ lmb (x.den : Int) = lmb 1) = true := by rw [hd]; simp
    rw [c] at q2
    rw [if_pos hd, List.append_nil]
    refine ACalls.of_code T.hm (n := 19) Try.func55 rfl rfl rfl rfl ?_; simp only [List.replicate_succ, List.replicate_zero, List.cons_append, List.nil_append]
    simp (maxSteps := 1000000) (disch := first | exact sd | fail) only [go_sem, Nat.reduceAdd, Nat.reduceSub, Nat.reduceLeDiff, ↓reduceIte, decide_eq_true_eq, if_true, if_false, Bool.false_eq_true, Int.lt_irrefl, implies_true, true_and, and_true, eq_self, and_self, beq_self_eq_true, aw_plan (id := 2) plW5_82_2, plW5_82_2, aw_plan (id := 4) plW5_82_4, plW5_82_4]
    refine PC.step (q1) fun m1 j1 => ?_
    try simp only [Heap.next_push, Heap.next_set, Heap.next_kill, next_bump, next_E0] at j1
    simp (maxSteps := 1000000) (disch := first | exact sd | fail) only [go_sem, Nat.reduceAdd, Nat.reduceSub, Nat.reduceLeDiff, ↓reduceIte, decide_eq_true_eq, if_true, if_false, Bool.false_eq_true, Int.lt_irrefl, implies_true, true_and, and_true, eq_self, and_self, beq_self_eq_true, aw_plan (id := 2) plW5_82_2, plW5_82_2, aw_plan (id := 4) plW5_82_4, plW5_82_4]
    refine PC.step (p53 (x := 1) (by omega)) fun m2 j2 => ?_
    try simp only [Heap.next_push, Heap.next_set, Heap.next_kill, next_bump, next_E0] at j2
    simp (maxSteps := 1000000) (disch := first | exact sd | fail) only [go_sem, Nat.reduceAdd, Nat.reduceSub, Nat.reduceLeDiff, ↓reduceIte, decide_eq_true_eq, if_true, if_false, Bool.false_eq_true, Int.lt_irrefl, implies_true, true_and, and_true, eq_self, and_self, beq_self_eq_true, aw_plan (id := 2) plW5_82_2, plW5_82_2, aw_plan (id := 4) plW5_82_4, plW5_82_4]
    refine PC.step (q2) fun m3 j3 => ?_
    try simp only [Heap.next_push, Heap.next_set, Heap.next_kill, next_bump, next_E0] at j3
    simp (maxSteps := 1000000) (disch := first | exact sd | fail) only [go_sem, Nat.reduceAdd, Nat.reduceSub, Nat.reduceLeDiff, ↓reduceIte, decide_eq_true_eq, if_true, if_false, Bool.false_eq_true, Int.lt_irrefl, implies_true, true_and, and_true, eq_self, and_self, beq_self_eq_true, aw_plan (id := 2) plW5_82_2, plW5_82_2, aw_plan (id := 4) plW5_82_4, plW5_82_4]
    refine PC.step (p59z (by omega)) fun m4 j4 => ?_
    try simp only [Heap.next_push, Heap.next_set, Heap.next_kill, next_bump, next_E0] at j4
    simp (maxSteps := 1000000) (disch := first | exact sd | fail) only [go_sem, Nat.reduceAdd, Nat.reduceSub, Nat.reduceLeDiff, ↓reduceIte, decide_eq_true_eq, if_true, if_false, Bool.false_eq_true, Int.lt_irrefl, implies_true, true_and, and_true, eq_self, and_self, beq_self_eq_true, aw_plan (id := 2) plW5_82_2, plW5_82_2, aw_plan (id := 4) plW5_82_4, plW5_82_4]
    exact .rfl
  · have c : decide (sgn (x.den : Int) = sgn 1 ∧ lmb (x.den : Int) = lmb 1) = false := by
      rw [decide_eq_false_iff_not]
      rintro ⟨_, h⟩
      have e := val_z (x.den : Int)
      rw [h, val_z] at e
      exact hd (by omega)
    rw [c] at q2
    rw [if_neg hd]
    have g1 : (bsOf (txt x.num)).size + (⟨#[47]⟩ : ByteArray).size ≤ 9223372036854775807 := by omega
    have g2 : (bsOf (txt x.num) ++ (⟨#[47]⟩ : ByteArray)).size + (bsOf (txt x.den)).size ≤ 9223372036854775807 := by omega
    refine ACalls.of_code T.hm (n := 19) Try.func55 rfl rfl rfl rfl ?_; simp only [List.replicate_succ, List.replicate_zero, List.cons_append, List.nil_append]
    simp (maxSteps := 1000000) (disch := first | exact sd | fail) only [go_sem, Nat.reduceAdd, Nat.reduceSub, Nat.reduceLeDiff, ↓reduceIte, decide_eq_true_eq, if_true, if_false, Bool.false_eq_true, Int.lt_irrefl, implies_true, true_and, and_true, eq_self, and_self, beq_self_eq_true, aw_plan (id := 2) plW5_82_2, plW5_82_2, aw_plan (id := 4) plW5_82_4, plW5_82_4]
    refine PC.step (q1) fun m1 j1 => ?_
    try simp only [Heap.next_push, Heap.next_set, Heap.next_kill, next_bump, next_E0] at j1
    simp (maxSteps := 1000000) (disch := first | exact sd | fail) only [go_sem, Nat.reduceAdd, Nat.reduceSub, Nat.reduceLeDiff, ↓reduceIte, decide_eq_true_eq, if_true, if_false, Bool.false_eq_true, Int.lt_irrefl, implies_true, true_and, and_true, eq_self, and_self, beq_self_eq_true, aw_plan (id := 2) plW5_82_2, plW5_82_2, aw_plan (id := 4) plW5_82_4, plW5_82_4]
    refine PC.step (p53 (x := 1) (by omega)) fun m2 j2 => ?_
    try simp only [Heap.next_push, Heap.next_set, Heap.next_kill, next_bump, next_E0] at j2
    simp (maxSteps := 1000000) (disch := first | exact sd | fail) only [go_sem, Nat.reduceAdd, Nat.reduceSub, Nat.reduceLeDiff, ↓reduceIte, decide_eq_true_eq, if_true, if_false, Bool.false_eq_true, Int.lt_irrefl, implies_true, true_and, and_true, eq_self, and_self, beq_self_eq_true, aw_plan (id := 2) plW5_82_2, plW5_82_2, aw_plan (id := 4) plW5_82_4, plW5_82_4]
    refine PC.step (q2) fun m3 j3 => ?_
    try simp only [Heap.next_push, Heap.next_set, Heap.next_kill, next_bump, next_E0] at j3
    simp (maxSteps := 1000000) (disch := first | exact sd | fail) only [go_sem, Nat.reduceAdd, Nat.reduceSub, Nat.reduceLeDiff, ↓reduceIte, decide_eq_true_eq, if_true, if_false, Bool.false_eq_true, Int.lt_irrefl, implies_true, true_and, and_true, eq_self, and_self, beq_self_eq_true, aw_plan (id := 2) plW5_82_2, plW5_82_2, aw_plan (id := 4) plW5_82_4, plW5_82_4]
    refine PC.step (p59z (by omega)) fun m4 j4 => ?_
    try simp only [Heap.next_push, Heap.next_set, Heap.next_kill, next_bump, next_E0] at j4
    simp (maxSteps := 1000000) (disch := first | exact sd | fail) only [go_sem, Nat.reduceAdd, Nat.reduceSub, Nat.reduceLeDiff, ↓reduceIte, decide_eq_true_eq, if_true, if_false, Bool.false_eq_true, Int.lt_irrefl, implies_true, true_and, and_true, eq_self, and_self, beq_self_eq_true, aw_plan (id := 2) plW5_82_2, plW5_82_2, aw_plan (id := 4) plW5_82_4, plW5_82_4, bin_sadd g1]
    refine PC.step (p59z (by omega)) fun m5 j5 => ?_
    try simp only [Heap.next_push, Heap.next_set, Heap.next_kill, next_bump, next_E0] at j5
    simp (maxSteps := 1000000) (disch := first | exact sd | fail) only [go_sem, Nat.reduceAdd, Nat.reduceSub, Nat.reduceLeDiff, ↓reduceIte, decide_eq_true_eq, if_true, if_false, Bool.false_eq_true, Int.lt_irrefl, implies_true, true_and, and_true, eq_self, and_self, beq_self_eq_true, aw_plan (id := 2) plW5_82_2, plW5_82_2, aw_plan (id := 4) plW5_82_4, plW5_82_4, bin_sadd g1, bin_sadd g2]
    rw [slash_app2]
    exact .rfl
end Go.Abs
