/- Joined: K5, K6, K7. -/
import Derived.Test.YtfadclnaahanmaaK4
/- Linear problems: Holds, rows of whole numbers, the document's example. -/
set_option linter.unusedVariables false
set_option linter.unusedSimpArgs false
namespace Go.Abs
open Go Go.Proofs
set_option maxRecDepth 100000
set_option maxHeartbeats 4000000
/-! ### maps from kinds to looks -/
theorem mset {H : Heap} {b : Nat} {k : Int} {v : Value} {es : List MapEntry} {c : Nat} (hg : H.get b = some (.map es c)) (hf : Instr.findNow (.int .i64) (.int .i64 k) es 0 = some none) : aMapSet Try.prog H 112 (.map (some b)) (.int .i64 k) v = some (H.set b (.map (es ++ [⟨.int .i64 k, v, c⟩]) (c + 1))) := by
  unfold aMapSet
  rw [Try.underlying112]
  dsimp only
  rw [Try.underlying3, hg]
  dsimp only
  rw [if_pos ⟨rfl, rfl⟩, hf]
theorem mget {H : Heap} {b : Nat} {k : Int} {es : List MapEntry} {c i : Nat} {v : Value} (hg : H.get b = some (.map es c)) (hf : Instr.findNow (.int .i64) (.int .i64 k) es 0 = some (some (i, v))) : aMapGet Try.prog H 112 (.map (some b)) (.int .i64 k) false = some v := by
  unfold aMapGet
  rw [Try.underlying112]
  dsimp only
  rw [Try.underlying3, hg]
  dsimp only
  rw [if_pos ⟨rfl, rfl⟩, hf]
  rfl
theorem mget0 {H : Heap} {b : Nat} {k : Int} {es : List MapEntry} {c : Nat} (hg : H.get b = some (.map es c)) (hf : Instr.findNow (.int .i64) (.int .i64 k) es 0 = some none) : aMapGet Try.prog H 112 (.map (some b)) (.int .i64 k) false = some .nilFunc := by
  unfold aMapGet
  rw [Try.underlying112]
  dsimp only
  rw [Try.underlying3, hg]
  dsimp only
  rw [if_pos ⟨rfl, rfl⟩, hf]
  unfold aFound
  dsimp only
  rw [info_of_type Try.type63]
  rfl
theorem nfT {f : FuncId} {x y : Operand} : aBin Try.prog .neq 63 x y (.func (.func f) ⟨[]⟩ ⟨[]⟩) .nilFunc = some (.bool true) := by
  unfold aBin nilTest
  rw [Try.underlying63]
  rfl
theorem nfF : aBin Try.prog .neq 63 (.tmp 13) (.const .nilFunc) .nilFunc .nilFunc = some (.bool false) := by kernel_rfl
def holdsV (n : Int) (A : List (List RQ)) (B C : List RQ) (k : Int) (v : RQ) (X Y Z : List RQ) : Bool :=
  okLp n A B C && if k = 1 then optV n A B C v X Y Z else if k = 2 then infV n A B v X Y Z else if k = 3 then unbV n A B C v X Y Z else false
theorem fn0 {k : Int} {es : List MapEntry} (h : ∀ e ∈ es, ∃ j : Int, e.key = .int .i64 j ∧ k ≠ j) : ∀ i, Instr.findNow (.int .i64) (.int .i64 k) es i = some none := by
  induction es with
  | nil => intro i; rfl
  | cons e es ih =>
    intro i
    obtain ⟨j, h1, h2⟩ := h e (List.mem_cons_self ..)
    have hb : (k == j) = false := by simpa using h2
    have e2 : Instr.sameNow (.int .i64) (.int .i64 k) e.key = some false := by
      rw [h1]
      show some (k == j) = some false
      rw [hb]
    unfold Instr.findNow
    rw [e2]
    exact ih (fun e he => h e (List.mem_cons_of_mem _ he)) _
theorem p121 {n k : Int} {A : List (List RQ)} {B C X Y Z : List RQ} {v : RQ} (hA : A.length ≤ 200) (hr : ∀ j, Rg (rwi A j)) (hb : Rg B) (hc : Rg C) (hx : Rg X) (hy : Rg Y) (hz : Rg Z) (hv : Rz v) : PC Try.prog 44 [Lpv n A B C, Anv k v X Y Z] (.bool (holdsV n A B C k v X Y Z)) := by
  refine PC.of (.cons pu_Lp (.cons pu_An .nil)) (.ground rfl) fun N hN => ?_
  have q1 := p117 (n := n) (A := A) (B := B) (C := C) (by omega)
  have f1 : Instr.findNow (.int .i64) (.int .i64 1) [] 0 = some none := rfl
  have f2 {u : Value} {c : Nat} : Instr.findNow (.int .i64) (.int .i64 2) [⟨.int .i64 1, u, c⟩] 0 = some none := rfl
  have f3 {u w : Value} {c d : Nat} : Instr.findNow (.int .i64) (.int .i64 3) [⟨.int .i64 1, u, c⟩, ⟨.int .i64 2, w, d⟩] 0 = some none := rfl
  unfold Lpv Anv
  refine ACalls.of_code T.hm (n := 23) Try.func44 rfl rfl rfl rfl ?_; simp only [List.replicate_succ, List.replicate_zero, List.cons_append, List.nil_append]
  simp (maxSteps := 1000000) (disch := first | exact sd | fail) only [go_sem, Nat.reduceAdd, Nat.reduceSub, Nat.reduceLeDiff, ↓reduceIte, decide_eq_true_eq, if_true, if_false, Bool.false_eq_true, Int.lt_irrefl, implies_true, true_and, and_true, eq_self, and_self, beq_self_eq_true]
  rw [mset (es := []) (c := 0) (by simp (maxSteps := 1000000) (disch := first | exact sd | fail) only [go_sem, Nat.reduceAdd, Nat.reduceSub, Nat.reduceLeDiff, ↓reduceIte, decide_eq_true_eq, if_true, if_false, Bool.false_eq_true, Int.lt_irrefl, implies_true, true_and, and_true, eq_self, and_self, beq_self_eq_true]) f1]
  simp (maxSteps := 1000000) (disch := first | exact sd | fail) only [go_sem, Nat.reduceAdd, Nat.reduceSub, Nat.reduceLeDiff, ↓reduceIte, decide_eq_true_eq, if_true, if_false, Bool.false_eq_true, Int.lt_irrefl, implies_true, true_and, and_true, eq_self, and_self, beq_self_eq_true]
  rw [mset (es := [⟨.int .i64 1, _, 0⟩]) (c := 1) (by simp (maxSteps := 1000000) (disch := first | exact sd | fail) only [go_sem, Nat.reduceAdd, Nat.reduceSub, Nat.reduceLeDiff, ↓reduceIte, decide_eq_true_eq, if_true, if_false, Bool.false_eq_true, Int.lt_irrefl, implies_true, true_and, and_true, eq_self, and_self, beq_self_eq_true]; rfl) f2]
  simp (maxSteps := 1000000) (disch := first | exact sd | fail) only [go_sem, Nat.reduceAdd, Nat.reduceSub, Nat.reduceLeDiff, ↓reduceIte, decide_eq_true_eq, if_true, if_false, Bool.false_eq_true, Int.lt_irrefl, implies_true, true_and, and_true, eq_self, and_self, beq_self_eq_true]
  rw [mset (es := [⟨.int .i64 1, _, 0⟩, ⟨.int .i64 2, _, 1⟩]) (c := 2) (by simp (maxSteps := 1000000) (disch := first | exact sd | fail) only [go_sem, Nat.reduceAdd, Nat.reduceSub, Nat.reduceLeDiff, ↓reduceIte, decide_eq_true_eq, if_true, if_false, Bool.false_eq_true, Int.lt_irrefl, implies_true, true_and, and_true, eq_self, and_self, beq_self_eq_true]; rfl) f3]
  simp (maxSteps := 1000000) (disch := first | exact sd | fail) only [go_sem, Nat.reduceAdd, Nat.reduceSub, Nat.reduceLeDiff, ↓reduceIte, decide_eq_true_eq, if_true, if_false, Bool.false_eq_true, Int.lt_irrefl, implies_true, true_and, and_true, eq_self, and_self, beq_self_eq_true]
  generalize hH : Heap.set _ (N + 1 + 1) (AObj.map (_ ++ [⟨.int .i64 3, _, 2⟩]) 3) = H
  have gM : H.get (N + 1 + 1) = some (.map [⟨.int .i64 1, .func (.func 80) ⟨[]⟩ ⟨[]⟩, 0⟩, ⟨.int .i64 2, .func (.func 81) ⟨[]⟩ ⟨[]⟩, 1⟩, ⟨.int .i64 3, .func (.func 82) ⟨[]⟩ ⟨[]⟩, 2⟩] 3) := by rw [← hH]; simp (maxSteps := 1000000) (disch := first | exact sd | fail) only [go_sem, Nat.reduceAdd, Nat.reduceSub, Nat.reduceLeDiff, ↓reduceIte, decide_eq_true_eq, if_true, if_false, Bool.false_eq_true, Int.lt_irrefl, implies_true, true_and, and_true, eq_self, and_self, beq_self_eq_true]; rfl
  have g0 : H.get N = some (.row true 62 [.int .i64 n, Vv eR A, Vv eQ B, Vv eQ C]) := by rw [← hH]; simp (maxSteps := 1000000) (disch := first | exact sd | fail) only [go_sem, Nat.reduceAdd, Nat.reduceSub, Nat.reduceLeDiff, ↓reduceIte, decide_eq_true_eq, if_true, if_false, Bool.false_eq_true, Int.lt_irrefl, implies_true, true_and, and_true, eq_self, and_self, beq_self_eq_true]
  have g1 : H.get (N + 1) = some (.row true 65 [.int .i64 k, .bool v.p.neg, Vv eU v.p.l, .bool v.q.neg, Vv eU v.q.l, Vv eQ X, Vv eQ Y, Vv eQ Z]) := by rw [← hH]; simp (maxSteps := 1000000) (disch := first | exact sd | fail) only [go_sem, Nat.reduceAdd, Nat.reduceSub, Nat.reduceLeDiff, ↓reduceIte, decide_eq_true_eq, if_true, if_false, Bool.false_eq_true, Int.lt_irrefl, implies_true, true_and, and_true, eq_self, and_self, beq_self_eq_true]
  clear hH
  have env_nf {T : Tm} : env T (.const .nilFunc) = some .nilFunc := rfl
  unfold holdsV
  by_cases k1 : k = 1
  · subst k1
    rw [mget (i := 0) gM rfl, if_pos rfl]
    cases hok : okLp n A B C with
    | false =>
      rw [hok] at q1
      unfold Lpv at q1
      simp (maxSteps := 1000000) (disch := first | exact sd | fail) only [go_sem, Nat.reduceAdd, Nat.reduceSub, Nat.reduceLeDiff, ↓reduceIte, decide_eq_true_eq, if_true, if_false, Bool.false_eq_true, Int.lt_irrefl, implies_true, true_and, and_true, eq_self, and_self, beq_self_eq_true, env_nf, nfT, g0, g1]
      refine PC.step (q1) fun m1 j1 => ?_
      try simp only [Heap.next_push, Heap.next_set, Heap.next_kill, next_bump, next_E0] at j1
      simp (maxSteps := 1000000) (disch := first | exact sd | fail) only [go_sem, Nat.reduceAdd, Nat.reduceSub, Nat.reduceLeDiff, ↓reduceIte, decide_eq_true_eq, if_true, if_false, Bool.false_eq_true, Int.lt_irrefl, implies_true, true_and, and_true, eq_self, and_self, beq_self_eq_true, env_nf, nfT, g0, g1]
      exact .rfl
    | true =>
      rw [hok] at q1
      have q2 := p187 (k := 1) hok hr hb hc hx hy hz hv
      unfold Lpv at q1 q2
      unfold Anv at q2
      simp (maxSteps := 1000000) (disch := first | exact sd | fail) only [go_sem, Nat.reduceAdd, Nat.reduceSub, Nat.reduceLeDiff, ↓reduceIte, decide_eq_true_eq, if_true, if_false, Bool.false_eq_true, Int.lt_irrefl, implies_true, true_and, and_true, eq_self, and_self, beq_self_eq_true, env_nf, nfT, g0, g1]
      refine PC.step (q1) fun m1 j1 => ?_
      try simp only [Heap.next_push, Heap.next_set, Heap.next_kill, next_bump, next_E0] at j1
      simp (maxSteps := 1000000) (disch := first | exact sd | fail) only [go_sem, Nat.reduceAdd, Nat.reduceSub, Nat.reduceLeDiff, ↓reduceIte, decide_eq_true_eq, if_true, if_false, Bool.false_eq_true, Int.lt_irrefl, implies_true, true_and, and_true, eq_self, and_self, beq_self_eq_true, env_nf, nfT, g0, g1]
      refine PC.step (q2) fun m2 j2 => ?_
      try simp only [Heap.next_push, Heap.next_set, Heap.next_kill, next_bump, next_E0] at j2
      simp (maxSteps := 1000000) (disch := first | exact sd | fail) only [go_sem, Nat.reduceAdd, Nat.reduceSub, Nat.reduceLeDiff, ↓reduceIte, decide_eq_true_eq, if_true, if_false, Bool.false_eq_true, Int.lt_irrefl, implies_true, true_and, and_true, eq_self, and_self, beq_self_eq_true]
      exact .rfl
  rw [if_neg k1]
  by_cases k2 : k = 2
  · subst k2
    rw [mget (i := 1) gM rfl, if_pos rfl]
    cases hok : okLp n A B C with
    | false =>
      rw [hok] at q1
      unfold Lpv at q1
      simp (maxSteps := 1000000) (disch := first | exact sd | fail) only [go_sem, Nat.reduceAdd, Nat.reduceSub, Nat.reduceLeDiff, ↓reduceIte, decide_eq_true_eq, if_true, if_false, Bool.false_eq_true, Int.lt_irrefl, implies_true, true_and, and_true, eq_self, and_self, beq_self_eq_true, env_nf, nfT, g0, g1]
      refine PC.step (q1) fun m1 j1 => ?_
      try simp only [Heap.next_push, Heap.next_set, Heap.next_kill, next_bump, next_E0] at j1
      simp (maxSteps := 1000000) (disch := first | exact sd | fail) only [go_sem, Nat.reduceAdd, Nat.reduceSub, Nat.reduceLeDiff, ↓reduceIte, decide_eq_true_eq, if_true, if_false, Bool.false_eq_true, Int.lt_irrefl, implies_true, true_and, and_true, eq_self, and_self, beq_self_eq_true, env_nf, nfT, g0, g1]
      exact .rfl
    | true =>
      rw [hok] at q1
      have q2 := p188 (k := 2) (C := C) (X := X) (Z := Z) hok hr hb hy hv
      unfold Lpv at q1 q2
      unfold Anv at q2
      simp (maxSteps := 1000000) (disch := first | exact sd | fail) only [go_sem, Nat.reduceAdd, Nat.reduceSub, Nat.reduceLeDiff, ↓reduceIte, decide_eq_true_eq, if_true, if_false, Bool.false_eq_true, Int.lt_irrefl, implies_true, true_and, and_true, eq_self, and_self, beq_self_eq_true, env_nf, nfT, g0, g1]
      refine PC.step (q1) fun m1 j1 => ?_
      try simp only [Heap.next_push, Heap.next_set, Heap.next_kill, next_bump, next_E0] at j1
      simp (maxSteps := 1000000) (disch := first | exact sd | fail) only [go_sem, Nat.reduceAdd, Nat.reduceSub, Nat.reduceLeDiff, ↓reduceIte, decide_eq_true_eq, if_true, if_false, Bool.false_eq_true, Int.lt_irrefl, implies_true, true_and, and_true, eq_self, and_self, beq_self_eq_true, env_nf, nfT, g0, g1]
      refine PC.step (q2) fun m2 j2 => ?_
      try simp only [Heap.next_push, Heap.next_set, Heap.next_kill, next_bump, next_E0] at j2
      simp (maxSteps := 1000000) (disch := first | exact sd | fail) only [go_sem, Nat.reduceAdd, Nat.reduceSub, Nat.reduceLeDiff, ↓reduceIte, decide_eq_true_eq, if_true, if_false, Bool.false_eq_true, Int.lt_irrefl, implies_true, true_and, and_true, eq_self, and_self, beq_self_eq_true]
      exact .rfl
  rw [if_neg k2]
  by_cases k3 : k = 3
  · subst k3
    rw [mget (i := 2) gM rfl, if_pos rfl]
    cases hok : okLp n A B C with
    | false =>
      rw [hok] at q1
      unfold Lpv at q1
      simp (maxSteps := 1000000) (disch := first | exact sd | fail) only [go_sem, Nat.reduceAdd, Nat.reduceSub, Nat.reduceLeDiff, ↓reduceIte, decide_eq_true_eq, if_true, if_false, Bool.false_eq_true, Int.lt_irrefl, implies_true, true_and, and_true, eq_self, and_self, beq_self_eq_true, env_nf, nfT, g0, g1]
      refine PC.step (q1) fun m1 j1 => ?_
      try simp only [Heap.next_push, Heap.next_set, Heap.next_kill, next_bump, next_E0] at j1
      simp (maxSteps := 1000000) (disch := first | exact sd | fail) only [go_sem, Nat.reduceAdd, Nat.reduceSub, Nat.reduceLeDiff, ↓reduceIte, decide_eq_true_eq, if_true, if_false, Bool.false_eq_true, Int.lt_irrefl, implies_true, true_and, and_true, eq_self, and_self, beq_self_eq_true, env_nf, nfT, g0, g1]
      exact .rfl
    | true =>
      rw [hok] at q1
      have q2 := p189 (k := 3) (Y := Y) hok hr hb hc hx hz hv
      unfold Lpv at q1 q2
      unfold Anv at q2
      simp (maxSteps := 1000000) (disch := first | exact sd | fail) only [go_sem, Nat.reduceAdd, Nat.reduceSub, Nat.reduceLeDiff, ↓reduceIte, decide_eq_true_eq, if_true, if_false, Bool.false_eq_true, Int.lt_irrefl, implies_true, true_and, and_true, eq_self, and_self, beq_self_eq_true, env_nf, nfT, g0, g1]
      refine PC.step (q1) fun m1 j1 => ?_
      try simp only [Heap.next_push, Heap.next_set, Heap.next_kill, next_bump, next_E0] at j1
      simp (maxSteps := 1000000) (disch := first | exact sd | fail) only [go_sem, Nat.reduceAdd, Nat.reduceSub, Nat.reduceLeDiff, ↓reduceIte, decide_eq_true_eq, if_true, if_false, Bool.false_eq_true, Int.lt_irrefl, implies_true, true_and, and_true, eq_self, and_self, beq_self_eq_true, env_nf, nfT, g0, g1]
      refine PC.step (q2) fun m2 j2 => ?_
      try simp only [Heap.next_push, Heap.next_set, Heap.next_kill, next_bump, next_E0] at j2
      simp (maxSteps := 1000000) (disch := first | exact sd | fail) only [go_sem, Nat.reduceAdd, Nat.reduceSub, Nat.reduceLeDiff, ↓reduceIte, decide_eq_true_eq, if_true, if_false, Bool.false_eq_true, Int.lt_irrefl, implies_true, true_and, and_true, eq_self, and_self, beq_self_eq_true]
      exact .rfl
  rw [if_neg k3, Bool.and_false]
  rw [mget0 gM (fn0 (fun e he => by
    simp only [List.mem_cons, List.not_mem_nil, or_false] at he
    rcases he with rfl | rfl | rfl
    · exact ⟨1, rfl, k1⟩
    · exact ⟨2, rfl, k2⟩
    · exact ⟨3, rfl, k3⟩) 0)]
  simp (maxSteps := 1000000) (disch := first | exact sd | fail) only [go_sem, Nat.reduceAdd, Nat.reduceSub, Nat.reduceLeDiff, ↓reduceIte, decide_eq_true_eq, if_true, if_false, Bool.false_eq_true, Int.lt_irrefl, implies_true, true_and, and_true, eq_self, and_self, beq_self_eq_true, env_nf, nfF, g0, g1]
  exact .rfl
def rowN (l : List Int) : List RQ := tab l.length fun i => ((l.getD i 0 : Int) : Rat)
theorem p122 {l : List Int} (hl : l.length ≤ 2 ^ 16) (hb : ∀ i, -9223372036854775808 ≤ l.getD i 0 ∧ l.getD i 0 ≤ 9223372036854775807) : PC Try.prog 47 [Vv eN l] (Vv eQ (rowN l)) := by
  refine PC.of (.cons (.fz (Pus.flat fun _ _ => .cons (.ground rfl) .nil)) .nil) pu_Qs fun N hN => ?_
  refine ACalls.of_code T.hm (n := 19) Try.func47 rfl rfl rfl rfl ?_; simp only [List.replicate_succ, List.replicate_zero, List.cons_append, List.nil_append]
  simp (maxSteps := 1000000) (disch := first | exact sd | fail) only [go_sem, Nat.reduceAdd, Nat.reduceSub, Nat.reduceLeDiff, ↓reduceIte, decide_eq_true_eq, if_true, if_false, Bool.false_eq_true, Int.lt_irrefl, implies_true, true_and, and_true, eq_self, and_self, beq_self_eq_true]
  refine aw_loopJ (σ := Nat × Value) (fun s J => [Vv eN l, J 1, .slice none 0 0, s.2, .int .i64 s.1, J 5, J 6, J 7, J 8, J 9, J 10, J 11, J 12, J 13, J 14, J 15, J 16, J 17, J 18, J 19]) (fun i s H1 => i = l.length - s.1 ∧ s.1 ≤ l.length ∧ Hle (E0 N) H1 ∧ QO (E0 N) H1 s.2 (tab s.1 fun i => ((l.getD i 0 : Int) : Rat))) l.length (0, .slice none 0 0) rfl ⟨rfl, Nat.zero_le _, Hle.rfl, VO.nil⟩ ?_
  rintro i ⟨k, sl⟩ J H1 ⟨rfl, hk, hle, ho⟩
  simp only at hk ho
  by_cases h4 : (k : Int) < l.length
  · have et := tab_succ (n := k) (f := fun i => ((l.getD i 0 : Int) : Rat))
    have q1 := p77 (x := l.getD k 0) (hb k)
    generalize ((l.getD k 0 : Int) : Rat) = z at *
    simp (maxSteps := 1000000) (disch := first | exact sd | fail) only [go_sem, Nat.reduceAdd, Nat.reduceSub, Nat.reduceLeDiff, ↓reduceIte, decide_eq_true_eq, if_true, if_false, Bool.false_eq_true, Int.lt_irrefl, implies_true, true_and, and_true, eq_self, and_self, beq_self_eq_true, h4, Int.toNat_natCast]
    refine PC.step (q1) fun m1 j1 => ?_
    try simp only [Heap.next_push, Heap.next_set, Heap.next_kill, next_bump, next_E0] at j1
    have hle3 : Hle H1 ((H1.bump m1).push (.row true 47 [.bool (sgn z.num), Vv eU (lmb z.num), .bool (sgn z.den), Vv eU (lmb z.den)])) := Hle.push (Hle.bump Hle.rfl j1) _
    obtain ⟨v, H4, ea, oa, qa, na⟩ := QO.append1 (ho.mono (Hle.bump Hle.rfl j1)) (Hle.trans hle (Hle.bump Hle.rfl j1)) z (by rw [tab_len]; omega)
    simp only [next_bump] at ea
    simp (maxSteps := 1000000) (disch := first | exact sd | fail) only [go_sem, Nat.reduceAdd, Nat.reduceSub, Nat.reduceLeDiff, ↓reduceIte, decide_eq_true_eq, if_true, if_false, Bool.false_eq_true, Int.lt_irrefl, implies_true, true_and, and_true, eq_self, and_self, beq_self_eq_true, ea]
    exact IJ_intro (k := l.length - (k + 1)) (by omega) (k + 1, v) rfl ⟨rfl, by dsimp only; omega, qa, by rw [et]; exact oa⟩
  · have e : k = l.length := by omega
    subst e
    simp (maxSteps := 1000000) (disch := first | exact sd | fail) only [go_sem, Nat.reduceAdd, Nat.reduceSub, Nat.reduceLeDiff, ↓reduceIte, decide_eq_true_eq, if_true, if_false, Bool.false_eq_true, Int.lt_irrefl, implies_true, true_and, and_true, eq_self, and_self, beq_self_eq_true, h4]
    exact ho.fz T.s55 (by decide)
end Go.Abs

/- Linear problems: the document's example. -/
set_option linter.unusedVariables false
set_option linter.unusedSimpArgs false
namespace Go.Abs
open Go Go.Proofs
set_option maxRecDepth 100000
set_option maxHeartbeats 4000000
def plK6_116_2 : Plan := ⟨[0, 2, 4], [(1, [0], []), (3, [0], []), (5, [0], [6]), (7, [], [8, 9, 11, 13]), (10, [9], []), (12, [9], []), (14, [9], [15]), (16, [], [17, 18, 19])]⟩
theorem s122 {H : Heap} {K : Value → Heap → Prop} {b : Nat} {x : Int} (hx : -9223372036854775808 ≤ x ∧ x ≤ 9223372036854775807) (hg : H.get b = some (.row true 2 [.int .i64 x])) (k : ∀ m, H.next + 1 ≤ m → K (Vv eQ (rowN [x])) ((H.kill b).bump m)) : ACalls Try.prog 47 [.slice (some ⟨b, 0, none⟩) 1 1] H K := by
  refine ACalls.frz1 (es := 1) hg (.inr (Nat.le_refl _)) (by decide) (Nat.le_refl _) ?_
  have q := p122 (l := [x]) (by show 1 ≤ _; omega) fun i => by
    match i with
    | 0 => exact hx
    | i + 1 => exact ⟨by show (_ : Int) ≤ 0; omega, by show (0 : Int) ≤ _; omega⟩
  exact PC.step q fun m hm => k m (by simp only [next_bump] at hm; exact hm)
theorem fzTab {H : Heap} {b : Nat} {l : List RQ} (hg : H.get b = some (.row true 45 [Vv eQ l])) (hb : b < H.next) : FzRel Try.prog H (Vv eR [l]) (.slice (some ⟨b, 0, none⟩) 1 1) :=
  .sl (es := 1) (n := 1) (by decide) (Sl.row (off := 0) hg hb (.inr T.s70) (.inr ⟨Nat.le_refl _, by decide⟩) (Nat.le_refl 1)) .refl
theorem exT : holdsV 1 [rowN [1]] (rowN [3]) (rowN [1]) 1 (rq ((3 : Int) : Rat)) (rowN [3]) (rowN [1]) [] = true := by decide +kernel
theorem exF : holdsV 1 [rowN [1]] (rowN [3]) (rowN [1]) 1 (rq ((2 : Int) : Rat)) (rowN [2]) (rowN [1]) [] = false := by decide +kernel
theorem rg_rq {x : Rat} (h : lq x ≤ 6) : LimQ (rq x) ∧ gq (rq x) = false := by
  refine ⟨⟨lim_z _, lim_z _⟩, ?_⟩
  have h1 := lqn h
  have h2 := lqd h
  unfold gq
  simp
  exact ⟨h1, h2⟩
theorem rg_row {l : List Int} (hl : l.length ≤ 200) (h : ∀ i, i < l.length → ln (l.getD i 0) ≤ 6) : Rg (rowN l) := by
  refine ⟨by unfold rowN; rw [tab_len]; exact hl, fun a ha => ?_⟩
  unfold rowN tab at ha
  obtain ⟨i, hi, rfl⟩ := List.mem_map.1 ha
  have := h i (List.mem_range.1 hi)
  exact rg_rq (Nat.le_trans (lq_int _) (by omega))
theorem rg_one {x : Int} (h : ln x ≤ 6) : Rg (rowN [x]) := rg_row (by show 1 ≤ _; omega) fun i hi => by
  have : i = 0 := by have : ([x] : List Int).length = 1 := rfl; omega
  subst this; exact h
theorem rows_one {r : List RQ} (h : Rg r) (j : Nat) : Rg (rwi [r] j) := by
  match j with
  | 0 => exact h
  | j + 1 => exact Rg.nil
theorem q121 {x : Int} {b : Bool} (hx : ln x ≤ 6) (h : holdsV 1 [rowN [1]] (rowN [3]) (rowN [1]) 1 (rq (x : Rat)) (rowN [x]) (rowN [1]) [] = b) {H : Heap} {K : Value → Heap → Prop} {m : Nat} (hg : H.get m = some (.row true 45 [Vv eQ (rowN [1])])) (hm : m < H.next) (k : K (.bool b) H) :
    ACalls Try.prog 44 [.agg ⟨[.int .i64 1, .slice (some ⟨m, 0, none⟩) 1 1, Vv eQ (rowN [3]), Vv eQ (rowN [1])]⟩, .agg ⟨[.int .i64 1, .bool (sgn (x : Rat).num), Vv eU (lmb (x : Rat).num), .bool (sgn ((x : Rat).den : Int)), Vv eU (lmb ((x : Rat).den : Int)), Vv eQ (rowN [x]), Vv eQ (rowN [1]), .slice none 0 0]⟩] H K := by
  have s1 : ln (1 : Int) ≤ 6 := by have := ln_small (z := 1) (by decide); omega
  have s3 : ln (3 : Int) ≤ 6 := by have := ln_small (z := 3) (by decide); omega
  have q := p121 (n := 1) (k := 1) (A := [rowN [1]]) (B := rowN [3]) (C := rowN [1]) (X := rowN [x]) (Y := rowN [1]) (Z := []) (v := rq (x : Rat)) (by show 1 ≤ _; omega) (rows_one (rg_one s1)) (rg_one s3) (rg_one s1) (rg_one hx) (rg_one s1) Rg.nil (Rz.rq (Nat.le_trans (lq_int _) (by omega)))
  rw [h] at q
  unfold Lpv Anv at q
  exact PC.peek q rfl (.cons (.agg (.cons .rfl (.cons (fzTab hg hm) .refl))) (.cons (.agg (.cons .rfl (.cons .rfl (.cons .rfl (.cons .rfl (.cons .rfl (.cons .rfl (.cons .rfl (.cons (.nz .vnil) .nil))))))))) .nil)) k
theorem p116 : PC Try.prog 39 [] (.bool true) := by
  have s2 : ln (2 : Int) ≤ 6 := by have := ln_small (z := 2) (by decide); omega
  have s3 : ln (3 : Int) ≤ 6 := by have := ln_small (z := 3) (by decide); omega
  refine PC.of .nil (.ground rfl) fun N hN => ?_
  refine ACalls.of_code T.hm (n := 29) Try.func39 rfl rfl rfl rfl ?_; simp only [List.replicate_succ, List.replicate_zero, List.cons_append, List.nil_append]
  have pf {a : List RQ} : pFill (.slice none 0 0) 1 [(0, Vv eQ a)] = some [Vv eQ a] := rfl
  simp (maxSteps := 1000000) (disch := first | exact sd | fail) only [go_sem, Nat.reduceAdd, Nat.reduceSub, Nat.reduceLeDiff, ↓reduceIte, decide_eq_true_eq, if_true, if_false, Bool.false_eq_true, Int.lt_irrefl, implies_true, true_and, and_true, eq_self, and_self, beq_self_eq_true, aw_plan (id := 2) plK6_116_2, plK6_116_2]
  refine s122 (x := 1) (by decide) (by simp (maxSteps := 1000000) (disch := first | exact sd | fail) only [go_sem, Nat.reduceAdd, Nat.reduceSub, Nat.reduceLeDiff, ↓reduceIte, decide_eq_true_eq, if_true, if_false, Bool.false_eq_true, Int.lt_irrefl, implies_true, true_and, and_true, eq_self, and_self, beq_self_eq_true, aw_plan (id := 2) plK6_116_2, plK6_116_2]) fun m1 j1 => ?_
  simp (maxSteps := 1000000) (disch := first | exact sd | fail) only [go_sem, Nat.reduceAdd, Nat.reduceSub, Nat.reduceLeDiff, ↓reduceIte, decide_eq_true_eq, if_true, if_false, Bool.false_eq_true, Int.lt_irrefl, implies_true, true_and, and_true, eq_self, and_self, beq_self_eq_true, aw_plan (id := 2) plK6_116_2, plK6_116_2, pf]
  refine s122 (x := 3) (by decide) (by simp (maxSteps := 1000000) (disch := first | exact sd | fail) only [go_sem, Nat.reduceAdd, Nat.reduceSub, Nat.reduceLeDiff, ↓reduceIte, decide_eq_true_eq, if_true, if_false, Bool.false_eq_true, Int.lt_irrefl, implies_true, true_and, and_true, eq_self, and_self, beq_self_eq_true, aw_plan (id := 2) plK6_116_2, plK6_116_2]) fun m2 j2 => ?_
  simp (maxSteps := 1000000) (disch := first | exact sd | fail) only [go_sem, Nat.reduceAdd, Nat.reduceSub, Nat.reduceLeDiff, ↓reduceIte, decide_eq_true_eq, if_true, if_false, Bool.false_eq_true, Int.lt_irrefl, implies_true, true_and, and_true, eq_self, and_self, beq_self_eq_true, aw_plan (id := 2) plK6_116_2, plK6_116_2, pf]
  refine s122 (x := 1) (by decide) (by simp (maxSteps := 1000000) (disch := first | exact sd | fail) only [go_sem, Nat.reduceAdd, Nat.reduceSub, Nat.reduceLeDiff, ↓reduceIte, decide_eq_true_eq, if_true, if_false, Bool.false_eq_true, Int.lt_irrefl, implies_true, true_and, and_true, eq_self, and_self, beq_self_eq_true, aw_plan (id := 2) plK6_116_2, plK6_116_2]) fun m3 j3 => ?_
  simp (maxSteps := 1000000) (disch := first | exact sd | fail) only [go_sem, Nat.reduceAdd, Nat.reduceSub, Nat.reduceLeDiff, ↓reduceIte, decide_eq_true_eq, if_true, if_false, Bool.false_eq_true, Int.lt_irrefl, implies_true, true_and, and_true, eq_self, and_self, beq_self_eq_true, aw_plan (id := 2) plK6_116_2, plK6_116_2, pf]
  simp only [Heap.next_push, next_bump, Heap.next_kill, next_E0] at j1 j2 j3
  generalize hH : Heap.push (Heap.push (Heap.set _ _ _) (AObj.row true 2 [.int .i64 3])) (AObj.row true 2 [.int .i64 1]) = H
  have nH : H.next = m3 + 3 := by rw [← hH]; simp only [Heap.next_push, Heap.next_set, next_bump, Heap.next_kill]
  have g1 : H.get m1 = some (.row true 45 [Vv eQ (rowN [1])]) := by rw [← hH]; simp (maxSteps := 1000000) (disch := first | exact sd | fail) only [go_sem, Nat.reduceAdd, Nat.reduceSub, Nat.reduceLeDiff, ↓reduceIte, decide_eq_true_eq, if_true, if_false, Bool.false_eq_true, Int.lt_irrefl, implies_true, true_and, and_true, eq_self, and_self, beq_self_eq_true, aw_plan (id := 2) plK6_116_2, plK6_116_2]
  have gp : H.get m3 = some (.row true 62 [.int .i64 1, .slice (some ⟨m1, 0, none⟩) 1 1, Vv eQ (rowN [3]), Vv eQ (rowN [1])]) := by rw [← hH]; simp (maxSteps := 1000000) (disch := first | exact sd | fail) only [go_sem, Nat.reduceAdd, Nat.reduceSub, Nat.reduceLeDiff, ↓reduceIte, decide_eq_true_eq, if_true, if_false, Bool.false_eq_true, Int.lt_irrefl, implies_true, true_and, and_true, eq_self, and_self, beq_self_eq_true, aw_plan (id := 2) plK6_116_2, plK6_116_2]
  have ga : H.get (m3 + 1) = some (.row true 2 [.int .i64 3]) := by rw [← hH]; simp (maxSteps := 1000000) (disch := first | exact sd | fail) only [go_sem, Nat.reduceAdd, Nat.reduceSub, Nat.reduceLeDiff, ↓reduceIte, decide_eq_true_eq, if_true, if_false, Bool.false_eq_true, Int.lt_irrefl, implies_true, true_and, and_true, eq_self, and_self, beq_self_eq_true, aw_plan (id := 2) plK6_116_2, plK6_116_2]
  have gb : H.get (m3 + 2) = some (.row true 2 [.int .i64 1]) := by rw [← hH]; simp (maxSteps := 1000000) (disch := first | exact sd | fail) only [go_sem, Nat.reduceAdd, Nat.reduceSub, Nat.reduceLeDiff, ↓reduceIte, decide_eq_true_eq, if_true, if_false, Bool.false_eq_true, Int.lt_irrefl, implies_true, true_and, and_true, eq_self, and_self, beq_self_eq_true, aw_plan (id := 2) plK6_116_2, plK6_116_2]
  clear hH
  refine PC.step (p77 (x := 3) (by omega)) fun m4 j4 => ?_
  try simp only [Heap.next_push, Heap.next_set, Heap.next_kill, next_bump, next_E0] at j4
  simp (maxSteps := 1000000) (disch := first | exact sd | fail) only [go_sem, Nat.reduceAdd, Nat.reduceSub, Nat.reduceLeDiff, ↓reduceIte, decide_eq_true_eq, if_true, if_false, Bool.false_eq_true, Int.lt_irrefl, implies_true, true_and, and_true, eq_self, and_self, beq_self_eq_true, aw_plan (id := 2) plK6_116_2, plK6_116_2, gp]
  refine s122 (x := 3) (by decide) (by simp (maxSteps := 1000000) (disch := first | exact sd | fail) only [go_sem, Nat.reduceAdd, Nat.reduceSub, Nat.reduceLeDiff, ↓reduceIte, decide_eq_true_eq, if_true, if_false, Bool.false_eq_true, Int.lt_irrefl, implies_true, true_and, and_true, eq_self, and_self, beq_self_eq_true, aw_plan (id := 2) plK6_116_2, plK6_116_2, ga]) fun m5 j5 => ?_
  simp (maxSteps := 1000000) (disch := first | exact sd | fail) only [go_sem, Nat.reduceAdd, Nat.reduceSub, Nat.reduceLeDiff, ↓reduceIte, decide_eq_true_eq, if_true, if_false, Bool.false_eq_true, Int.lt_irrefl, implies_true, true_and, and_true, eq_self, and_self, beq_self_eq_true, aw_plan (id := 2) plK6_116_2, plK6_116_2, gp]
  refine s122 (x := 1) (by decide) (by simp (maxSteps := 1000000) (disch := first | exact sd | fail) only [go_sem, Nat.reduceAdd, Nat.reduceSub, Nat.reduceLeDiff, ↓reduceIte, decide_eq_true_eq, if_true, if_false, Bool.false_eq_true, Int.lt_irrefl, implies_true, true_and, and_true, eq_self, and_self, beq_self_eq_true, aw_plan (id := 2) plK6_116_2, plK6_116_2, gb]) fun m6 j6 => ?_
  simp (maxSteps := 1000000) (disch := first | exact sd | fail) only [go_sem, Nat.reduceAdd, Nat.reduceSub, Nat.reduceLeDiff, ↓reduceIte, decide_eq_true_eq, if_true, if_false, Bool.false_eq_true, Int.lt_irrefl, implies_true, true_and, and_true, eq_self, and_self, beq_self_eq_true, aw_plan (id := 2) plK6_116_2, plK6_116_2, gp]
  simp only [Heap.next_push, next_bump, Heap.next_kill] at j4 j5 j6
  refine q121 (x := 3) s3 exT (m := m1) (by simp (maxSteps := 1000000) (disch := first | exact sd | fail) only [go_sem, Nat.reduceAdd, Nat.reduceSub, Nat.reduceLeDiff, ↓reduceIte, decide_eq_true_eq, if_true, if_false, Bool.false_eq_true, Int.lt_irrefl, implies_true, true_and, and_true, eq_self, and_self, beq_self_eq_true, aw_plan (id := 2) plK6_116_2, plK6_116_2, g1]) (by simp only [Heap.next_push, next_bump, Heap.next_kill]; omega) ?_
  simp (maxSteps := 1000000) (disch := first | exact sd | fail) only [go_sem, Nat.reduceAdd, Nat.reduceSub, Nat.reduceLeDiff, ↓reduceIte, decide_eq_true_eq, if_true, if_false, Bool.false_eq_true, Int.lt_irrefl, implies_true, true_and, and_true, eq_self, and_self, beq_self_eq_true, aw_plan (id := 2) plK6_116_2, plK6_116_2, gp]
  refine PC.step (p77 (x := 2) (by omega)) fun m7 j7 => ?_
  try simp only [Heap.next_push, Heap.next_set, Heap.next_kill, next_bump, next_E0] at j7
  simp (maxSteps := 1000000) (disch := first | exact sd | fail) only [go_sem, Nat.reduceAdd, Nat.reduceSub, Nat.reduceLeDiff, ↓reduceIte, decide_eq_true_eq, if_true, if_false, Bool.false_eq_true, Int.lt_irrefl, implies_true, true_and, and_true, eq_self, and_self, beq_self_eq_true, aw_plan (id := 2) plK6_116_2, plK6_116_2, gp]
  refine s122 (x := 2) (by decide) (by simp (maxSteps := 1000000) (disch := first | exact sd | fail) only [go_sem, Nat.reduceAdd, Nat.reduceSub, Nat.reduceLeDiff, ↓reduceIte, decide_eq_true_eq, if_true, if_false, Bool.false_eq_true, Int.lt_irrefl, implies_true, true_and, and_true, eq_self, and_self, beq_self_eq_true, aw_plan (id := 2) plK6_116_2, plK6_116_2]) fun m8 j8 => ?_
  simp (maxSteps := 1000000) (disch := first | exact sd | fail) only [go_sem, Nat.reduceAdd, Nat.reduceSub, Nat.reduceLeDiff, ↓reduceIte, decide_eq_true_eq, if_true, if_false, Bool.false_eq_true, Int.lt_irrefl, implies_true, true_and, and_true, eq_self, and_self, beq_self_eq_true, aw_plan (id := 2) plK6_116_2, plK6_116_2, gp]
  refine s122 (x := 1) (by decide) (by simp (maxSteps := 1000000) (disch := first | exact sd | fail) only [go_sem, Nat.reduceAdd, Nat.reduceSub, Nat.reduceLeDiff, ↓reduceIte, decide_eq_true_eq, if_true, if_false, Bool.false_eq_true, Int.lt_irrefl, implies_true, true_and, and_true, eq_self, and_self, beq_self_eq_true, aw_plan (id := 2) plK6_116_2, plK6_116_2]) fun m9 j9 => ?_
  simp (maxSteps := 1000000) (disch := first | exact sd | fail) only [go_sem, Nat.reduceAdd, Nat.reduceSub, Nat.reduceLeDiff, ↓reduceIte, decide_eq_true_eq, if_true, if_false, Bool.false_eq_true, Int.lt_irrefl, implies_true, true_and, and_true, eq_self, and_self, beq_self_eq_true, aw_plan (id := 2) plK6_116_2, plK6_116_2, gp]
  simp only [Heap.next_push, next_bump, Heap.next_kill] at j7 j8 j9
  refine q121 (x := 2) s2 exF (m := m1) (by simp (maxSteps := 1000000) (disch := first | exact sd | fail) only [go_sem, Nat.reduceAdd, Nat.reduceSub, Nat.reduceLeDiff, ↓reduceIte, decide_eq_true_eq, if_true, if_false, Bool.false_eq_true, Int.lt_irrefl, implies_true, true_and, and_true, eq_self, and_self, beq_self_eq_true, aw_plan (id := 2) plK6_116_2, plK6_116_2, g1]) (by simp only [Heap.next_push, next_bump, Heap.next_kill]; omega) ?_
  simp (maxSteps := 1000000) (disch := first | exact sd | fail) only [go_sem, Nat.reduceAdd, Nat.reduceSub, Nat.reduceLeDiff, ↓reduceIte, decide_eq_true_eq, if_true, if_false, Bool.false_eq_true, Int.lt_irrefl, implies_true, true_and, and_true, eq_self, and_self, beq_self_eq_true, aw_plan (id := 2) plK6_116_2, plK6_116_2]
  exact .rfl
end Go.Abs

/- Linear problems: arguments of laws. -/
set_option linter.unusedVariables false
set_option linter.unusedSimpArgs false
namespace Go.Abs
open Go Go.Proofs
set_option maxRecDepth 100000
set_option maxHeartbeats 4000000
def LimR (l : List RQ) : Prop := l.length ≤ maxLen ∧ ∀ a ∈ l, LimQ a
def LimT (A : List (List RQ)) : Prop := A.length ≤ maxLen ∧ ∀ r ∈ A, r.length ≤ maxLen ∧ ∀ a ∈ r, LimQ a
theorem FArg.lp {m : Nat} {p : Value} (h : FArg Try.prog (m + 8) 62 p) : ∃ (n : Int) (A : List (List RQ)) (B C : List RQ), p = Lpv n A B C ∧ LimT A ∧ LimR B ∧ LimR C := by
  obtain ⟨cs, rfl, h1⟩ := h.struct Try.underlying62
  obtain ⟨h1, h2⟩ := h1.struct Try.underlying62
  rw [T.s107] at h1
  have a1 := h2 _ (List.Mem.head _)
  have a2 := h2 _ (List.Mem.tail _ (List.Mem.head _))
  have a3 := h2 _ (List.Mem.tail _ (List.Mem.tail _ (List.Mem.head _)))
  have a4 := h2 _ (List.Mem.tail _ (List.Mem.tail _ (List.Mem.tail _ (List.Mem.head _))))
  simp only [T.s3, T.s72, T.s70, List.drop_zero] at a1 a2 a3 a4
  obtain ⟨n, e1, k1⟩ := FGood.int (n := m + 6) a1 Try.underlying3
  obtain ⟨A, e2, k2, l2⟩ := fgood_table (n := m + 1) a2
  obtain ⟨B, e3, k3, l3⟩ := fgood_rats (n := m + 2) a3
  obtain ⟨C, e4, k4, l4⟩ := fgood_rats (n := m + 2) a4
  refine ⟨n, A, B, C, ?_, ⟨k2, l2⟩, ⟨k3, l3⟩, ⟨k4, l4⟩⟩
  match cs, h1 with
  | [x, y, z, w], _ =>
    simp at e1 e2 e3 e4
    rw [e1, e2, e3, e4]
    rfl
theorem LimR.nil : LimR [] := ⟨Nat.zero_le _, fun a ha => by cases ha⟩
theorem LimQ.d : LimQ eQ.d := ⟨Lim.nil, Lim.nil⟩
end Go.Abs
