/- VecSides, on values. -/
import Derived.Test.YtoahhljnnjekiaaV16
set_option linter.unusedVariables false
set_option linter.unusedSimpArgs false
namespace Go.Abs
open Go Go.Proofs
set_option maxRecDepth 100000
set_option maxHeartbeats 40000000
theorem Rg.cutR {r : List RQ} {n : Nat} (h : Rg r) (hn : n ≤ 200) : Rg (cutR r n) := by
  refine ⟨by rw [cutR_len]; exact hn, fun a ha => ?_⟩
  unfold Abs.cutR cutP at ha
  rcases List.mem_append.1 ha with ha | ha
  · exact h.2 a (List.mem_of_mem_take ha)
  · obtain ⟨i, hi, rfl⟩ := List.mem_map.1 ha
    have hi := List.mem_range.1 hi
    have h1 := lq_int ((min r.length n + i : Nat) : Int)
    have h2 := ln_small (z := ((min r.length n + i : Nat) : Int)) (by omega)
    have h3 := lqn (x := (((min r.length n + i : Nat) : Int) : Rat)) (K := 1) (by omega)
    have h4 := lqd (x := (((min r.length n + i : Nat) : Int) : Rat)) (K := 1) (by omega)
    refine ⟨⟨lim_z _, lim_z _⟩, ?_⟩
    unfold gq
    simp only [Bool.or_eq_false_iff, decide_eq_false_iff_not]
    exact ⟨by show ¬ 6 < ln _; omega, by show ¬ 6 < ln _; omega⟩
theorem sides {y x : List RQ} {m : List (List RQ)} {w : Nat} (hy : y.length = m.length) (hr : okT m w) (hx : x.length = w) : dotV (leftV y m w) x = dotV y (timesV m x) := by
  unfold dotV leftV timesV
  rw [lefP_len, hy]
  have e1 : sumI w (fun i => ev (lefP y m w m.length) i * ev x i) = sumI w fun i => sumI m.length fun j => ev y j * ev (rwi m j) i * ev x i := by
    refine sumI_congr fun i hi => ?_
    unfold lefP
    rw [ev_tab hi, ← sumI_mulr]
  have e2 : sumI m.length (fun i => ev y i * ev (tab m.length fun i => dotV (rwi m i) x) i) = sumI m.length fun j => sumI w fun i => ev y j * ev (rwi m j) i * ev x i := by
    refine sumI_congr fun j hj => ?_
    rw [ev_tab hj]
    unfold dotV
    rw [hr j hj, ← sumI_mul]
    exact sumI_congr fun i _ => (Rat.mul_assoc _ _ _).symm
  rw [e1, e2, sumI_swap]
theorem frz_R {H : Heap} {K : Value → Heap → Prop} {g : FuncId} {b : Nat} {y : List RQ} {ps : List Value} {r : Value} (hg : H.get b = some (.row true 46 [Vv eQ y])) (hp : PC Try.prog g (Vv eR [y] :: ps) r) (k : ∀ m, H.next + 1 ≤ m → K r ((H.kill b).bump m)) : ACalls Try.prog g (.slice (some ⟨b, 0, none⟩) 1 1 :: ps) H K :=
  ACalls.frz1 (es := 1) hg (.inr (Nat.le_refl _)) (by decide) (by simp) (PC.step hp fun m hm => k m hm)
theorem q21 {m : List (List RQ)} {x y : List RQ} (hm : m.length ≤ maxLen ∧ ∀ r ∈ m, r.length ≤ maxLen ∧ ∀ a ∈ r, LimQ a) (hx : x.length ≤ maxLen ∧ ∀ a ∈ x, LimQ a) (hy : y.length ≤ maxLen ∧ ∀ a ∈ y, LimQ a) :
    PC Try.prog 9 [Vv eR m, Vv eQ x, Vv eQ y] (.bool true) := by
  refine PC.of (.cons pu_Rs (.cons pu_Qs (.cons pu_Qs .nil))) (.ground rfl) fun N hN => ?_
  refine ACalls.of_code T.hm (n := 89) Try.func9 rfl rfl rfl rfl ?_; simp only [List.replicate_succ, List.replicate_zero, List.cons_append, List.nil_append]
  simp (maxSteps := 1000000) (disch := first | exact sd | fail) only [go_sem, Nat.reduceAdd, Nat.reduceSub, Nat.reduceLeDiff, ↓reduceIte, decide_eq_true_eq, if_true, if_false, Bool.false_eq_true, Int.lt_irrefl, implies_true, true_and, and_true, eq_self, and_self, beq_self_eq_true]
  refine PK.step (p83 hm.1 (rows_len fun r hr => (hm.2 r hr).1)) ?_
  rintro _ m1 ⟨c, rfl, hc⟩ j1
  cases c with
  | true =>
    simp (maxSteps := 1000000) (disch := first | exact sd | fail) only [go_sem, Nat.reduceAdd, Nat.reduceSub, Nat.reduceLeDiff, ↓reduceIte, decide_eq_true_eq, if_true, if_false, Bool.false_eq_true, Int.lt_irrefl, implies_true, true_and, and_true, eq_self, and_self, beq_self_eq_true]
    refine PC.step (p84) fun m2 j2 => ?_
    try simp only [Heap.next_push, Heap.next_set, Heap.next_kill, next_bump, next_E0] at j2
    simp (maxSteps := 1000000) (disch := first | exact sd | fail) only [go_sem, Nat.reduceAdd, Nat.reduceSub, Nat.reduceLeDiff, ↓reduceIte, decide_eq_true_eq, if_true, if_false, Bool.false_eq_true, Int.lt_irrefl, implies_true, true_and, and_true, eq_self, and_self, beq_self_eq_true]
    exact .rfl
  | false =>
    have hc := hc rfl
    have gm := hc.rows fun r hr => (hm.2 r hr).2
    simp (maxSteps := 1000000) (disch := first | exact sd | fail) only [go_sem, Nat.reduceAdd, Nat.reduceSub, Nat.reduceLeDiff, ↓reduceIte, decide_eq_true_eq, if_true, if_false, Bool.false_eq_true, Int.lt_irrefl, implies_true, true_and, and_true, eq_self, and_self, beq_self_eq_true]
    refine s83 (ls := [x, y]) (by simp (maxSteps := 1000000) (disch := first | exact sd | fail) only [go_sem, Nat.reduceAdd, Nat.reduceSub, Nat.reduceLeDiff, ↓reduceIte, decide_eq_true_eq, if_true, if_false, Bool.false_eq_true, Int.lt_irrefl, implies_true, true_and, and_true, eq_self, and_self, beq_self_eq_true]; rfl) (by simp (maxSteps := 1000000) (disch := first | exact sd | fail) only [go_sem, Nat.reduceAdd, Nat.reduceSub, Nat.reduceLeDiff, ↓reduceIte, decide_eq_true_eq, if_true, if_false, Bool.false_eq_true, Int.lt_irrefl, implies_true, true_and, and_true, eq_self, and_self, beq_self_eq_true]; omega) rfl rfl (by simp) (two_len hx.1 hy.1) ?_
    rintro c hc2
    cases c with
    | true =>
      simp (maxSteps := 1000000) (disch := first | exact sd | fail) only [go_sem, Nat.reduceAdd, Nat.reduceSub, Nat.reduceLeDiff, ↓reduceIte, decide_eq_true_eq, if_true, if_false, Bool.false_eq_true, Int.lt_irrefl, implies_true, true_and, and_true, eq_self, and_self, beq_self_eq_true]
      refine PC.step (p84) fun m2 j2 => ?_
      try simp only [Heap.next_push, Heap.next_set, Heap.next_kill, next_bump, next_E0] at j2
      simp (maxSteps := 1000000) (disch := first | exact sd | fail) only [go_sem, Nat.reduceAdd, Nat.reduceSub, Nat.reduceLeDiff, ↓reduceIte, decide_eq_true_eq, if_true, if_false, Bool.false_eq_true, Int.lt_irrefl, implies_true, true_and, and_true, eq_self, and_self, beq_self_eq_true]
      exact .rfl
    | false =>
      have hc2 := hc2 rfl
      have gx := hc2.at (j := 0) (by simp) (l := x) rfl hx.2
      have gy := hc2.at (j := 1) (by simp) (l := y) rfl hy.2
      have h200 := hc.1
      have hxl := gx.1
      have hyl := gy.1
      obtain ⟨w, hw⟩ : ∃ w : Nat, w = min x.length 5 := ⟨_, rfl⟩
      have ew : (if (5 : Int) < x.length then (5 : Int) else x.length) = (w : Int) := by split <;> omega
      have w0 : (0 : Int) ≤ w := by omega
      have w1 : (w : Int) ≤ x.length := by omega
      have gxw : Rg (x.take w) := ⟨by rw [List.length_take]; omega, fun a ha => gx.2 a (List.mem_of_mem_take ha)⟩
      have lxw : (x.take w).length = w := by rw [List.length_take]; omega
      have gm' (j : Nat) : Rg (rwi (cutV m w) j) := by
        rcases Nat.lt_or_ge j m.length with hj | hj
        · rw [rwi_cutV hj]; exact (gm j).cutR (by omega)
        · rw [rwi_ge (by rw [cutV_len]; exact hj)]; exact Rg.nil
      have lm : (cutV m w).length = m.length := cutV_len
      have hok : okT (cutV m w) w := fun j hj => by rw [rwi_cutV (by rw [lm] at hj; exact hj), cutR_len]
      have q1 := p96 (m := m) (n := w) (by omega) (by omega) (fun j => by have := (gm j).1; omega)
      have q2 := p96 (m := [y]) (n := m.length) (by simp) (by omega) (fun j => by
        match j with
        | 0 => show y.length ≤ _; omega
        | j + 1 => show ([] : List RQ).length ≤ _; decide)
      have e2 : (cutV [y] m.length).getD 0 [] = cutR y m.length := rfl
      have l2 : (0 : Int) < (cutV [y] m.length).length := by rw [cutV_len]; simp
      have gy' : Rg (cutR y m.length) := gy.cutR (by omega)
      have ly' : (cutR y m.length).length = m.length := cutR_len
      simp (maxSteps := 1000000) (disch := first | exact sd | fail) only [go_sem, Nat.reduceAdd, Nat.reduceSub, Nat.reduceLeDiff, ↓reduceIte, decide_eq_true_eq, if_true, if_false, Bool.false_eq_true, Int.lt_irrefl, implies_true, true_and, and_true, eq_self, and_self, beq_self_eq_true, ew]
      refine PC.step (q1) fun m2 j2 => ?_
      try simp only [Heap.next_push, Heap.next_set, Heap.next_kill, next_bump, next_E0] at j2
      simp (maxSteps := 1000000) (disch := first | exact sd | fail) only [go_sem, Nat.reduceAdd, Nat.reduceSub, Nat.reduceLeDiff, ↓reduceIte, decide_eq_true_eq, if_true, if_false, Bool.false_eq_true, Int.lt_irrefl, implies_true, true_and, and_true, eq_self, and_self, beq_self_eq_true, w0, w1, Int.toNat_natCast]
      rw [lm]
      refine frz_R (by simp (maxSteps := 1000000) (disch := first | exact sd | fail) only [go_sem, Nat.reduceAdd, Nat.reduceSub, Nat.reduceLeDiff, ↓reduceIte, decide_eq_true_eq, if_true, if_false, Bool.false_eq_true, Int.lt_irrefl, implies_true, true_and, and_true, eq_self, and_self, beq_self_eq_true]; rfl) q2 fun m3 j3 => ?_
      simp (maxSteps := 1000000) (disch := first | exact sd | fail) only [go_sem, Nat.reduceAdd, Nat.reduceSub, Nat.reduceLeDiff, ↓reduceIte, decide_eq_true_eq, if_true, if_false, Bool.false_eq_true, Int.lt_irrefl, implies_true, true_and, and_true, eq_self, and_self, beq_self_eq_true, l2, Int.toNat_zero, e2]
      generalize cutV m w = M at *
      generalize cutR y m.length = Y at *
      generalize x.take w = X at *
      have hokL : okL Y M w := ⟨by omega, by omega, by omega, fun j hj => by rw [hok j hj]⟩
      obtain ⟨z1, z2⟩ := Rg.left (n := w) (by omega) (by omega) gm' gy'
      have z3 := Rg.times (by omega) gm' gxw
      have q4 := p94 (n := w) (by omega) gy'.rw (fun j => (gm' j).rw) (fun j k => gy'.prod (gm' j) j k) (by omega) (by omega) hokL
      rw [Int.toNat_natCast] at q4
      have d1 := lq_dot z1 gxw.rw
      have es := sides (y := Y) (x := X) (m := M) (w := w) (by omega) hok lxw
      refine PC.step (q4) fun m4 j4 => ?_
      try simp only [Heap.next_push, Heap.next_set, Heap.next_kill, next_bump, next_E0] at j4
      simp (maxSteps := 1000000) (disch := first | exact sd | fail) only [go_sem, Nat.reduceAdd, Nat.reduceSub, Nat.reduceLeDiff, ↓reduceIte, decide_eq_true_eq, if_true, if_false, Bool.false_eq_true, Int.lt_irrefl, implies_true, true_and, and_true, eq_self, and_self, beq_self_eq_true]
      refine PC.step (p92 (by omega) (fun j => (gm' j).rw) gxw.rw (by rw [lxw]; exact hok)) fun m5 j5 => ?_
      try simp only [Heap.next_push, Heap.next_set, Heap.next_kill, next_bump, next_E0] at j5
      simp (maxSteps := 1000000) (disch := first | exact sd | fail) only [go_sem, Nat.reduceAdd, Nat.reduceSub, Nat.reduceLeDiff, ↓reduceIte, decide_eq_true_eq, if_true, if_false, Bool.false_eq_true, Int.lt_irrefl, implies_true, true_and, and_true, eq_self, and_self, beq_self_eq_true]
      refine PC.step (p85 z1 gxw.rw (by unfold leftV; rw [lefP_len]; omega)) fun m6 j6 => ?_
      try simp only [Heap.next_push, Heap.next_set, Heap.next_kill, next_bump, next_E0] at j6
      simp (maxSteps := 1000000) (disch := first | exact sd | fail) only [go_sem, Nat.reduceAdd, Nat.reduceSub, Nat.reduceLeDiff, ↓reduceIte, decide_eq_true_eq, if_true, if_false, Bool.false_eq_true, Int.lt_irrefl, implies_true, true_and, and_true, eq_self, and_self, beq_self_eq_true]
      refine PC.step (p85 gy'.rw z3 (by unfold timesV; rw [tab_len]; omega)) fun m7 j7 => ?_
      try simp only [Heap.next_push, Heap.next_set, Heap.next_kill, next_bump, next_E0] at j7
      simp (maxSteps := 1000000) (disch := first | exact sd | fail) only [go_sem, Nat.reduceAdd, Nat.reduceSub, Nat.reduceLeDiff, ↓reduceIte, decide_eq_true_eq, if_true, if_false, Bool.false_eq_true, Int.lt_irrefl, implies_true, true_and, and_true, eq_self, and_self, beq_self_eq_true]
      refine PC.step (p45) fun m8 j8 => ?_
      try simp only [Heap.next_push, Heap.next_set, Heap.next_kill, next_bump, next_E0] at j8
      simp (maxSteps := 1000000) (disch := first | exact sd | fail) only [go_sem, Nat.reduceAdd, Nat.reduceSub, Nat.reduceLeDiff, ↓reduceIte, decide_eq_true_eq, if_true, if_false, Bool.false_eq_true, Int.lt_irrefl, implies_true, true_and, and_true, eq_self, and_self, beq_self_eq_true]
      refine PC.step (p45) fun m9 j9 => ?_
      try simp only [Heap.next_push, Heap.next_set, Heap.next_kill, next_bump, next_E0] at j9
      simp (maxSteps := 1000000) (disch := first | exact sd | fail) only [go_sem, Nat.reduceAdd, Nat.reduceSub, Nat.reduceLeDiff, ↓reduceIte, decide_eq_true_eq, if_true, if_false, Bool.false_eq_true, Int.lt_irrefl, implies_true, true_and, and_true, eq_self, and_self, beq_self_eq_true]
      refine PC.step (p45) fun m10 j10 => ?_
      try simp only [Heap.next_push, Heap.next_set, Heap.next_kill, next_bump, next_E0] at j10
      simp (maxSteps := 1000000) (disch := first | exact sd | fail) only [go_sem, Nat.reduceAdd, Nat.reduceSub, Nat.reduceLeDiff, ↓reduceIte, decide_eq_true_eq, if_true, if_false, Bool.false_eq_true, Int.lt_irrefl, implies_true, true_and, and_true, eq_self, and_self, beq_self_eq_true]
      refine PC.step (p45) fun m11 j11 => ?_
      try simp only [Heap.next_push, Heap.next_set, Heap.next_kill, next_bump, next_E0] at j11
      simp (maxSteps := 1000000) (disch := first | exact sd | fail) only [go_sem, Nat.reduceAdd, Nat.reduceSub, Nat.reduceLeDiff, ↓reduceIte, decide_eq_true_eq, if_true, if_false, Bool.false_eq_true, Int.lt_irrefl, implies_true, true_and, and_true, eq_self, and_self, beq_self_eq_true]
      refine PC.step (p75t (by omega) es) fun m12 j12 => ?_
      try simp only [Heap.next_push, Heap.next_set, Heap.next_kill, next_bump, next_E0] at j12
      simp (maxSteps := 1000000) (disch := first | exact sd | fail) only [go_sem, Nat.reduceAdd, Nat.reduceSub, Nat.reduceLeDiff, ↓reduceIte, decide_eq_true_eq, if_true, if_false, Bool.false_eq_true, Int.lt_irrefl, implies_true, true_and, and_true, eq_self, and_self, beq_self_eq_true]
      refine PC.step (p84) fun m13 j13 => ?_
      try simp only [Heap.next_push, Heap.next_set, Heap.next_kill, next_bump, next_E0] at j13
      simp (maxSteps := 1000000) (disch := first | exact sd | fail) only [go_sem, Nat.reduceAdd, Nat.reduceSub, Nat.reduceLeDiff, ↓reduceIte, decide_eq_true_eq, if_true, if_false, Bool.false_eq_true, Int.lt_irrefl, implies_true, true_and, and_true, eq_self, and_self, beq_self_eq_true]
      exact .rfl
theorem lawVecSides {H : Heap} {xs : List Value} (hf : ∀ b, H.next ≤ b → H.get b = none) (hg : GoodArgs Try.prog H 8 [48, 46, 46] xs) : ACalls Try.prog 9 xs H fun v _ => v = .bool true := by
  obtain ⟨ps, h1, h2, h3⟩ := args_frz hf (by intro t ht; simp only [List.mem_cons, List.not_mem_nil, or_false] at ht; rcases ht with rfl | rfl | rfl <;> kernel_rfl) hg
  obtain ⟨p0, ps0, rfl, a0, r0⟩ := h3.cons
  obtain ⟨m, rfl, hm⟩ := a0.table
  obtain ⟨p1, ps1, rfl, a1, r1⟩ := r0.cons
  obtain ⟨x, rfl, hx⟩ := a1.rats
  obtain ⟨p2, ps2, rfl, a2, r2⟩ := r1.cons
  obtain ⟨y, rfl, hy⟩ := a2.rats
  obtain rfl := r2.nil
  exact (q21 hm hx hy).law h1
end Go.Abs
