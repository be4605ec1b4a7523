/- VecLong, on values. -/
import Derived.Test.YtfadclnaahanmaaV18
import Derived.Test.YtfadclnaahanmaaL21
set_option linter.unusedVariables false
set_option linter.unusedSimpArgs false
namespace Go.Abs
open Go Go.Proofs
set_option maxRecDepth 100000
set_option maxHeartbeats 40000000
theorem gen_c {P : Program} {g : FuncId} {args : List Value} {H : Heap} {K : Value → Heap → Prop} (h : ∀ G, G = H → ACalls P g args G K) : ACalls P g args H K := h H rfl
theorem q23 {a : List RQ} {t : RQ} {n : Int} (ha : a.length ≤ maxLen ∧ ∀ x ∈ a, LimQ x) (hn : 0 ≤ n ∧ n < 256) : PC Try.prog 9 [Vv eQ a, .agg ⟨eQ.enc t⟩, .int .u8 n] (.bool true) := by
  refine PC.of (.cons pu_Qs (.cons pu_r4 (.cons (.ground rfl) .nil))) (.ground rfl) fun N hN => ?_
  have haL : a.length ≤ 9223372036854775807 := ha.1
  obtain ⟨k, hk⟩ : ∃ k : Nat, (k : Int) = 1 + n.tmod 5 := ⟨(1 + n.tmod 5).toNat, by have := Int.tmod_nonneg 5 hn.1; omega⟩
  have hk5 : k ≤ 5 := by have := Int.tmod_lt_of_pos n (show (0 : Int) < 5 by decide); omega
  have hk0 : 0 < k := by have := Int.tmod_nonneg 5 hn.1; omega
  have w1 : IntKind.i64.wrap n = n := wrap_i64 (by omega) (by omega)
  refine ACalls.of_code T.hm (n := 122) Try.func9 rfl rfl rfl rfl ?_; simp only [List.replicate_succ, List.replicate_zero, List.cons_append, List.nil_append]
  simp (maxSteps := 1000000) (disch := first | exact sd | fail) only [go_sem, Nat.reduceAdd, Nat.reduceSub, Nat.reduceLeDiff, ↓reduceIte, decide_eq_true_eq, if_true, if_false, Bool.false_eq_true, Int.lt_irrefl, implies_true, true_and, and_true, eq_self, and_self, beq_self_eq_true]
  refine gen_c fun G hG => ?_
  have gN : G.get N = some (.row true 47 [.bool t.p.neg, Vv eU t.p.l, .bool t.q.neg, Vv eU t.q.l]) := by rw [hG]; simp (maxSteps := 1000000) (disch := first | exact sd | fail) only [go_sem, Nat.reduceAdd, Nat.reduceSub, Nat.reduceLeDiff, ↓reduceIte, decide_eq_true_eq, if_true, if_false, Bool.false_eq_true, Int.lt_irrefl, implies_true, true_and, and_true, eq_self, and_self, beq_self_eq_true]
  have g1 : G.get (N + 1) = some (.row true 45 [Vv eQ a]) := by rw [hG]; simp (maxSteps := 1000000) (disch := first | exact sd | fail) only [go_sem, Nat.reduceAdd, Nat.reduceSub, Nat.reduceLeDiff, ↓reduceIte, decide_eq_true_eq, if_true, if_false, Bool.false_eq_true, Int.lt_irrefl, implies_true, true_and, and_true, eq_self, and_self, beq_self_eq_true]; rfl
  have nG : G.next = N + 2 := by rw [hG]; simp (maxSteps := 1000000) (disch := first | exact sd | fail) only [go_sem, Nat.reduceAdd, Nat.reduceSub, Nat.reduceLeDiff, ↓reduceIte, decide_eq_true_eq, if_true, if_false, Bool.false_eq_true, Int.lt_irrefl, implies_true, true_and, and_true, eq_self, and_self, beq_self_eq_true]
  clear hG
  refine s83 (ls := [a]) g1 (by omega) rfl rfl (by simp) (fun j => by
    match j with
    | 0 => exact haL
    | j + 1 => show ([] : List RQ).length ≤ _; decide) ?_
  rintro c hc
  cases c with
  | true =>
    simp (maxSteps := 1000000) (disch := first | exact sd | fail) only [go_sem, Nat.reduceAdd, Nat.reduceSub, Nat.reduceLeDiff, ↓reduceIte, decide_eq_true_eq, if_true, if_false, Bool.false_eq_true, Int.lt_irrefl, implies_true, true_and, and_true, eq_self, and_self, beq_self_eq_true]
    refine PC.step (p84) fun m2 j2 => ?_
    try simp only [Heap.next_push, Heap.next_set, Heap.next_kill, next_bump, next_E0] at j2
    simp (maxSteps := 1000000) (disch := first | exact sd | fail) only [go_sem, Nat.reduceAdd, Nat.reduceSub, Nat.reduceLeDiff, ↓reduceIte, decide_eq_true_eq, if_true, if_false, Bool.false_eq_true, Int.lt_irrefl, implies_true, true_and, and_true, eq_self, and_self, beq_self_eq_true]
    exact .rfl
  | false =>
    have ga := (hc rfl).at (j := 0) (by simp) (l := a) rfl ha.2
    have h200 := ga.1
    have hrow : QO G (G.push (.row true 47 [])) (.slice (some ⟨G.next, 0, none⟩) 0 0) [] := VO.fresh (Nat.le_refl _) rfl ⟨Nat.le_refl _, by simp, by unfold unk; omega⟩ (by simp) (by decide)
    obtain ⟨v, H2, ea, oa, qa, na⟩ := VO.appendV (l2 := a) hrow (Hle.push0 _) Try.underlying45 (info_of_type Try.type47) rfl rfl T.s55 (by decide) T.o70 (fun _ _ => rfl) (by simp; omega) (by rw [List.length_nil]; show _ * 64 ≤ _; omega)
    rw [List.nil_append] at oa
    obtain ⟨b, H3, eb, ob, qb, nb⟩ := VO.made (m := k) (VO.somes oa) qa (by rw [List.length_map]; omega)
    rw [hk] at eb
    have hb1 : ((a.map some ++ List.replicate k none).map oq).length = a.length + k := by simp
    generalize hB : (a.map some ++ List.replicate k none).map oq = B at hb1
    have fb {H' : Heap} (hle : Hle H3 H') : FzRel Try.prog H' (Vv eQ B) b := by rw [← hB]; exact (VO.mono ob hle).fzo
    have hsl := ob.isSl
    have n3 : N + 2 ≤ H3.next := by rw [next_push] at na; omega
    have gN3 : H3.get N = some (.row true 47 [.bool t.p.neg, Vv eU t.p.l, .bool t.q.neg, Vv eU t.q.l]) := by rw [qb.get _ (by omega)]; exact gN
    have hBw : Rw B := by
      refine ⟨by omega, fun x hx => ?_⟩
      rw [← hB, List.map_append, List.mem_append] at hx
      rcases hx with hx | hx
      · simp only [List.map_map, List.mem_map] at hx
        obtain ⟨y, hy, rfl⟩ := hx
        exact ga.rw.2 y hy
      · simp only [List.map_replicate] at hx
        rw [List.eq_of_mem_replicate hx]
        exact Rz.d
    have lb {H' : Heap} (hle : Hle H3 H') : aLen Try.prog 45 b = some (.int .i64 (a.length + k : Nat)) := by
      have := ob.len T.s55 T.i70
      rwa [List.length_append, List.length_map, List.length_replicate] at this
    have q1 := p85x (a := a) (b := B) (by omega)
    have q2 : PC Try.prog 34 [Vv eQ B, .agg ⟨eQ.enc t⟩, Vv eQ a] _ := p87x (pn := t.p.neg) (pl := t.p.l) (qn := t.q.neg) (ql := t.q.l) (a := B) (b := a) (by omega)
    have q4 : PC Try.prog 35 [Vv eR [a, B], Vv eQ a] _ := p92x (m := [a, B]) (x := a) (by simp) (fun j => by
      match j with
      | 0 => exact ga.rw
      | 1 => exact hBw
      | j + 2 => exact Rg.nil.rw) ga.rw (fun h => by have := h 1 (by simp); have : B.length = a.length := this; omega)
    have q5 := p94y (t := t) (r := B) (w := a.length) (by omega) (by omega)
    have q6 := p94z (y := [t]) (m := [a, a]) (n := a.length) (by omega) (by simp)
    rcases isSl_form hsl with ⟨b0, n0, c0, rfl⟩ | ⟨t0, u0, rfl⟩
    rotate_left
    · exfalso
      unfold VO at ob
      generalize (a.map some ++ List.replicate k none).length = n' at ob
      generalize (a.map some ++ List.replicate k none).flatMap eQo.enc = cs at ob
      cases ob
    have pf2 : pFill (.slice none 0 0) 2 [(0, Vv eQ a), (1, .slice b0 n0 c0)] = some [Vv eQ a, .slice b0 n0 c0] := rfl
    have pf1 : pFill (.slice none 0 0) 1 [(0, .slice b0 n0 c0)] = some [.slice b0 n0 c0] := rfl
    have pf3 : pFill (.slice none 0 0) 2 [(0, Vv eQ a), (1, Vv eQ a)] = some [Vv eQ a, Vv eQ a] := rfl
    simp (maxSteps := 1000000) (disch := first | exact sd | fail) only [go_sem, Nat.reduceAdd, Nat.reduceSub, Nat.reduceLeDiff, ↓reduceIte, decide_eq_true_eq, if_true, if_false, Bool.false_eq_true, Int.lt_irrefl, implies_true, true_and, and_true, eq_self, and_self, beq_self_eq_true, ea, w1, eb]
    refine q1.peekV vd_r (.cons .rfl (.cons (fb Hle.auto) .nil)) ?_
    simp (maxSteps := 1000000) (disch := first | exact sd | fail) only [go_sem, Nat.reduceAdd, Nat.reduceSub, Nat.reduceLeDiff, ↓reduceIte, decide_eq_true_eq, if_true, if_false, Bool.false_eq_true, Int.lt_irrefl, implies_true, true_and, and_true, eq_self, and_self, beq_self_eq_true, gN3]
    refine q2.peekV vd_t (.cons (fb Hle.auto) (.cons .rfl (.cons .rfl .nil))) ?_
    simp (maxSteps := 1000000) (disch := first | exact sd | fail) only [go_sem, Nat.reduceAdd, Nat.reduceSub, Nat.reduceLeDiff, ↓reduceIte, decide_eq_true_eq, if_true, if_false, Bool.false_eq_true, Int.lt_irrefl, implies_true, true_and, and_true, eq_self, and_self, beq_self_eq_true, gN3, pf2]
    refine gen_c fun G4 hG4 => ?_
    have g4 : G4.get (H3.next + 1) = some (.row true 45 [Vv eQ a, .slice b0 n0 c0]) := by rw [hG4]; simp (maxSteps := 1000000) (disch := first | exact sd | fail) only [go_sem, Nat.reduceAdd, Nat.reduceSub, Nat.reduceLeDiff, ↓reduceIte, decide_eq_true_eq, if_true, if_false, Bool.false_eq_true, Int.lt_irrefl, implies_true, true_and, and_true, eq_self, and_self, beq_self_eq_true]
    have l4 : Hle H3 G4 := by rw [hG4]; exact Hle.auto
    have n4 : G4.next = H3.next + 2 := by rw [hG4]; simp (maxSteps := 1000000) (disch := first | exact sd | fail) only [go_sem, Nat.reduceAdd, Nat.reduceSub, Nat.reduceLeDiff, ↓reduceIte, decide_eq_true_eq, if_true, if_false, Bool.false_eq_true, Int.lt_irrefl, implies_true, true_and, and_true, eq_self, and_self, beq_self_eq_true]
    have g4N : G4.get N = some (.row true 47 [.bool t.p.neg, Vv eU t.p.l, .bool t.q.neg, Vv eU t.q.l]) := by rw [hG4]; simp (maxSteps := 1000000) (disch := first | exact sd | fail) only [go_sem, Nat.reduceAdd, Nat.reduceSub, Nat.reduceLeDiff, ↓reduceIte, decide_eq_true_eq, if_true, if_false, Bool.false_eq_true, Int.lt_irrefl, implies_true, true_and, and_true, eq_self, and_self, beq_self_eq_true, gN3]
    have g4d : G4.get H3.next = some (.row true 47 [.bool false, Vv eU [], .bool false, Vv eU []]) := by rw [hG4]; simp (maxSteps := 1000000) (disch := first | exact sd | fail) only [go_sem, Nat.reduceAdd, Nat.reduceSub, Nat.reduceLeDiff, ↓reduceIte, decide_eq_true_eq, if_true, if_false, Bool.false_eq_true, Int.lt_irrefl, implies_true, true_and, and_true, eq_self, and_self, beq_self_eq_true]
    clear hG4
    have fz4 : FzRel Try.prog G4 (Vv eR [a, B]) (.slice (some ⟨H3.next + 1, 0, none⟩) 2 2) := .sl (es := 1) (by decide) (Sl.row (off := 0) (n := 2) (c := 2) g4 (by omega) (.inr T.s70) (.inr ⟨Nat.le_refl _, by unfold unk; omega⟩) (by simp)) (.cons .rfl (.cons (fb l4) .nil))
    refine q4.peekV vd_t (.cons fz4 (.cons .rfl .nil)) ?_
    clear fz4 q1 q2 q4
    simp (maxSteps := 1000000) (disch := first | exact sd | fail) only [go_sem, Nat.reduceAdd, Nat.reduceSub, Nat.reduceLeDiff, ↓reduceIte, decide_eq_true_eq, if_true, if_false, Bool.false_eq_true, Int.lt_irrefl, implies_true, true_and, and_true, eq_self, and_self, beq_self_eq_true, g4N, pf1]
    refine gen_c fun G5 hG5 => ?_
    have g5 : G5.get G4.next = some (.row true 47 (eQ.enc t)) := by rw [hG5]; simp (maxSteps := 1000000) (disch := first | exact sd | fail) only [go_sem, Nat.reduceAdd, Nat.reduceSub, Nat.reduceLeDiff, ↓reduceIte, decide_eq_true_eq, if_true, if_false, Bool.false_eq_true, Int.lt_irrefl, implies_true, true_and, and_true, eq_self, and_self, beq_self_eq_true]
    have g5b : G5.get (G4.next + 1) = some (.row true 45 [.slice b0 n0 c0]) := by rw [hG5]; simp (maxSteps := 1000000) (disch := first | exact sd | fail) only [go_sem, Nat.reduceAdd, Nat.reduceSub, Nat.reduceLeDiff, ↓reduceIte, decide_eq_true_eq, if_true, if_false, Bool.false_eq_true, Int.lt_irrefl, implies_true, true_and, and_true, eq_self, and_self, beq_self_eq_true]
    have l5 : Hle H3 G5 := by rw [hG5]; exact Hle.auto
    have n5 : G5.next = H3.next + 4 := by rw [hG5]; simp (maxSteps := 1000000) (disch := first | exact sd | fail) only [go_sem, Nat.reduceAdd, Nat.reduceSub, Nat.reduceLeDiff, ↓reduceIte, decide_eq_true_eq, if_true, if_false, Bool.false_eq_true, Int.lt_irrefl, implies_true, true_and, and_true, eq_self, and_self, beq_self_eq_true]; omega
    have g5N : G5.get N = some (.row true 47 [.bool t.p.neg, Vv eU t.p.l, .bool t.q.neg, Vv eU t.q.l]) := by rw [hG5]; simp (maxSteps := 1000000) (disch := first | exact sd | fail) only [go_sem, Nat.reduceAdd, Nat.reduceSub, Nat.reduceLeDiff, ↓reduceIte, decide_eq_true_eq, if_true, if_false, Bool.false_eq_true, Int.lt_irrefl, implies_true, true_and, and_true, eq_self, and_self, beq_self_eq_true, g4N]
    have g5d : G5.get H3.next = some (.row true 47 [.bool false, Vv eU [], .bool false, Vv eU []]) := by rw [hG5]; simp (maxSteps := 1000000) (disch := first | exact sd | fail) only [go_sem, Nat.reduceAdd, Nat.reduceSub, Nat.reduceLeDiff, ↓reduceIte, decide_eq_true_eq, if_true, if_false, Bool.false_eq_true, Int.lt_irrefl, implies_true, true_and, and_true, eq_self, and_self, beq_self_eq_true, g4d]
    clear hG5
    have fz5 : FzRel Try.prog G5 (Vv eR [B]) (.slice (some ⟨G4.next + 1, 0, none⟩) 1 1) := .sl (es := 1) (by decide) (Sl.row (off := 0) (n := 1) (c := 1) g5b (by omega) (.inr T.s70) (.inr ⟨Nat.le_refl _, by unfold unk; omega⟩) (by simp)) (.cons (fb l5) .nil)
    have fy5 : FzRel Try.prog G5 (Vv eQ [t]) (.slice (some ⟨G4.next, 0, none⟩) 1 1) := .sl (es := 4) (by decide) (Sl.row (off := 0) (n := 1) (c := 1) g5 (by omega) (.inr T.s55) (.inr ⟨Nat.le_refl _, by unfold unk; omega⟩) (by simp [eQ])) .refl
    refine q5.peekV vd_t (.cons fy5 (.cons fz5 (.cons .rfl .nil))) ?_
    clear fz5 fy5 q5
    simp (maxSteps := 1000000) (disch := first | exact sd | fail) only [go_sem, Nat.reduceAdd, Nat.reduceSub, Nat.reduceLeDiff, ↓reduceIte, decide_eq_true_eq, if_true, if_false, Bool.false_eq_true, Int.lt_irrefl, implies_true, true_and, and_true, eq_self, and_self, beq_self_eq_true, g5N, pf3]
    refine gen_c fun G6 hG6 => ?_
    have g6 : G6.get G5.next = some (.row true 47 (eQ.enc t)) := by rw [hG6]; simp (maxSteps := 1000000) (disch := first | exact sd | fail) only [go_sem, Nat.reduceAdd, Nat.reduceSub, Nat.reduceLeDiff, ↓reduceIte, decide_eq_true_eq, if_true, if_false, Bool.false_eq_true, Int.lt_irrefl, implies_true, true_and, and_true, eq_self, and_self, beq_self_eq_true]
    have g6b : G6.get (G5.next + 1) = some (.row true 45 [Vv eQ a, Vv eQ a]) := by rw [hG6]; simp (maxSteps := 1000000) (disch := first | exact sd | fail) only [go_sem, Nat.reduceAdd, Nat.reduceSub, Nat.reduceLeDiff, ↓reduceIte, decide_eq_true_eq, if_true, if_false, Bool.false_eq_true, Int.lt_irrefl, implies_true, true_and, and_true, eq_self, and_self, beq_self_eq_true]
    have n6 : G6.next = H3.next + 6 := by rw [hG6]; simp (maxSteps := 1000000) (disch := first | exact sd | fail) only [go_sem, Nat.reduceAdd, Nat.reduceSub, Nat.reduceLeDiff, ↓reduceIte, decide_eq_true_eq, if_true, if_false, Bool.false_eq_true, Int.lt_irrefl, implies_true, true_and, and_true, eq_self, and_self, beq_self_eq_true]; omega
    have g6d : G6.get H3.next = some (.row true 47 [.bool false, Vv eU [], .bool false, Vv eU []]) := by rw [hG6]; simp (maxSteps := 1000000) (disch := first | exact sd | fail) only [go_sem, Nat.reduceAdd, Nat.reduceSub, Nat.reduceLeDiff, ↓reduceIte, decide_eq_true_eq, if_true, if_false, Bool.false_eq_true, Int.lt_irrefl, implies_true, true_and, and_true, eq_self, and_self, beq_self_eq_true, g5d]
    clear hG6
    have fz6 : FzRel Try.prog G6 (Vv eR [a, a]) (.slice (some ⟨G5.next + 1, 0, none⟩) 2 2) := .sl (es := 1) (by decide) (Sl.row (off := 0) (n := 2) (c := 2) g6b (by omega) (.inr T.s70) (.inr ⟨Nat.le_refl _, by unfold unk; omega⟩) (by simp)) (.cons .rfl (.cons .rfl .nil))
    have fy6 : FzRel Try.prog G6 (Vv eQ [t]) (.slice (some ⟨G5.next, 0, none⟩) 1 1) := .sl (es := 4) (by decide) (Sl.row (off := 0) (n := 1) (c := 1) g6 (by omega) (.inr T.s55) (.inr ⟨Nat.le_refl _, by unfold unk; omega⟩) (by simp [eQ])) .refl
    refine q6.peekV vd_t (.cons fy6 (.cons fz6 (.cons .rfl .nil))) ?_
    simp (maxSteps := 1000000) (disch := first | exact sd | fail) only [go_sem, Nat.reduceAdd, Nat.reduceSub, Nat.reduceLeDiff, ↓reduceIte, decide_eq_true_eq, if_true, if_false, Bool.false_eq_true, Int.lt_irrefl, implies_true, true_and, and_true, eq_self, and_self, beq_self_eq_true, g6d]
    refine PC.step (p45) fun m7 j7 => ?_
    try simp only [Heap.next_push, Heap.next_set, Heap.next_kill, next_bump, next_E0] at j7
    simp (maxSteps := 1000000) (disch := first | exact sd | fail) only [go_sem, Nat.reduceAdd, Nat.reduceSub, Nat.reduceLeDiff, ↓reduceIte, decide_eq_true_eq, if_true, if_false, Bool.false_eq_true, Int.lt_irrefl, implies_true, true_and, and_true, eq_self, and_self, beq_self_eq_true, g6d]
    refine PC.step (p45) fun m8 j8 => ?_
    try simp only [Heap.next_push, Heap.next_set, Heap.next_kill, next_bump, next_E0] at j8
    simp (maxSteps := 1000000) (disch := first | exact sd | fail) only [go_sem, Nat.reduceAdd, Nat.reduceSub, Nat.reduceLeDiff, ↓reduceIte, decide_eq_true_eq, if_true, if_false, Bool.false_eq_true, Int.lt_irrefl, implies_true, true_and, and_true, eq_self, and_self, beq_self_eq_true]
    refine PC.step (p45) fun m9 j9 => ?_
    try simp only [Heap.next_push, Heap.next_set, Heap.next_kill, next_bump, next_E0] at j9
    simp (maxSteps := 1000000) (disch := first | exact sd | fail) only [go_sem, Nat.reduceAdd, Nat.reduceSub, Nat.reduceLeDiff, ↓reduceIte, decide_eq_true_eq, if_true, if_false, Bool.false_eq_true, Int.lt_irrefl, implies_true, true_and, and_true, eq_self, and_self, beq_self_eq_true]
    refine PC.step (p45) fun m10 j10 => ?_
    try simp only [Heap.next_push, Heap.next_set, Heap.next_kill, next_bump, next_E0] at j10
    simp (maxSteps := 1000000) (disch := first | exact sd | fail) only [go_sem, Nat.reduceAdd, Nat.reduceSub, Nat.reduceLeDiff, ↓reduceIte, decide_eq_true_eq, if_true, if_false, Bool.false_eq_true, Int.lt_irrefl, implies_true, true_and, and_true, eq_self, and_self, beq_self_eq_true]
    refine PC.step (p45) fun m11 j11 => ?_
    try simp only [Heap.next_push, Heap.next_set, Heap.next_kill, next_bump, next_E0] at j11
    simp (maxSteps := 1000000) (disch := first | exact sd | fail) only [go_sem, Nat.reduceAdd, Nat.reduceSub, Nat.reduceLeDiff, ↓reduceIte, decide_eq_true_eq, if_true, if_false, Bool.false_eq_true, Int.lt_irrefl, implies_true, true_and, and_true, eq_self, and_self, beq_self_eq_true]
    refine PC.step (p84) fun m12 j12 => ?_
    try simp only [Heap.next_push, Heap.next_set, Heap.next_kill, next_bump, next_E0] at j12
    simp (maxSteps := 1000000) (disch := first | exact sd | fail) only [go_sem, Nat.reduceAdd, Nat.reduceSub, Nat.reduceLeDiff, ↓reduceIte, decide_eq_true_eq, if_true, if_false, Bool.false_eq_true, Int.lt_irrefl, implies_true, true_and, and_true, eq_self, and_self, beq_self_eq_true]
    exact .rfl
theorem lawVecLong {H : Heap} {xs : List Value} (hf : ∀ b, H.next ≤ b → H.get b = none) (hg : GoodArgs Try.prog H 8 [45, 47, 5] xs) : ACalls Try.prog 9 xs H fun v _ => v = .bool true := by
  obtain ⟨ps, h1, h2, h3⟩ := args_frz hf (by intro t ht; simp only [List.mem_cons, List.not_mem_nil, or_false] at ht; rcases ht with rfl | rfl | rfl <;> kernel_rfl) hg
  obtain ⟨p0, ps0, rfl, a0, r0⟩ := h3.cons
  obtain ⟨a, rfl, ha⟩ := a0.rats
  obtain ⟨p1, ps1, rfl, a1, r1⟩ := r0.cons
  obtain ⟨pn, pl, qn, ql, rfl, _, _⟩ := a1.rat
  obtain ⟨p2, ps2, rfl, a2, r2⟩ := r1.cons
  obtain ⟨x, rfl, hx⟩ := a2.int Try.underlying5
  obtain rfl := r2.nil
  exact (q23 (t := ⟨⟨pn, pl⟩, ⟨qn, ql⟩⟩) ha (wf_u8 hx)).law h1
end Go.Abs
