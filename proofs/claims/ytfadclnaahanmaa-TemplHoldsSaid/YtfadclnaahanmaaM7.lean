/- Octagon; the document's templates. -/
import Derived.Test.YtfadclnaahanmaaM6
set_option linter.unusedVariables false
set_option linter.unusedSimpArgs false
namespace Go.Abs
open Go Go.Proofs
set_option maxRecDepth 100000
set_option maxHeartbeats 4000000
theorem c197 {H : Heap} {n : Int} : ACalls Try.prog 57 [.int .i64 n] H fun v H' => v = .func (.func 92) ⟨[]⟩ ⟨[.pointer (some ⟨H.next, 0, none⟩)]⟩ ∧ H' = H.push (.row true 3 [.int .i64 n]) := by
  refine ACalls.of_code T.hm (n := 3) Try.func57 rfl rfl rfl rfl ?_; simp only [List.replicate_succ, List.replicate_zero, List.cons_append, List.nil_append]
  simp (maxSteps := 1000000) (disch := first | exact sd | fail) only [go_sem, Nat.reduceAdd, Nat.reduceSub, Nat.reduceLeDiff, ↓reduceIte, decide_eq_true_eq, if_true, if_false, Bool.false_eq_true, Int.lt_irrefl, implies_true, true_and, and_true, eq_self, and_self, beq_self_eq_true]
theorem p128 {n : Int} : PC Try.prog 18 [.int .i64 n] (Tv ((sgl (slt n) ++ bth (slt n)).take 40)) := by
  refine PC.of (.cons (.ground rfl) .nil) pu_T fun N hN => ?_
  have hs := slt_le n
  refine ACalls.of_code T.hm (n := 10) Try.func18 rfl rfl rfl rfl ?_; simp only [List.replicate_succ, List.replicate_zero, List.cons_append, List.nil_append]
  simp (maxSteps := 1000000) (disch := first | exact sd | fail) only [go_sem, Nat.reduceAdd, Nat.reduceSub, Nat.reduceLeDiff, ↓reduceIte, decide_eq_true_eq, if_true, if_false, Bool.false_eq_true, Int.lt_irrefl, implies_true, true_and, and_true, eq_self, and_self, beq_self_eq_true]
  refine PC.step (p192) fun m1 j1 => ?_
  try simp only [Heap.next_push, Heap.next_set, Heap.next_kill, next_bump, next_E0] at j1
  simp (maxSteps := 1000000) (disch := first | exact sd | fail) only [go_sem, Nat.reduceAdd, Nat.reduceSub, Nat.reduceLeDiff, ↓reduceIte, decide_eq_true_eq, if_true, if_false, Bool.false_eq_true, Int.lt_irrefl, implies_true, true_and, and_true, eq_self, and_self, beq_self_eq_true]
  refine c191.mono ?_
  rintro v H1 ⟨rfl, rfl⟩
  simp (maxSteps := 1000000) (disch := first | exact sd | fail) only [go_sem, Nat.reduceAdd, Nat.reduceSub, Nat.reduceLeDiff, ↓reduceIte, decide_eq_true_eq, if_true, if_false, Bool.false_eq_true, Int.lt_irrefl, implies_true, true_and, and_true, eq_self, and_self, beq_self_eq_true]
  refine PC.step (p192) fun m2 j2 => ?_
  try simp only [Heap.next_push, Heap.next_set, Heap.next_kill, next_bump, next_E0] at j2
  try simp only [Heap.next_push, next_bump] at j2
  simp (maxSteps := 1000000) (disch := first | exact sd | fail) only [go_sem, Nat.reduceAdd, Nat.reduceSub, Nat.reduceLeDiff, ↓reduceIte, decide_eq_true_eq, if_true, if_false, Bool.false_eq_true, Int.lt_irrefl, implies_true, true_and, and_true, eq_self, and_self, beq_self_eq_true]
  refine c197.mono ?_
  rintro v H2 ⟨rfl, rfl⟩
  have pf {f g : Fn} {a b c d : List Value} : pFill .nilFunc 2 [(0, .func f ⟨a⟩ ⟨b⟩), (1, .func g ⟨c⟩ ⟨d⟩)] = some [.func f ⟨a⟩ ⟨b⟩, .func g ⟨c⟩ ⟨d⟩] := rfl
  simp (maxSteps := 1000000) (disch := first | exact sd | fail) only [go_sem, Nat.reduceAdd, Nat.reduceSub, Nat.reduceLeDiff, ↓reduceIte, decide_eq_true_eq, if_true, if_false, Bool.false_eq_true, Int.lt_irrefl, implies_true, true_and, and_true, eq_self, and_self, beq_self_eq_true, pf]
  refine gen_call fun G hG => ?_
  have nG : G.next = m2 + 2 := by rw [hG]; simp (maxSteps := 1000000) (disch := first | exact sd | fail) only [go_sem, Nat.reduceAdd, Nat.reduceSub, Nat.reduceLeDiff, ↓reduceIte, decide_eq_true_eq, if_true, if_false, Bool.false_eq_true, Int.lt_irrefl, implies_true, true_and, and_true, eq_self, and_self, beq_self_eq_true]
  have gG : G.get (m2 + 1) = some (.row true 80 [.func (.func 89) ⟨[]⟩ ⟨[.pointer (some ⟨m1, 0, none⟩)]⟩, .func (.func 92) ⟨[]⟩ ⟨[.pointer (some ⟨m2, 0, none⟩)]⟩]) := by rw [hG]; simp (maxSteps := 1000000) (disch := first | exact sd | fail) only [go_sem, Nat.reduceAdd, Nat.reduceSub, Nat.reduceLeDiff, ↓reduceIte, decide_eq_true_eq, if_true, if_false, Bool.false_eq_true, Int.lt_irrefl, implies_true, true_and, and_true, eq_self, and_self, beq_self_eq_true]
  have gb : G.get m1 = some (.row true 3 [.int .i64 (slt n : Nat)]) := by rw [hG]; simp (maxSteps := 1000000) (disch := first | exact sd | fail) only [go_sem, Nat.reduceAdd, Nat.reduceSub, Nat.reduceLeDiff, ↓reduceIte, decide_eq_true_eq, if_true, if_false, Bool.false_eq_true, Int.lt_irrefl, implies_true, true_and, and_true, eq_self, and_self, beq_self_eq_true]
  have gc : G.get m2 = some (.row true 3 [.int .i64 (slt n : Nat)]) := by rw [hG]; simp (maxSteps := 1000000) (disch := first | exact sd | fail) only [go_sem, Nat.reduceAdd, Nat.reduceSub, Nat.reduceLeDiff, ↓reduceIte, decide_eq_true_eq, if_true, if_false, Bool.false_eq_true, Int.lt_irrefl, implies_true, true_and, and_true, eq_self, and_self, beq_self_eq_true]
  have g0 : G.get N = some (.row true 25 [.slice none 0 0]) := by rw [hG]; simp (maxSteps := 1000000) (disch := first | exact sd | fail) only [go_sem, Nat.reduceAdd, Nat.reduceSub, Nat.reduceLeDiff, ↓reduceIte, decide_eq_true_eq, if_true, if_false, Bool.false_eq_true, Int.lt_irrefl, implies_true, true_and, and_true, eq_self, and_self, beq_self_eq_true]
  clear hG
  refine (c190 (rs := [sgl (slt n), bth (slt n)]) gG (by omega) rfl rfl (by simp) (fun j f r hf hr => by
    match j, hf, hr with
    | 0, hf, hr =>
      injection hf with hf; injection hr with hr
      subst hf hr
      exact it222 gb (by omega) hs
    | 1, hf, hr =>
      injection hf with hf; injection hr with hr
      subst hf hr
      exact it225 gc (by omega) hs)).mono ?_
  rintro v H' ⟨sl, rfl, ho, hle⟩
  have hsl := ho.isSl
  have g0' : H'.get N = some (.row true 25 [.slice none 0 0]) := by rw [hle.get N (by omega)]; exact g0
  have nH := hle.next
  simp (maxSteps := 1000000) (disch := first | exact sd | fail) only [go_sem, Nat.reduceAdd, Nat.reduceSub, Nat.reduceLeDiff, ↓reduceIte, decide_eq_true_eq, if_true, if_false, Bool.false_eq_true, Int.lt_irrefl, implies_true, true_and, and_true, eq_self, and_self, beq_self_eq_true, g0']
  rw [List.flatten_cons, List.flatten_cons, List.flatten_nil, List.append_nil] at ho
  exact .agg (.cons (VO.fz (ho.setO (by omega) _) T.s70 (by decide)) .nil)
/-! ### the document's -/
theorem VO.appendN {α : Type} {E : En α} {P : Program} {H0 H : Heap} {el t : TypeId} {sl : Value} {l : List α} (h : VO P E el H0 H sl l) (hle : Hle H0 H) (xs : List α) {n : Nat} (hn : n = xs.length) {i : TypeInfo} {z : Value} (ht : P.underlying t = some (.slice el)) (hi : P.info? el = some i) (hz : i.zero = some z) (hzs : z.cells.size = i.size) (hs : szOf P el = E.es) (h0 : 0 < E.es) (ho : okSrc P t = true) (h1 : ∀ a ∈ xs, (E.enc a).all (·.oneCell') = true)
    (hsm : l.length + n ≤ 9223372036854775807) (hb : (2 * (l.length + n) + 200) * i.bytes ≤ 281474976710656) :
    ∃ v H', aAppend P (H.push (.row true el (xs.flatMap E.enc))) #[t, t] sl (.slice (some ⟨H.next, 0, none⟩) n n) = some (v, H') ∧ VO P E el H0 H' v (l ++ xs) ∧ Hle H0 H' ∧ H.next ≤ H'.next := by
  subst hn
  have hx := Sl.row (P := P) (H := H.push (.row true el (xs.flatMap E.enc))) (es := E.es) (b := H.next) (off := 0) (n := xs.length) (c := xs.length) (get_push_self _ _) (by simp) (.inr hs) (.inr ⟨Nat.le_refl _, by unfold unk; omega⟩) (by rw [E.flat_length]; omega)
  have e1 : ((xs.flatMap E.enc).drop 0).take (xs.length * E.es) = xs.flatMap E.enc := by rw [List.drop_zero, List.take_of_length_le (by rw [E.flat_length]; exact Nat.le_refl _)]
  rw [e1] at hx
  have h2 : Ow P H0 (H.push (.row true el (xs.flatMap E.enc))) E.es el sl l.length (l.flatMap E.enc) := Ow.mono h (Hle.push0 _)
  obtain ⟨a1, a2, a3, a4, a5⟩ := Ow.append h2 (hle.push _) ht hi hz hzs hs h0 ho (Sl.lenV hx) (Sl.src hx) (E.flat_length xs) (by
    simp only [List.all_eq_true, List.mem_flatMap] at h1 ⊢
    rintro x ⟨a, ha, hx⟩
    exact h1 a ha x hx) hsm hb
  refine ⟨_, _, a1, ?_, a3, by simp at a5; omega⟩
  unfold VO
  rw [List.length_append, List.flatMap_append]
  exact a2
theorem VO.setS {α : Type} {E : En α} {P : Program} {H0 H : Heap} {el : TypeId} {sl : Value} {l : List α} (h : VO P E el H0 H sl l) {b : Nat} (hb : b ≠ sblk sl) (o : AObj) : VO P E el H0 (H.set b o) sl l := by
  unfold VO at h ⊢
  generalize l.length = n at h ⊢
  generalize l.flatMap E.enc = cs at h ⊢
  cases h with
  | nil => exact .nil
  | @row b' off' n' c' cs' hg hb0 hbn hc hl =>
    have hb : b ≠ b' := hb
    exact .row (by rw [get_set_ne (fun e => hb e.symm)]; exact hg) hb0 hbn hc hl
theorem p193 {n : Int} : PC Try.prog 53 [.int .i64 n] (.int .i64 (slt n)) := by
  refine PC.of (.cons (.ground rfl) .nil) (.ground rfl) fun N hN => ?_
  refine ACalls.of_code T.hm (n := 5) Try.func53 rfl rfl rfl rfl ?_; simp only [List.replicate_succ, List.replicate_zero, List.cons_append, List.nil_append]
  have e : ((slt n : Nat) : Int) = max 0 (min n 6) := by unfold slt; omega
  simp (maxSteps := 1000000) (disch := first | exact sd | fail) only [go_sem, Nat.reduceAdd, Nat.reduceSub, Nat.reduceLeDiff, ↓reduceIte, decide_eq_true_eq, if_true, if_false, Bool.false_eq_true, Int.lt_irrefl, implies_true, true_and, and_true, eq_self, and_self, beq_self_eq_true]
  rw [show (if (0 : Int) < if 6 < n then 6 else n then if 6 < n then 6 else n else 0) = (slt n : Int) from by rw [e]; split <;> split <;> omega]
  exact .rfl
theorem c195 {H0 H : Heap} {sl : Value} {l : List (List RQ)} (h : VO Try.prog eR 45 H0 H sl l) (hle : Hle H0 H) (hl : l.length ≤ 2 ^ 30) (h0 : 0 < H.next) : ACalls Try.prog 55 [sl] H fun v H' => ∃ sl', v = .agg ⟨[sl']⟩ ∧ VO Try.prog eR 45 H0 H' sl' (l.take 40) ∧ Hle H0 H' := by
  refine ACalls.of_code T.hm (n := 8) Try.func55 rfl rfl rfl rfl ?_; simp only [List.replicate_succ, List.replicate_zero, List.cons_append, List.nil_append]
  obtain ⟨m, hm⟩ : ∃ m : Nat, m = min l.length 40 := ⟨_, rfl⟩
  have em : (if (40 : Int) < l.length then (40 : Int) else l.length) = (m : Int) := by split <;> omega
  have hlen := h.len (t := 23) T.s70 T.i72
  obtain ⟨sl', e1, o1, b1⟩ := VO.upto (k := .i64) (i := m) (h.mono (Hle.push0 (.row true 25 [.slice none 0 0]))) Try.underlying23 T.z70 (by omega)
  have hsl := o1.isSl
  have hb : H.next ≠ sblk sl' := by
    rw [b1]
    have := h.sblk_lt h0; omega
  simp (maxSteps := 1000000) (disch := first | exact sd | fail) only [go_sem, Nat.reduceAdd, Nat.reduceSub, Nat.reduceLeDiff, ↓reduceIte, decide_eq_true_eq, if_true, if_false, Bool.false_eq_true, Int.lt_irrefl, implies_true, true_and, and_true, eq_self, and_self, beq_self_eq_true, hlen, em, e1]
  refine ⟨sl', rfl, ?_, Hle.set (hle.push _) hle.next _⟩
  have e5 : l.take m = l.take 40 := by
    rcases Nat.le_total l.length 40 with h | h
    · rw [hm, Nat.min_eq_left h, List.take_of_length_le (Nat.le_refl _), List.take_of_length_le h]
    · rw [hm, Nat.min_eq_right h]
  rw [← e5]
  exact o1.setS hb _
theorem p194s {n i : Nat} {a : Int} (hn : n ≤ 6) (ha : -9223372036854775808 ≤ a ∧ a ≤ 9223372036854775807) : PC Try.prog 54 [.int .i64 n, .int .i64 i, .int .i64 a, .int .i64 (-1), .int .i64 0] (Vv eQ (r1 n i a)) :=
  (p194 (k := -1) (by omega) ha (by omega)).ok (by
    congr 1)
theorem p194d {n i k : Nat} {a b : Int} (hn : n ≤ 6) (ha : -9223372036854775808 ≤ a ∧ a ≤ 9223372036854775807) (hb : -9223372036854775808 ≤ b ∧ b ≤ 9223372036854775807) : PC Try.prog 54 [.int .i64 n, .int .i64 i, .int .i64 a, .int .i64 k, .int .i64 b] (Vv eQ (r2 n i a k b)) :=
  (p194 (k := (k : Int)) (by omega) ha hb).ok (by
    congr 1
    refine rowT_congr fun j _ => ?_
    by_cases e : j = k
    · rw [if_pos (by omega), if_pos e]
    · rw [if_neg (by omega), if_neg e])
theorem sglP_len {n m : Nat} : (sglP n m).length = 2 * m := by
  induction m with
  | zero => rfl
  | succ m ih => rw [sglP_succ, List.length_append, ih]; simp; omega
abbrev RO (H0 H : Heap) (sl : Value) (l : List (List RQ)) : Prop := VO Try.prog eR 45 H0 H sl l
theorem c125 {H : Heap} {n : Int} (h0 : 0 < H.next) : ACalls Try.prog 15 [.int .i64 n] H fun v H' => ∃ sl, v = .agg ⟨[sl]⟩ ∧ RO H H' sl (sgl (slt n)) ∧ Hle H H' := by
  have hs := slt_le n
  refine ACalls.of_code T.hm (n := 22) Try.func15 rfl rfl rfl rfl ?_; simp only [List.replicate_succ, List.replicate_zero, List.cons_append, List.nil_append]
  simp (maxSteps := 1000000) (disch := first | exact sd | fail) only [go_sem, Nat.reduceAdd, Nat.reduceSub, Nat.reduceLeDiff, ↓reduceIte, decide_eq_true_eq, if_true, if_false, Bool.false_eq_true, Int.lt_irrefl, implies_true, true_and, and_true, eq_self, and_self, beq_self_eq_true]
  refine PC.step (p193) fun m1 j1 => ?_
  try simp only [Heap.next_push, Heap.next_set, Heap.next_kill, next_bump, next_E0] at j1
  simp (maxSteps := 1000000) (disch := first | exact sd | fail) only [go_sem, Nat.reduceAdd, Nat.reduceSub, Nat.reduceLeDiff, ↓reduceIte, decide_eq_true_eq, if_true, if_false, Bool.false_eq_true, Int.lt_irrefl, implies_true, true_and, and_true, eq_self, and_self, beq_self_eq_true]
  generalize hw : slt n = w at *
  generalize hHC : (H.push (.row true 25 [.slice none 0 0])).bump m1 = HC
  have nC : HC.next = m1 := by rw [← hHC]; rfl
  have gC : ∀ c, c < H.next → HC.get c = H.get c := fun c hc => by rw [← hHC, get_bump, get_push_ne (by omega)]
  have gr : HC.get H.next = some (.row true 25 [.slice none 0 0]) := by rw [← hHC, get_bump]; exact get_push_self H _
  try simp only [Heap.next_push, next_push] at j1
  refine aw_loopJ (σ := Nat × Value) (fun s J => [.int .i64 w, J 1, .pointer (some ⟨H.next, 0, none⟩), s.2, .int .i64 s.1, J 5, J 6, J 7, J 8, J 9, J 10, J 11, J 12, J 13, J 14, J 15, J 16, J 17, J 18, J 19, J 20, J 21, J 22]) (fun m s H1 => m = w - s.1 ∧ s.1 ≤ w ∧ Hle HC H1 ∧ RO HC H1 s.2 (sglP w s.1)) w (0, .slice none 0 0) rfl ⟨rfl, Nat.zero_le _, Hle.rfl, VO.nil⟩ ?_
  rintro m ⟨s, sl⟩ J H1 ⟨rfl, hs1, hle, ho⟩
  simp only at hs1 ho
  by_cases h4 : (s : Int) < w
  · have pf {a b : List RQ} : pFill (.slice none 0 0) 2 [(0, Vv eQ a), (1, Vv eQ b)] = some [Vv eQ a, Vv eQ b] := rfl
    simp (maxSteps := 1000000) (disch := first | exact sd | fail) only [go_sem, Nat.reduceAdd, Nat.reduceSub, Nat.reduceLeDiff, ↓reduceIte, decide_eq_true_eq, if_true, if_false, Bool.false_eq_true, Int.lt_irrefl, implies_true, true_and, and_true, eq_self, and_self, beq_self_eq_true, h4]
    refine PC.step (p194s (n := w) (i := s) (a := 1) hs (by omega)) fun m2 j2 => ?_
    try simp only [Heap.next_push, Heap.next_set, Heap.next_kill, next_bump, next_E0] at j2
    simp (maxSteps := 1000000) (disch := first | exact sd | fail) only [go_sem, Nat.reduceAdd, Nat.reduceSub, Nat.reduceLeDiff, ↓reduceIte, decide_eq_true_eq, if_true, if_false, Bool.false_eq_true, Int.lt_irrefl, implies_true, true_and, and_true, eq_self, and_self, beq_self_eq_true]
    refine PC.step (p194s (n := w) (i := s) (a := -1) hs (by omega)) fun m3 j3 => ?_
    try simp only [Heap.next_push, Heap.next_set, Heap.next_kill, next_bump, next_E0] at j3
    have hle2 : Hle HC ((H1.bump m2).bump m3) := (hle.bump j2).bump (by rw [next_bump]; exact j3)
    obtain ⟨v, H4, ea, oa, qa, na⟩ := VO.appendN ((ho.bump j2).bump (m := m3) (by rw [next_bump]; exact j3)) hle2 [r1 w s 1, r1 w s (-1)] (n := 2) rfl (t := 23) Try.underlying23 (info_of_type Try.type45) rfl rfl T.s70 (by decide) T.o72 (fun _ _ => rfl) (by rw [sglP_len]; omega) (by rw [sglP_len]; show _ * 24 ≤ _; omega)
    have ea : aAppend Try.prog (((H1.bump m2).bump m3).push (.row true 45 [Vv eQ (r1 w s 1), Vv eQ (r1 w s (-1))])) #[23, 23] sl (.slice (some ⟨m3, 0, none⟩) 2 2) = some (v, H4) := ea
    simp (maxSteps := 1000000) (disch := first | exact sd | fail) only [go_sem, Nat.reduceAdd, Nat.reduceSub, Nat.reduceLeDiff, ↓reduceIte, decide_eq_true_eq, if_true, if_false, Bool.false_eq_true, Int.lt_irrefl, implies_true, true_and, and_true, eq_self, and_self, beq_self_eq_true, pf, ea]
    exact IJ_intro (k := w - (s + 1)) (by omega) (s + 1, v) rfl ⟨rfl, by dsimp only; omega, qa, by rw [sglP_succ]; exact oa⟩
  · have e : s = w := by omega
    subst e
    have hle3 := hle.next
    simp (maxSteps := 1000000) (disch := first | exact sd | fail) only [go_sem, Nat.reduceAdd, Nat.reduceSub, Nat.reduceLeDiff, ↓reduceIte, decide_eq_true_eq, if_true, if_false, Bool.false_eq_true, Int.lt_irrefl, implies_true, true_and, and_true, eq_self, and_self, beq_self_eq_true, h4]
    refine (c195 ho hle (by rw [sglP_len]; omega) (by omega)).mono ?_
    rintro v H' ⟨sl', rfl, o2, l2⟩
    rw [List.take_of_length_le (by rw [sglP_len]; omega)] at o2
    have hsl := o2.isSl
    have g0 : H'.get H.next = some (.row true 25 [.slice none 0 0]) := by rw [l2.get _ (by omega)]; exact gr
    have l3 := l2.next
    simp (maxSteps := 1000000) (disch := first | exact sd | fail) only [go_sem, Nat.reduceAdd, Nat.reduceSub, Nat.reduceLeDiff, ↓reduceIte, decide_eq_true_eq, if_true, if_false, Bool.false_eq_true, Int.lt_irrefl, implies_true, true_and, and_true, eq_self, and_self, beq_self_eq_true, g0]
    exact ⟨sl', rfl, VO.setO' o2 (by omega) (by omega) _, by rw [next_set]; omega, fun c hc => by rw [get_set_ne (by omega), l2.get _ (by omega)]; exact gC c hc⟩
theorem p125 {n : Int} : PC Try.prog 15 [.int .i64 n] (Tv ((sgl (slt n)).take 40)) := by
  refine PC.of (.cons (.ground rfl) .nil) pu_T fun N hN => ?_
  refine (c125 (by rw [next_E0]; exact hN)).mono ?_
  rintro v H' ⟨sl, rfl, o, _⟩
  rw [List.take_of_length_le (by show (sglP _ _).length ≤ 40; rw [sglP_len]; have := slt_le n; omega)]
  exact .agg (.cons (VO.fz o T.s70 (by decide)) .nil)
end Go.Abs
