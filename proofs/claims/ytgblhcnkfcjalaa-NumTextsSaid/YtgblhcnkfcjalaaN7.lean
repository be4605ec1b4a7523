/- Numbers of an int64, as the document has them; numbers as an int64. -/
import Derived.Test.YtgblhcnkfcjalaaN6
set_option linter.unusedVariables false
set_option linter.unusedSimpArgs false
namespace Go.Abs
open Go Go.Proofs
set_option maxRecDepth 10000
set_option linter.unusedSimpArgs false

theorem c53 {H : Heap} {n : Int} (hn : -9223372036854775808 ≤ n ∧ n ≤ 9223372036854775807) : ACalls Try.prog 28 [.int .i64 n] H fun r H' => IA Try.prog H' r (decide (n < 0)) (trimL (ofR n)) ∧ Hle H H' := by
  refine ACalls.of_code T.hm (n := 18) Try.func28 rfl rfl rfl rfl ?_; simp only [List.replicate_succ, List.replicate_zero, List.cons_append, List.nil_append]
  by_cases h0 : n < 0
  · simp (maxSteps := 1000000) (disch := first | exact sd | fail) only [go_sem, Nat.reduceAdd, Nat.reduceSub, Nat.reduceLeDiff, ↓reduceIte, decide_eq_true_eq, if_true, if_false, Bool.false_eq_true, Int.lt_irrefl, h0, wrap_u64, wrap_u32]
    have e : [Value.int IntKind.u32 (-(n % 18446744073709551616) % 18446744073709551616 % 4294967296), Value.int IntKind.u32 (-(n % 18446744073709551616) % 18446744073709551616 / 4294967296 % 4294967296)] = (ofR n).map (.int .u32) := by
      simp only [ofR, List.map_cons, List.map_nil, List.cons.injEq, Value.int.injEq, true_and, and_true]
      omega
    rw [e]
    refine (c150 (UO.fresh (H0 := H.push (.row true 24 [.bool false, .slice none 0 0])) Hle.rfl rfl (by simp [unk, ofR]) (by simp [ofR])).u (lim_ofR hn) (by simp [ofR])).mono ?_
    rintro r H3 ⟨hr, h3⟩
    have hle := (Hle.push0 _).trans h3
    have hg := get_box hle
    have hr' := hr
    obtain ⟨sl, rfl, hu, hl⟩ := hr'
    have hy := hu.isSl
    simp (maxSteps := 1000000) (disch := first | exact sd | fail) only [go_sem, Nat.reduceAdd, Nat.reduceSub, Nat.reduceLeDiff, ↓reduceIte, decide_eq_true_eq, if_true, if_false, Bool.false_eq_true, Int.lt_irrefl, hg]
    have hne := ofR_neg (n := n)
    simp only [h0, decide_true] at hne
    rw [hne] at hr ⊢
    exact ⟨hr.setbox hg _, ((Hle.push0 _).trans hle).set (Nat.le_refl _) _⟩
  · simp (maxSteps := 1000000) (disch := first | exact sd | fail) only [go_sem, Nat.reduceAdd, Nat.reduceSub, Nat.reduceLeDiff, ↓reduceIte, decide_eq_true_eq, if_true, if_false, Bool.false_eq_true, Int.lt_irrefl, h0, wrap_u64, wrap_u32]
    have e : [Value.int IntKind.u32 (n % 18446744073709551616 % 4294967296), Value.int IntKind.u32 (n % 18446744073709551616 / 4294967296 % 4294967296)] = (ofR n).map (.int .u32) := by
      simp only [ofR, List.map_cons, List.map_nil, List.cons.injEq, Value.int.injEq, true_and, and_true]
      omega
    rw [e]
    refine (c150 (UO.fresh (H0 := H.push (.row true 24 [.bool false, .slice none 0 0])) Hle.rfl rfl (by simp [unk, ofR]) (by simp [ofR])).u (lim_ofR hn) (by simp [ofR])).mono ?_
    rintro r H3 ⟨hr, h3⟩
    have hle := (Hle.push0 _).trans h3
    have hg := get_box hle
    have hr' := hr
    obtain ⟨sl, rfl, hu, hl⟩ := hr'
    have hy := hu.isSl
    simp (maxSteps := 1000000) (disch := first | exact sd | fail) only [go_sem, Nat.reduceAdd, Nat.reduceSub, Nat.reduceLeDiff, ↓reduceIte, decide_eq_true_eq, if_true, if_false, Bool.false_eq_true, Int.lt_irrefl, hg]
    have hne := ofR_neg (n := n)
    simp only [h0, decide_false] at hne
    rw [hne] at hr ⊢
    exact ⟨hr.setbox hg _, ((Hle.push0 _).trans hle).set (Nat.le_refl _) _⟩

/-- A number as an int64. -/
def toR (neg : Bool) (m : List Int) : Int × Bool :=
  if 2 < m.length then (0, false) else if neg = true then (if val m ≤ 9223372036854775808 then (-(val m), true) else (0, false)) else if val m < 9223372036854775808 then (val m, true) else (0, false)

theorem wrap_i64_eq {z : Int} : IntKind.i64.wrap z = if 9223372036854775808 ≤ z % 18446744073709551616 then z % 18446744073709551616 - 18446744073709551616 else z % 18446744073709551616 := by
  show (let m := z % (2 ^ 64 : Int); if (true && decide (m ≥ (2 ^ 63 : Int))) = true then m - (2 ^ 64 : Int) else m) = _
  simp only [Bool.true_and, decide_eq_true_eq]
  rfl

theorem val_take2 {m : List Int} (hm : Lim m) {k : Nat} (hk : k < m.length) (h2 : m.length ≤ 2) :
    aBits .or .u64 (val (m.take k)) (IntKind.u64.wrap (m.getD k 0 * 2 ^ (min (32 * (k : Int)).toNat 64))) = val (m.take (k + 1)) := by
  have hb := hm.getD k
  match m, k, h2 with
  | x :: l, 0, _ =>
    have hx := hm.head
    simp only [List.take_zero, val, List.getD_cons_zero, List.take_succ_cons] at *
    have e : IntKind.u64.wrap (x * 2 ^ (min (32 * ((0 : Nat) : Int)).toNat 64)) = x := by
      show IntKind.u64.wrap (x * 1) = x
      rw [wrap_u64]; omega
    rw [e, or_zero (by omega)]
    omega
  | x :: y :: l, 1, _ =>
    have hx := hm.head
    have hy := hm.tail.head
    simp only [List.take_succ_cons, List.take_zero, val, List.getD_cons_succ, List.getD_cons_zero] at *
    have e : IntKind.u64.wrap (y * 2 ^ (min (32 * ((1 : Nat) : Int)).toNat 64)) = y * 4294967296 := by
      show IntKind.u64.wrap (y * 4294967296) = _
      rw [wrap_u64]; omega
    rw [e]
    have := or_add32 (u := x) (x := y) hx hy
    rw [show x + 4294967296 * 0 = x by omega, this]
    omega
  | x :: [], k + 1, _ => simp at hk
  | x :: y :: [], k + 2, _ => simp at hk; omega
  | x :: y :: z :: l, k + 2, h => simp at h

theorem val_lt2 {m : List Int} (hm : Lim m) (h2 : m.length ≤ 2) : 0 ≤ val m ∧ val m < 18446744073709551616 := by
  refine ⟨val_nonneg hm, ?_⟩
  match m, h2 with
  | [], _ => simp [val]
  | [x], _ => have := hm.head; simp only [val]; omega
  | [x, y], _ => have := hm.head; have := hm.tail.head; simp only [val]; omega
  | x :: y :: z :: l, h => simp at h

theorem c48 {H : Heap} {v : Value} {ng : Bool} {l : List Int} (h : IA Try.prog H v ng l) (hb : l.length < 2 ^ 62) : ACalls Try.prog 23 [v] H fun r H' => r = .tuple ⟨[.int .i64 (toR (nzS ng l) (nzL ng l)).1, .bool (toR (nzS ng l) (nzL ng l)).2]⟩ ∧ Hle H H' := by
  have h' := h
  obtain ⟨sl, rfl, hu, hl⟩ := h'
  refine ACalls.of_code T.hm (n := 47) Try.func23 rfl rfl rfl rfl ?_; simp only [List.replicate_succ, List.replicate_zero, List.cons_append, List.nil_append]
  simp (maxSteps := 1000000) (disch := first | exact sd | fail) only [go_sem, Nat.reduceAdd, Nat.reduceSub, Nat.reduceLeDiff, ↓reduceIte, decide_eq_true_eq, if_true, if_false, Bool.false_eq_true, Int.lt_irrefl]
  refine (c142 (h.mono (Hle.push0 _)) hb).mono ?_
  rintro s1 H1 ⟨hs, h1⟩
  have hg := get_box h1
  have hm : Lim (nzL ng l) := by unfold nzL; split; exact hl; exact Lim.nil
  have hn : (mayB ng l && ng) = nzS ng l := by unfold nzS; cases mayB ng l <;> simp
  have hs' : U Try.prog H1 s1 (nzL ng l) := hs
  have hle := (Hle.push0 _).trans h1
  generalize hmd : nzL ng l = m at *
  clear hs
  by_cases h2 : 2 < m.length
  · simp (maxSteps := 1000000) (disch := first | exact sd | fail) only [go_sem, Nat.reduceAdd, Nat.reduceSub, Nat.reduceLeDiff, ↓reduceIte, decide_eq_true_eq, if_true, if_false, Bool.false_eq_true, Int.lt_irrefl, hs'.len T.i22, show (2 : Int) < m.length by omega]
    refine ⟨?_, hle⟩
    simp [toR, h2]
  · simp (maxSteps := 1000000) (disch := first | exact sd | fail) only [go_sem, Nat.reduceAdd, Nat.reduceSub, Nat.reduceLeDiff, ↓reduceIte, decide_eq_true_eq, if_true, if_false, Bool.false_eq_true, Int.lt_irrefl, hs'.len T.i22, show ¬ (2 : Int) < m.length by omega]
    have hv := val_lt2 hm (by omega)
    refine aw_loopJ (σ := Nat) (fun k J => [J 0, .pointer (some ⟨H.next, 0, none⟩), .int .i64 0, .bool false, J 4, .int .u64 (val (m.take k)), J 6, J 7, J 8, J 9, J 10, J 11, J 12, s1, .int .i64 m.length, .int .i64 k, J 16, J 17, J 18, J 19, J 20, J 21, J 22, J 23, J 24, J 25, J 26, J 27, J 28, J 29, J 30, J 31, J 32, J 33, J 34, J 35, J 36, J 37, J 38, J 39, J 40, J 41, J 42, J 43, J 44, J 45, J 46, J 47]) (fun n k H2 => n = m.length - k ∧ H2 = H1 ∧ k ≤ m.length) m.length 0 rfl ⟨rfl, rfl, Nat.zero_le _⟩ ?_
    rintro n k J H2 ⟨rfl, rfl, hk⟩
    have hb4 := hm.getD k
    by_cases h4 : (k : Int) < m.length
    · simp (maxSteps := 1000000) (disch := first | exact sd | fail) only [go_sem, Nat.reduceAdd, Nat.reduceSub, Nat.reduceLeDiff, ↓reduceIte, decide_eq_true_eq, if_true, if_false, Bool.false_eq_true, Int.lt_irrefl, h4, hs'.addr Try.underlying22 T.s50 T.z50, hs'.loadh T.r50, Int.toNat_natCast, wrap_u64' hb4.1 (Int.lt_trans hb4.2 (by decide)), bin_shl, val_take2 hm (Int.ofNat_lt.1 h4) (Nat.le_of_not_lt h2)]
      exact IJ_intro (k := m.length - (k + 1)) (by omega) (k + 1) rfl ⟨rfl, rfl, by omega⟩
    · have hk2 : k = m.length := by omega
      subst hk2
      rw [List.take_length]
      simp (maxSteps := 1000000) (disch := first | exact sd | fail) only [go_sem, Nat.reduceAdd, Nat.reduceSub, Nat.reduceLeDiff, ↓reduceIte, decide_eq_true_eq, if_true, if_false, Bool.false_eq_true, Int.lt_irrefl, Int.lt_irrefl, hg]
      refine (c145 (h.mono hle) hb).mono ?_
      rintro _ H3 ⟨rfl, h3⟩
      rw [hn]
      have hg3 : H3.get H.next = some (.row true 24 [.bool ng, sl]) := by rw [h3.get _ (by have := h1.next; simp at this; omega)]; exact hg
      cases hz : nzS ng l with
      | true =>
        by_cases h5 : val m ≤ 9223372036854775808
        · simp (maxSteps := 1000000) (disch := first | exact sd | fail) only [go_sem, Nat.reduceAdd, Nat.reduceSub, Nat.reduceLeDiff, ↓reduceIte, decide_eq_true_eq, if_true, if_false, Bool.false_eq_true, Int.lt_irrefl, hz, h5, wrap_u64]
          refine ⟨?_, hle.trans h3⟩
          have e : IntKind.i64.wrap (-val m % 18446744073709551616) = -(val m) := by rw [wrap_i64_eq]; split <;> omega
          simp [toR, h2, h5, e]
        · simp (maxSteps := 1000000) (disch := first | exact sd | fail) only [go_sem, Nat.reduceAdd, Nat.reduceSub, Nat.reduceLeDiff, ↓reduceIte, decide_eq_true_eq, if_true, if_false, Bool.false_eq_true, Int.lt_irrefl, hz, h5, hg3]
          refine (c145 (h.mono (hle.trans h3)) hb).mono ?_
          rintro _ H4 ⟨rfl, h4⟩
          rw [hn, hz]
          simp (maxSteps := 1000000) (disch := first | exact sd | fail) only [go_sem, Nat.reduceAdd, Nat.reduceSub, Nat.reduceLeDiff, ↓reduceIte, decide_eq_true_eq, if_true, if_false, Bool.false_eq_true, Int.lt_irrefl]
          exact ⟨by simp [toR, h2, h5], (hle.trans h3).trans h4⟩
      | false =>
        simp (maxSteps := 1000000) (disch := first | exact sd | fail) only [go_sem, Nat.reduceAdd, Nat.reduceSub, Nat.reduceLeDiff, ↓reduceIte, decide_eq_true_eq, if_true, if_false, Bool.false_eq_true, Int.lt_irrefl, hz, hg3]
        refine (c145 (h.mono (hle.trans h3)) hb).mono ?_
        rintro _ H4 ⟨rfl, h4⟩
        rw [hn, hz]
        by_cases h5 : val m < 9223372036854775808
        · simp (maxSteps := 1000000) (disch := first | exact sd | fail) only [go_sem, Nat.reduceAdd, Nat.reduceSub, Nat.reduceLeDiff, ↓reduceIte, decide_eq_true_eq, if_true, if_false, Bool.false_eq_true, Int.lt_irrefl, h5]
          exact ⟨by simp [toR, h2, h5], (hle.trans h3).trans h4⟩
        · simp (maxSteps := 1000000) (disch := first | exact sd | fail) only [go_sem, Nat.reduceAdd, Nat.reduceSub, Nat.reduceLeDiff, ↓reduceIte, decide_eq_true_eq, if_true, if_false, Bool.false_eq_true, Int.lt_irrefl, h5]
          exact ⟨by simp [toR, h2, h5], (hle.trans h3).trans h4⟩
end Go.Abs
