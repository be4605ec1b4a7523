/- num.form: calls of values. -/
import Derived.Test.YtgblhcnkfcjalaaY3
import Derived.Test.YtgblhcnkfcjalaaY4
set_option linter.unusedVariables false
set_option linter.unusedSimpArgs false
namespace Go.Abs
open Go Go.Proofs
set_option maxRecDepth 100000
set_option maxHeartbeats 4000000

/-- A number's digits, its sign off. -/
def dgs (l : List Int) : List Int := if l.headD 0 = 45 then l.drop 1 else l
/-- A number's text. -/
def okN (l : List Int) : Bool := decide (dgs l ≠ [] ∧ ¬ ((dgs l).headD 0 = 48 ∧ (1 < (dgs l).length ∨ l.headD 0 = 45)) ∧ ((dgs l).all fun x => decide (48 ≤ x ∧ x ≤ 57)) = true)
theorem dgs_len (l : List Int) : (dgs l).length ≤ l.length := by
  unfold dgs; split
  · rw [List.length_drop]; omega
  · exact Nat.le_refl _
theorem hd_getD (l : List Int) : l.headD 0 = l.getD 0 0 := by cases l <;> rfl
theorem pos_ne {l : List Int} (h : l ≠ []) : 0 < l.length := List.length_pos_iff.2 h


theorem p152 {s : ByteArray} (hs : s.size ≤ 2 ^ 40) : PC Try.prog 54 [.string s] (.bool (okN (chs s))) := by
  refine PC.of (.cons (.ground rfl) .nil) (.ground rfl) fun N hN => ?_
  have hl := ln_str (P := Try.prog) (s := s) Try.underlying9
  have hi := ix_str (P := Try.prog) (s := s) (k := .i64) (i := 0) Try.underlying9 (by omega)
  have hc := chs_len s
  rw [show (0 : Int).toNat = 0 from rfl] at hi
  obtain ⟨L, hL⟩ : ∃ L, L = chs s := ⟨_, rfl⟩
  rw [← hL] at hl hi hc ⊢
  refine ACalls.of_code T.hm (n := 46) Try.func54 rfl rfl rfl rfl ?_; simp only [List.replicate_succ, List.replicate_zero, List.cons_append, List.nil_append]
  by_cases hn : L = []
  · simp (maxSteps := 1000000) (disch := first | exact sd | fail) only [go_sem, Nat.reduceAdd, Nat.reduceSub, Nat.reduceLeDiff, ↓reduceIte, decide_eq_true_eq, if_true, if_false, Bool.false_eq_true, Int.lt_irrefl, implies_true, true_and, and_true, eq_self, and_self, beq_self_eq_true, hl, hn, List.length_nil, Int.natCast_zero, bin_seql, seql, ← hL, show chs { data := #[] } = [] from rfl, decide_true]
    subst hn
    exact .rfl
  have hLp := pos_ne hn
  by_cases h45 : L.getD 0 0 = 45
  · have hsl := sl_str (P := Try.prog) (H := E0 N) (s := s) (k := .i64) (i := 1) Try.underlying9 (by omega) (by rw [← hL]; omega)
    rw [show (1 : Int).toNat = 1 from rfl] at hsl
    simp (maxSteps := 1000000) (disch := first | exact sd | fail) only [go_sem, Nat.reduceAdd, Nat.reduceSub, Nat.reduceLeDiff, ↓reduceIte, decide_eq_true_eq, if_true, if_false, Bool.false_eq_true, Int.lt_irrefl, implies_true, true_and, and_true, eq_self, and_self, beq_self_eq_true, hl, hi, h45, hsl, show (0 : Int) < L.length by omega]
    have hdd : dgs L = chs (s.extract 1 s.size) := by rw [chs_extract, ← hL]; unfold dgs; rw [if_pos (by rw [hd_getD]; exact h45)]
    obtain ⟨hb, hbe⟩ : ∃ hb, hb = true := ⟨_, rfl⟩
    have hhb : (L.headD 0 = 45) = (hb = true) := by rw [hd_getD, h45, hbe]; simp
    have hln := ln_str (P := Try.prog) (s := (s.extract 1 s.size)) Try.underlying9
    have hix := fun (k : IntKind) (i : Int) => ix_str (P := Try.prog) (s := (s.extract 1 s.size)) (k := k) (i := i) Try.underlying9
    have hsz := chs_len (s.extract 1 s.size)
    have hel : (ByteArray.toList (s.extract 1 s.size) == ByteArray.toList { data := #[] }) = decide (chs (s.extract 1 s.size) = []) := by rw [seql]; rfl
    generalize hD : chs (s.extract 1 s.size) = D at *
    have hdl : D.length ≤ 2 ^ 40 := by
      have h1 := dgs_len L
      rw [hdd] at h1; omega
    by_cases hd0 : D = []
    · have : okN L = false := by simp only [okN, hdd, hd0, ne_eq, not_true, false_and, decide_false]
      rw [this]
      simp (maxSteps := 1000000) (disch := first | exact sd | fail) only [go_sem, Nat.reduceAdd, Nat.reduceSub, Nat.reduceLeDiff, ↓reduceIte, decide_eq_true_eq, if_true, if_false, Bool.false_eq_true, Int.lt_irrefl, implies_true, true_and, and_true, eq_self, and_self, beq_self_eq_true, bin_seql, hel, hd0, decide_true]
      exact .rfl
    have hp := pos_ne hd0
    have h00 := hix .i64 0 (by omega) (by omega)
    rw [show (0 : Int).toNat = 0 from rfl] at h00
    by_cases hz : D.getD 0 0 = 48 ∧ (1 < D.length ∨ hb = true)
    · have : okN L = false := by
        simp only [okN, hdd, hd_getD D, hz.1, hhb, hz.2, true_and, not_true, false_and, and_false, decide_false, ne_eq]
      rw [this]
      by_cases h2 : (1 : Int) < D.length
      · simp (maxSteps := 1000000) (disch := first | exact sd | fail) only [go_sem, Nat.reduceAdd, Nat.reduceSub, Nat.reduceLeDiff, ↓reduceIte, decide_eq_true_eq, if_true, if_false, Bool.false_eq_true, Int.lt_irrefl, implies_true, true_and, and_true, eq_self, and_self, beq_self_eq_true, bin_seql, hel, hd0, decide_false, h00, hz.1, hln, h2]
        exact .rfl
      · have hb1 : hb = true := by rcases hz.2 with h | h; omega; exact h
        simp (maxSteps := 1000000) (disch := first | exact sd | fail) only [go_sem, Nat.reduceAdd, Nat.reduceSub, Nat.reduceLeDiff, ↓reduceIte, decide_eq_true_eq, if_true, if_false, Bool.false_eq_true, Int.lt_irrefl, implies_true, true_and, and_true, eq_self, and_self, beq_self_eq_true, bin_seql, hel, hd0, decide_false, h00, hz.1, hln, h2]
        exact .rfl
    have key : okN L = D.all (fun x => decide (48 ≤ x ∧ x ≤ 57)) := by
      simp only [okN, hdd, hd_getD D, hhb, ne_eq, hd0, hz, not_false_eq_true, true_and, Bool.decide_eq_true]
    rw [key]
    have h48 : ¬ D.getD 0 0 = 48 := fun h => hz ⟨h, .inr hbe⟩
    simp (maxSteps := 1000000) (disch := first | exact sd | fail) only [go_sem, Nat.reduceAdd, Nat.reduceSub, Nat.reduceLeDiff, ↓reduceIte, decide_eq_true_eq, if_true, if_false, Bool.false_eq_true, Int.lt_irrefl, implies_true, true_and, and_true, eq_self, and_self, beq_self_eq_true, bin_seql, hel, hd0, decide_false, h00, h48, hln]
    refine aw_loopS (σ := Nat) (fun k J => [.string (s.extract 1 s.size), J 1, .bool false, J 3, J 4, J 5, J 6, J 7, J 8, J 9, J 10, J 11, J 12, J 13, J 14, J 15, J 16, J 17, J 18, J 19, J 20, J 21, J 22, J 23, J 24, J 25, J 26, J 27, J 28, J 29, J 30, J 31, .int .i64 D.length, .int .i64 k, J 34, J 35, J 36, J 37, J 38, J 39, J 40, J 41, J 42, J 43, J 44, J 45, J 46]) (fun m k => m = D.length - k ∧ k ≤ D.length ∧ ∀ i, i < k → isDig (D.getD i 0)) D.length 0 rfl ⟨rfl, Nat.zero_le _, fun i hi => by omega⟩ ?_
    rintro m k J ⟨rfl, hk, hall⟩
    by_cases h4 : (k : Int) < D.length
    · have hx := hix .i64 k (by omega) h4
      rw [Int.toNat_natCast] at hx
      have hkl : k < D.length := by omega
      have hbad : ¬ isDig (D.getD k 0) → D.all (fun x => decide (48 ≤ x ∧ x ≤ 57)) = false := fun h => by
        rw [List.all_eq_false]
        refine ⟨D.getD k 0, ?_, by simpa [isDig] using h⟩
        rw [List.getD_eq_getElem?_getD, List.getElem?_eq_getElem hkl]; exact List.getElem_mem hkl
      by_cases h5 : D.getD k 0 < 48
      · rw [hbad (by unfold isDig; omega)]
        simp (maxSteps := 1000000) (disch := first | exact sd | fail) only [go_sem, Nat.reduceAdd, Nat.reduceSub, Nat.reduceLeDiff, ↓reduceIte, decide_eq_true_eq, if_true, if_false, Bool.false_eq_true, Int.lt_irrefl, implies_true, true_and, and_true, eq_self, and_self, beq_self_eq_true, h4, hx, h5]
        exact .rfl
      · by_cases h6 : 57 < D.getD k 0
        · rw [hbad (by unfold isDig; omega)]
          simp (maxSteps := 1000000) (disch := first | exact sd | fail) only [go_sem, Nat.reduceAdd, Nat.reduceSub, Nat.reduceLeDiff, ↓reduceIte, decide_eq_true_eq, if_true, if_false, Bool.false_eq_true, Int.lt_irrefl, implies_true, true_and, and_true, eq_self, and_self, beq_self_eq_true, h4, hx, h5, h6]
          exact .rfl
        · simp (maxSteps := 1000000) (disch := first | exact sd | fail) only [go_sem, Nat.reduceAdd, Nat.reduceSub, Nat.reduceLeDiff, ↓reduceIte, decide_eq_true_eq, if_true, if_false, Bool.false_eq_true, Int.lt_irrefl, implies_true, true_and, and_true, eq_self, and_self, beq_self_eq_true, h4, hx, h5, h6]
          refine IJ_intro (k := D.length - (k + 1)) (by omega) (k + 1) rfl ⟨⟨rfl, by omega, fun i hi => ?_⟩, rfl⟩
          by_cases h7 : i = k
          · subst h7; unfold isDig; omega
          · exact hall i (by omega)
    · have hgood : D.all (fun x => decide (48 ≤ x ∧ x ≤ 57)) = true := by
        rw [List.all_eq_true]
        intro x hx
        obtain ⟨i, hi, rfl⟩ := List.getElem_of_mem hx
        have := hall i (by omega)
        rw [List.getD_eq_getElem?_getD, List.getElem?_eq_getElem hi] at this
        simpa [isDig] using this
      rw [hgood]
      simp (maxSteps := 1000000) (disch := first | exact sd | fail) only [go_sem, Nat.reduceAdd, Nat.reduceSub, Nat.reduceLeDiff, ↓reduceIte, decide_eq_true_eq, if_true, if_false, Bool.false_eq_true, Int.lt_irrefl, implies_true, true_and, and_true, eq_self, and_self, beq_self_eq_true, h4]
      exact .rfl
  · simp (maxSteps := 1000000) (disch := first | exact sd | fail) only [go_sem, Nat.reduceAdd, Nat.reduceSub, Nat.reduceLeDiff, ↓reduceIte, decide_eq_true_eq, if_true, if_false, Bool.false_eq_true, Int.lt_irrefl, implies_true, true_and, and_true, eq_self, and_self, beq_self_eq_true, hl, hi, h45, show (0 : Int) < L.length by omega]
    have hdd : dgs L = chs s := by rw [← hL]; unfold dgs; rw [if_neg (by rw [hd_getD]; exact h45)]
    obtain ⟨hb, hbe⟩ : ∃ hb, hb = false := ⟨_, rfl⟩
    have hhb : (L.headD 0 = 45) = (hb = true) := by rw [hd_getD, hbe]; exact propext ⟨fun h => absurd h h45, fun h => by cases h⟩
    clear hl hi
    have hln := ln_str (P := Try.prog) (s := s) Try.underlying9
    have hix := fun (k : IntKind) (i : Int) => ix_str (P := Try.prog) (s := s) (k := k) (i := i) Try.underlying9
    have hsz := chs_len s
    have hel : (ByteArray.toList s == ByteArray.toList { data := #[] }) = decide (chs s = []) := by rw [seql]; rfl
    generalize hD : chs s = D at *
    have hdl : D.length ≤ 2 ^ 40 := by
      have h1 := dgs_len L
      rw [hdd] at h1; omega
    by_cases hd0 : D = []
    · have : okN L = false := by simp only [okN, hdd, hd0, ne_eq, not_true, false_and, decide_false]
      rw [this]
      simp (maxSteps := 1000000) (disch := first | exact sd | fail) only [go_sem, Nat.reduceAdd, Nat.reduceSub, Nat.reduceLeDiff, ↓reduceIte, decide_eq_true_eq, if_true, if_false, Bool.false_eq_true, Int.lt_irrefl, implies_true, true_and, and_true, eq_self, and_self, beq_self_eq_true, bin_seql, hel, hd0, decide_true]
      exact .rfl
    have hp := pos_ne hd0
    have h00 := hix .i64 0 (by omega) (by omega)
    rw [show (0 : Int).toNat = 0 from rfl] at h00
    by_cases hz : D.getD 0 0 = 48 ∧ (1 < D.length ∨ hb = true)
    · have : okN L = false := by
        simp only [okN, hdd, hd_getD D, hz.1, hhb, hz.2, true_and, not_true, false_and, and_false, decide_false, ne_eq]
      rw [this]
      by_cases h2 : (1 : Int) < D.length
      · simp (maxSteps := 1000000) (disch := first | exact sd | fail) only [go_sem, Nat.reduceAdd, Nat.reduceSub, Nat.reduceLeDiff, ↓reduceIte, decide_eq_true_eq, if_true, if_false, Bool.false_eq_true, Int.lt_irrefl, implies_true, true_and, and_true, eq_self, and_self, beq_self_eq_true, bin_seql, hel, hd0, decide_false, h00, hz.1, hln, h2]
        exact .rfl
      · have hb1 : hb = true := by rcases hz.2 with h | h; omega; exact h
        exact absurd (hbe.symm.trans hb1) (by decide)
    have key : okN L = D.all (fun x => decide (48 ≤ x ∧ x ≤ 57)) := by
      simp only [okN, hdd, hd_getD D, hhb, ne_eq, hd0, hz, not_false_eq_true, true_and, Bool.decide_eq_true]
    rw [key]
    by_cases h48 : D.getD 0 0 = 48
    · have h2 : ¬ (1 : Int) < D.length := fun h => hz ⟨h48, .inl (by omega)⟩
      simp (maxSteps := 1000000) (disch := first | exact sd | fail) only [go_sem, Nat.reduceAdd, Nat.reduceSub, Nat.reduceLeDiff, ↓reduceIte, decide_eq_true_eq, if_true, if_false, Bool.false_eq_true, Int.lt_irrefl, implies_true, true_and, and_true, eq_self, and_self, beq_self_eq_true, bin_seql, hel, hd0, decide_false, h00, h48, hln, h2]
      refine aw_loopS (σ := Nat) (fun k J => [.string s, J 1, .bool false, J 3, J 4, J 5, J 6, J 7, J 8, J 9, J 10, J 11, J 12, J 13, J 14, J 15, J 16, J 17, J 18, J 19, J 20, J 21, J 22, J 23, J 24, J 25, J 26, J 27, J 28, J 29, J 30, J 31, .int .i64 D.length, .int .i64 k, J 34, J 35, J 36, J 37, J 38, J 39, J 40, J 41, J 42, J 43, J 44, J 45, J 46]) (fun m k => m = D.length - k ∧ k ≤ D.length ∧ ∀ i, i < k → isDig (D.getD i 0)) D.length 0 rfl ⟨rfl, Nat.zero_le _, fun i hi => by omega⟩ ?_
      rintro m k J ⟨rfl, hk, hall⟩
      by_cases h4 : (k : Int) < D.length
      · have hx := hix .i64 k (by omega) h4
        rw [Int.toNat_natCast] at hx
        have hkl : k < D.length := by omega
        have hbad : ¬ isDig (D.getD k 0) → D.all (fun x => decide (48 ≤ x ∧ x ≤ 57)) = false := fun h => by
          rw [List.all_eq_false]
          refine ⟨D.getD k 0, ?_, by simpa [isDig] using h⟩
          rw [List.getD_eq_getElem?_getD, List.getElem?_eq_getElem hkl]; exact List.getElem_mem hkl
        by_cases h5 : D.getD k 0 < 48
        · rw [hbad (by unfold isDig; omega)]
          simp (maxSteps := 1000000) (disch := first | exact sd | fail) only [go_sem, Nat.reduceAdd, Nat.reduceSub, Nat.reduceLeDiff, ↓reduceIte, decide_eq_true_eq, if_true, if_false, Bool.false_eq_true, Int.lt_irrefl, implies_true, true_and, and_true, eq_self, and_self, beq_self_eq_true, h4, hx, h5]
          exact .rfl
        · by_cases h6 : 57 < D.getD k 0
          · rw [hbad (by unfold isDig; omega)]
            simp (maxSteps := 1000000) (disch := first | exact sd | fail) only [go_sem, Nat.reduceAdd, Nat.reduceSub, Nat.reduceLeDiff, ↓reduceIte, decide_eq_true_eq, if_true, if_false, Bool.false_eq_true, Int.lt_irrefl, implies_true, true_and, and_true, eq_self, and_self, beq_self_eq_true, h4, hx, h5, h6]
            exact .rfl
          · simp (maxSteps := 1000000) (disch := first | exact sd | fail) only [go_sem, Nat.reduceAdd, Nat.reduceSub, Nat.reduceLeDiff, ↓reduceIte, decide_eq_true_eq, if_true, if_false, Bool.false_eq_true, Int.lt_irrefl, implies_true, true_and, and_true, eq_self, and_self, beq_self_eq_true, h4, hx, h5, h6]
            refine IJ_intro (k := D.length - (k + 1)) (by omega) (k + 1) rfl ⟨⟨rfl, by omega, fun i hi => ?_⟩, rfl⟩
            by_cases h7 : i = k
            · subst h7; unfold isDig; omega
            · exact hall i (by omega)
      · have hgood : D.all (fun x => decide (48 ≤ x ∧ x ≤ 57)) = true := by
          rw [List.all_eq_true]
          intro x hx
          obtain ⟨i, hi, rfl⟩ := List.getElem_of_mem hx
          have := hall i (by omega)
          rw [List.getD_eq_getElem?_getD, List.getElem?_eq_getElem hi] at this
          simpa [isDig] using this
        rw [hgood]
        simp (maxSteps := 1000000) (disch := first | exact sd | fail) only [go_sem, Nat.reduceAdd, Nat.reduceSub, Nat.reduceLeDiff, ↓reduceIte, decide_eq_true_eq, if_true, if_false, Bool.false_eq_true, Int.lt_irrefl, implies_true, true_and, and_true, eq_self, and_self, beq_self_eq_true, h4]
        exact .rfl
    · simp (maxSteps := 1000000) (disch := first | exact sd | fail) only [go_sem, Nat.reduceAdd, Nat.reduceSub, Nat.reduceLeDiff, ↓reduceIte, decide_eq_true_eq, if_true, if_false, Bool.false_eq_true, Int.lt_irrefl, implies_true, true_and, and_true, eq_self, and_self, beq_self_eq_true, bin_seql, hel, hd0, decide_false, h00, h48, hln]
      refine aw_loopS (σ := Nat) (fun k J => [.string s, J 1, .bool false, J 3, J 4, J 5, J 6, J 7, J 8, J 9, J 10, J 11, J 12, J 13, J 14, J 15, J 16, J 17, J 18, J 19, J 20, J 21, J 22, J 23, J 24, J 25, J 26, J 27, J 28, J 29, J 30, J 31, .int .i64 D.length, .int .i64 k, J 34, J 35, J 36, J 37, J 38, J 39, J 40, J 41, J 42, J 43, J 44, J 45, J 46]) (fun m k => m = D.length - k ∧ k ≤ D.length ∧ ∀ i, i < k → isDig (D.getD i 0)) D.length 0 rfl ⟨rfl, Nat.zero_le _, fun i hi => by omega⟩ ?_
      rintro m k J ⟨rfl, hk, hall⟩
      by_cases h4 : (k : Int) < D.length
      · have hx := hix .i64 k (by omega) h4
        rw [Int.toNat_natCast] at hx
        have hkl : k < D.length := by omega
        have hbad : ¬ isDig (D.getD k 0) → D.all (fun x => decide (48 ≤ x ∧ x ≤ 57)) = false := fun h => by
          rw [List.all_eq_false]
          refine ⟨D.getD k 0, ?_, by simpa [isDig] using h⟩
          rw [List.getD_eq_getElem?_getD, List.getElem?_eq_getElem hkl]; exact List.getElem_mem hkl
        by_cases h5 : D.getD k 0 < 48
        · rw [hbad (by unfold isDig; omega)]
          simp (maxSteps := 1000000) (disch := first | exact sd | fail) only [go_sem, Nat.reduceAdd, Nat.reduceSub, Nat.reduceLeDiff, ↓reduceIte, decide_eq_true_eq, if_true, if_false, Bool.false_eq_true, Int.lt_irrefl, implies_true, true_and, and_true, eq_self, and_self, beq_self_eq_true, h4, hx, h5]
          exact .rfl
        · by_cases h6 : 57 < D.getD k 0
          · rw [hbad (by unfold isDig; omega)]
            simp (maxSteps := 1000000) (disch := first | exact sd | fail) only [go_sem, Nat.reduceAdd, Nat.reduceSub, Nat.reduceLeDiff, ↓reduceIte, decide_eq_true_eq, if_true, if_false, Bool.false_eq_true, Int.lt_irrefl, implies_true, true_and, and_true, eq_self, and_self, beq_self_eq_true, h4, hx, h5, h6]
            exact .rfl
          · simp (maxSteps := 1000000) (disch := first | exact sd | fail) only [go_sem, Nat.reduceAdd, Nat.reduceSub, Nat.reduceLeDiff, ↓reduceIte, decide_eq_true_eq, if_true, if_false, Bool.false_eq_true, Int.lt_irrefl, implies_true, true_and, and_true, eq_self, and_self, beq_self_eq_true, h4, hx, h5, h6]
            refine IJ_intro (k := D.length - (k + 1)) (by omega) (k + 1) rfl ⟨⟨rfl, by omega, fun i hi => ?_⟩, rfl⟩
            by_cases h7 : i = k
            · subst h7; unfold isDig; omega
            · exact hall i (by omega)
      · have hgood : D.all (fun x => decide (48 ≤ x ∧ x ≤ 57)) = true := by
          rw [List.all_eq_true]
          intro x hx
          obtain ⟨i, hi, rfl⟩ := List.getElem_of_mem hx
          have := hall i (by omega)
          rw [List.getD_eq_getElem?_getD, List.getElem?_eq_getElem hi] at this
          simpa [isDig] using this
        rw [hgood]
        simp (maxSteps := 1000000) (disch := first | exact sd | fail) only [go_sem, Nat.reduceAdd, Nat.reduceSub, Nat.reduceLeDiff, ↓reduceIte, decide_eq_true_eq, if_true, if_false, Bool.false_eq_true, Int.lt_irrefl, implies_true, true_and, and_true, eq_self, and_self, beq_self_eq_true, h4]
        exact .rfl
end Go.Abs
