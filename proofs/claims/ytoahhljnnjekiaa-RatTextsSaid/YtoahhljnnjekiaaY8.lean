/- The document's read, Read: calls of values. -/
import Derived.Test.YtoahhljnnjekiaaYc
import Derived.Test.YtoahhljnnjekiaaN18
set_option linter.unusedVariables false
set_option linter.unusedSimpArgs false
namespace Go.Abs
open Go Go.Proofs
set_option maxRecDepth 100000
set_option maxHeartbeats 4000000

def pl153_13 : Plan := ⟨[0, 1, 3, 4, 5, 6, 7, 8], [(2, [], []), (9, [], []), (10, [], [11])]⟩
theorem row_u {H : Heap} {x : Int} : U Try.prog (H.push (.row true 76 [.int .u32 x])) (.slice (some ⟨H.next, 0, none⟩) 1 1) [x] := (UO.fresh (H0 := H) (l := [x]) Hle.rfl rfl (by simp [unk]) (by simp)).u
def zdV (l : List Int) : Int := if okN l = true then zdN l else 0


theorem p153 {s : ByteArray} (hs : s.size ≤ 5000) : PC Try.prog 89 [.string s] (.tuple ⟨[Zn (zdV (chs s)), .bool (okN (chs s))]⟩) := by
  refine PC.of (.cons (.ground rfl) .nil) (.tuple (.cons pu_in (.cons (.ground rfl) .nil))) fun N hN => ?_
  have hl := ln_str (P := Try.prog) (s := s) Try.underlying9
  have hi := ix_str (P := Try.prog) (s := s) (k := .i64) (i := 0) Try.underlying9 (by omega)
  have hc := chs_len s
  rw [show (0 : Int).toNat = 0 from rfl] at hi
  obtain ⟨L, hL⟩ : ∃ L, L = chs s := ⟨_, rfl⟩
  rw [← hL] at hl hi hc ⊢
  refine ACalls.of_code T.hm (n := 70) Try.func89 rfl rfl rfl rfl ?_; simp only [List.replicate_succ, List.replicate_zero, List.cons_append, List.nil_append]
  by_cases hn : L = []
  · have : okN L = false := by rw [hn]; rfl
    rw [zdV, this, if_neg (by decide)]
    simp (maxSteps := 1000000) (disch := first | exact sd | fail) only [go_sem, Nat.reduceAdd, Nat.reduceSub, Nat.reduceLeDiff, ↓reduceIte, decide_eq_true_eq, if_true, if_false, Bool.false_eq_true, Int.lt_irrefl, implies_true, true_and, and_true, eq_self, and_self, beq_self_eq_true, aw_plan (id := 13) pl153_13, pl153_13, hl, hn, List.length_nil, Int.natCast_zero, bin_seql, seql, ← hL, show chs { data := #[] } = [] from rfl, decide_true]
    rw [lmb_zero]
    exact .tuple (.cons fz_nil (.cons .rfl .nil))
  have hLp := pos_ne hn
  by_cases h45 : L.getD 0 0 = 45
  · have hsl := fun H => sl_str (P := Try.prog) (H := H) (s := s) (k := .i64) (i := 1) Try.underlying9 (by omega) (by rw [← hL]; omega)
    rw [show (1 : Int).toNat = 1 from rfl] at hsl
    simp (maxSteps := 1000000) (disch := first | exact sd | fail) only [go_sem, Nat.reduceAdd, Nat.reduceSub, Nat.reduceLeDiff, ↓reduceIte, decide_eq_true_eq, if_true, if_false, Bool.false_eq_true, Int.lt_irrefl, implies_true, true_and, and_true, eq_self, and_self, beq_self_eq_true, aw_plan (id := 13) pl153_13, pl153_13, hl, hi, h45, hsl, show (0 : Int) < L.length by omega]
    have hdd : dgs L = chs (s.extract 1 s.size) := by rw [chs_extract, ← hL]; unfold dgs; rw [if_pos (by rw [hd_getD]; exact h45)]
    obtain ⟨hb, hbe⟩ : ∃ hb, hb = true := ⟨_, rfl⟩
    have hhb : (L.headD 0 = 45) = (hb = true) := by rw [hd_getD, h45, hbe]; simp
    have hln := ln_str (P := Try.prog) (s := (s.extract 1 s.size)) Try.underlying9
    have hix := fun (k : IntKind) (i : Int) => ix_str (P := Try.prog) (s := (s.extract 1 s.size)) (k := k) (i := i) Try.underlying9
    have hsz := chs_len (s.extract 1 s.size)
    have hel : (ByteArray.toList (s.extract 1 s.size) == ByteArray.toList { data := #[] }) = decide (chs (s.extract 1 s.size) = []) := by rw [seql]; rfl
    have he0 : (ByteArray.toList (s.extract 1 s.size) == ByteArray.toList { data := #[48] }) = decide (chs (s.extract 1 s.size) = [48]) := by rw [seql]; rfl
    generalize hD : chs (s.extract 1 s.size) = D at *
    have hdl : D.length ≤ 5000 := by
      have h1 := dgs_len L
      rw [hdd] at h1; omega
    by_cases hd0 : D = []
    · have : okN L = false := by simp only [okN, hdd, hd0, ne_eq, not_true, false_and, decide_false]
      rw [zdV, this, if_neg (by decide)]
      simp (maxSteps := 1000000) (disch := first | exact sd | fail) only [go_sem, Nat.reduceAdd, Nat.reduceSub, Nat.reduceLeDiff, ↓reduceIte, decide_eq_true_eq, if_true, if_false, Bool.false_eq_true, Int.lt_irrefl, implies_true, true_and, and_true, eq_self, and_self, beq_self_eq_true, aw_plan (id := 13) pl153_13, pl153_13, bin_seql, hel, he0, hd0, decide_true]
      rw [lmb_zero]
      exact .tuple (.cons fz_nil (.cons .rfl .nil))
    have hp := pos_ne hd0
    have h00 := hix .i64 0 (by omega) (by omega)
    rw [show (0 : Int).toNat = 0 from rfl] at h00
    by_cases hz : D.getD 0 0 = 48 ∧ (1 < D.length ∨ hb = true)
    · have : okN L = false := by
        simp only [okN, hdd, hd_getD D, hz.1, hhb, hz.2, true_and, not_true, false_and, and_false, decide_false, ne_eq]
      rw [zdV, this, if_neg (by decide)]
      by_cases h2 : (1 : Int) < D.length
      · simp (maxSteps := 1000000) (disch := first | exact sd | fail) only [go_sem, Nat.reduceAdd, Nat.reduceSub, Nat.reduceLeDiff, ↓reduceIte, decide_eq_true_eq, if_true, if_false, Bool.false_eq_true, Int.lt_irrefl, implies_true, true_and, and_true, eq_self, and_self, beq_self_eq_true, aw_plan (id := 13) pl153_13, pl153_13, bin_seql, hel, he0, hd0, decide_false, h00, hz.1, hln, h2]
        rw [lmb_zero]
        exact .tuple (.cons fz_nil (.cons .rfl .nil))
      · have hb1 : hb = true := by rcases hz.2 with h | h; omega; exact h
        have hD1 : D = [48] := by
          cases D with
          | nil => exact absurd rfl hd0
          | cons a t =>
            cases t with
            | nil => have := hz.1; simp at this; rw [this]
            | cons b t => exact absurd (show (1 : Int) < _ by simp; omega) h2
        have hD2 : decide (D = [48]) = true := decide_eq_true hD1
        have hD3 : decide (D = []) = false := decide_eq_false hd0
        rw [hD2] at he0
        rw [hD3] at hel
        first
        | exact absurd (hbe.symm.trans hb1) (by decide)
        | (simp (maxSteps := 1000000) (disch := first | exact sd | fail) only [go_sem, Nat.reduceAdd, Nat.reduceSub, Nat.reduceLeDiff, ↓reduceIte, decide_eq_true_eq, if_true, if_false, Bool.false_eq_true, Int.lt_irrefl, implies_true, true_and, and_true, eq_self, and_self, beq_self_eq_true, aw_plan (id := 13) pl153_13, pl153_13, bin_seql, hel, he0, hln, h2]
           rw [lmb_zero]
           exact .tuple (.cons fz_nil (.cons .rfl .nil)))
    have key : okN L = D.all (fun x => decide (48 ≤ x ∧ x ≤ 57)) := by
      simp only [okN, hdd, hd_getD D, hhb, ne_eq, hd0, hz, not_false_eq_true, true_and, Bool.decide_eq_true]
    have hD3 : decide (D = []) = false := decide_eq_false hd0
    rw [hD3] at hel
    have h48 : ¬ D.getD 0 0 = 48 := fun h => hz ⟨h, .inr hbe⟩
    have hD4 : decide (D = [48]) = false := decide_eq_false fun e => h48 (by rw [e]; rfl)
    rw [hD4] at he0
    by_cases h2 : (1 : Int) < D.length
    · simp (maxSteps := 1000000) (disch := first | exact sd | fail) only [go_sem, Nat.reduceAdd, Nat.reduceSub, Nat.reduceLeDiff, ↓reduceIte, decide_eq_true_eq, if_true, if_false, Bool.false_eq_true, Int.lt_irrefl, implies_true, true_and, and_true, eq_self, and_self, beq_self_eq_true, aw_plan (id := 13) pl153_13, pl153_13, bin_seql, hel, he0, h00, h48, hln, h2]
      generalize hH0 : (E0 N).push (.row true 24 [.bool false, .slice none 0 0]) = HB at *
      have hBn : HB.next = N + 1 := by rw [← hH0, next_push, next_E0]
      have hBg : HB.get N = some (.row true 24 [.bool false, .slice none 0 0]) := by rw [← hH0]; exact get_push_self _ _
      refine aw_loopJ (σ := Nat × Value × List Int) (fun st J => [.string s, J 1, .pointer (some ⟨N, 0, none⟩), .bool false, .bool true, .string (s.extract 1 s.size), st.2.1, .int .i64 st.1, J 8, J 9, J 10, J 11, J 12, J 13, J 14, J 15, J 16, J 17, J 18, J 19, J 20, J 21, J 22, J 23, J 24, J 25, J 26, J 27, J 28, J 29, J 30, J 31, J 32, J 33, J 34, J 35, J 36, J 37, J 38, J 39, J 40, J 41, J 42, J 43, J 44, J 45, J 46, J 47, J 48, J 49, J 50, J 51, J 52, J 53, J 54, J 55, J 56, J 57, J 58, J 59, J 60, J 61, J 62, J 63, J 64, J 65, J 66, J 67, J 68, J 69, J 70]) (fun m st H1 => m = D.length - st.1 ∧ st.1 ≤ D.length ∧ Hle HB H1 ∧ U Try.prog H1 st.2.1 st.2.2 ∧ Lim st.2.2 ∧ st.2.2.length ≤ 2 * st.1 ∧ val st.2.2 = rdL (D.take st.1) 0 ∧ ∀ j, j < st.1 → isDig (D.getD j 0)) D.length (0, .slice none 0 0, []) rfl ⟨rfl, Nat.zero_le _, Hle.rfl, .nil, Lim.nil, Nat.le_refl _, by simp [rdL, val], fun j hj => by omega⟩ ?_
      rintro m ⟨i, sl, l⟩ J H1 ⟨rfl, hi, hle, hu, hlim, hll, hv, hall⟩
      simp only at hi hu hlim hll hv hall
      by_cases h4 : (i : Int) < D.length
      · have hil : i < D.length := by omega
        have hx := hix .i64 i (by omega) h4
        rw [Int.toNat_natCast] at hx
        have gN : H1.get N = some (.row true 24 [.bool false, .slice none 0 0]) := (hle.get N (by omega)).trans hBg
        have hbad : ¬ isDig (D.getD i 0) → okN L = false := fun h => by
          rw [key, List.all_eq_false]
          refine ⟨D.getD i 0, ?_, by simpa [isDig] using h⟩
          rw [List.getD_eq_getElem?_getD, List.getElem?_eq_getElem hil]; exact List.getElem_mem hil
        have htk : D.take (i + 1) = D.take i ++ [D.getD i 0] := by
          rw [List.take_add_one, List.getD_eq_getElem?_getD, List.getElem?_eq_getElem hil]; rfl
        generalize hxx : D.getD i 0 = x at *
        by_cases h5 : x < 48
        · rw [zdV, hbad (by unfold isDig; omega), if_neg (by decide)]
          simp (maxSteps := 1000000) (disch := first | exact sd | fail) only [go_sem, Nat.reduceAdd, Nat.reduceSub, Nat.reduceLeDiff, ↓reduceIte, decide_eq_true_eq, if_true, if_false, Bool.false_eq_true, Int.lt_irrefl, implies_true, true_and, and_true, eq_self, and_self, beq_self_eq_true, aw_plan (id := 13) pl153_13, pl153_13, h4, hx, h5, hln, gN]
          rw [lmb_zero]
          exact .tuple (.cons fz_nil (.cons .rfl .nil))
        · by_cases h6 : 57 < x
          · rw [zdV, hbad (by unfold isDig; omega), if_neg (by decide)]
            simp (maxSteps := 1000000) (disch := first | exact sd | fail) only [go_sem, Nat.reduceAdd, Nat.reduceSub, Nat.reduceLeDiff, ↓reduceIte, decide_eq_true_eq, if_true, if_false, Bool.false_eq_true, Int.lt_irrefl, implies_true, true_and, and_true, eq_self, and_self, beq_self_eq_true, aw_plan (id := 13) pl153_13, pl153_13, h4, hx, h5, h6, hln, gN]
            rw [lmb_zero]
            exact .tuple (.cons fz_nil (.cons .rfl .nil))
          · have f1 : IntKind.u8.wrap (x - 48) = x - 48 := wrap_u8' (by omega) (by omega)
            have f2 : IntKind.u32.wrap (x - 48) = x - 48 := wrap_u32' (by omega) (by omega)
            simp (maxSteps := 1000000) (disch := first | exact sd | fail) only [go_sem, Nat.reduceAdd, Nat.reduceSub, Nat.reduceLeDiff, ↓reduceIte, decide_eq_true_eq, if_true, if_false, Bool.false_eq_true, Int.lt_irrefl, implies_true, true_and, and_true, eq_self, and_self, beq_self_eq_true, aw_plan (id := 13) pl153_13, pl153_13, h4, hx, h5, h6, hln, f1, f2]
            have hx3 : U Try.prog ((H1.push (.row true 76 [.int .u32 10])).push (.row true 76 [.int .u32 (x - 48)])) (.slice (some ⟨H1.next + 1, 0, none⟩) 1 1) [x - 48] := row_u
            refine (c161 ((hu.mono (Hle.push0 _)).mono (Hle.push0 _)) (row_u.mono (Hle.push0 _)) hlim (Lim.cons (x := 10) (by omega) Lim.nil) (by omega) (by simp)).mono ?_
            rintro r2 H2 ⟨o2, u2, l2, v2, n2, q2⟩
            simp (maxSteps := 1000000) (disch := first | exact sd | fail) only [go_sem, Nat.reduceAdd, Nat.reduceSub, Nat.reduceLeDiff, ↓reduceIte, decide_eq_true_eq, if_true, if_false, Bool.false_eq_true, Int.lt_irrefl, implies_true, true_and, and_true, eq_self, and_self, beq_self_eq_true, aw_plan (id := 13) pl153_13, pl153_13, hx, f1, f2]
            refine (c215 (hx3.mono q2) (by simp)).mono ?_
            rintro r3 _ ⟨u3, rfl⟩
            simp (maxSteps := 1000000) (disch := first | exact sd | fail) only [go_sem, Nat.reduceAdd, Nat.reduceSub, Nat.reduceLeDiff, ↓reduceIte, decide_eq_true_eq, if_true, if_false, Bool.false_eq_true, Int.lt_irrefl, implies_true, true_and, and_true, eq_self, and_self, beq_self_eq_true, aw_plan (id := 13) pl153_13, pl153_13]
            have t1 := length_trimL [x - 48]
            simp only [List.length_cons, List.length_nil] at t1 n2
            refine (c158 u2 u3 l2 (Lim.trimL (Lim.cons (x := x - 48) (by omega) Lim.nil)) (by omega) (by omega)).mono ?_
            rintro r4 H4 ⟨o4, u4, l4, v4, n4, _, q4⟩
            simp (maxSteps := 1000000) (disch := first | exact sd | fail) only [go_sem, Nat.reduceAdd, Nat.reduceSub, Nat.reduceLeDiff, ↓reduceIte, decide_eq_true_eq, if_true, if_false, Bool.false_eq_true, Int.lt_irrefl, implies_true, true_and, and_true, eq_self, and_self, beq_self_eq_true, aw_plan (id := 13) pl153_13, pl153_13, hln]
            refine IJ_intro (k := D.length - (i + 1)) (by omega) (i + 1, r4, o4) rfl ⟨rfl, by dsimp only; omega, ?_, u4, l4, by dsimp only; omega, ?_, fun j hj => ?_⟩
            · exact (((hle.push _).push _).trans q2).trans q4
            · dsimp only
              rw [v4, v2, val_trimL, htk, rdL_snoc, hv]
              simp [val]; omega
            · by_cases h7 : j = i
              · subst h7; rw [hxx]; unfold isDig; omega
              · exact hall j (by dsimp only at hj; omega)
      · have hgood : okN L = true := by
          rw [key, List.all_eq_true]
          intro x hx
          obtain ⟨j, hj, rfl⟩ := List.getElem_of_mem hx
          have := hall j (by omega)
          rw [List.getD_eq_getElem?_getD, List.getElem?_eq_getElem hj] at this
          simpa [isDig] using this
        simp (maxSteps := 1000000) (disch := first | exact sd | fail) only [go_sem, Nat.reduceAdd, Nat.reduceSub, Nat.reduceLeDiff, ↓reduceIte, decide_eq_true_eq, if_true, if_false, Bool.false_eq_true, Int.lt_irrefl, implies_true, true_and, and_true, eq_self, and_self, beq_self_eq_true, aw_plan (id := 13) pl153_13, pl153_13, h4, hln]
        refine (z150 hu hlim (by omega)).mono ?_
        rintro r H4 ⟨hr, q4⟩
        have gN : H4.get N = some (.row true 24 [.bool false, .slice none 0 0]) := ((hle.trans q4).get N (by omega)).trans hBg
        have hz2 : (if true = true then -(val l) else val l) = zdV L := by
          have e : i = D.length := by omega
          rw [zdV, hgood, if_pos rfl, hv, e, List.take_length]
          unfold zdN
          rw [hdd]
          have hx : (L.headD 0 = 45) = (true = true) := by rw [hhb, hbe]
          simp only [hx, if_true, Bool.false_eq_true, if_false]
        have hr2 := fun cs => hr.setbox gN cs
        rw [hz2] at hr hr2
        obtain ⟨sl4, rfl, hs4, hu4⟩ := hr.form
        rw [hgood]
        simp (maxSteps := 1000000) (disch := first | exact sd | fail) only [go_sem, Nat.reduceAdd, Nat.reduceSub, Nat.reduceLeDiff, ↓reduceIte, decide_eq_true_eq, if_true, if_false, Bool.false_eq_true, Int.lt_irrefl, implies_true, true_and, and_true, eq_self, and_self, beq_self_eq_true, aw_plan (id := 13) pl153_13, pl153_13, gN]
        exact .tuple (.cons (.ofN (hr2 _)) (.cons .rfl .nil))
    · simp (maxSteps := 1000000) (disch := first | exact sd | fail) only [go_sem, Nat.reduceAdd, Nat.reduceSub, Nat.reduceLeDiff, ↓reduceIte, decide_eq_true_eq, if_true, if_false, Bool.false_eq_true, Int.lt_irrefl, implies_true, true_and, and_true, eq_self, and_self, beq_self_eq_true, aw_plan (id := 13) pl153_13, pl153_13, bin_seql, hel, he0, h00, h48, hln, h2]
      generalize hH0 : (E0 N).push (.row true 24 [.bool false, .slice none 0 0]) = HB at *
      have hBn : HB.next = N + 1 := by rw [← hH0, next_push, next_E0]
      have hBg : HB.get N = some (.row true 24 [.bool false, .slice none 0 0]) := by rw [← hH0]; exact get_push_self _ _
      refine aw_loopJ (σ := Nat × Value × List Int) (fun st J => [.string s, J 1, .pointer (some ⟨N, 0, none⟩), .bool false, .bool true, .string (s.extract 1 s.size), st.2.1, .int .i64 st.1, J 8, J 9, J 10, J 11, J 12, J 13, J 14, J 15, J 16, J 17, J 18, J 19, J 20, J 21, J 22, J 23, J 24, J 25, J 26, J 27, J 28, J 29, J 30, J 31, J 32, J 33, J 34, J 35, J 36, J 37, J 38, J 39, J 40, J 41, J 42, J 43, J 44, J 45, J 46, J 47, J 48, J 49, J 50, J 51, J 52, J 53, J 54, J 55, J 56, J 57, J 58, J 59, J 60, J 61, J 62, J 63, J 64, J 65, J 66, J 67, J 68, J 69, J 70]) (fun m st H1 => m = D.length - st.1 ∧ st.1 ≤ D.length ∧ Hle HB H1 ∧ U Try.prog H1 st.2.1 st.2.2 ∧ Lim st.2.2 ∧ st.2.2.length ≤ 2 * st.1 ∧ val st.2.2 = rdL (D.take st.1) 0 ∧ ∀ j, j < st.1 → isDig (D.getD j 0)) D.length (0, .slice none 0 0, []) rfl ⟨rfl, Nat.zero_le _, Hle.rfl, .nil, Lim.nil, Nat.le_refl _, by simp [rdL, val], fun j hj => by omega⟩ ?_
      rintro m ⟨i, sl, l⟩ J H1 ⟨rfl, hi, hle, hu, hlim, hll, hv, hall⟩
      simp only at hi hu hlim hll hv hall
      by_cases h4 : (i : Int) < D.length
      · have hil : i < D.length := by omega
        have hx := hix .i64 i (by omega) h4
        rw [Int.toNat_natCast] at hx
        have gN : H1.get N = some (.row true 24 [.bool false, .slice none 0 0]) := (hle.get N (by omega)).trans hBg
        have hbad : ¬ isDig (D.getD i 0) → okN L = false := fun h => by
          rw [key, List.all_eq_false]
          refine ⟨D.getD i 0, ?_, by simpa [isDig] using h⟩
          rw [List.getD_eq_getElem?_getD, List.getElem?_eq_getElem hil]; exact List.getElem_mem hil
        have htk : D.take (i + 1) = D.take i ++ [D.getD i 0] := by
          rw [List.take_add_one, List.getD_eq_getElem?_getD, List.getElem?_eq_getElem hil]; rfl
        generalize hxx : D.getD i 0 = x at *
        by_cases h5 : x < 48
        · rw [zdV, hbad (by unfold isDig; omega), if_neg (by decide)]
          simp (maxSteps := 1000000) (disch := first | exact sd | fail) only [go_sem, Nat.reduceAdd, Nat.reduceSub, Nat.reduceLeDiff, ↓reduceIte, decide_eq_true_eq, if_true, if_false, Bool.false_eq_true, Int.lt_irrefl, implies_true, true_and, and_true, eq_self, and_self, beq_self_eq_true, aw_plan (id := 13) pl153_13, pl153_13, h4, hx, h5, hln, gN]
          rw [lmb_zero]
          exact .tuple (.cons fz_nil (.cons .rfl .nil))
        · by_cases h6 : 57 < x
          · rw [zdV, hbad (by unfold isDig; omega), if_neg (by decide)]
            simp (maxSteps := 1000000) (disch := first | exact sd | fail) only [go_sem, Nat.reduceAdd, Nat.reduceSub, Nat.reduceLeDiff, ↓reduceIte, decide_eq_true_eq, if_true, if_false, Bool.false_eq_true, Int.lt_irrefl, implies_true, true_and, and_true, eq_self, and_self, beq_self_eq_true, aw_plan (id := 13) pl153_13, pl153_13, h4, hx, h5, h6, hln, gN]
            rw [lmb_zero]
            exact .tuple (.cons fz_nil (.cons .rfl .nil))
          · have f1 : IntKind.u8.wrap (x - 48) = x - 48 := wrap_u8' (by omega) (by omega)
            have f2 : IntKind.u32.wrap (x - 48) = x - 48 := wrap_u32' (by omega) (by omega)
            simp (maxSteps := 1000000) (disch := first | exact sd | fail) only [go_sem, Nat.reduceAdd, Nat.reduceSub, Nat.reduceLeDiff, ↓reduceIte, decide_eq_true_eq, if_true, if_false, Bool.false_eq_true, Int.lt_irrefl, implies_true, true_and, and_true, eq_self, and_self, beq_self_eq_true, aw_plan (id := 13) pl153_13, pl153_13, h4, hx, h5, h6, hln, f1, f2]
            have hx3 : U Try.prog ((H1.push (.row true 76 [.int .u32 10])).push (.row true 76 [.int .u32 (x - 48)])) (.slice (some ⟨H1.next + 1, 0, none⟩) 1 1) [x - 48] := row_u
            refine (c161 ((hu.mono (Hle.push0 _)).mono (Hle.push0 _)) (row_u.mono (Hle.push0 _)) hlim (Lim.cons (x := 10) (by omega) Lim.nil) (by omega) (by simp)).mono ?_
            rintro r2 H2 ⟨o2, u2, l2, v2, n2, q2⟩
            simp (maxSteps := 1000000) (disch := first | exact sd | fail) only [go_sem, Nat.reduceAdd, Nat.reduceSub, Nat.reduceLeDiff, ↓reduceIte, decide_eq_true_eq, if_true, if_false, Bool.false_eq_true, Int.lt_irrefl, implies_true, true_and, and_true, eq_self, and_self, beq_self_eq_true, aw_plan (id := 13) pl153_13, pl153_13, hx, f1, f2]
            refine (c215 (hx3.mono q2) (by simp)).mono ?_
            rintro r3 _ ⟨u3, rfl⟩
            simp (maxSteps := 1000000) (disch := first | exact sd | fail) only [go_sem, Nat.reduceAdd, Nat.reduceSub, Nat.reduceLeDiff, ↓reduceIte, decide_eq_true_eq, if_true, if_false, Bool.false_eq_true, Int.lt_irrefl, implies_true, true_and, and_true, eq_self, and_self, beq_self_eq_true, aw_plan (id := 13) pl153_13, pl153_13]
            have t1 := length_trimL [x - 48]
            simp only [List.length_cons, List.length_nil] at t1 n2
            refine (c158 u2 u3 l2 (Lim.trimL (Lim.cons (x := x - 48) (by omega) Lim.nil)) (by omega) (by omega)).mono ?_
            rintro r4 H4 ⟨o4, u4, l4, v4, n4, _, q4⟩
            simp (maxSteps := 1000000) (disch := first | exact sd | fail) only [go_sem, Nat.reduceAdd, Nat.reduceSub, Nat.reduceLeDiff, ↓reduceIte, decide_eq_true_eq, if_true, if_false, Bool.false_eq_true, Int.lt_irrefl, implies_true, true_and, and_true, eq_self, and_self, beq_self_eq_true, aw_plan (id := 13) pl153_13, pl153_13, hln]
            refine IJ_intro (k := D.length - (i + 1)) (by omega) (i + 1, r4, o4) rfl ⟨rfl, by dsimp only; omega, ?_, u4, l4, by dsimp only; omega, ?_, fun j hj => ?_⟩
            · exact (((hle.push _).push _).trans q2).trans q4
            · dsimp only
              rw [v4, v2, val_trimL, htk, rdL_snoc, hv]
              simp [val]; omega
            · by_cases h7 : j = i
              · subst h7; rw [hxx]; unfold isDig; omega
              · exact hall j (by dsimp only at hj; omega)
      · have hgood : okN L = true := by
          rw [key, List.all_eq_true]
          intro x hx
          obtain ⟨j, hj, rfl⟩ := List.getElem_of_mem hx
          have := hall j (by omega)
          rw [List.getD_eq_getElem?_getD, List.getElem?_eq_getElem hj] at this
          simpa [isDig] using this
        simp (maxSteps := 1000000) (disch := first | exact sd | fail) only [go_sem, Nat.reduceAdd, Nat.reduceSub, Nat.reduceLeDiff, ↓reduceIte, decide_eq_true_eq, if_true, if_false, Bool.false_eq_true, Int.lt_irrefl, implies_true, true_and, and_true, eq_self, and_self, beq_self_eq_true, aw_plan (id := 13) pl153_13, pl153_13, h4, hln]
        refine (z150 hu hlim (by omega)).mono ?_
        rintro r H4 ⟨hr, q4⟩
        have gN : H4.get N = some (.row true 24 [.bool false, .slice none 0 0]) := ((hle.trans q4).get N (by omega)).trans hBg
        have hz2 : (if true = true then -(val l) else val l) = zdV L := by
          have e : i = D.length := by omega
          rw [zdV, hgood, if_pos rfl, hv, e, List.take_length]
          unfold zdN
          rw [hdd]
          have hx : (L.headD 0 = 45) = (true = true) := by rw [hhb, hbe]
          simp only [hx, if_true, Bool.false_eq_true, if_false]
        have hr2 := fun cs => hr.setbox gN cs
        rw [hz2] at hr hr2
        obtain ⟨sl4, rfl, hs4, hu4⟩ := hr.form
        rw [hgood]
        simp (maxSteps := 1000000) (disch := first | exact sd | fail) only [go_sem, Nat.reduceAdd, Nat.reduceSub, Nat.reduceLeDiff, ↓reduceIte, decide_eq_true_eq, if_true, if_false, Bool.false_eq_true, Int.lt_irrefl, implies_true, true_and, and_true, eq_self, and_self, beq_self_eq_true, aw_plan (id := 13) pl153_13, pl153_13, gN]
        exact .tuple (.cons (.ofN (hr2 _)) (.cons .rfl .nil))
  · simp (maxSteps := 1000000) (disch := first | exact sd | fail) only [go_sem, Nat.reduceAdd, Nat.reduceSub, Nat.reduceLeDiff, ↓reduceIte, decide_eq_true_eq, if_true, if_false, Bool.false_eq_true, Int.lt_irrefl, implies_true, true_and, and_true, eq_self, and_self, beq_self_eq_true, aw_plan (id := 13) pl153_13, pl153_13, hl, hi, h45, show (0 : Int) < L.length by omega]
    have hdd : dgs L = chs s := by rw [← hL]; unfold dgs; rw [if_neg (by rw [hd_getD]; exact h45)]
    obtain ⟨hb, hbe⟩ : ∃ hb, hb = false := ⟨_, rfl⟩
    have hhb : (L.headD 0 = 45) = (hb = true) := by rw [hd_getD, hbe]; exact propext ⟨fun h => absurd h h45, fun h => by cases h⟩
    clear hl hi
    have hln := ln_str (P := Try.prog) (s := s) Try.underlying9
    have hix := fun (k : IntKind) (i : Int) => ix_str (P := Try.prog) (s := s) (k := k) (i := i) Try.underlying9
    have hsz := chs_len s
    have hel : (ByteArray.toList s == ByteArray.toList { data := #[] }) = decide (chs s = []) := by rw [seql]; rfl
    have he0 : (ByteArray.toList s == ByteArray.toList { data := #[48] }) = decide (chs s = [48]) := by rw [seql]; rfl
    generalize hD : chs s = D at *
    have hdl : D.length ≤ 5000 := by
      have h1 := dgs_len L
      rw [hdd] at h1; omega
    by_cases hd0 : D = []
    · have : okN L = false := by simp only [okN, hdd, hd0, ne_eq, not_true, false_and, decide_false]
      rw [zdV, this, if_neg (by decide)]
      simp (maxSteps := 1000000) (disch := first | exact sd | fail) only [go_sem, Nat.reduceAdd, Nat.reduceSub, Nat.reduceLeDiff, ↓reduceIte, decide_eq_true_eq, if_true, if_false, Bool.false_eq_true, Int.lt_irrefl, implies_true, true_and, and_true, eq_self, and_self, beq_self_eq_true, aw_plan (id := 13) pl153_13, pl153_13, bin_seql, hel, he0, hd0, decide_true]
      rw [lmb_zero]
      exact .tuple (.cons fz_nil (.cons .rfl .nil))
    have hp := pos_ne hd0
    have h00 := hix .i64 0 (by omega) (by omega)
    rw [show (0 : Int).toNat = 0 from rfl] at h00
    by_cases hz : D.getD 0 0 = 48 ∧ (1 < D.length ∨ hb = true)
    · have : okN L = false := by
        simp only [okN, hdd, hd_getD D, hz.1, hhb, hz.2, true_and, not_true, false_and, and_false, decide_false, ne_eq]
      rw [zdV, this, if_neg (by decide)]
      by_cases h2 : (1 : Int) < D.length
      · simp (maxSteps := 1000000) (disch := first | exact sd | fail) only [go_sem, Nat.reduceAdd, Nat.reduceSub, Nat.reduceLeDiff, ↓reduceIte, decide_eq_true_eq, if_true, if_false, Bool.false_eq_true, Int.lt_irrefl, implies_true, true_and, and_true, eq_self, and_self, beq_self_eq_true, aw_plan (id := 13) pl153_13, pl153_13, bin_seql, hel, he0, hd0, decide_false, h00, hz.1, hln, h2]
        rw [lmb_zero]
        exact .tuple (.cons fz_nil (.cons .rfl .nil))
      · have hb1 : hb = true := by rcases hz.2 with h | h; omega; exact h
        have hD1 : D = [48] := by
          cases D with
          | nil => exact absurd rfl hd0
          | cons a t =>
            cases t with
            | nil => have := hz.1; simp at this; rw [this]
            | cons b t => exact absurd (show (1 : Int) < _ by simp; omega) h2
        have hD2 : decide (D = [48]) = true := decide_eq_true hD1
        have hD3 : decide (D = []) = false := decide_eq_false hd0
        rw [hD2] at he0
        rw [hD3] at hel
        first
        | exact absurd (hbe.symm.trans hb1) (by decide)
        | (simp (maxSteps := 1000000) (disch := first | exact sd | fail) only [go_sem, Nat.reduceAdd, Nat.reduceSub, Nat.reduceLeDiff, ↓reduceIte, decide_eq_true_eq, if_true, if_false, Bool.false_eq_true, Int.lt_irrefl, implies_true, true_and, and_true, eq_self, and_self, beq_self_eq_true, aw_plan (id := 13) pl153_13, pl153_13, bin_seql, hel, he0, hln, h2]
           rw [lmb_zero]
           exact .tuple (.cons fz_nil (.cons .rfl .nil)))
    have key : okN L = D.all (fun x => decide (48 ≤ x ∧ x ≤ 57)) := by
      simp only [okN, hdd, hd_getD D, hhb, ne_eq, hd0, hz, not_false_eq_true, true_and, Bool.decide_eq_true]
    have hD3 : decide (D = []) = false := decide_eq_false hd0
    rw [hD3] at hel
    by_cases h2 : (1 : Int) < D.length
    · have h48 : ¬ D.getD 0 0 = 48 := fun h => hz ⟨h, .inl (by omega)⟩
      simp (maxSteps := 1000000) (disch := first | exact sd | fail) only [go_sem, Nat.reduceAdd, Nat.reduceSub, Nat.reduceLeDiff, ↓reduceIte, decide_eq_true_eq, if_true, if_false, Bool.false_eq_true, Int.lt_irrefl, implies_true, true_and, and_true, eq_self, and_self, beq_self_eq_true, aw_plan (id := 13) pl153_13, pl153_13, bin_seql, hel, he0, h00, h48, hln, h2]
      generalize hH0 : (E0 N).push (.row true 24 [.bool false, .slice none 0 0]) = HB at *
      have hBn : HB.next = N + 1 := by rw [← hH0, next_push, next_E0]
      have hBg : HB.get N = some (.row true 24 [.bool false, .slice none 0 0]) := by rw [← hH0]; exact get_push_self _ _
      refine aw_loopJ (σ := Nat × Value × List Int) (fun st J => [.string s, J 1, .pointer (some ⟨N, 0, none⟩), .bool false, .bool false, .string s, st.2.1, .int .i64 st.1, J 8, J 9, J 10, J 11, J 12, J 13, J 14, J 15, J 16, J 17, J 18, J 19, J 20, J 21, J 22, J 23, J 24, J 25, J 26, J 27, J 28, J 29, J 30, J 31, J 32, J 33, J 34, J 35, J 36, J 37, J 38, J 39, J 40, J 41, J 42, J 43, J 44, J 45, J 46, J 47, J 48, J 49, J 50, J 51, J 52, J 53, J 54, J 55, J 56, J 57, J 58, J 59, J 60, J 61, J 62, J 63, J 64, J 65, J 66, J 67, J 68, J 69, J 70]) (fun m st H1 => m = D.length - st.1 ∧ st.1 ≤ D.length ∧ Hle HB H1 ∧ U Try.prog H1 st.2.1 st.2.2 ∧ Lim st.2.2 ∧ st.2.2.length ≤ 2 * st.1 ∧ val st.2.2 = rdL (D.take st.1) 0 ∧ ∀ j, j < st.1 → isDig (D.getD j 0)) D.length (0, .slice none 0 0, []) rfl ⟨rfl, Nat.zero_le _, Hle.rfl, .nil, Lim.nil, Nat.le_refl _, by simp [rdL, val], fun j hj => by omega⟩ ?_
      rintro m ⟨i, sl, l⟩ J H1 ⟨rfl, hi, hle, hu, hlim, hll, hv, hall⟩
      simp only at hi hu hlim hll hv hall
      by_cases h4 : (i : Int) < D.length
      · have hil : i < D.length := by omega
        have hx := hix .i64 i (by omega) h4
        rw [Int.toNat_natCast] at hx
        have gN : H1.get N = some (.row true 24 [.bool false, .slice none 0 0]) := (hle.get N (by omega)).trans hBg
        have hbad : ¬ isDig (D.getD i 0) → okN L = false := fun h => by
          rw [key, List.all_eq_false]
          refine ⟨D.getD i 0, ?_, by simpa [isDig] using h⟩
          rw [List.getD_eq_getElem?_getD, List.getElem?_eq_getElem hil]; exact List.getElem_mem hil
        have htk : D.take (i + 1) = D.take i ++ [D.getD i 0] := by
          rw [List.take_add_one, List.getD_eq_getElem?_getD, List.getElem?_eq_getElem hil]; rfl
        generalize hxx : D.getD i 0 = x at *
        by_cases h5 : x < 48
        · rw [zdV, hbad (by unfold isDig; omega), if_neg (by decide)]
          simp (maxSteps := 1000000) (disch := first | exact sd | fail) only [go_sem, Nat.reduceAdd, Nat.reduceSub, Nat.reduceLeDiff, ↓reduceIte, decide_eq_true_eq, if_true, if_false, Bool.false_eq_true, Int.lt_irrefl, implies_true, true_and, and_true, eq_self, and_self, beq_self_eq_true, aw_plan (id := 13) pl153_13, pl153_13, h4, hx, h5, hln, gN]
          rw [lmb_zero]
          exact .tuple (.cons fz_nil (.cons .rfl .nil))
        · by_cases h6 : 57 < x
          · rw [zdV, hbad (by unfold isDig; omega), if_neg (by decide)]
            simp (maxSteps := 1000000) (disch := first | exact sd | fail) only [go_sem, Nat.reduceAdd, Nat.reduceSub, Nat.reduceLeDiff, ↓reduceIte, decide_eq_true_eq, if_true, if_false, Bool.false_eq_true, Int.lt_irrefl, implies_true, true_and, and_true, eq_self, and_self, beq_self_eq_true, aw_plan (id := 13) pl153_13, pl153_13, h4, hx, h5, h6, hln, gN]
            rw [lmb_zero]
            exact .tuple (.cons fz_nil (.cons .rfl .nil))
          · have f1 : IntKind.u8.wrap (x - 48) = x - 48 := wrap_u8' (by omega) (by omega)
            have f2 : IntKind.u32.wrap (x - 48) = x - 48 := wrap_u32' (by omega) (by omega)
            simp (maxSteps := 1000000) (disch := first | exact sd | fail) only [go_sem, Nat.reduceAdd, Nat.reduceSub, Nat.reduceLeDiff, ↓reduceIte, decide_eq_true_eq, if_true, if_false, Bool.false_eq_true, Int.lt_irrefl, implies_true, true_and, and_true, eq_self, and_self, beq_self_eq_true, aw_plan (id := 13) pl153_13, pl153_13, h4, hx, h5, h6, hln, f1, f2]
            have hx3 : U Try.prog ((H1.push (.row true 76 [.int .u32 10])).push (.row true 76 [.int .u32 (x - 48)])) (.slice (some ⟨H1.next + 1, 0, none⟩) 1 1) [x - 48] := row_u
            refine (c161 ((hu.mono (Hle.push0 _)).mono (Hle.push0 _)) (row_u.mono (Hle.push0 _)) hlim (Lim.cons (x := 10) (by omega) Lim.nil) (by omega) (by simp)).mono ?_
            rintro r2 H2 ⟨o2, u2, l2, v2, n2, q2⟩
            simp (maxSteps := 1000000) (disch := first | exact sd | fail) only [go_sem, Nat.reduceAdd, Nat.reduceSub, Nat.reduceLeDiff, ↓reduceIte, decide_eq_true_eq, if_true, if_false, Bool.false_eq_true, Int.lt_irrefl, implies_true, true_and, and_true, eq_self, and_self, beq_self_eq_true, aw_plan (id := 13) pl153_13, pl153_13, hx, f1, f2]
            refine (c215 (hx3.mono q2) (by simp)).mono ?_
            rintro r3 _ ⟨u3, rfl⟩
            simp (maxSteps := 1000000) (disch := first | exact sd | fail) only [go_sem, Nat.reduceAdd, Nat.reduceSub, Nat.reduceLeDiff, ↓reduceIte, decide_eq_true_eq, if_true, if_false, Bool.false_eq_true, Int.lt_irrefl, implies_true, true_and, and_true, eq_self, and_self, beq_self_eq_true, aw_plan (id := 13) pl153_13, pl153_13]
            have t1 := length_trimL [x - 48]
            simp only [List.length_cons, List.length_nil] at t1 n2
            refine (c158 u2 u3 l2 (Lim.trimL (Lim.cons (x := x - 48) (by omega) Lim.nil)) (by omega) (by omega)).mono ?_
            rintro r4 H4 ⟨o4, u4, l4, v4, n4, _, q4⟩
            simp (maxSteps := 1000000) (disch := first | exact sd | fail) only [go_sem, Nat.reduceAdd, Nat.reduceSub, Nat.reduceLeDiff, ↓reduceIte, decide_eq_true_eq, if_true, if_false, Bool.false_eq_true, Int.lt_irrefl, implies_true, true_and, and_true, eq_self, and_self, beq_self_eq_true, aw_plan (id := 13) pl153_13, pl153_13, hln]
            refine IJ_intro (k := D.length - (i + 1)) (by omega) (i + 1, r4, o4) rfl ⟨rfl, by dsimp only; omega, ?_, u4, l4, by dsimp only; omega, ?_, fun j hj => ?_⟩
            · exact (((hle.push _).push _).trans q2).trans q4
            · dsimp only
              rw [v4, v2, val_trimL, htk, rdL_snoc, hv]
              simp [val]; omega
            · by_cases h7 : j = i
              · subst h7; rw [hxx]; unfold isDig; omega
              · exact hall j (by dsimp only at hj; omega)
      · have hgood : okN L = true := by
          rw [key, List.all_eq_true]
          intro x hx
          obtain ⟨j, hj, rfl⟩ := List.getElem_of_mem hx
          have := hall j (by omega)
          rw [List.getD_eq_getElem?_getD, List.getElem?_eq_getElem hj] at this
          simpa [isDig] using this
        simp (maxSteps := 1000000) (disch := first | exact sd | fail) only [go_sem, Nat.reduceAdd, Nat.reduceSub, Nat.reduceLeDiff, ↓reduceIte, decide_eq_true_eq, if_true, if_false, Bool.false_eq_true, Int.lt_irrefl, implies_true, true_and, and_true, eq_self, and_self, beq_self_eq_true, aw_plan (id := 13) pl153_13, pl153_13, h4, hln]
        refine (z150 hu hlim (by omega)).mono ?_
        rintro r H4 ⟨hr, q4⟩
        have gN : H4.get N = some (.row true 24 [.bool false, .slice none 0 0]) := ((hle.trans q4).get N (by omega)).trans hBg
        have hz2 : (if false = true then -(val l) else val l) = zdV L := by
          have e : i = D.length := by omega
          rw [zdV, hgood, if_pos rfl, hv, e, List.take_length]
          unfold zdN
          rw [hdd]
          have hx : (L.headD 0 = 45) = (false = true) := by rw [hhb, hbe]
          simp only [hx, if_true, Bool.false_eq_true, if_false]
        have hr2 := fun cs => hr.setbox gN cs
        rw [hz2] at hr hr2
        obtain ⟨sl4, rfl, hs4, hu4⟩ := hr.form
        rw [hgood]
        simp (maxSteps := 1000000) (disch := first | exact sd | fail) only [go_sem, Nat.reduceAdd, Nat.reduceSub, Nat.reduceLeDiff, ↓reduceIte, decide_eq_true_eq, if_true, if_false, Bool.false_eq_true, Int.lt_irrefl, implies_true, true_and, and_true, eq_self, and_self, beq_self_eq_true, aw_plan (id := 13) pl153_13, pl153_13, gN]
        exact .tuple (.cons (.ofN (hr2 _)) (.cons .rfl .nil))
    · simp (maxSteps := 1000000) (disch := first | exact sd | fail) only [go_sem, Nat.reduceAdd, Nat.reduceSub, Nat.reduceLeDiff, ↓reduceIte, decide_eq_true_eq, if_true, if_false, Bool.false_eq_true, Int.lt_irrefl, implies_true, true_and, and_true, eq_self, and_self, beq_self_eq_true, aw_plan (id := 13) pl153_13, pl153_13, bin_seql, hel, he0, hln, h2]
      generalize hH0 : (E0 N).push (.row true 24 [.bool false, .slice none 0 0]) = HB at *
      have hBn : HB.next = N + 1 := by rw [← hH0, next_push, next_E0]
      have hBg : HB.get N = some (.row true 24 [.bool false, .slice none 0 0]) := by rw [← hH0]; exact get_push_self _ _
      refine aw_loopJ (σ := Nat × Value × List Int) (fun st J => [.string s, J 1, .pointer (some ⟨N, 0, none⟩), .bool false, .bool false, .string s, st.2.1, .int .i64 st.1, J 8, J 9, J 10, J 11, J 12, J 13, J 14, J 15, J 16, J 17, J 18, J 19, J 20, J 21, J 22, J 23, J 24, J 25, J 26, J 27, J 28, J 29, J 30, J 31, J 32, J 33, J 34, J 35, J 36, J 37, J 38, J 39, J 40, J 41, J 42, J 43, J 44, J 45, J 46, J 47, J 48, J 49, J 50, J 51, J 52, J 53, J 54, J 55, J 56, J 57, J 58, J 59, J 60, J 61, J 62, J 63, J 64, J 65, J 66, J 67, J 68, J 69, J 70]) (fun m st H1 => m = D.length - st.1 ∧ st.1 ≤ D.length ∧ Hle HB H1 ∧ U Try.prog H1 st.2.1 st.2.2 ∧ Lim st.2.2 ∧ st.2.2.length ≤ 2 * st.1 ∧ val st.2.2 = rdL (D.take st.1) 0 ∧ ∀ j, j < st.1 → isDig (D.getD j 0)) D.length (0, .slice none 0 0, []) rfl ⟨rfl, Nat.zero_le _, Hle.rfl, .nil, Lim.nil, Nat.le_refl _, by simp [rdL, val], fun j hj => by omega⟩ ?_
      rintro m ⟨i, sl, l⟩ J H1 ⟨rfl, hi, hle, hu, hlim, hll, hv, hall⟩
      simp only at hi hu hlim hll hv hall
      by_cases h4 : (i : Int) < D.length
      · have hil : i < D.length := by omega
        have hx := hix .i64 i (by omega) h4
        rw [Int.toNat_natCast] at hx
        have gN : H1.get N = some (.row true 24 [.bool false, .slice none 0 0]) := (hle.get N (by omega)).trans hBg
        have hbad : ¬ isDig (D.getD i 0) → okN L = false := fun h => by
          rw [key, List.all_eq_false]
          refine ⟨D.getD i 0, ?_, by simpa [isDig] using h⟩
          rw [List.getD_eq_getElem?_getD, List.getElem?_eq_getElem hil]; exact List.getElem_mem hil
        have htk : D.take (i + 1) = D.take i ++ [D.getD i 0] := by
          rw [List.take_add_one, List.getD_eq_getElem?_getD, List.getElem?_eq_getElem hil]; rfl
        generalize hxx : D.getD i 0 = x at *
        by_cases h5 : x < 48
        · rw [zdV, hbad (by unfold isDig; omega), if_neg (by decide)]
          simp (maxSteps := 1000000) (disch := first | exact sd | fail) only [go_sem, Nat.reduceAdd, Nat.reduceSub, Nat.reduceLeDiff, ↓reduceIte, decide_eq_true_eq, if_true, if_false, Bool.false_eq_true, Int.lt_irrefl, implies_true, true_and, and_true, eq_self, and_self, beq_self_eq_true, aw_plan (id := 13) pl153_13, pl153_13, h4, hx, h5, hln, gN]
          rw [lmb_zero]
          exact .tuple (.cons fz_nil (.cons .rfl .nil))
        · by_cases h6 : 57 < x
          · rw [zdV, hbad (by unfold isDig; omega), if_neg (by decide)]
            simp (maxSteps := 1000000) (disch := first | exact sd | fail) only [go_sem, Nat.reduceAdd, Nat.reduceSub, Nat.reduceLeDiff, ↓reduceIte, decide_eq_true_eq, if_true, if_false, Bool.false_eq_true, Int.lt_irrefl, implies_true, true_and, and_true, eq_self, and_self, beq_self_eq_true, aw_plan (id := 13) pl153_13, pl153_13, h4, hx, h5, h6, hln, gN]
            rw [lmb_zero]
            exact .tuple (.cons fz_nil (.cons .rfl .nil))
          · have f1 : IntKind.u8.wrap (x - 48) = x - 48 := wrap_u8' (by omega) (by omega)
            have f2 : IntKind.u32.wrap (x - 48) = x - 48 := wrap_u32' (by omega) (by omega)
            simp (maxSteps := 1000000) (disch := first | exact sd | fail) only [go_sem, Nat.reduceAdd, Nat.reduceSub, Nat.reduceLeDiff, ↓reduceIte, decide_eq_true_eq, if_true, if_false, Bool.false_eq_true, Int.lt_irrefl, implies_true, true_and, and_true, eq_self, and_self, beq_self_eq_true, aw_plan (id := 13) pl153_13, pl153_13, h4, hx, h5, h6, hln, f1, f2]
            have hx3 : U Try.prog ((H1.push (.row true 76 [.int .u32 10])).push (.row true 76 [.int .u32 (x - 48)])) (.slice (some ⟨H1.next + 1, 0, none⟩) 1 1) [x - 48] := row_u
            refine (c161 ((hu.mono (Hle.push0 _)).mono (Hle.push0 _)) (row_u.mono (Hle.push0 _)) hlim (Lim.cons (x := 10) (by omega) Lim.nil) (by omega) (by simp)).mono ?_
            rintro r2 H2 ⟨o2, u2, l2, v2, n2, q2⟩
            simp (maxSteps := 1000000) (disch := first | exact sd | fail) only [go_sem, Nat.reduceAdd, Nat.reduceSub, Nat.reduceLeDiff, ↓reduceIte, decide_eq_true_eq, if_true, if_false, Bool.false_eq_true, Int.lt_irrefl, implies_true, true_and, and_true, eq_self, and_self, beq_self_eq_true, aw_plan (id := 13) pl153_13, pl153_13, hx, f1, f2]
            refine (c215 (hx3.mono q2) (by simp)).mono ?_
            rintro r3 _ ⟨u3, rfl⟩
            simp (maxSteps := 1000000) (disch := first | exact sd | fail) only [go_sem, Nat.reduceAdd, Nat.reduceSub, Nat.reduceLeDiff, ↓reduceIte, decide_eq_true_eq, if_true, if_false, Bool.false_eq_true, Int.lt_irrefl, implies_true, true_and, and_true, eq_self, and_self, beq_self_eq_true, aw_plan (id := 13) pl153_13, pl153_13]
            have t1 := length_trimL [x - 48]
            simp only [List.length_cons, List.length_nil] at t1 n2
            refine (c158 u2 u3 l2 (Lim.trimL (Lim.cons (x := x - 48) (by omega) Lim.nil)) (by omega) (by omega)).mono ?_
            rintro r4 H4 ⟨o4, u4, l4, v4, n4, _, q4⟩
            simp (maxSteps := 1000000) (disch := first | exact sd | fail) only [go_sem, Nat.reduceAdd, Nat.reduceSub, Nat.reduceLeDiff, ↓reduceIte, decide_eq_true_eq, if_true, if_false, Bool.false_eq_true, Int.lt_irrefl, implies_true, true_and, and_true, eq_self, and_self, beq_self_eq_true, aw_plan (id := 13) pl153_13, pl153_13, hln]
            refine IJ_intro (k := D.length - (i + 1)) (by omega) (i + 1, r4, o4) rfl ⟨rfl, by dsimp only; omega, ?_, u4, l4, by dsimp only; omega, ?_, fun j hj => ?_⟩
            · exact (((hle.push _).push _).trans q2).trans q4
            · dsimp only
              rw [v4, v2, val_trimL, htk, rdL_snoc, hv]
              simp [val]; omega
            · by_cases h7 : j = i
              · subst h7; rw [hxx]; unfold isDig; omega
              · exact hall j (by dsimp only at hj; omega)
      · have hgood : okN L = true := by
          rw [key, List.all_eq_true]
          intro x hx
          obtain ⟨j, hj, rfl⟩ := List.getElem_of_mem hx
          have := hall j (by omega)
          rw [List.getD_eq_getElem?_getD, List.getElem?_eq_getElem hj] at this
          simpa [isDig] using this
        simp (maxSteps := 1000000) (disch := first | exact sd | fail) only [go_sem, Nat.reduceAdd, Nat.reduceSub, Nat.reduceLeDiff, ↓reduceIte, decide_eq_true_eq, if_true, if_false, Bool.false_eq_true, Int.lt_irrefl, implies_true, true_and, and_true, eq_self, and_self, beq_self_eq_true, aw_plan (id := 13) pl153_13, pl153_13, h4, hln]
        refine (z150 hu hlim (by omega)).mono ?_
        rintro r H4 ⟨hr, q4⟩
        have gN : H4.get N = some (.row true 24 [.bool false, .slice none 0 0]) := ((hle.trans q4).get N (by omega)).trans hBg
        have hz2 : (if false = true then -(val l) else val l) = zdV L := by
          have e : i = D.length := by omega
          rw [zdV, hgood, if_pos rfl, hv, e, List.take_length]
          unfold zdN
          rw [hdd]
          have hx : (L.headD 0 = 45) = (false = true) := by rw [hhb, hbe]
          simp only [hx, if_true, Bool.false_eq_true, if_false]
        have hr2 := fun cs => hr.setbox gN cs
        rw [hz2] at hr hr2
        obtain ⟨sl4, rfl, hs4, hu4⟩ := hr.form
        rw [hgood]
        simp (maxSteps := 1000000) (disch := first | exact sd | fail) only [go_sem, Nat.reduceAdd, Nat.reduceSub, Nat.reduceLeDiff, ↓reduceIte, decide_eq_true_eq, if_true, if_false, Bool.false_eq_true, Int.lt_irrefl, implies_true, true_and, and_true, eq_self, and_self, beq_self_eq_true, aw_plan (id := 13) pl153_13, pl153_13, gN]
        exact .tuple (.cons (.ofN (hr2 _)) (.cons .rfl .nil))
end Go.Abs
