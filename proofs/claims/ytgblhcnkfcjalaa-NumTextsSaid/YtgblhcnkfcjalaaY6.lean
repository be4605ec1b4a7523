/- num.Read: a call of values. -/
import Derived.Test.YtgblhcnkfcjalaaY5
import Derived.Test.YtgblhcnkfcjalaaN14
set_option linter.unusedVariables false
set_option linter.unusedSimpArgs false
namespace Go.Abs
open Go Go.Proofs
set_option maxRecDepth 100000
set_option maxHeartbeats 4000000

/-- The digits of a text that is a number's. -/
def fl (l : List Int) : List Int := l.filter fun x => decide (x ≠ 45)
def zdN (l : List Int) : Int := if l.headD 0 = 45 then -(rdL (dgs l) 0 : Nat) else (rdL (dgs l) 0 : Nat)
def rdV (l : List Int) : Int := if 5000 < l.length then 0 else if okN l = true then zdN l else 0
def rdE (l : List Int) : Int := if 5000 < l.length then 2 else if okN l = true then 0 else 4
theorem okN_dig {l : List Int} (h : okN l = true) : ∀ x ∈ dgs l, isDig x := by
  simp only [okN, decide_eq_true_eq] at h
  intro x hx
  simpa [isDig] using List.all_eq_true.1 h.2.2 x hx
theorem okN_ne {l : List Int} (h : okN l = true) : dgs l ≠ [] := by
  simp only [okN, decide_eq_true_eq] at h
  exact h.1
theorem okN_fl {l : List Int} (h : okN l = true) : fl l = dgs l := by
  have hd := okN_dig h
  have e : (dgs l).filter (fun x => decide (x ≠ 45)) = dgs l := by
    rw [List.filter_eq_self]
    intro x hx
    have := hd x hx
    unfold isDig at this
    simp only [decide_eq_true_eq]; omega
  unfold fl
  unfold dgs at e hd ⊢
  cases l with
  | nil => rfl
  | cons a l =>
    simp only [List.headD_cons, List.drop_succ_cons, List.drop_zero] at e hd ⊢
    by_cases ha : a = 45
    · rw [if_pos ha] at e ⊢
      rw [List.filter_cons_of_neg (by simp [ha]), e]
    · rw [if_neg ha] at e ⊢
      exact e
theorem okN_mem {l : List Int} (h : okN l = true) {x : Int} (hx : x ∈ l) : x = 45 ∨ isDig x := by
  by_cases h5 : x = 45
  · exact .inl h5
  · refine .inr (okN_dig h x ?_)
    rw [← okN_fl h]
    unfold fl
    rw [List.mem_filter]
    exact ⟨hx, by simpa using h5⟩
theorem fl_take {l : List Int} {i : Nat} (hi : i < l.length) : fl (l.take (i + 1)) = fl (l.take i) ++ (if l.getD i 0 = 45 then [] else [l.getD i 0]) := by
  have e : l.getD i 0 = l[i] := by rw [List.getD_eq_getElem?_getD, List.getElem?_eq_getElem hi]; rfl
  rw [e, List.take_add_one, List.getElem?_eq_getElem hi]
  unfold fl
  rw [List.filter_append]
  congr 1
  show List.filter _ [l[i]] = _
  by_cases h : l[i] = 45
  · rw [if_pos h, List.filter_cons_of_neg (by simp [h])]; rfl
  · rw [if_neg h, List.filter_cons_of_pos (by simp [h])]; rfl
theorem set_mid {a b : List Int} {x y : Int} : (a ++ x :: b).set a.length y = a ++ y :: b := by
  rw [List.set_append_right _ _ (Nat.le_refl _), Nat.sub_self]; rfl
theorem get_mid {a b : List Int} {x : Int} : (a ++ x :: b).getD a.length 0 = x := by
  rw [List.getD_eq_getElem?_getD, List.getElem?_append_right (Nat.le_refl _), Nat.sub_self]; rfl
theorem mul_step {B D c y v V : Int} (h : D + B * (c + 10 * (y + 4294967296 * v)) = V) : D + B * ((c + y * 10) % 4294967296) + 4294967296 * B * ((c + y * 10) / 4294967296 + 10 * v) = V := by
  have e := Int.mul_ediv_add_emod (c + y * 10) 4294967296
  generalize (c + y * 10) / 4294967296 = q at *
  generalize (c + y * 10) % 4294967296 = r at *
  rw [← h, show c + 10 * (y + 4294967296 * v) = r + 4294967296 * (q + 10 * v) by omega, Int.mul_add B, ← Int.mul_assoc B, Int.mul_comm B 4294967296, Int.add_assoc]

theorem pu_rd {z e : Int} : Pu (.tuple ⟨[Zn z, .int .i64 e]⟩) := .tuple (.cons pu_in (.cons (.ground rfl) .nil))
theorem p56 {s : ByteArray} (hs : s.size ≤ 2 ^ 40) : PC Try.prog 31 [.string s] (.tuple ⟨[Zn (rdV (chs s)), .int .i64 (rdE (chs s))]⟩) := by
  refine PC.of (.cons (.ground rfl) .nil) pu_rd fun N hN => ?_
  have hl := ln_str (P := Try.prog) (s := s) Try.underlying9
  have hix := fun (k : IntKind) (i : Int) => ix_str (P := Try.prog) (s := s) (k := k) (i := i) Try.underlying9
  have hc := chs_len s
  have q152 := p152 hs
  generalize hL : chs s = L at *
  refine ACalls.of_code T.hm (n := 65) Try.func31 rfl rfl rfl rfl ?_; simp only [List.replicate_succ, List.replicate_zero, List.cons_append, List.nil_append]
  by_cases h5 : (5000 : Int) < L.length
  · simp (maxSteps := 1000000) (disch := first | exact sd | fail) only [go_sem, Nat.reduceAdd, Nat.reduceSub, Nat.reduceLeDiff, ↓reduceIte, decide_eq_true_eq, if_true, if_false, Bool.false_eq_true, Int.lt_irrefl, implies_true, true_and, and_true, eq_self, and_self, beq_self_eq_true, hl, h5]
    rw [rdV, rdE, if_pos (show 5000 < L.length by omega), if_pos (show 5000 < L.length by omega), lmb_zero]
    exact .tuple (.cons fz_nil (.cons .rfl .nil))
  · simp (maxSteps := 1000000) (disch := first | exact sd | fail) only [go_sem, Nat.reduceAdd, Nat.reduceSub, Nat.reduceLeDiff, ↓reduceIte, decide_eq_true_eq, if_true, if_false, Bool.false_eq_true, Int.lt_irrefl, implies_true, true_and, and_true, eq_self, and_self, beq_self_eq_true, hl, h5]
    refine PC.step (q152) fun m1 j1 => ?_
    try simp only [Heap.next_push, Heap.next_set, Heap.next_kill, next_bump, next_E0] at j1
    cases hok : okN L with
    | false =>
      simp (maxSteps := 1000000) (disch := first | exact sd | fail) only [go_sem, Nat.reduceAdd, Nat.reduceSub, Nat.reduceLeDiff, ↓reduceIte, decide_eq_true_eq, if_true, if_false, Bool.false_eq_true, Int.lt_irrefl, implies_true, true_and, and_true, eq_self, and_self, beq_self_eq_true]
      rw [rdV, rdE, if_neg (show ¬ 5000 < L.length by omega), if_neg (show ¬ 5000 < L.length by omega), hok, if_neg (by decide), if_neg (by decide), lmb_zero]
      exact .tuple (.cons fz_nil (.cons .rfl .nil))
    | true =>
      simp (maxSteps := 1000000) (disch := first | exact sd | fail) only [go_sem, Nat.reduceAdd, Nat.reduceSub, Nat.reduceLeDiff, ↓reduceIte, decide_eq_true_eq, if_true, if_false, Bool.false_eq_true, Int.lt_irrefl, implies_true, true_and, and_true, eq_self, and_self, beq_self_eq_true, hl]
      rw [rdV, rdE, if_neg (show ¬ 5000 < L.length by omega), if_neg (show ¬ 5000 < L.length by omega), hok, if_pos rfl, if_pos rfl]
      generalize hH0 : (E0 N).push (.row true 24 [.bool false, .slice none 0 0]) = HB at *
      have hBn : HB.next = N + 1 := by rw [← hH0, next_push, next_E0]
      have hBg : HB.get N = some (.row true 24 [.bool false, .slice none 0 0]) := by rw [← hH0]; exact get_push_self _ _
      refine aw_loopJ (σ := Nat × Value × List Int) (fun st J => [.string s, J 1, .pointer (some ⟨N, 0, none⟩), .int .i64 0, st.2.1, J 5, J 6, J 7, J 8, J 9, J 10, J 11, J 12, J 13, J 14, J 15, J 16, J 17, J 18, J 19, .int .i64 L.length, .int .i64 st.1, J 22, J 23, J 24, J 25, J 26, J 27, J 28, J 29, J 30, J 31, J 32, J 33, J 34, J 35, J 36, J 37, J 38, J 39, J 40, J 41, J 42, J 43, J 44, J 45, J 46, J 47, J 48, J 49, J 50, J 51, J 52, J 53, J 54, J 55, J 56, J 57, J 58, J 59, J 60, J 61, J 62, J 63, J 64, J 65]) (fun m st H1 => m = L.length - st.1 ∧ st.1 ≤ L.length ∧ Hle HB H1 ∧ UO Try.prog HB H1 st.2.1 st.2.2 ∧ Lim st.2.2 ∧ st.2.2.length ≤ st.1 ∧ val st.2.2 = rdL (fl (L.take st.1)) 0) L.length (0, .slice none 0 0, []) rfl ⟨rfl, Nat.zero_le _, Hle.rfl.bump (by omega), Ow.nil, Lim.nil, Nat.le_refl _, by simp [fl, rdL, val]⟩ ?_
      rintro m ⟨i, sl, l⟩ J H1 ⟨rfl, hi, hle, ho, hlim, hll, hv⟩
      simp only at hi ho hlim hll hv
      by_cases h4 : (i : Int) < L.length
      · have hil : i < L.length := by omega
        have hx := hix .i64 i (by omega) h4
        rw [Int.toNat_natCast] at hx
        have hft := fl_take hil
        have hmem : L.getD i 0 = 45 ∨ isDig (L.getD i 0) := by
          refine okN_mem hok ?_
          rw [List.getD_eq_getElem?_getD, List.getElem?_eq_getElem hil]; exact List.getElem_mem hil
        generalize L.getD i 0 = x at *
        by_cases h45 : x = 45
        · rw [if_pos h45, List.append_nil] at hft
          simp (maxSteps := 1000000) (disch := first | exact sd | fail) only [go_sem, Nat.reduceAdd, Nat.reduceSub, Nat.reduceLeDiff, ↓reduceIte, decide_eq_true_eq, if_true, if_false, Bool.false_eq_true, Int.lt_irrefl, implies_true, true_and, and_true, eq_self, and_self, beq_self_eq_true, h4, hx, h45]
          exact IJ_intro (k := L.length - (i + 1)) (by omega) (i + 1, sl, l) rfl ⟨rfl, by dsimp only; omega, hle, ho, hlim, by dsimp only; omega, by dsimp only; rw [hft]; exact hv⟩
        · rw [if_neg h45] at hft
          have hdg : isDig x := by rcases hmem with h | h; exact absurd h h45; exact h
          unfold isDig at hdg
          have f1 : IntKind.u8.wrap (x - 48) = x - 48 := wrap_u8' (by omega) (by omega)
          have f2 : IntKind.u64.wrap (x - 48) = x - 48 := wrap_u64' (by omega) (by omega)
          simp (maxSteps := 1000000) (disch := first | exact sd | fail) only [go_sem, Nat.reduceAdd, Nat.reduceSub, Nat.reduceLeDiff, ↓reduceIte, decide_eq_true_eq, if_true, if_false, Bool.false_eq_true, Int.lt_irrefl, implies_true, true_and, and_true, eq_self, and_self, beq_self_eq_true, h4, hx, h45, f1, f2, ho.u.len T.i22]
          refine aw_loopJ (σ := Int × List Int × List Int) (fun st J => [.string s, J 1, .pointer (some ⟨N, 0, none⟩), .int .i64 0, sl, .int .i64 i, .int .u64 st.1, J 7, J 8, J 9, J 10, J 11, J 12, J 13, J 14, J 15, J 16, J 17, J 18, J 19, .int .i64 L.length, .int .i64 i, J 22, J 23, J 24, J 25, J 26, J 27, J 28, J 29, J 30, J 31, J 32, sl, .int .i64 l.length, .int .i64 st.2.1.length, J 36, J 37, J 38, J 39, J 40, J 41, J 42, J 43, J 44, J 45, J 46, J 47, J 48, J 49, J 50, J 51, J 52, J 53, J 54, J 55, J 56, J 57, J 58, J 59, J 60, J 61, J 62, J 63, J 64, J 65]) (fun m st H1 => m = st.2.2.length ∧ st.2.1.length + st.2.2.length = l.length ∧ Hle HB H1 ∧ UO Try.prog HB H1 sl (st.2.1 ++ st.2.2) ∧ Lim st.2.1 ∧ Lim st.2.2 ∧ (0 ≤ st.1 ∧ st.1 < 4294967296) ∧ val st.2.1 + 4294967296 ^ st.2.1.length * (st.1 + 10 * val st.2.2) = 10 * val l + (x - 48)) l.length (x - 48, [], l) rfl ⟨rfl, by simp, hle, ho, Lim.nil, hlim, ⟨by dsimp only; omega, by dsimp only; omega⟩, by simp [val]; omega⟩ ?_
          clear hle ho
          rintro m ⟨c, dn, rest⟩ J H1 ⟨rfl, hlen, hle, ho, hl1, hl2, hcb, hval⟩
          simp only at hlen ho hl1 hl2 hcb hval
          cases rest with
          | nil =>
            rw [List.append_nil] at ho
            simp only [List.length_nil, Nat.add_zero] at hlen
            have hdv : (10 * val l + (x - 48)) = rdL (fl (L.take (i + 1))) 0 := by
              rw [hft, rdL_snoc, hv]; omega
            by_cases hc0 : 0 < c
            · simp (maxSteps := 1000000) (disch := first | exact sd | fail) only [go_sem, Nat.reduceAdd, Nat.reduceSub, Nat.reduceLeDiff, ↓reduceIte, decide_eq_true_eq, if_true, if_false, Bool.false_eq_true, Int.lt_irrefl, implies_true, true_and, and_true, eq_self, and_self, beq_self_eq_true, show ¬ (dn.length : Int) < l.length by omega, hc0]
              refine e151.mono ?_
              rintro _ _ ⟨rfl, rfl⟩
              rw [Int.emod_eq_of_lt hcb.1 hcb.2]
              obtain ⟨ap1, ap2, ap3⟩ := ho.append1 (x := c) hle (by omega)
              simp (maxSteps := 1000000) (disch := first | exact sd | fail) only [go_sem, Nat.reduceAdd, Nat.reduceSub, Nat.reduceLeDiff, ↓reduceIte, decide_eq_true_eq, if_true, if_false, Bool.false_eq_true, Int.lt_irrefl, implies_true, true_and, and_true, eq_self, and_self, beq_self_eq_true, ap1]
              refine IJ_intro (k := L.length - (i + 1)) (by omega) (i + 1, _, dn ++ [c]) rfl ⟨rfl, by dsimp only; omega, ap3, ap2, hl1.append (Lim.cons hcb Lim.nil), by simp; omega, ?_⟩
              dsimp only
              rw [← hdv, ← hval, val_append]
              simp [val]
            · have hcz : c = 0 := by omega
              simp (maxSteps := 1000000) (disch := first | exact sd | fail) only [go_sem, Nat.reduceAdd, Nat.reduceSub, Nat.reduceLeDiff, ↓reduceIte, decide_eq_true_eq, if_true, if_false, Bool.false_eq_true, Int.lt_irrefl, implies_true, true_and, and_true, eq_self, and_self, beq_self_eq_true, show ¬ (dn.length : Int) < l.length by omega, hc0]
              exact IJ_intro (k := L.length - (i + 1)) (by omega) (i + 1, sl, dn) rfl ⟨rfl, by dsimp only; omega, hle, ho, hl1, by dsimp only; omega, by dsimp only; rw [← hdv, ← hval, hcz]; simp [val]⟩
          | cons y rest =>
            have hy := hl2 y (by simp)
            have hlc : (dn ++ y :: rest).length = l.length := by rw [List.length_append]; exact hlen
            simp only [List.length_cons] at hlen
            have g1 : IntKind.u64.wrap y = y := wrap_u64' (by omega) (by omega)
            have g2 : IntKind.u64.wrap (y * 10) = y * 10 := wrap_u64' (by omega) (by omega)
            have g3 : IntKind.u64.wrap (c + y * 10) = c + y * 10 := wrap_u64' (by omega) (by omega)
            have a1 := ho.u.addr Try.underlying22 T.s50 T.z50 (k := .i64) (i := (dn.length : Int)) (by omega) (by omega)
            have b1 := ho.u.load T.r50 (o := dn.length) (by omega)
            rw [get_mid] at b1
            rw [Int.toNat_natCast] at a1
            obtain ⟨s1, o1, q1⟩ := ho.store hle (o := dn.length) (x := (c + y * 10) % 4294967296) (by omega)
            rw [set_mid] at o1
            simp (maxSteps := 1000000) (disch := first | exact sd | fail) only [go_sem, Nat.reduceAdd, Nat.reduceSub, Nat.reduceLeDiff, ↓reduceIte, decide_eq_true_eq, if_true, if_false, Bool.false_eq_true, Int.lt_irrefl, implies_true, true_and, and_true, eq_self, and_self, beq_self_eq_true, show (dn.length : Int) < l.length by omega, a1, b1, g1, g2, g3]
            refine e151.mono ?_
            rintro _ _ ⟨rfl, rfl⟩
            simp (maxSteps := 1000000) (disch := first | exact sd | fail) only [go_sem, Nat.reduceAdd, Nat.reduceSub, Nat.reduceLeDiff, ↓reduceIte, decide_eq_true_eq, if_true, if_false, Bool.false_eq_true, Int.lt_irrefl, implies_true, true_and, and_true, eq_self, and_self, beq_self_eq_true, a1, s1, Int.fdiv_eq_ediv_of_nonneg]
            refine IJ_intro (k := rest.length) (by omega) ((c + y * 10) / 4294967296, dn ++ [(c + y * 10) % 4294967296], rest) (by simp only [List.length_append]; rfl) ⟨rfl, by simp; omega, q1, by simpa using o1, hl1.append (Lim.cons (by omega) Lim.nil), fun z hz => hl2 z (by simp [hz]), ⟨by dsimp only; omega, by dsimp only; omega⟩, ?_⟩
            dsimp only
            rw [val_append, List.length_append, Int.pow_add]
            have := mul_step (B := 4294967296 ^ dn.length) (D := val dn) (c := c) (y := y) (v := val rest) (V := 10 * val l + (x - 48)) (by simpa [val] using hval)
            simp only [val, List.length_cons, List.length_nil] at this ⊢
            rw [← this]
            simp [Int.mul_comm, Int.add_assoc]
      · have hLp : 0 < L.length := by
          have := okN_ne hok
          have h2 := dgs_len L
          have h3 := pos_ne this
          omega
        have h00 := hix .i64 0 (by omega) (by omega)
        rw [show (0 : Int).toNat = 0 from rfl] at h00
        simp (maxSteps := 1000000) (disch := first | exact sd | fail) only [go_sem, Nat.reduceAdd, Nat.reduceSub, Nat.reduceLeDiff, ↓reduceIte, decide_eq_true_eq, if_true, if_false, Bool.false_eq_true, Int.lt_irrefl, implies_true, true_and, and_true, eq_self, and_self, beq_self_eq_true, h4, h00]
        refine (z144 ho.u hlim (by omega)).mono ?_
        rintro r H4 ⟨hr, q4⟩
        have gN : H4.get N = some (.row true 24 [.bool false, .slice none 0 0]) := ((hle.trans q4).get N (by omega)).trans hBg
        have hz : (if decide (L.getD 0 0 = 45) = true then -(val l) else val l) = zdN L := by
          have e : i = L.length := by omega
          rw [hv, e, List.take_length, okN_fl hok]
          unfold zdN
          rw [hd_getD]
          simp only [decide_eq_true_eq]
        have hr2 := fun cs => hr.setbox gN cs
        rw [hz] at hr hr2
        obtain ⟨sl4, rfl, hs4, hu4⟩ := hr.form
        simp (maxSteps := 1000000) (disch := first | exact sd | fail) only [go_sem, Nat.reduceAdd, Nat.reduceSub, Nat.reduceLeDiff, ↓reduceIte, decide_eq_true_eq, if_true, if_false, Bool.false_eq_true, Int.lt_irrefl, implies_true, true_and, and_true, eq_self, and_self, beq_self_eq_true, gN]
        exact .tuple (.cons (.ofN (hr2 _)) (.cons .rfl .nil))
end Go.Abs
