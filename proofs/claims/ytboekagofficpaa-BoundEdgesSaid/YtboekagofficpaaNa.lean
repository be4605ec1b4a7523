/- Joined: N1, N2, N3. -/
import Derived.Test.YtboekagofficpaaT
/- Numbers: whether one may be, its limbs, its sign. -/
set_option linter.unusedVariables false
set_option linter.unusedSimpArgs false
namespace Go.Abs
open Go Go.Proofs

/-- Whether a number may be. -/
def mayB (ng : Bool) (l : List Int) : Bool := if l.length = 0 then !ng else decide (l.getD (l.length - 1) 0 ≠ 0)

set_option maxRecDepth 10000
set_option linter.unusedSimpArgs false

theorem c51 {H : Heap} {v : Value} {ng : Bool} {l : List Int} (h : IA Try.prog H v ng l) (hb : l.length < 2 ^ 62) : ACalls Try.prog 56 [v] H fun r H' => r = .bool (mayB ng l) ∧ Hle H H' := by
  obtain ⟨sl, rfl, hu, hl⟩ := h
  refine ACalls.of_code T.hm (n := 18) Try.func56 rfl rfl rfl rfl ?_; simp only [List.replicate_succ, List.replicate_zero, List.cons_append, List.nil_append]
  simp (maxSteps := 1000000) (disch := first | exact sd | fail) only [go_sem, Nat.reduceAdd, Nat.reduceSub, Nat.reduceLeDiff, ↓reduceIte, decide_eq_true_eq, if_true, if_false, Bool.false_eq_true, Int.lt_irrefl, hu.len T.i22]
  split
  · rename_i h0
    have : l.length = 0 := by omega
    simp [mayB, this, Hle.push0]
  · simp (maxSteps := 1000000) (disch := first | exact sd | fail) only [go_sem, Nat.reduceAdd, Nat.reduceSub, Nat.reduceLeDiff, ↓reduceIte, decide_eq_true_eq, if_true, if_false, Bool.false_eq_true, Int.lt_irrefl, hu.addr Try.underlying45 T.s50 T.z50, hu.loadh T.r50]
    rename_i h0
    have : ¬ l.length = 0 := by omega
    simp [mayB, this, Hle.push0, show (↑l.length - 1 : Int).toNat = l.length - 1 by omega]

theorem c142 {H : Heap} {v : Value} {ng : Bool} {l : List Int} (h : IA Try.prog H v ng l) (hb : l.length < 2 ^ 62) : ACalls Try.prog 46 [v] H fun r H' => U Try.prog H' r (if mayB ng l then l else []) ∧ Hle H H' := by
  have h' := h
  obtain ⟨sl, rfl, hu, hl⟩ := h'
  refine ACalls.of_code T.hm (n := 7) Try.func46 rfl rfl rfl rfl ?_; simp only [List.replicate_succ, List.replicate_zero, List.cons_append, List.nil_append]
  simp (maxSteps := 1000000) (disch := first | exact sd | fail) only [go_sem, Nat.reduceAdd, Nat.reduceSub, Nat.reduceLeDiff, ↓reduceIte, decide_eq_true_eq, if_true, if_false, Bool.false_eq_true, Int.lt_irrefl]
  refine (c51 (h.mono (Hle.push0 _)) hb).mono ?_
  rintro _ H' ⟨rfl, hle⟩
  have hg : H'.get H.next = some (.row true 47 [.bool ng, sl]) := by rw [hle.get _ (by simp)]; exact get_push_self _ _
  have hle0 : Hle H H' := (Hle.push0 _).trans hle
  simp (maxSteps := 1000000) (disch := first | exact sd | fail) only [go_sem, Nat.reduceAdd, Nat.reduceSub, Nat.reduceLeDiff, ↓reduceIte, decide_eq_true_eq, if_true, if_false, Bool.false_eq_true, Int.lt_irrefl, hg]
  cases mayB ng l with
  | true => simp only [Bool.not_true, Bool.false_eq_true, if_false, if_true]; exact ⟨hu.mono hle0, hle0⟩
  | false => simp only [Bool.not_false, Bool.false_eq_true, if_false, if_true]; exact ⟨.nil, hle0⟩
end Go.Abs

/- Numbers: the sign, copies, the shortest limbs. -/
set_option linter.unusedVariables false
set_option linter.unusedSimpArgs false
namespace Go.Abs
open Go Go.Proofs
set_option maxRecDepth 10000
set_option linter.unusedSimpArgs false

theorem c145 {H : Heap} {v : Value} {ng : Bool} {l : List Int} (h : IA Try.prog H v ng l) (hb : l.length < 2 ^ 62) : ACalls Try.prog 47 [v] H fun r H' => r = .bool (mayB ng l && ng) ∧ Hle H H' := by
  have h' := h
  obtain ⟨sl, rfl, hu, hl⟩ := h'
  refine ACalls.of_code T.hm (n := 8) Try.func47 rfl rfl rfl rfl ?_; simp only [List.replicate_succ, List.replicate_zero, List.cons_append, List.nil_append]
  simp (maxSteps := 1000000) (disch := first | exact sd | fail) only [go_sem, Nat.reduceAdd, Nat.reduceSub, Nat.reduceLeDiff, ↓reduceIte, decide_eq_true_eq, if_true, if_false, Bool.false_eq_true, Int.lt_irrefl]
  refine (c51 (h.mono (Hle.push0 _)) hb).mono ?_
  rintro _ H' ⟨rfl, hle⟩
  have hg : H'.get H.next = some (.row true 47 [.bool ng, sl]) := by rw [hle.get _ (by simp)]; exact get_push_self _ _
  have hle0 : Hle H H' := (Hle.push0 _).trans hle
  cases hm : mayB ng l with
  | true => simp (maxSteps := 1000000) (disch := first | exact sd | fail) only [go_sem, Nat.reduceAdd, Nat.reduceSub, Nat.reduceLeDiff, ↓reduceIte, decide_eq_true_eq, if_true, if_false, Bool.false_eq_true, Int.lt_irrefl, hg]; exact ⟨by simp, hle0⟩
  | false => simp (maxSteps := 1000000) (disch := first | exact sd | fail) only [go_sem, Nat.reduceAdd, Nat.reduceSub, Nat.reduceLeDiff, ↓reduceIte, decide_eq_true_eq, if_true, if_false, Bool.false_eq_true, Int.lt_irrefl, hg]; exact ⟨by simp, hle0⟩

theorem c151 {H : Heap} {x : Int} : ACalls Try.prog 45 [.int .u64 x] H fun r H' => r = .int .u32 (x % 4294967296) ∧ Hle H H' := by
  refine ACalls.of_code T.hm (n := 4) Try.func45 rfl rfl rfl rfl ?_; simp only [List.replicate_succ, List.replicate_zero, List.cons_append, List.nil_append]
  simp (maxSteps := 1000000) (disch := first | exact sd | fail) only [go_sem, Nat.reduceAdd, Nat.reduceSub, Nat.reduceLeDiff, ↓reduceIte, decide_eq_true_eq, if_true, if_false, Bool.false_eq_true, Int.lt_irrefl, wrap_u32]
  exact ⟨trivial, Hle.rfl⟩

/-- Limbs in memory of their own. -/
def UO (P : Program) (H0 H : Heap) (sl : Value) (l : List Int) : Prop := Ow P H0 H 1 66 sl l.length (l.map (.int .u32))
theorem UO.u {H0 H : Heap} {sl : Value} {l : List Int} (h : UO Try.prog H0 H sl l) : U Try.prog H sl l := Ow.toSl h T.s50
theorem ints_oneCell (l : List Int) : (l.map (Value.int .u32)).all (·.oneCell') = true := by simp [Value.oneCell']
theorem UO.append {H0 H : Heap} {sl x : Value} {l m : List Int} (h : UO Try.prog H0 H sl l) (hle : Hle H0 H) (hx : U Try.prog H x m) (hs : l.length + m.length ≤ 35184372088732) :
    aAppend Try.prog H #[45, 45] sl x = some (apV Try.prog H #[45, 45] sl x, apH Try.prog H #[45, 45] sl x) ∧ UO Try.prog H0 (apH Try.prog H #[45, 45] sl x) (apV Try.prog H #[45, 45] sl x) (l ++ m) ∧ Hle H0 (apH Try.prog H #[45, 45] sl x) ∧
      (∀ b, b < H.next → b ≠ sblk sl → (apH Try.prog H #[45, 45] sl x).get b = H.get b) ∧ H.next ≤ (apH Try.prog H #[45, 45] sl x).next := by
  have := Ow.append h hle Try.underlying45 (info_of_type Try.type66) (z := .int .u32 0) rfl rfl T.s50 (by omega) T.o22 (Sl.lenV hx) (Sl.src hx) (by simp) (ints_oneCell m) (by omega) (by show _ * 4 ≤ _; omega)
  simpa only [UO, List.length_append, List.map_append] using this

theorem UO.fresh {H0 H : Heap} {cs : List Value} {n c : Nat} {l : List Int} (hle : Hle H0 H) (hn : n = l.length) (hc : n ≤ c ∧ c ≤ cs.length ∧ c < unk) (hl : cs.take n = l.map (.int .u32)) : UO Try.prog H0 (H.push (.row true 66 cs)) (.slice (some ⟨H.next, 0, none⟩) n c) l := by
  have := Ow.row (P := Try.prog) (H0 := H0) (H := H.push (.row true 66 cs)) (es := 1) (el := 66) (b := H.next) (off := 0) (n := n) (c := c) (get_push_self _ _) hle.next (by simp) (.inr ⟨hc.1, hc.2.2, by omega⟩) (by omega)
  rw [List.drop_zero, Nat.mul_one, hl] at this
  unfold UO
  rw [← hn]
  exact this

theorem c209 {H : Heap} {sl : Value} {l : List Int} (hu : U Try.prog H sl l) (hb : l.length ≤ 35184372088732) : ACalls Try.prog 68 [sl] H fun r H' => UO Try.prog H H' r l ∧ Hle H H' := by
  refine ACalls.of_code T.hm (n := 7) Try.func68 rfl rfl rfl rfl ?_; simp only [List.replicate_succ, List.replicate_zero, List.cons_append, List.nil_append]
  simp (maxSteps := 1000000) (disch := first | exact sd | fail) only [go_sem, Nat.reduceAdd, Nat.reduceSub, Nat.reduceLeDiff, ↓reduceIte, decide_eq_true_eq, if_true, if_false, Bool.false_eq_true, Int.lt_irrefl, T.nil22 hu.isSlc]
  split
  · rename_i h
    have h2 := Sl.isNil hu h
    have : l = [] := List.length_eq_zero_iff.1 h2.1
    subst this
    exact ⟨.nil, Hle.rfl⟩
  · have h1 : UO Try.prog H (H.push (.row true 66 [])) (.slice (some ⟨H.next, 0, none⟩) 0 0) [] := UO.fresh Hle.rfl rfl (by simp [unk]) (by simp)
    obtain ⟨h2, h3, h4, _⟩ := h1.append (Hle.push0 _) (hu.mono (Hle.push0 _)) (by simp; omega)
    simp (maxSteps := 1000000) (disch := first | exact sd | fail) only [go_sem, Nat.reduceAdd, Nat.reduceSub, Nat.reduceLeDiff, ↓reduceIte, decide_eq_true_eq, if_true, if_false, Bool.false_eq_true, Int.lt_irrefl, h2]
    exact ⟨h3, h4⟩
end Go.Abs

/- Numbers: the shortest limbs, in memory of their own. -/
set_option linter.unusedVariables false
set_option linter.unusedSimpArgs false
namespace Go.Abs
open Go Go.Proofs
set_option maxRecDepth 10000
set_option linter.unusedSimpArgs false

/-- Without so many on top all above is nought. -/
theorem trimL_take {l : List Int} : ∀ (k : Nat), k ≤ l.length → (∀ j, k ≤ j → j < l.length → l.getD j 0 = 0) → trimL l = trimL (l.take k) := by
  intro k hk h
  induction hm : l.length - k generalizing k with
  | zero => rw [List.take_of_length_le (by omega)]
  | succ m ih =>
    rw [ih (k + 1) (by omega) (fun j h1 h2 => h j (by omega) h2) (by omega)]
    rw [List.take_add_one, show l[k]? = some (l.getD k 0) by rw [List.getD_eq_getElem?_getD, List.getElem?_eq_getElem (by omega)]; simp, h k (Nat.le_refl _) (by omega)]
    exact trimL_snoc _

theorem c144 {H : Heap} {sl : Value} {ng : Bool} {l : List Int} (hu : U Try.prog H sl l) (hl : Lim l) (hb : l.length ≤ 35184372088732) : ACalls Try.prog 44 [.bool ng, sl] H fun r H' => IA Try.prog H' r (if trimL l = [] then false else ng) (trimL l) ∧ Hle H H' := by
  refine ACalls.of_code T.hm (n := 27) Try.func44 rfl rfl rfl rfl ?_; simp only [List.replicate_succ, List.replicate_zero, List.cons_append, List.nil_append]
  simp (maxSteps := 1000000) (disch := first | exact sd | fail) only [go_sem, Nat.reduceAdd, Nat.reduceSub, Nat.reduceLeDiff, ↓reduceIte, decide_eq_true_eq, if_true, if_false, Bool.false_eq_true, Int.lt_irrefl, hu.len T.i22]
  refine aw_loopJ (σ := Nat) (fun k J => [.bool ng, sl, J 2, J 3, .pointer (some ⟨H.next, 0, none⟩), .int .i64 k, J 6, J 7, J 8, J 9, J 10, J 11, J 12, J 13, J 14, J 15, J 16, J 17, J 18, J 19, J 20, J 21, J 22, J 23, J 24, J 25, J 26, J 27, J 28]) (fun n k H1 => n = k ∧ H1 = H.push (.row true 47 [.bool false, .slice none 0 0]) ∧ k ≤ l.length ∧ ∀ j, k ≤ j → j < l.length → l.getD j 0 = 0) l.length l.length rfl ⟨rfl, rfl, Nat.le_refl _, fun j h1 h2 => by omega⟩ ?_
  rintro n k J H1 ⟨rfl, rfl, hk, hz⟩
  by_cases h0 : (0 : Int) < n
  · by_cases h1 : l.getD (n - 1) 0 = 0
    · simp (maxSteps := 1000000) (disch := first | exact sd | fail) only [go_sem, Nat.reduceAdd, Nat.reduceSub, Nat.reduceLeDiff, ↓reduceIte, decide_eq_true_eq, if_true, if_false, Bool.false_eq_true, Int.lt_irrefl, h0, hu.addr Try.underlying45 T.s50 T.z50, hu.loadh T.r50, show (↑n - 1 : Int).toNat = n - 1 by omega, h1]
      rw [show (↑n - 1 : Int) = ((n - 1 : Nat) : Int) by omega]
      refine IJ_intro (k := n - 1) (by omega) (n - 1) rfl ⟨rfl, rfl, by omega, fun j h2 h3 => ?_⟩
      by_cases h4 : j = n - 1
      · rw [h4]; exact h1
      · exact hz j (by omega) h3
    · obtain ⟨sl', h2, h3⟩ := (hu.mono (Hle.push0 (.row true 47 [.bool false, .slice none 0 0]))).upto Try.underlying45 T.z50 (k := .i64) (i := n) (by omega) (by omega)
      rw [Int.toNat_natCast] at h3
      have ht : trimL l = l.take n := by
        rw [trimL_take n hk hz, trimL_of_top]
        right
        rw [List.length_take, Nat.min_eq_left hk]
        rw [List.getD_eq_getElem?_getD, List.getElem?_take, if_pos (by omega), ← List.getD_eq_getElem?_getD]
        exact h1
      simp (maxSteps := 1000000) (disch := first | exact sd | fail) only [go_sem, Nat.reduceAdd, Nat.reduceSub, Nat.reduceLeDiff, ↓reduceIte, decide_eq_true_eq, if_true, if_false, Bool.false_eq_true, Int.lt_irrefl, h0, hu.addr Try.underlying45 T.s50 T.z50, hu.loadh T.r50, show (↑n - 1 : Int).toNat = n - 1 by omega, h1, h2, show ¬ (n : Int) = 0 by omega]
      refine (c209 h3 (by rw [List.length_take]; omega)).mono ?_
      rintro r H' ⟨h4, h5⟩
      have hy := h4.u.isSl
      have hg : H'.get H.next = some (.row true 47 [.bool false, .slice none 0 0]) := by rw [h5.get _ (by simp)]; exact get_push_self _ _
      simp (maxSteps := 1000000) (disch := first | exact sd | fail) only [go_sem, Nat.reduceAdd, Nat.reduceSub, Nat.reduceLeDiff, ↓reduceIte, decide_eq_true_eq, if_true, if_false, Bool.false_eq_true, Int.lt_irrefl, hg]
      have hle : Hle H (H'.set H.next (.row true 47 [.bool ng, r])) := ((Hle.push0 _).trans h5).set (Nat.le_refl _) _
      have hne : trimL l ≠ [] := by
        rw [ht]; intro h; have := congrArg List.length h; rw [List.length_take, List.length_nil] at this; omega
      rw [if_neg hne]
      refine ⟨⟨r, rfl, ?_, hl.trimL⟩, hle⟩
      rw [ht]
      refine UO.u (H0 := H.push (.row true 47 [.bool false, .slice none 0 0])) (Ow.keep h4 (fun b _ hb _ => get_set_ne (by simp at hb; omega)) (Nat.le_refl _))
  · have hn0 : n = 0 := by omega
    subst hn0
    have ht : trimL l = [] := by rw [trimL_take 0 (by omega) (fun j h1 h2 => hz j h1 h2)]; rfl
    simp (maxSteps := 1000000) (disch := first | exact sd | fail) only [go_sem, Nat.reduceAdd, Nat.reduceSub, Nat.reduceLeDiff, ↓reduceIte, decide_eq_true_eq, if_true, if_false, Bool.false_eq_true, Int.lt_irrefl, Int.natCast_zero, Int.lt_irrefl, ht]
    exact ⟨⟨_, rfl, .nil, Lim.nil⟩, (Hle.push0 _).set (Nat.le_refl _) _⟩
end Go.Abs
