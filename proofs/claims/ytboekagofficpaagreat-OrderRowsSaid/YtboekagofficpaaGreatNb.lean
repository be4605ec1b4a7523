/- Joined: N5, N6, N7, N8. -/
import Derived.Test.YtboekagofficpaaGreatN4
/- Numbers, as the document has them: trim, mk; numbers of an int64. -/
set_option linter.unusedVariables false
set_option linter.unusedSimpArgs false
namespace Go.Abs
open Go Go.Proofs
set_option maxRecDepth 10000
set_option linter.unusedSimpArgs false

theorem trimL_take' {l : List Int} (n : Nat) (hk : n ≤ l.length) (hz : ∀ j, n ≤ j → j < l.length → l.getD j 0 = 0) (h : n = 0 ∨ l.getD (n - 1) 0 ≠ 0) : trimL l = l.take n := by
  rw [trimL_take n hk hz, trimL_of_top]
  rcases h with h | h
  · left; rw [h]; rfl
  by_cases h0 : n = 0
  · left; rw [h0]; rfl
  right
  rw [List.length_take, Nat.min_eq_left hk]
  rw [List.getD_eq_getElem?_getD, List.getElem?_take, if_pos (by omega), ← List.getD_eq_getElem?_getD]
  exact h

theorem c215 {H : Heap} {sl : Value} {l : List Int} (hu : U Tryz.prog H sl l) (hb : l.length < 2 ^ 62) : ACalls Tryz.prog 114 [sl] H fun r H' => U Tryz.prog H' r (trimL l) ∧ H' = H := by
  refine ACalls.of_code T.hm (n := 20) Tryz.func114 rfl rfl rfl rfl ?_; simp only [List.replicate_succ, List.replicate_zero, List.cons_append, List.nil_append]
  simp (maxSteps := 1000000) (disch := first | exact sd | fail) only [go_sem, Nat.reduceAdd, Nat.reduceSub, Nat.reduceLeDiff, ↓reduceIte, decide_eq_true_eq, if_true, if_false, Bool.false_eq_true, Int.lt_irrefl, hu.len T.i22]
  refine aw_loopJ (σ := Nat) (fun k J => [sl, J 1, J 2, .int .i64 k, J 4, J 5, J 6, J 7, J 8, J 9, J 10, J 11, J 12, J 13, J 14, J 15, J 16, J 17, J 18, J 19, J 20]) (fun n k H1 => n = k ∧ H1 = H ∧ k ≤ l.length ∧ ∀ j, k ≤ j → j < l.length → l.getD j 0 = 0) l.length l.length rfl ⟨rfl, rfl, Nat.le_refl _, fun j h1 h2 => by omega⟩ ?_
  rintro n k J H1 ⟨rfl, rfl, hk, hz⟩
  obtain ⟨sl', h2, h3⟩ := hu.upto Tryz.underlying70 T.z50 (k := .i64) (i := n) (by omega) (by omega)
  rw [Int.toNat_natCast] at h3
  by_cases h0 : (0 : Int) < n
  · by_cases h1 : l.getD (n - 1) 0 = 0
    · simp (maxSteps := 1000000) (disch := first | exact sd | fail) only [go_sem, Nat.reduceAdd, Nat.reduceSub, Nat.reduceLeDiff, ↓reduceIte, decide_eq_true_eq, if_true, if_false, Bool.false_eq_true, Int.lt_irrefl, h0, hu.addr Tryz.underlying70 T.s50 T.z50, hu.loadh T.r50, show (↑n - 1 : Int).toNat = n - 1 by omega, h1]
      rw [show (↑n - 1 : Int) = ((n - 1 : Nat) : Int) by omega]
      refine IJ_intro (k := n - 1) (by omega) (n - 1) rfl ⟨rfl, rfl, by omega, fun j h5 h6 => ?_⟩
      by_cases h4 : j = n - 1
      · rw [h4]; exact h1
      · exact hz j (by omega) h6
    · simp (maxSteps := 1000000) (disch := first | exact sd | fail) only [go_sem, Nat.reduceAdd, Nat.reduceSub, Nat.reduceLeDiff, ↓reduceIte, decide_eq_true_eq, if_true, if_false, Bool.false_eq_true, Int.lt_irrefl, h0, hu.addr Tryz.underlying70 T.s50 T.z50, hu.loadh T.r50, show (↑n - 1 : Int).toNat = n - 1 by omega, h1, h2]
      rw [trimL_take' n hk hz (.inr h1)]
      exact ⟨h3, by trivial⟩
  · simp (maxSteps := 1000000) (disch := first | exact sd | fail) only [go_sem, Nat.reduceAdd, Nat.reduceSub, Nat.reduceLeDiff, ↓reduceIte, decide_eq_true_eq, if_true, if_false, Bool.false_eq_true, Int.lt_irrefl, h0, h2]
    rw [trimL_take' n hk hz (.inl (by omega))]
    exact ⟨h3, by trivial⟩

theorem c150 {H : Heap} {sl : Value} {ng : Bool} {l : List Int} (hu : U Tryz.prog H sl l) (hl : Lim l) (hb : l.length ≤ 35184372088732) : ACalls Tryz.prog 90 [.bool ng, sl] H fun r H' => IA Tryz.prog H' r (if trimL l = [] then false else ng) (trimL l) ∧ Hle H H' := by
  refine ACalls.of_code T.hm (n := 14) Tryz.func90 rfl rfl rfl rfl ?_; simp only [List.replicate_succ, List.replicate_zero, List.cons_append, List.nil_append]
  simp (maxSteps := 1000000) (disch := first | exact sd | fail) only [go_sem, Nat.reduceAdd, Nat.reduceSub, Nat.reduceLeDiff, ↓reduceIte, decide_eq_true_eq, if_true, if_false, Bool.false_eq_true, Int.lt_irrefl]
  refine (c215 (hu.mono (Hle.push0 _)) (by omega)).mono ?_
  rintro r _ ⟨hr, rfl⟩
  by_cases h0 : trimL l = []
  · have h1 : (trimL l).length = 0 := by rw [h0]; rfl
    simp (maxSteps := 1000000) (disch := first | exact sd | fail) only [go_sem, Nat.reduceAdd, Nat.reduceSub, Nat.reduceLeDiff, ↓reduceIte, decide_eq_true_eq, if_true, if_false, Bool.false_eq_true, Int.lt_irrefl, hr.len T.i22, h1, Int.natCast_zero, h0]
    exact ⟨⟨_, rfl, .nil, Lim.nil⟩, (Hle.push0 _).set (Nat.le_refl _) _⟩
  · have h1 : ¬ ((trimL l).length : Int) = 0 := by
      intro h; exact h0 (List.length_eq_zero_iff.1 (by omega))
    have hlen := length_trimL l
    have h2 : UO Tryz.prog (H.push (.row true 72 [.bool false, .slice none 0 0])) ((H.push (.row true 72 [.bool false, .slice none 0 0])).push (.row true 177 [])) (.slice (some ⟨H.next + 1, 0, none⟩) 0 0) [] := UO.fresh Hle.rfl rfl (by simp [unk]) (by simp)
    obtain ⟨h3, h4, h5, h6, h7⟩ := h2.append (Hle.push0 _) (hr.mono (Hle.push0 _)) (by simp; omega)
    have hy := h4.u.isSl
    have hg := get_box h5
    simp (maxSteps := 1000000) (disch := first | exact sd | fail) only [go_sem, Nat.reduceAdd, Nat.reduceSub, Nat.reduceLeDiff, ↓reduceIte, decide_eq_true_eq, if_true, if_false, Bool.false_eq_true, Int.lt_irrefl, hr.len T.i22, h1, h0, h3, hg]
    have hle := ((Hle.push0 (.row true 72 [.bool false, .slice none 0 0])).trans h5).set (Nat.le_refl H.next) (.row true 72 [.bool ng, apV Tryz.prog ((H.push (.row true 72 [.bool false, .slice none 0 0])).push (.row true 177 [])) #[70, 70] (.slice (some ⟨H.next + 1, 0, none⟩) 0 0) r])
    refine ⟨⟨_, rfl, ?_, hl.trimL⟩, hle⟩
    exact UO.u (H0 := H.push (.row true 72 [.bool false, .slice none 0 0])) (Ow.keep h4 (fun b _ hb _ => get_set_ne (by simp at hb; omega)) (Nat.le_refl _))
end Go.Abs

/- Numbers of an int64. -/
set_option linter.unusedVariables false
set_option linter.unusedSimpArgs false
namespace Go.Abs
open Go Go.Proofs
set_option maxRecDepth 10000
set_option linter.unusedSimpArgs false

/-- An int64's limbs, with noughts on top. -/
def ofR (n : Int) : List Int := [(n.natAbs : Int) % 4294967296, (n.natAbs : Int) / 4294967296]
theorem lim_ofR {n : Int} (h : -9223372036854775808 ≤ n ∧ n ≤ 9223372036854775807) : Lim (ofR n) := Lim.cons (by omega) (Lim.cons (by omega) Lim.nil)
theorem ofR_nil {n : Int} (h : trimL (ofR n) = []) : n = 0 := by
  have := congrArg val h
  rw [val_trimL] at this
  simp only [ofR, val] at this
  omega
theorem ofR_neg {n : Int} : (if trimL (ofR n) = [] then false else decide (n < 0)) = decide (n < 0) := by
  split
  · rename_i h; have := ofR_nil h; simp [this]
  · rfl

theorem Sl.setbox {H : Heap} {es n : Nat} {sl : Value} {cells : List Value} (h : Sl Tryz.prog H es sl n cells) {b : Nat} {el : TypeId} {cs : List Value} (hg : H.get b = some (.row true el cs)) (hne : szOf Tryz.prog el ≠ es) (o : AObj) : Sl Tryz.prog (H.set b o) es sl n cells := by
  cases h with
  | nil => exact .nil
  | void => exact .void
  | row hg' hb he hc hl =>
    refine .row ?_ hb he hc hl
    rw [get_set_ne]; exact hg'
    rintro rfl
    rw [hg] at hg'
    injection hg' with e
    injection e with e1 e2 e3
    subst e1; subst e2
    rcases he with he | he
    · cases he
    · exact hne he
theorem IA.setbox {H : Heap} {v : Value} {ng : Bool} {l : List Int} (h : IA Tryz.prog H v ng l) {b : Nat} {cs : List Value} (hg : H.get b = some (.row true 72 cs)) (o : AObj) : IA Tryz.prog (H.set b o) v ng l := by
  obtain ⟨sl, h1, h2, h3⟩ := h
  exact ⟨sl, h1, Sl.setbox h2 hg (by rw [T.s24]; decide) o, h3⟩

end Go.Abs

/- Numbers of an int64, as the document has them; numbers as an int64. -/
set_option linter.unusedVariables false
set_option linter.unusedSimpArgs false
namespace Go.Abs
open Go Go.Proofs
set_option maxRecDepth 10000
set_option linter.unusedSimpArgs false

theorem c53 {H : Heap} {n : Int} (hn : -9223372036854775808 ≤ n ∧ n ≤ 9223372036854775807) : ACalls Tryz.prog 57 [.int .i64 n] H fun r H' => IA Tryz.prog H' r (decide (n < 0)) (trimL (ofR n)) ∧ Hle H H' := by
  refine ACalls.of_code T.hm (n := 18) Tryz.func57 rfl rfl rfl rfl ?_; simp only [List.replicate_succ, List.replicate_zero, List.cons_append, List.nil_append]
  by_cases h0 : n < 0
  · simp (maxSteps := 1000000) (disch := first | exact sd | fail) only [go_sem, Nat.reduceAdd, Nat.reduceSub, Nat.reduceLeDiff, ↓reduceIte, decide_eq_true_eq, if_true, if_false, Bool.false_eq_true, Int.lt_irrefl, h0, wrap_u64, wrap_u32]
    have e : [Value.int IntKind.u32 (-(n % 18446744073709551616) % 18446744073709551616 % 4294967296), Value.int IntKind.u32 (-(n % 18446744073709551616) % 18446744073709551616 / 4294967296 % 4294967296)] = (ofR n).map (.int .u32) := by
      simp only [ofR, List.map_cons, List.map_nil, List.cons.injEq, Value.int.injEq, true_and, and_true]
      omega
    rw [e]
    refine (c150 (UO.fresh (H0 := H.push (.row true 72 [.bool false, .slice none 0 0])) Hle.rfl rfl (by simp [unk, ofR]) (by simp [ofR])).u (lim_ofR hn) (by simp [ofR])).mono ?_
    rintro r H3 ⟨hr, h3⟩
    have hle := (Hle.push0 _).trans h3
    have hg := get_box hle
    have hr' := hr
    obtain ⟨sl, rfl, hu, hl⟩ := hr'
    have hy := hu.isSl
    simp (maxSteps := 1000000) (disch := first | exact sd | fail) only [go_sem, Nat.reduceAdd, Nat.reduceSub, Nat.reduceLeDiff, ↓reduceIte, decide_eq_true_eq, if_true, if_false, Bool.false_eq_true, Int.lt_irrefl, hg]
    have hne := ofR_neg (n := n)
    simp only [h0, decide_true] at hne
    rw [hne] at hr ⊢
    exact ⟨hr.setbox hg _, ((Hle.push0 _).trans hle).set (Nat.le_refl _) _⟩
  · simp (maxSteps := 1000000) (disch := first | exact sd | fail) only [go_sem, Nat.reduceAdd, Nat.reduceSub, Nat.reduceLeDiff, ↓reduceIte, decide_eq_true_eq, if_true, if_false, Bool.false_eq_true, Int.lt_irrefl, h0, wrap_u64, wrap_u32]
    have e : [Value.int IntKind.u32 (n % 18446744073709551616 % 4294967296), Value.int IntKind.u32 (n % 18446744073709551616 / 4294967296 % 4294967296)] = (ofR n).map (.int .u32) := by
      simp only [ofR, List.map_cons, List.map_nil, List.cons.injEq, Value.int.injEq, true_and, and_true]
      omega
    rw [e]
    refine (c150 (UO.fresh (H0 := H.push (.row true 72 [.bool false, .slice none 0 0])) Hle.rfl rfl (by simp [unk, ofR]) (by simp [ofR])).u (lim_ofR hn) (by simp [ofR])).mono ?_
    rintro r H3 ⟨hr, h3⟩
    have hle := (Hle.push0 _).trans h3
    have hg := get_box hle
    have hr' := hr
    obtain ⟨sl, rfl, hu, hl⟩ := hr'
    have hy := hu.isSl
    simp (maxSteps := 1000000) (disch := first | exact sd | fail) only [go_sem, Nat.reduceAdd, Nat.reduceSub, Nat.reduceLeDiff, ↓reduceIte, decide_eq_true_eq, if_true, if_false, Bool.false_eq_true, Int.lt_irrefl, hg]
    have hne := ofR_neg (n := n)
    simp only [h0, decide_false] at hne
    rw [hne] at hr ⊢
    exact ⟨hr.setbox hg _, ((Hle.push0 _).trans hle).set (Nat.le_refl _) _⟩

/-- A number as an int64. -/
def toR (neg : Bool) (m : List Int) : Int × Bool :=
  if 2 < m.length then (0, false) else if neg = true then (if val m ≤ 9223372036854775808 then (-(val m), true) else (0, false)) else if val m < 9223372036854775808 then (val m, true) else (0, false)

theorem wrap_i64_eq {z : Int} : IntKind.i64.wrap z = if 9223372036854775808 ≤ z % 18446744073709551616 then z % 18446744073709551616 - 18446744073709551616 else z % 18446744073709551616 := by
  show (let m := z % (2 ^ 64 : Int); if (true && decide (m ≥ (2 ^ 63 : Int))) = true then m - (2 ^ 64 : Int) else m) = _
  simp only [Bool.true_and, decide_eq_true_eq]
  rfl

theorem val_take2 {m : List Int} (hm : Lim m) {k : Nat} (hk : k < m.length) (h2 : m.length ≤ 2) :
    aBits .or .u64 (val (m.take k)) (IntKind.u64.wrap (m.getD k 0 * 2 ^ (min (32 * (k : Int)).toNat 64))) = val (m.take (k + 1)) := by
  have hb := hm.getD k
  match m, k, h2 with
  | x :: l, 0, _ =>
    have hx := hm.head
    simp only [List.take_zero, val, List.getD_cons_zero, List.take_succ_cons] at *
    have e : IntKind.u64.wrap (x * 2 ^ (min (32 * ((0 : Nat) : Int)).toNat 64)) = x := by
      show IntKind.u64.wrap (x * 1) = x
      rw [wrap_u64]; omega
    rw [e, or_zero (by omega)]
    omega
  | x :: y :: l, 1, _ =>
    have hx := hm.head
    have hy := hm.tail.head
    simp only [List.take_succ_cons, List.take_zero, val, List.getD_cons_succ, List.getD_cons_zero] at *
    have e : IntKind.u64.wrap (y * 2 ^ (min (32 * ((1 : Nat) : Int)).toNat 64)) = y * 4294967296 := by
      show IntKind.u64.wrap (y * 4294967296) = _
      rw [wrap_u64]; omega
    rw [e]
    have := or_add32 (u := x) (x := y) hx hy
    rw [show x + 4294967296 * 0 = x by omega, this]
    omega
  | x :: [], k + 1, _ => simp at hk
  | x :: y :: [], k + 2, _ => simp at hk; omega
  | x :: y :: z :: l, k + 2, h => simp at h

theorem val_lt2 {m : List Int} (hm : Lim m) (h2 : m.length ≤ 2) : 0 ≤ val m ∧ val m < 18446744073709551616 := by
  refine ⟨val_nonneg hm, ?_⟩
  match m, h2 with
  | [], _ => simp [val]
  | [x], _ => have := hm.head; simp only [val]; omega
  | [x, y], _ => have := hm.head; have := hm.tail.head; simp only [val]; omega
  | x :: y :: z :: l, h => simp at h

end Go.Abs

/- Numbers as an int64, as the document has them; more limbs than a statement reckons with. -/
set_option linter.unusedVariables false
set_option linter.unusedSimpArgs false
namespace Go.Abs
open Go Go.Proofs
set_option maxRecDepth 10000
set_option linter.unusedSimpArgs false

theorem val_drop2 {m : List Int} (hm : Lim m) {k : Nat} (hk : k < m.length) (h2 : m.length ≤ 2) :
    aBits .or .u64 (val (m.drop (k + 1)) * 4294967296 % 18446744073709551616) (m.getD k 0) = val (m.drop k) := by
  have hb := hm.getD k
  have hd : m.drop k = m.getD k 0 :: m.drop (k + 1) := by
    rw [List.drop_eq_getElem_cons hk]
    congr 1
    rw [List.getD_eq_getElem?_getD, List.getElem?_eq_getElem hk]; rfl
  have h1 : (m.drop (k + 1)).length ≤ 1 := by rw [List.length_drop]; omega
  have hv : 0 ≤ val (m.drop (k + 1)) ∧ val (m.drop (k + 1)) < 4294967296 := by
    have hl := hm.drop (k + 1)
    match m.drop (k + 1), h1, hl with
    | [], _, _ => simp [val]
    | [x], _, hl => have := hl.head; simp only [val]; omega
    | x :: y :: l, h, _ => simp at h
  rw [show val (m.drop (k + 1)) * 4294967296 % 18446744073709551616 = val (m.drop (k + 1)) * 4294967296 by omega]
  rw [or_add32' hb hv, hd]
  simp only [val]
  omega

end Go.Abs
