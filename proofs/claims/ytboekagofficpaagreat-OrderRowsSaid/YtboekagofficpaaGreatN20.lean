/- The document's differences of limbs. -/
import Derived.Test.YtboekagofficpaaGreatN18
set_option linter.unusedVariables false
set_option linter.unusedSimpArgs false
namespace Go.Abs
open Go Go.Proofs
set_option maxRecDepth 100000
set_option maxHeartbeats 40000000
set_option linter.unusedSimpArgs false

structure SubInv (a b o : List Int) (k : Nat) (c : Int) : Prop where
  len : o.length = a.length
  cb : 0 ≤ c ∧ c ≤ 1
  eq : o.take k ++ minusL (o.drop k) (b.drop k) c = minusL a b 0
  same : o.drop k = a.drop k
theorem SubInv.init {a b : List Int} : SubInv a b a 0 0 := ⟨rfl, by omega, rfl, rfl⟩
theorem SubInv.get {a b o : List Int} {k : Nat} {c : Int} (h : SubInv a b o k c) : o.getD k 0 = a.getD k 0 := by
  have := congrArg (fun l => l.headD 0) h.same
  simpa only [headD_drop] using this
theorem SubInv.step {a b o : List Int} {k : Nat} {c : Int} (h : SubInv a b o k c) (hk : k < a.length) :
    SubInv a b (o.set k ((a.getD k 0 - (c + b.getD k 0)) % 4294967296)) (k + 1) (if a.getD k 0 < c + b.getD k 0 then 1 else 0) := by
  have hl := h.len
  have e := h.eq
  have hs := h.same
  rw [drop_getD (a := o) (k := k) (by omega), minusL, headD_drop, tail_drop, h.get] at e
  refine ⟨by rw [List.length_set]; exact hl, by constructor <;> split <;> omega, ?_, ?_⟩
  · rw [take_set (by omega), drop_set, ← e, List.append_assoc]; rfl
  · rw [drop_set]
    have := congrArg List.tail hs
    simpa only [tail_drop] using this
theorem SubInv.done {a b o : List Int} {c : Int} (h : SubInv a b o a.length c) : o = minusL a b 0 := by
  have e := h.eq
  have hl := h.len
  rw [List.drop_of_length_le (by omega), List.take_of_length_le (by omega), minusL, List.append_nil] at e
  exact e


theorem c160 {H : Heap} {sa sb : Value} {a b : List Int} (hu : U Tryz.prog H sa a) (hv : U Tryz.prog H sb b) (ha : Lim a) (hb : Lim b) (hl : a.length ≤ 2 ^ 40) (hl2 : b.length ≤ a.length) (hv2 : val b ≤ val a) :
    ACalls Tryz.prog 146 [sa, sb] H fun r H' => ∃ l, U Tryz.prog H' r l ∧ Lim l ∧ val l = val a - val b ∧ l.length ≤ a.length ∧ Top l ∧ Hle H H' := by
  refine ACalls.of_code T.hm (n := 60) Tryz.func146 rfl rfl rfl rfl ?_; simp only [List.replicate_succ, List.replicate_zero, List.cons_append, List.nil_append]
  have h1 : UO Tryz.prog H (H.push (.row true 177 [])) (.slice (some ⟨H.next, 0, none⟩) 0 0) [] := UO.fresh Hle.rfl rfl (by simp [unk]) (by simp)
  obtain ⟨h2, h3, h4, _⟩ := h1.append (Hle.push0 _) (hu.mono (Hle.push0 _)) (by simp; omega)
  simp only [List.nil_append] at h3
  simp (maxSteps := 1000000) (disch := first | exact sd | fail) only [go_sem, Nat.reduceAdd, Nat.reduceSub, Nat.reduceLeDiff, ↓reduceIte, decide_eq_true_eq, if_true, if_false, Bool.false_eq_true, Int.lt_irrefl, implies_true, true_and, and_true, eq_self, and_self, beq_self_eq_true, h2]
  generalize apV Tryz.prog (H.push (.row true 177 [])) #[70, 70] (.slice (some ⟨H.next, 0, none⟩) 0 0) sa = so at *
  generalize apH Tryz.prog (H.push (.row true 177 [])) #[70, 70] (.slice (some ⟨H.next, 0, none⟩) 0 0) sa = H2 at *
  refine aw_loopJ (σ := Nat × Int × List Int) (fun s J => [sa, sb, J 2, J 3, .slice none 0 0, so, .int .u64 s.2.1, .int .i64 s.1, J 8, J 9, J 10, J 11, J 12, J 13, J 14, J 15, J 16, J 17, J 18, J 19, J 20, J 21, J 22, J 23, J 24, J 25, J 26, J 27, J 28, J 29, J 30, J 31, J 32, J 33, J 34, J 35, J 36, J 37, J 38, J 39, J 40, J 41, J 42, J 43, J 44, J 45, J 46, J 47, J 48, J 49, J 50, J 51, J 52, J 53, J 54, J 55, J 56, J 57, J 58, J 59, J 60, J 61]) (fun n s H1 => n = a.length - s.1 ∧ s.1 ≤ a.length ∧ Hle H H1 ∧ UO Tryz.prog H H1 so s.2.2 ∧ SubInv a b s.2.2 s.1 s.2.1) a.length (0, 0, a) rfl ⟨rfl, Nat.zero_le _, h4, h3, SubInv.init⟩ ?_
  rintro n ⟨k, c, o⟩ J H1 ⟨rfl, hk, hle, ho, hi⟩
  simp only at hk ho hi
  have hy1 := hv.mono hle
  have hou := ho.u
  have hol := hi.len
  have hc := hi.cb
  have hol2 : (o.length : Int) = a.length := by omega
  have hxk := ha.getD k
  have hyk := hb.getD k
  have v1 := wrap_u64' hxk.1 (Int.lt_trans hxk.2 (by decide))
  have v2 := wrap_u64' hyk.1 (Int.lt_trans hyk.2 (by decide))
  have v3 := wrap_u64' (z := c + b.getD k 0) (by omega) (by omega)
  have v4 := wrap_u64' (z := a.getD k 0 + 4294967296) (by omega) (by omega)
  have hgo := hi.get
  by_cases b1 : (k : Int) < a.length
  rotate_left
  · have hka : k = a.length := by omega
    subst hka
    have hd := hi.done
    have b1' : ¬ ((a.length : Int) < o.length) := by omega
    simp (maxSteps := 1000000) (disch := first | exact sd | fail) only [go_sem, Nat.reduceAdd, Nat.reduceSub, Nat.reduceLeDiff, ↓reduceIte, decide_eq_true_eq, if_true, if_false, Bool.false_eq_true, Int.lt_irrefl, implies_true, true_and, and_true, eq_self, and_self, beq_self_eq_true, b1', hou.len T.i22, hou.addr Tryz.underlying70 T.s50 T.z50, hou.loadh T.r50]
    refine (c215 hou (by omega)).mono ?_
    rintro r _ ⟨hr, rfl⟩
    simp (maxSteps := 1000000) (disch := first | exact sd | fail) only [go_sem, Nat.reduceAdd, Nat.reduceSub, Nat.reduceLeDiff, ↓reduceIte, decide_eq_true_eq, if_true, if_false, Bool.false_eq_true, Int.lt_irrefl, implies_true, true_and, and_true, eq_self, and_self, beq_self_eq_true]
    rw [hd] at hr
    exact ⟨_, hr, (minusL_lim _ _ _).trimL, by rw [val_trimL, minusL_val _ _ _ ha hb (by omega) hl2 (by omega)]; omega, by have := length_trimL (minusL a b 0); rw [minusL_len] at this; exact this, top_trimL _, hle⟩
  have hst := hi.step (by omega)
  by_cases b2 : (k : Int) < b.length
  · by_cases b3 : c + b.getD k 0 ≤ a.getD k 0
    · rw [if_neg (by omega)] at hst
      have hww : IntKind.u64.wrap (a.getD k 0 - (c + b.getD k 0)) % 4294967296 = (a.getD k 0 - (c + b.getD k 0)) % 4294967296 := by rw [wrap_u64]; omega
      have b1 : (k : Int) < o.length := by omega
      obtain ⟨s1, s2, s3⟩ := ho.store (o := k) (x := (a.getD k 0 - (c + b.getD k 0)) % 4294967296) hle (by omega)
      simp (maxSteps := 1000000) (disch := first | exact sd | fail) only [go_sem, Nat.reduceAdd, Nat.reduceSub, Nat.reduceLeDiff, ↓reduceIte, decide_eq_true_eq, if_true, if_false, Bool.false_eq_true, Int.lt_irrefl, implies_true, true_and, and_true, eq_self, and_self, beq_self_eq_true, b1, b2, b3, hy1.len T.i22, hy1.addr Tryz.underlying70 T.s50 T.z50, hy1.loadh T.r50,  hou.len T.i22,  hou.addr Tryz.underlying70 T.s50 T.z50,  hou.loadh T.r50, Int.toNat_natCast, hgo, v1, v2, v3, wrap_u32, hww, s1]
      exact IJ_intro (k := a.length - (k + 1)) (by omega) (k + 1, 0, _) rfl ⟨rfl, (by first | omega | (dsimp only; omega)), s3, s2, hst⟩
    · rw [if_pos (by omega)] at hst
      have hww : IntKind.u64.wrap (a.getD k 0 + 4294967296 - (c + b.getD k 0)) % 4294967296 = (a.getD k 0 - (c + b.getD k 0)) % 4294967296 := by rw [wrap_u64]; omega
      have b1 : (k : Int) < o.length := by omega
      obtain ⟨s1, s2, s3⟩ := ho.store (o := k) (x := (a.getD k 0 - (c + b.getD k 0)) % 4294967296) hle (by omega)
      simp (maxSteps := 1000000) (disch := first | exact sd | fail) only [go_sem, Nat.reduceAdd, Nat.reduceSub, Nat.reduceLeDiff, ↓reduceIte, decide_eq_true_eq, if_true, if_false, Bool.false_eq_true, Int.lt_irrefl, implies_true, true_and, and_true, eq_self, and_self, beq_self_eq_true, b1, b2, b3, hy1.len T.i22, hy1.addr Tryz.underlying70 T.s50 T.z50, hy1.loadh T.r50,  hou.len T.i22,  hou.addr Tryz.underlying70 T.s50 T.z50,  hou.loadh T.r50, Int.toNat_natCast, hgo, v1, v2, v3, v4, wrap_u32, hww, s1]
      exact IJ_intro (k := a.length - (k + 1)) (by omega) (k + 1, 1, _) rfl ⟨rfl, (by first | omega | (dsimp only; omega)), s3, s2, hst⟩
  · rw [show b.getD k 0 = 0 from getD_none (by omega), Int.add_zero] at hst
    by_cases b3 : c ≤ a.getD k 0
    · rw [if_neg (by omega)] at hst
      have hww : IntKind.u64.wrap (a.getD k 0 - c) % 4294967296 = (a.getD k 0 - c) % 4294967296 := by rw [wrap_u64]; omega
      have b1 : (k : Int) < o.length := by omega
      obtain ⟨s1, s2, s3⟩ := ho.store (o := k) (x := (a.getD k 0 - (c)) % 4294967296) hle (by omega)
      simp (maxSteps := 1000000) (disch := first | exact sd | fail) only [go_sem, Nat.reduceAdd, Nat.reduceSub, Nat.reduceLeDiff, ↓reduceIte, decide_eq_true_eq, if_true, if_false, Bool.false_eq_true, Int.lt_irrefl, implies_true, true_and, and_true, eq_self, and_self, beq_self_eq_true, b1, b2, b3, hy1.len T.i22, hy1.addr Tryz.underlying70 T.s50 T.z50, hy1.loadh T.r50,  hou.len T.i22,  hou.addr Tryz.underlying70 T.s50 T.z50,  hou.loadh T.r50, Int.toNat_natCast, hgo, v1, wrap_u32, hww, s1]
      exact IJ_intro (k := a.length - (k + 1)) (by omega) (k + 1, 0, _) rfl ⟨rfl, (by first | omega | (dsimp only; omega)), s3, s2, hst⟩
    · rw [if_pos (by omega)] at hst
      have hww : IntKind.u64.wrap (a.getD k 0 + 4294967296 - c) % 4294967296 = (a.getD k 0 - c) % 4294967296 := by rw [wrap_u64]; omega
      have b1 : (k : Int) < o.length := by omega
      obtain ⟨s1, s2, s3⟩ := ho.store (o := k) (x := (a.getD k 0 - (c)) % 4294967296) hle (by omega)
      simp (maxSteps := 1000000) (disch := first | exact sd | fail) only [go_sem, Nat.reduceAdd, Nat.reduceSub, Nat.reduceLeDiff, ↓reduceIte, decide_eq_true_eq, if_true, if_false, Bool.false_eq_true, Int.lt_irrefl, implies_true, true_and, and_true, eq_self, and_self, beq_self_eq_true, b1, b2, b3, hy1.len T.i22, hy1.addr Tryz.underlying70 T.s50 T.z50, hy1.loadh T.r50,  hou.len T.i22,  hou.addr Tryz.underlying70 T.s50 T.z50,  hou.loadh T.r50, Int.toNat_natCast, hgo, v1, v4, wrap_u32, hww, s1]
      exact IJ_intro (k := a.length - (k + 1)) (by omega) (k + 1, 1, _) rfl ⟨rfl, (by first | omega | (dsimp only; omega)), s3, s2, hst⟩
end Go.Abs
