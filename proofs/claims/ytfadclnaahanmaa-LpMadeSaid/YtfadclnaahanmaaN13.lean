/- Limbs: sums and differences. -/
import Derived.Test.YtfadclnaahanmaaN12
set_option linter.unusedVariables false
set_option linter.unusedSimpArgs false
namespace Go.Abs
open Go Go.Proofs
set_option maxRecDepth 100000
set_option maxHeartbeats 4000000
set_option linter.unusedSimpArgs false

theorem zeros_fresh {H : Heap} {n : Nat} (hn : n < 2 ^ 62) : UO Try.prog H (H.push (.row true 96 (List.replicate n (.int .u32 0)))) (.slice (some ⟨H.next, 0, none⟩) 0 n) [] :=
  UO.fresh Hle.rfl rfl ⟨Nat.zero_le _, by simp, by unfold unk; omega⟩ rfl


theorem c156 {H : Heap} {sa sb : Value} {a b : List Int} (hu : U Try.prog H sa a) (hv : U Try.prog H sb b) (ha : Lim a) (hb : Lim b) (hl : a.length ≤ 2 ^ 40) (hl2 : b.length ≤ 2 ^ 40) :
    ACalls Try.prog 139 [sa, sb] H fun r H' => ∃ l, U Try.prog H' r l ∧ Lim l ∧ val l = val a + val b ∧ l.length ≤ max a.length b.length + 1 ∧ Hle H H' := by
  refine ACalls.of_code T.hm (n := 53) Try.func139 rfl rfl rfl rfl ?_; simp only [List.replicate_succ, List.replicate_zero, List.cons_append, List.nil_append]
  by_cases h0 : (a.length : Int) < b.length
  · have h1 : a.length ≤ b.length := by omega
    simp (maxSteps := 1000000) (disch := first | exact sd | fail) only [go_sem, Nat.reduceAdd, Nat.reduceSub, Nat.reduceLeDiff, ↓reduceIte, decide_eq_true_eq, if_true, if_false, Bool.false_eq_true, Int.lt_irrefl, hv.len T.i22, hv.addr Try.underlying38 T.s50 T.z50, hv.loadh T.r50,  hu.len T.i22,  hu.addr Try.underlying38 T.s50 T.z50,  hu.loadh T.r50, h0, show ((b.length : Int) + 1).toNat = b.length + 1 by omega, aMk_int]
    have hO := zeros_fresh (H := H) (n := b.length + 1) (by omega)
    refine aw_loopJ (σ := Nat × Value × Int) (fun s J => [sb, sa, J 2, J 3, .slice none 0 0, s.2.1, .int .u64 s.2.2, J 7, J 8, J 9, J 10, J 11, J 12, J 13, J 14, J 15, J 16, J 17, J 18, J 19, sb, .int .i64 b.length, .int .i64 s.1, J 23, J 24, J 25, J 26, J 27, J 28, J 29, J 30, J 31, J 32, J 33, J 34, J 35, J 36, J 37, J 38, J 39, J 40, J 41, J 42, J 43, J 44, J 45, J 46, J 47, J 48, J 49, J 50, J 51, J 52, J 53, J 54]) (fun n s H1 => n = b.length - s.1 ∧ s.1 ≤ b.length ∧ Hle H H1 ∧ (0 ≤ s.2.2 ∧ s.2.2 < 4294967296) ∧ ∃ o, UO Try.prog H H1 s.2.1 o ∧ o.length = s.1 ∧ Lim o ∧ o ++ plusL (b.drop s.1) (a.drop s.1) s.2.2 = plusL b a 0) b.length (0, .slice (some ⟨H.next, 0, none⟩) 0 (b.length + 1), 0) rfl ⟨rfl, Nat.zero_le _, Hle.push0 _, (by first | omega | (dsimp only; omega)), [], hO, rfl, Lim.nil, rfl⟩ ?_
    rintro n ⟨k, so, c⟩ J H1 ⟨rfl, hk, hle, hc, o, ho, hol, holim, he⟩
    simp only at hk hc ho hol he
    have hx1 := hv.mono hle
    have hy1 := hu.mono hle
    by_cases h4 : (k : Int) < b.length
    · have hxk := hb.getD k
      have hyk := ha.getD k
      have e1 : b.drop k = b.getD k 0 :: b.drop (k + 1) := drop_getD (by omega)
      rw [e1, plusL, headD_drop, tail_drop] at he
      by_cases h5 : (k : Int) < a.length
      · simp (maxSteps := 1000000) (disch := first | exact sd | fail) only [go_sem, Nat.reduceAdd, Nat.reduceSub, Nat.reduceLeDiff, ↓reduceIte, decide_eq_true_eq, if_true, if_false, Bool.false_eq_true, Int.lt_irrefl, h4, hx1.len T.i22, hx1.addr Try.underlying38 T.s50 T.z50, hx1.loadh T.r50,  hy1.len T.i22,  hy1.addr Try.underlying38 T.s50 T.z50,  hy1.loadh T.r50, Int.toNat_natCast, h5, wrap_u64' hxk.1 (by omega), wrap_u64' hyk.1 (by omega)]
        rw [wrap_u64' (show 0 ≤ c + b.getD k 0 by omega) (by omega), wrap_u64' (show 0 ≤ c + b.getD k 0 + a.getD k 0 by omega) (by omega)]
        refine e151.mono ?_
        rintro _ _ ⟨rfl, rfl⟩
        obtain ⟨h6, h7, h8⟩ := ho.append1 (x := (c + b.getD k 0 + a.getD k 0) % 4294967296) hle (by omega)
        simp (maxSteps := 1000000) (disch := first | exact sd | fail) only [go_sem, Nat.reduceAdd, Nat.reduceSub, Nat.reduceLeDiff, ↓reduceIte, decide_eq_true_eq, if_true, if_false, Bool.false_eq_true, Int.lt_irrefl, h6]
        refine IJ_intro (k := b.length - (k + 1)) (by omega) (k + 1, _, _) rfl ⟨rfl, (by first | omega | (dsimp only; omega)), h8, (by first | omega | (dsimp only; omega)), _, h7, by simp [hol], holim.append (Lim.cons (by omega) Lim.nil), ?_⟩
        rw [← he, List.append_assoc]; rfl
      · have h6 : a.getD k 0 = 0 := getD_none (by omega)
        rw [h6, Int.add_zero] at he
        simp (maxSteps := 1000000) (disch := first | exact sd | fail) only [go_sem, Nat.reduceAdd, Nat.reduceSub, Nat.reduceLeDiff, ↓reduceIte, decide_eq_true_eq, if_true, if_false, Bool.false_eq_true, Int.lt_irrefl, h4, hx1.len T.i22, hx1.addr Try.underlying38 T.s50 T.z50, hx1.loadh T.r50,  hy1.len T.i22,  hy1.addr Try.underlying38 T.s50 T.z50,  hy1.loadh T.r50, Int.toNat_natCast, h5, wrap_u64' hxk.1 (by omega)]
        rw [wrap_u64' (show 0 ≤ c + b.getD k 0 by omega) (by omega)]
        refine e151.mono ?_
        rintro _ _ ⟨rfl, rfl⟩
        obtain ⟨h6, h7, h8⟩ := ho.append1 (x := (c + b.getD k 0) % 4294967296) hle (by omega)
        simp (maxSteps := 1000000) (disch := first | exact sd | fail) only [go_sem, Nat.reduceAdd, Nat.reduceSub, Nat.reduceLeDiff, ↓reduceIte, decide_eq_true_eq, if_true, if_false, Bool.false_eq_true, Int.lt_irrefl, h6]
        refine IJ_intro (k := b.length - (k + 1)) (by omega) (k + 1, _, _) rfl ⟨rfl, (by first | omega | (dsimp only; omega)), h8, (by first | omega | (dsimp only; omega)), _, h7, by simp [hol], holim.append (Lim.cons (by omega) Lim.nil), ?_⟩
        rw [← he, List.append_assoc]; rfl
    · have hkx : k = b.length := by omega
      subst hkx
      rw [List.drop_length, plusL] at he
      simp (maxSteps := 1000000) (disch := first | exact sd | fail) only [go_sem, Nat.reduceAdd, Nat.reduceSub, Nat.reduceLeDiff, ↓reduceIte, decide_eq_true_eq, if_true, if_false, Bool.false_eq_true, Int.lt_irrefl, h4]
      refine e151.mono ?_
      rintro _ _ ⟨rfl, rfl⟩
      have hcc : c % 4294967296 = c := by omega
      rw [hcc]
      obtain ⟨h6, h7, h8⟩ := ho.append1 (x := c) hle (by omega)
      simp (maxSteps := 1000000) (disch := first | exact sd | fail) only [go_sem, Nat.reduceAdd, Nat.reduceSub, Nat.reduceLeDiff, ↓reduceIte, decide_eq_true_eq, if_true, if_false, Bool.false_eq_true, Int.lt_irrefl, h6]
      rw [he] at h7
      refine ⟨_, h7.u, plusL_lim _ _ _ hb ha (by omega), ?_, ?_, h8⟩
      · rw [plusL_val _ _ _ h1]; omega
      · rw [plusL_len]; omega
  · have h1 : b.length ≤ a.length := by omega
    simp (maxSteps := 1000000) (disch := first | exact sd | fail) only [go_sem, Nat.reduceAdd, Nat.reduceSub, Nat.reduceLeDiff, ↓reduceIte, decide_eq_true_eq, if_true, if_false, Bool.false_eq_true, Int.lt_irrefl, hu.len T.i22, hu.addr Try.underlying38 T.s50 T.z50, hu.loadh T.r50,  hv.len T.i22,  hv.addr Try.underlying38 T.s50 T.z50,  hv.loadh T.r50, h0, show ((a.length : Int) + 1).toNat = a.length + 1 by omega, aMk_int]
    have hO := zeros_fresh (H := H) (n := a.length + 1) (by omega)
    refine aw_loopJ (σ := Nat × Value × Int) (fun s J => [sa, sb, J 2, J 3, .slice none 0 0, s.2.1, .int .u64 s.2.2, J 7, J 8, J 9, J 10, J 11, J 12, J 13, J 14, J 15, J 16, J 17, J 18, J 19, sa, .int .i64 a.length, .int .i64 s.1, J 23, J 24, J 25, J 26, J 27, J 28, J 29, J 30, J 31, J 32, J 33, J 34, J 35, J 36, J 37, J 38, J 39, J 40, J 41, J 42, J 43, J 44, J 45, J 46, J 47, J 48, J 49, J 50, J 51, J 52, J 53, J 54]) (fun n s H1 => n = a.length - s.1 ∧ s.1 ≤ a.length ∧ Hle H H1 ∧ (0 ≤ s.2.2 ∧ s.2.2 < 4294967296) ∧ ∃ o, UO Try.prog H H1 s.2.1 o ∧ o.length = s.1 ∧ Lim o ∧ o ++ plusL (a.drop s.1) (b.drop s.1) s.2.2 = plusL a b 0) a.length (0, .slice (some ⟨H.next, 0, none⟩) 0 (a.length + 1), 0) rfl ⟨rfl, Nat.zero_le _, Hle.push0 _, (by first | omega | (dsimp only; omega)), [], hO, rfl, Lim.nil, rfl⟩ ?_
    rintro n ⟨k, so, c⟩ J H1 ⟨rfl, hk, hle, hc, o, ho, hol, holim, he⟩
    simp only at hk hc ho hol he
    have hx1 := hu.mono hle
    have hy1 := hv.mono hle
    by_cases h4 : (k : Int) < a.length
    · have hxk := ha.getD k
      have hyk := hb.getD k
      have e1 : a.drop k = a.getD k 0 :: a.drop (k + 1) := drop_getD (by omega)
      rw [e1, plusL, headD_drop, tail_drop] at he
      by_cases h5 : (k : Int) < b.length
      · simp (maxSteps := 1000000) (disch := first | exact sd | fail) only [go_sem, Nat.reduceAdd, Nat.reduceSub, Nat.reduceLeDiff, ↓reduceIte, decide_eq_true_eq, if_true, if_false, Bool.false_eq_true, Int.lt_irrefl, h4, hx1.len T.i22, hx1.addr Try.underlying38 T.s50 T.z50, hx1.loadh T.r50,  hy1.len T.i22,  hy1.addr Try.underlying38 T.s50 T.z50,  hy1.loadh T.r50, Int.toNat_natCast, h5, wrap_u64' hxk.1 (by omega), wrap_u64' hyk.1 (by omega)]
        rw [wrap_u64' (show 0 ≤ c + a.getD k 0 by omega) (by omega), wrap_u64' (show 0 ≤ c + a.getD k 0 + b.getD k 0 by omega) (by omega)]
        refine e151.mono ?_
        rintro _ _ ⟨rfl, rfl⟩
        obtain ⟨h6, h7, h8⟩ := ho.append1 (x := (c + a.getD k 0 + b.getD k 0) % 4294967296) hle (by omega)
        simp (maxSteps := 1000000) (disch := first | exact sd | fail) only [go_sem, Nat.reduceAdd, Nat.reduceSub, Nat.reduceLeDiff, ↓reduceIte, decide_eq_true_eq, if_true, if_false, Bool.false_eq_true, Int.lt_irrefl, h6]
        refine IJ_intro (k := a.length - (k + 1)) (by omega) (k + 1, _, _) rfl ⟨rfl, (by first | omega | (dsimp only; omega)), h8, (by first | omega | (dsimp only; omega)), _, h7, by simp [hol], holim.append (Lim.cons (by omega) Lim.nil), ?_⟩
        rw [← he, List.append_assoc]; rfl
      · have h6 : b.getD k 0 = 0 := getD_none (by omega)
        rw [h6, Int.add_zero] at he
        simp (maxSteps := 1000000) (disch := first | exact sd | fail) only [go_sem, Nat.reduceAdd, Nat.reduceSub, Nat.reduceLeDiff, ↓reduceIte, decide_eq_true_eq, if_true, if_false, Bool.false_eq_true, Int.lt_irrefl, h4, hx1.len T.i22, hx1.addr Try.underlying38 T.s50 T.z50, hx1.loadh T.r50,  hy1.len T.i22,  hy1.addr Try.underlying38 T.s50 T.z50,  hy1.loadh T.r50, Int.toNat_natCast, h5, wrap_u64' hxk.1 (by omega)]
        rw [wrap_u64' (show 0 ≤ c + a.getD k 0 by omega) (by omega)]
        refine e151.mono ?_
        rintro _ _ ⟨rfl, rfl⟩
        obtain ⟨h6, h7, h8⟩ := ho.append1 (x := (c + a.getD k 0) % 4294967296) hle (by omega)
        simp (maxSteps := 1000000) (disch := first | exact sd | fail) only [go_sem, Nat.reduceAdd, Nat.reduceSub, Nat.reduceLeDiff, ↓reduceIte, decide_eq_true_eq, if_true, if_false, Bool.false_eq_true, Int.lt_irrefl, h6]
        refine IJ_intro (k := a.length - (k + 1)) (by omega) (k + 1, _, _) rfl ⟨rfl, (by first | omega | (dsimp only; omega)), h8, (by first | omega | (dsimp only; omega)), _, h7, by simp [hol], holim.append (Lim.cons (by omega) Lim.nil), ?_⟩
        rw [← he, List.append_assoc]; rfl
    · have hkx : k = a.length := by omega
      subst hkx
      rw [List.drop_length, plusL] at he
      simp (maxSteps := 1000000) (disch := first | exact sd | fail) only [go_sem, Nat.reduceAdd, Nat.reduceSub, Nat.reduceLeDiff, ↓reduceIte, decide_eq_true_eq, if_true, if_false, Bool.false_eq_true, Int.lt_irrefl, h4]
      refine e151.mono ?_
      rintro _ _ ⟨rfl, rfl⟩
      have hcc : c % 4294967296 = c := by omega
      rw [hcc]
      obtain ⟨h6, h7, h8⟩ := ho.append1 (x := c) hle (by omega)
      simp (maxSteps := 1000000) (disch := first | exact sd | fail) only [go_sem, Nat.reduceAdd, Nat.reduceSub, Nat.reduceLeDiff, ↓reduceIte, decide_eq_true_eq, if_true, if_false, Bool.false_eq_true, Int.lt_irrefl, h6]
      rw [he] at h7
      refine ⟨_, h7.u, plusL_lim _ _ _ ha hb (by omega), ?_, ?_, h8⟩
      · rw [plusL_val _ _ _ h1]; omega
      · rw [plusL_len]; omega

theorem wrap_sub {x y : Int} (hx : 0 ≤ x ∧ x < 4294967296) (hy : 0 ≤ y ∧ y ≤ 4294967296) : IntKind.u64.wrap (x - y) % 4294967296 = (x - y) % 4294967296 ∧ IntKind.u64.wrap (x - y) / 9223372036854775808 = if x < y then 1 else 0 := by
  rw [wrap_u64]
  constructor
  · omega
  · split <;> omega

theorem c157 {H : Heap} {sa sb : Value} {a b : List Int} (hu : U Try.prog H sa a) (hv : U Try.prog H sb b) (ha : Lim a) (hb : Lim b) (hl : a.length ≤ 2 ^ 40) (hl2 : b.length ≤ a.length) (hle : val b ≤ val a) :
    ACalls Try.prog 140 [sa, sb] H fun r H' => ∃ l, U Try.prog H' r l ∧ Lim l ∧ val l = val a - val b ∧ l.length = a.length ∧ Hle H H' := by
  refine ACalls.of_code T.hm (n := 44) Try.func140 rfl rfl rfl rfl ?_; simp only [List.replicate_succ, List.replicate_zero, List.cons_append, List.nil_append]
  simp (maxSteps := 1000000) (disch := first | exact sd | fail) only [go_sem, Nat.reduceAdd, Nat.reduceSub, Nat.reduceLeDiff, ↓reduceIte, decide_eq_true_eq, if_true, if_false, Bool.false_eq_true, Int.lt_irrefl, hu.len T.i22, hu.addr Try.underlying38 T.s50 T.z50, hu.loadh T.r50,  hv.len T.i22,  hv.addr Try.underlying38 T.s50 T.z50,  hv.loadh T.r50, show ((a.length : Int)).toNat = a.length by omega, aMk_int]
  have hO := zeros_fresh (H := H) (n := a.length) (by omega)
  refine aw_loopJ (σ := Nat × Value × Int) (fun s J => [sa, sb, J 2, J 3, .slice none 0 0, s.2.1, .int .u64 s.2.2, J 7, J 8, J 9, J 10, J 11, J 12, J 13, sa, .int .i64 a.length, .int .i64 s.1, J 17, J 18, J 19, J 20, J 21, J 22, J 23, J 24, J 25, J 26, J 27, J 28, J 29, J 30, J 31, J 32, J 33, J 34, J 35, J 36, J 37, J 38, J 39, J 40, J 41, J 42, J 43, J 44, J 45]) (fun n s H1 => n = a.length - s.1 ∧ s.1 ≤ a.length ∧ Hle H H1 ∧ (0 ≤ s.2.2 ∧ s.2.2 ≤ 1) ∧ ∃ o, UO Try.prog H H1 s.2.1 o ∧ o.length = s.1 ∧ Lim o ∧ o ++ minusL (a.drop s.1) (b.drop s.1) s.2.2 = minusL a b 0) a.length (0, .slice (some ⟨H.next, 0, none⟩) 0 a.length, 0) rfl ⟨rfl, Nat.zero_le _, Hle.push0 _, (by first | omega | (dsimp only; omega)), [], hO, rfl, Lim.nil, rfl⟩ ?_
  rintro n ⟨k, so, c⟩ J H1 ⟨rfl, hk, hle1, hc, o, ho, hol, holim, he⟩
  simp only at hk hc ho hol he
  have hx1 := hu.mono hle1
  have hy1 := hv.mono hle1
  by_cases h4 : (k : Int) < a.length
  · have hxk := ha.getD k
    have hyk := hb.getD k
    have e1 : a.drop k = a.getD k 0 :: a.drop (k + 1) := drop_getD (by omega)
    rw [e1, minusL, headD_drop, tail_drop] at he
    by_cases h5 : (k : Int) < b.length
    · obtain ⟨w1, w2⟩ := wrap_sub hxk (y := c + b.getD k 0) (by omega)
      simp (maxSteps := 1000000) (disch := first | exact sd | fail) only [go_sem, Nat.reduceAdd, Nat.reduceSub, Nat.reduceLeDiff, ↓reduceIte, decide_eq_true_eq, if_true, if_false, Bool.false_eq_true, Int.lt_irrefl, h4, hx1.len T.i22, hx1.addr Try.underlying38 T.s50 T.z50, hx1.loadh T.r50,  hy1.len T.i22,  hy1.addr Try.underlying38 T.s50 T.z50,  hy1.loadh T.r50, Int.toNat_natCast, h5, wrap_u64' hxk.1 (by omega), wrap_u64' hyk.1 (by omega)]
      rw [wrap_u64' (show 0 ≤ c + b.getD k 0 by omega) (by omega)]
      refine e151.mono ?_
      rintro _ _ ⟨rfl, rfl⟩
      rw [w1]
      obtain ⟨h6, h7, h8⟩ := ho.append1 (x := (a.getD k 0 - (c + b.getD k 0)) % 4294967296) hle1 (by omega)
      simp (maxSteps := 1000000) (disch := first | exact sd | fail) only [go_sem, Nat.reduceAdd, Nat.reduceSub, Nat.reduceLeDiff, ↓reduceIte, decide_eq_true_eq, if_true, if_false, Bool.false_eq_true, Int.lt_irrefl, h6, w2]
      have hcb : 0 ≤ (if a.getD k 0 < c + b.getD k 0 then (1 : Int) else 0) ∧ (if a.getD k 0 < c + b.getD k 0 then (1 : Int) else 0) ≤ 1 := by constructor <;> split <;> omega
      refine IJ_intro (k := a.length - (k + 1)) (by omega) (k + 1, _, if a.getD k 0 < c + b.getD k 0 then 1 else 0) rfl ⟨rfl, (by first | omega | (dsimp only; omega)), h8, hcb, _, h7, by simp [hol], holim.append (Lim.cons (by omega) Lim.nil), ?_⟩
      rw [← he, List.append_assoc]; rfl
    · have h6 : b.getD k 0 = 0 := getD_none (by omega)
      rw [h6, Int.add_zero] at he
      obtain ⟨w1, w2⟩ := wrap_sub hxk (y := c) (by omega)
      simp (maxSteps := 1000000) (disch := first | exact sd | fail) only [go_sem, Nat.reduceAdd, Nat.reduceSub, Nat.reduceLeDiff, ↓reduceIte, decide_eq_true_eq, if_true, if_false, Bool.false_eq_true, Int.lt_irrefl, h4, hx1.len T.i22, hx1.addr Try.underlying38 T.s50 T.z50, hx1.loadh T.r50,  hy1.len T.i22,  hy1.addr Try.underlying38 T.s50 T.z50,  hy1.loadh T.r50, Int.toNat_natCast, h5, wrap_u64' hxk.1 (by omega)]
      refine e151.mono ?_
      rintro _ _ ⟨rfl, rfl⟩
      rw [w1]
      obtain ⟨h6, h7, h8⟩ := ho.append1 (x := (a.getD k 0 - c) % 4294967296) hle1 (by omega)
      simp (maxSteps := 1000000) (disch := first | exact sd | fail) only [go_sem, Nat.reduceAdd, Nat.reduceSub, Nat.reduceLeDiff, ↓reduceIte, decide_eq_true_eq, if_true, if_false, Bool.false_eq_true, Int.lt_irrefl, h6, w2]
      have hcb : 0 ≤ (if a.getD k 0 < c then (1 : Int) else 0) ∧ (if a.getD k 0 < c then (1 : Int) else 0) ≤ 1 := by constructor <;> split <;> omega
      refine IJ_intro (k := a.length - (k + 1)) (by omega) (k + 1, _, if a.getD k 0 < c then 1 else 0) rfl ⟨rfl, (by first | omega | (dsimp only; omega)), h8, hcb, _, h7, by simp [hol], holim.append (Lim.cons (by omega) Lim.nil), ?_⟩
      rw [← he, List.append_assoc]; rfl
  · have hkx : k = a.length := by omega
    subst hkx
    rw [List.drop_length, minusL, List.append_nil] at he
    simp (maxSteps := 1000000) (disch := first | exact sd | fail) only [go_sem, Nat.reduceAdd, Nat.reduceSub, Nat.reduceLeDiff, ↓reduceIte, decide_eq_true_eq, if_true, if_false, Bool.false_eq_true, Int.lt_irrefl, h4]
    rw [he] at ho
    refine ⟨_, ho.u, minusL_lim _ _ _, ?_, minusL_len _ _ _, hle1⟩
    rw [minusL_val _ _ _ ha hb (by omega) hl2 (by omega)]; omega
end Go.Abs
