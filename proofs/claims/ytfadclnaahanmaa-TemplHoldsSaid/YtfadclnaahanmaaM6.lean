/- Octagon. -/
import Derived.Test.YtfadclnaahanmaaMa
set_option linter.unusedVariables false
set_option linter.unusedSimpArgs false
namespace Go.Abs
open Go Go.Proofs
set_option maxRecDepth 100000
set_option maxHeartbeats 4000000
theorem T.z213 : sized Try.prog 118 = true := by kernel_rfl
theorem T.s213 : szOf Try.prog 118 = 2 := by kernel_rfl
theorem T.r213 : isRowT Try.prog 118 = some true := by kernel_rfl
theorem T.i214 : isSliceT Try.prog 119 = true := by kernel_rfl
theorem T.b213_0_1 {x y : Int} : aBuild Try.prog 118 (some [(0, .int .i64 x), (1, .int .i64 y)]) = some (.agg ⟨[.int .i64 x, .int .i64 y]⟩) := by kernel_rfl
theorem T.new213 : aNew Try.prog (fun _ => none) (.alloc 118) = some (118, [.int .i64 0, .int .i64 0], fun b => .pointer (some ⟨b, 0, none⟩)) := by kernel_rfl
theorem T.l213 {H : Heap} {b off : Nat} : aLoad Try.prog H 118 (.pointer (some ⟨b, off, none⟩)) = (rowsAt (H.get b) off 2).map fun l => .agg ⟨l⟩ := by rw [load_row T.r213 T.z213, T.s213]
theorem T.w213 {H : Heap} {b off : Nat} {x y : Int} : aStore Try.prog H 118 (.pointer (some ⟨b, off, none⟩)) (.agg ⟨[.int .i64 x, .int .i64 y]⟩) = stRow H b off [.int .i64 x, .int .i64 y] (H.get b) := store_row (vs := [.int .i64 x, .int .i64 y]) T.z213 T.s213 rfl rfl rfl
theorem T.ix213 {b off : Nat} {i : Int} (h0 : 0 ≤ i) (h1 : i < 2) : aIndexAddr Try.prog 118 (.pointer (some ⟨b, off, none⟩)) (.int .i64 i) = some (.pointer (some ⟨b, off + i.toNat, none⟩)) := by
  have hu : Try.prog.underlying 118 = some (.array 2 2) := Try.underlying118
  simp only [aIndexAddr, hu]
  rw [if_pos ⟨h0, h1, T.z2⟩, T.s2, Nat.mul_one]
theorem T.ix213a {b off : Nat} : aIndexAddr Try.prog 118 (.pointer (some ⟨b, off, none⟩)) (.int .i64 0) = some (.pointer (some ⟨b, off, none⟩)) := T.ix213 (by decide) (by decide)
theorem T.ix213b {b off : Nat} : aIndexAddr Try.prog 118 (.pointer (some ⟨b, off, none⟩)) (.int .i64 1) = some (.pointer (some ⟨b, off + 1, none⟩)) := T.ix213 (by decide) (by decide)
section
variable {H : Heap} {e : Env} {K : Value → Heap → Prop} {d : Option Tmp} {ty : TypeId} {ps : String} {af : Array Edge} {gd : Option (Nat × Bool)}
theorem T.alloc213 : aStep Try.prog e H ⟨d, .alloc 118, ty, ps, af, gd⟩ K = K (.pointer (some ⟨H.next, 0, none⟩)) (H.push (.row true 118 [.int .i64 0, .int .i64 0])) := s_alloc T.new213
theorem T.rows214 {parts : List (Nat × Operand)} {len : Nat} (hlen : len ≤ 2 ^ 20) : aStep Try.prog e H ⟨d, .buildSlice 119 len ⟨parts⟩, ty, ps, af, gd⟩ K = ob (evps e parts) fun vs => ob (rFill 2 (Try.t118.zero.getD undef) len vs) fun cs => K (.slice (some ⟨H.next, 0, none⟩) len len) (H.push (.row true 118 cs)) :=
  s_rows (es := 2) Try.underlying119 (info_of_type Try.type118) (z := Try.t118.zero.getD undef) rfl rfl rfl rfl (by omega) (by omega)
end
attribute [go_sem] T.b213_0_1 T.l213 T.w213 T.alloc213 T.rows214 T.ix213a T.ix213b
def bth4 (n i k : Nat) : List (List RQ) := [r2 n i 1 k 1, r2 n i 1 k (-1), r2 n i (-1) k 1, r2 n i (-1) k (-1)]
def bthI (n i m : Nat) : List (List RQ) := (List.range m).flatMap fun d => bth4 n i (i + 1 + d)
def bthP (n m : Nat) : List (List RQ) := (List.range m).flatMap fun i => bthI n i (n - (i + 1))
def bth (n : Nat) := bthP n n
theorem bthI_succ {n i m : Nat} : bthI n i (m + 1) = bthI n i m ++ bth4 n i (i + 1 + m) := by
  unfold bthI; rw [List.range_succ, List.flatMap_append]; simp
theorem bthP_succ {n m : Nat} : bthP n (m + 1) = bthP n m ++ bthI n m (n - (m + 1)) := by
  unfold bthP; rw [List.range_succ, List.flatMap_append]; simp
def sgn4 : Nat → Int × Int
  | 0 => (1, 1) | 1 => (1, -1) | 2 => (-1, 1) | _ => (-1, -1)
def S8 : List Value := [.int .i64 1, .int .i64 1, .int .i64 1, .int .i64 (-1), .int .i64 (-1), .int .i64 1, .int .i64 (-1), .int .i64 (-1)]
theorem rf4 {z : Value} : rFill 2 z 4 [(0, .agg ⟨[.int .i64 1, .int .i64 1]⟩), (1, .agg ⟨[.int .i64 1, .int .i64 (-1)]⟩), (2, .agg ⟨[.int .i64 (-1), .int .i64 1]⟩), (3, .agg ⟨[.int .i64 (-1), .int .i64 (-1)]⟩)] = some S8 := by
  have := rFill_all (z := z) (es := 2) (vs := [.agg ⟨[.int .i64 1, .int .i64 1]⟩, .agg ⟨[.int .i64 1, .int .i64 (-1)]⟩, .agg ⟨[.int .i64 (-1), .int .i64 1]⟩, .agg ⟨[.int .i64 (-1), .int .i64 (-1)]⟩]) (by simp [Value.cells])
  simpa [partsFrom, S8, Value.cells] using this
theorem S8_at {t : Nat} (ht : t < 4) {own : Bool} : rowsAt (some (.row own 118 S8)) (0 + t * 2) 2 = some [.int .i64 (sgn4 t).1, .int .i64 (sgn4 t).2] := by
  match t, ht with
  | 0, _ => rfl
  | 1, _ => rfl
  | 2, _ => rfl
  | 3, _ => rfl
theorem bth4_at {n i k t : Nat} (ht : t < 4) : ∃ post, bth4 n i k = (bth4 n i k).take t ++ r2 n i (sgn4 t).1 k (sgn4 t).2 :: post ∧ (bth4 n i k).take (t + 1) = (bth4 n i k).take t ++ [r2 n i (sgn4 t).1 k (sgn4 t).2] := by
  match t, ht with
  | 0, _ => exact ⟨_, rfl, rfl⟩
  | 1, _ => exact ⟨_, rfl, rfl⟩
  | 2, _ => exact ⟨_, rfl, rfl⟩
  | 3, _ => exact ⟨_, rfl, rfl⟩
theorem sgn4_le {t : Nat} : (-9223372036854775808 ≤ (sgn4 t).1 ∧ (sgn4 t).1 ≤ 9223372036854775807) ∧ (-9223372036854775808 ≤ (sgn4 t).2 ∧ (sgn4 t).2 ≤ 9223372036854775807) := by
  unfold sgn4; split <;> simp
theorem it225 {HB : Heap} {bn n : Nat} {own : Bool} (hg : HB.get bn = some (.row own 3 [.int .i64 n])) (hb : bn < HB.next) (hn : n ≤ 6) : It HB (.func (.func 92) ⟨[]⟩ ⟨[.pointer (some ⟨bn, 0, none⟩)]⟩) (bth n) := by
  refine ⟨_, _, rfl, fun l I Fo H hI hB hF1 hF2 hY h0 => ?_⟩
  have gB {pre : List (List RQ)} {H1 : Heap} (h : I pre H1) : H1.get bn = some (.row own 3 [.int .i64 n]) := ((hB _ _ h).get bn hb).trans hg
  have hlen {a : Addr} : aLen Try.prog 119 (.slice (some a) 4 4) = some (.int .i64 (4 : Nat)) := len_own T.i214
  refine ACalls.of_code T.hm (n := 39) Try.func92 rfl rfl rfl rfl ?_; simp only [List.replicate_succ, List.replicate_zero, List.cons_append, List.nil_append]
  simp (maxSteps := 1000000) (disch := first | exact sd | fail) only [go_sem, Nat.reduceAdd, Nat.reduceSub, Nat.reduceLeDiff, ↓reduceIte, decide_eq_true_eq, if_true, if_false, Bool.false_eq_true, Int.lt_irrefl, implies_true, true_and, and_true, eq_self, and_self, beq_self_eq_true, gB h0]
  refine aw_loopJ (σ := Nat) (fun s J => [.func (.yield l) ⟨[]⟩ ⟨[]⟩, .pointer (some ⟨bn, 0, none⟩), J 2, J 3, J 4, J 5, J 6, .int .i64 n, .int .i64 s, J 9, J 10, J 11, J 12, J 13, J 14, J 15, J 16, J 17, J 18, J 19, J 20, J 21, J 22, J 23, J 24, J 25, J 26, J 27, J 28, J 29, J 30, J 31, J 32, J 33, J 34, J 35, J 36, J 37, J 38, J 39, J 40]) (fun m s H1 => m = n - s ∧ s ≤ n ∧ I (bthP n s) H1) n 0 rfl ⟨rfl, Nat.zero_le _, h0⟩ ?_
  rintro m s J H1 ⟨rfl, hs, hi⟩
  by_cases h4 : (s : Int) < n
  · have hs' : s < n := by omega
    obtain ⟨post, hp⟩ := range_split (f := fun i => bthI n i (n - (i + 1))) hs'
    have hp : bth n = bthP n s ++ (bthI n s (n - (s + 1)) ++ post) := hp
    simp (maxSteps := 1000000) (disch := first | exact sd | fail) only [go_sem, Nat.reduceAdd, Nat.reduceSub, Nat.reduceLeDiff, ↓reduceIte, decide_eq_true_eq, if_true, if_false, Bool.false_eq_true, Int.lt_irrefl, implies_true, true_and, and_true, eq_self, and_self, beq_self_eq_true, h4]
    refine aw_loopJ (σ := Nat) (fun c J => [.func (.yield l) ⟨[]⟩ ⟨[]⟩, .pointer (some ⟨bn, 0, none⟩), J 2, .int .i64 s, .int .i64 (s + 1 + c : Nat), J 5, J 6, .int .i64 n, .int .i64 s, J 9, J 10, J 11, J 12, J 13, J 14, J 15, J 16, J 17, J 18, J 19, J 20, J 21, J 22, J 23, J 24, J 25, J 26, J 27, J 28, J 29, J 30, J 31, J 32, J 33, J 34, J 35, J 36, J 37, J 38, J 39, J 40]) (fun m c H1 => m = n - (s + 1) - c ∧ c ≤ n - (s + 1) ∧ I (bthP n s ++ bthI n s c) H1) (n - (s + 1)) 0 rfl ⟨rfl, Nat.zero_le _, by simpa [bthI] using hi⟩ ?_
    rintro m c J H1 ⟨rfl, hc, hi⟩
    have g1 := gB hi
    by_cases h5 : ((s + 1 + c : Nat) : Int) < n
    · have hc' : c < n - (s + 1) := by omega
      obtain ⟨post2, hp2⟩ := range_split (f := fun d => bth4 n s (s + 1 + d)) hc'
      have hp2 : bthI n s (n - (s + 1)) = bthI n s c ++ (bth4 n s (s + 1 + c) ++ post2) := hp2
      generalize hk : s + 1 + c = k at *
      have hb1 : HB.next ≤ H1.next := (hB _ _ hi).next
      simp (maxSteps := 1000000) (disch := first | exact sd | fail) only [go_sem, Nat.reduceAdd, Nat.reduceSub, Nat.reduceLeDiff, ↓reduceIte, decide_eq_true_eq, if_true, if_false, Bool.false_eq_true, Int.lt_irrefl, implies_true, true_and, and_true, eq_self, and_self, beq_self_eq_true, h5, g1, hlen, rf4]
      have gp : (H1.push (.row true 118 S8)).get H1.next = some (.row true 118 S8) := get_push_self _ _
      have i0 := hI _ _ _ hi (Hle.push0 (.row true 118 S8)) rfl
      have f0 : ¬ Fo (H1.push (.row true 118 S8)) H1.next := fun h => by
        have := hF1 _ _ _ hi (hF2 _ _ _ _ hi (Hle.push0 _) h)
        omega
      refine aw_loopJ (σ := Nat) (fun t J => [.func (.yield l) ⟨[]⟩ ⟨[]⟩, .pointer (some ⟨bn, 0, none⟩), J 2, .int .i64 s, .int .i64 k, J 5, J 6, .int .i64 n, .int .i64 s, J 9, J 10, J 11, J 12, J 13, J 14, J 15, J 16, J 17, J 18, J 19, J 20, J 21, .slice (some ⟨H1.next, 0, none⟩) 4 4, .int .i64 4, .int .i64 t, J 25, J 26, J 27, J 28, J 29, J 30, J 31, J 32, J 33, J 34, J 35, J 36, J 37, J 38, J 39, J 40]) (fun m t G => m = 4 - t ∧ t ≤ 4 ∧ H1.next < G.next ∧ G.get H1.next = some (.row true 118 S8) ∧ ¬ Fo G H1.next ∧ I (bthP n s ++ bthI n s c ++ (bth4 n s k).take t) G) 4 0 rfl ⟨rfl, Nat.zero_le _, by rw [next_push]; omega, gp, f0, by simpa using i0⟩ ?_
      rintro m t J G ⟨rfl, ht, hlt, gs, fs, hi⟩
      by_cases h6 : (t : Int) < 4
      · have ht' : t < 4 := by omega
        have hks : k < n := by omega
        have hne : k ≠ s := by omega
        obtain ⟨q1, q2⟩ := sgn4_le (t := t)
        obtain ⟨post3, b1, b2⟩ := bth4_at (n := n) (i := s) (k := k) ht'
        have g2 := gB hi
        have ha : aIndexAddr Try.prog 119 (.slice (some ⟨H1.next, 0, none⟩) 4 4) (.int .i64 t) = some (.pointer (some ⟨H1.next, 0 + t * 2, none⟩)) := ix_own Try.underlying119 T.z213 T.s213 (by omega) (by omega)
        have hr : rowsAt (G.get H1.next) (0 + t * 2) 2 = some [.int .i64 (sgn4 t).1, .int .i64 (sgn4 t).2] := by rw [gs]; exact S8_at ht'
        generalize (sgn4 t).1 = x at *
        generalize (sgn4 t).2 = y at *
        simp (maxSteps := 1000000) (disch := first | exact sd | fail) only [go_sem, Nat.reduceAdd, Nat.reduceSub, Nat.reduceLeDiff, ↓reduceIte, decide_eq_true_eq, if_true, if_false, Bool.false_eq_true, Int.lt_irrefl, implies_true, true_and, and_true, eq_self, and_self, beq_self_eq_true, h6, ha, hr, g2]
        refine PC.step (p223d (n := n) (i := s) (k := k) (a := x) (b := y) (by omega) hs' hks hne q1 q2) fun m1 j1 => ?_
        try simp only [Heap.next_push, Heap.next_set, Heap.next_kill, next_bump, next_E0] at j1
        have hle : Hle G (((G.push (.row true 118 [.int .i64 0, .int .i64 0])).set G.next (.row true 118 [.int .i64 x, .int .i64 y])).bump m1) := Hle.bump (Hle.set (Hle.push0 _) (Nat.le_refl _) _) (by rw [next_set, next_push]; exact j1)
        have i1 := hI _ _ _ hi hle rfl
        simp (maxSteps := 1000000) (disch := first | exact sd | fail) only [go_sem, Nat.reduceAdd, Nat.reduceSub, Nat.reduceLeDiff, ↓reduceIte, decide_eq_true_eq, if_true, if_false, Bool.false_eq_true, Int.lt_irrefl, implies_true, true_and, and_true, eq_self, and_self, beq_self_eq_true]
        refine (hY _ _ (post3 ++ (post2 ++ post)) _ (by rw [hp, hp2]; (conv => lhs; rw [b1]); simp) i1).mono ?_
        rintro v G2 ⟨rfl, i2, n2, k2⟩
        have hsb : ¬ Fo (((G.push (.row true 118 [.int .i64 0, .int .i64 0])).set G.next (.row true 118 [.int .i64 x, .int .i64 y])).bump m1) H1.next := fun h => fs (hF2 _ _ _ _ hi hle h)
        have hn := hle.next
        obtain ⟨k3, k4⟩ := k2 H1.next (by omega) (by omega) hsb
        simp (maxSteps := 1000000) (disch := first | exact sd | fail) only [go_sem, Nat.reduceAdd, Nat.reduceSub, Nat.reduceLeDiff, ↓reduceIte, decide_eq_true_eq, if_true, if_false, Bool.false_eq_true, Int.lt_irrefl, implies_true, true_and, and_true, eq_self, and_self, beq_self_eq_true]
        exact IJ_intro (k := 4 - (t + 1)) (by omega) (t + 1) rfl ⟨rfl, by omega, by omega, by rw [k3, hle.get _ hlt]; exact gs, k4, by rw [b2, ← List.append_assoc]; exact i2⟩
      · have e : t = 4 := by omega
        subst e
        simp (maxSteps := 1000000) (disch := first | exact sd | fail) only [go_sem, Nat.reduceAdd, Nat.reduceSub, Nat.reduceLeDiff, ↓reduceIte, decide_eq_true_eq, if_true, if_false, Bool.false_eq_true, Int.lt_irrefl, implies_true, true_and, and_true, eq_self, and_self, beq_self_eq_true, h6]
        exact IJ_intro (k := n - (s + 1) - (c + 1)) (by omega) (c + 1) (by rw [show s + 1 + (c + 1) = k + 1 by omega]; rfl) ⟨rfl, by omega, by rw [bthI_succ, hk, ← List.append_assoc]; exact hi⟩
    · have e : c = n - (s + 1) := by omega
      subst e
      simp (maxSteps := 1000000) (disch := first | exact sd | fail) only [go_sem, Nat.reduceAdd, Nat.reduceSub, Nat.reduceLeDiff, ↓reduceIte, decide_eq_true_eq, if_true, if_false, Bool.false_eq_true, Int.lt_irrefl, implies_true, true_and, and_true, eq_self, and_self, beq_self_eq_true, h5, g1]
      exact IJ_intro (k := n - (s + 1)) (by omega) (s + 1) rfl ⟨rfl, by omega, by rw [bthP_succ]; exact hi⟩
  · have e : s = n := by omega
    subst e
    simp (maxSteps := 1000000) (disch := first | exact sd | fail) only [go_sem, Nat.reduceAdd, Nat.reduceSub, Nat.reduceLeDiff, ↓reduceIte, decide_eq_true_eq, if_true, if_false, Bool.false_eq_true, Int.lt_irrefl, implies_true, true_and, and_true, eq_self, and_self, beq_self_eq_true, h4]
    exact hi
end Go.Abs
