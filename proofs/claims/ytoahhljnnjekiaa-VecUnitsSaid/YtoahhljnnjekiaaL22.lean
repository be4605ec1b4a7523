/- VecUnits, on values. -/
import Derived.Test.YtoahhljnnjekiaaV17
import Derived.Test.YtoahhljnnjekiaaL21
set_option linter.unusedVariables false
set_option linter.unusedSimpArgs false
namespace Go.Abs
open Go Go.Proofs
set_option maxRecDepth 100000
set_option maxHeartbeats 40000000
def plL22_22_17 : Plan := ⟨[0, 1, 2, 3, 4, 5, 6, 7, 8, 9, 10], [(11, [], [12])]⟩
theorem st_unit {H : Heap} {b n k : Nat} (hk : k < n) (hg : H.get b = some (.row true 36 ((List.replicate n none).flatMap eQo.enc))) :
    stRow H b (0 + k * 4) [.bool (sgn ((1 : Int) : Rat).num), Vv eU (lmb ((1 : Int) : Rat).num), .bool (sgn (((1 : Int) : Rat).den : Int)), Vv eU (lmb (((1 : Int) : Rat).den : Int))] (H.get b) = some (H.set b (.row true 36 ((unitO n k).flatMap eQo.enc))) :=
  st_at hg (by rw [eQo.flat_length, List.length_replicate]; show 0 + k * 4 + 4 ≤ n * 4; omega) (by
    rw [Nat.zero_add]
    exact En.splice eQo (x := some (rq ((1 : Int) : Rat))) (by simpa using hk))
theorem st_unit2 {H : Heap} {b n k : Nat} {o : Option AObj} (hk : k < n) (hg : o = some (.row true 36 ((List.replicate n none).flatMap eQo.enc))) :
    stRow H b (0 + k * 4) [.bool (sgn ((1 : Int) : Rat).num), Vv eU (lmb ((1 : Int) : Rat).num), .bool (sgn (((1 : Int) : Rat).den : Int)), Vv eU (lmb (((1 : Int) : Rat).den : Int))] o = some (H.set b (.row true 36 ((unitO n k).flatMap eQo.enc))) := by
  rw [hg, stRow_row, if_pos (by rw [eQo.flat_length, List.length_replicate]; show 0 + k * 4 + 4 ≤ n * 4; omega), Nat.zero_add]
  exact congrArg (fun cs => some (H.set b (.row true 36 cs))) (En.splice eQo (l := List.replicate n none) (i := k) (x := some (rq ((1 : Int) : Rat))) (by simpa using hk))
theorem q22 {m : List (List RQ)} {a : Int} (hm : m.length ≤ maxLen ∧ ∀ r ∈ m, r.length ≤ maxLen ∧ ∀ a ∈ r, LimQ a) (ha : 0 ≤ a ∧ a < 256) : PC Try.prog 10 [Vv eR m, .int .u8 a] (.bool true) := by
  refine PC.of (.cons pu_Rs (.cons (.ground rfl) .nil)) (.ground rfl) fun N hN => ?_
  refine ACalls.of_code T.hm (n := 103) Try.func10 rfl rfl rfl rfl ?_; simp only [List.replicate_succ, List.replicate_zero, List.cons_append, List.nil_append]
  simp (maxSteps := 1000000) (disch := first | exact sd | fail) only [go_sem, Nat.reduceAdd, Nat.reduceSub, Nat.reduceLeDiff, ↓reduceIte, decide_eq_true_eq, if_true, if_false, Bool.false_eq_true, Int.lt_irrefl, implies_true, true_and, and_true, eq_self, and_self, beq_self_eq_true, aw_drawn (id := 5), aw_drawn' (id := 5), aw_plan (id := 17) plL22_22_17, plL22_22_17]
  refine PK.step (p83 hm.1 (rows_len fun r hr => (hm.2 r hr).1)) ?_
  rintro _ m1 ⟨c, rfl, hc⟩ j1
  cases c with
  | true =>
    simp (maxSteps := 1000000) (disch := first | exact sd | fail) only [go_sem, Nat.reduceAdd, Nat.reduceSub, Nat.reduceLeDiff, ↓reduceIte, decide_eq_true_eq, if_true, if_false, Bool.false_eq_true, Int.lt_irrefl, implies_true, true_and, and_true, eq_self, and_self, beq_self_eq_true, aw_drawn (id := 5), aw_drawn' (id := 5), aw_plan (id := 17) plL22_22_17, plL22_22_17]
    refine PC.step (p84) fun m2 j2 => ?_
    try simp only [Heap.next_push, Heap.next_set, Heap.next_kill, next_bump, next_E0] at j2
    simp (maxSteps := 1000000) (disch := first | exact sd | fail) only [go_sem, Nat.reduceAdd, Nat.reduceSub, Nat.reduceLeDiff, ↓reduceIte, decide_eq_true_eq, if_true, if_false, Bool.false_eq_true, Int.lt_irrefl, implies_true, true_and, and_true, eq_self, and_self, beq_self_eq_true, aw_drawn (id := 5), aw_drawn' (id := 5), aw_plan (id := 17) plL22_22_17, plL22_22_17]
    exact .rfl
  | false =>
    by_cases h0 : (m.length : Int) = 0
    · simp (maxSteps := 1000000) (disch := first | exact sd | fail) only [go_sem, Nat.reduceAdd, Nat.reduceSub, Nat.reduceLeDiff, ↓reduceIte, decide_eq_true_eq, if_true, if_false, Bool.false_eq_true, Int.lt_irrefl, implies_true, true_and, and_true, eq_self, and_self, beq_self_eq_true, aw_drawn (id := 5), aw_drawn' (id := 5), aw_plan (id := 17) plL22_22_17, plL22_22_17, h0]
      refine PC.step (p84) fun m2 j2 => ?_
      try simp only [Heap.next_push, Heap.next_set, Heap.next_kill, next_bump, next_E0] at j2
      simp (maxSteps := 1000000) (disch := first | exact sd | fail) only [go_sem, Nat.reduceAdd, Nat.reduceSub, Nat.reduceLeDiff, ↓reduceIte, decide_eq_true_eq, if_true, if_false, Bool.false_eq_true, Int.lt_irrefl, implies_true, true_and, and_true, eq_self, and_self, beq_self_eq_true, aw_drawn (id := 5), aw_drawn' (id := 5), aw_plan (id := 17) plL22_22_17, plL22_22_17]
      exact .rfl
    have hc := hc rfl
    have gm := hc.rows fun r hr => (hm.2 r hr).2
    have h200 := hc.1
    have gm' (j : Nat) : Rg (rwi (cutV m 4) j) := by
      rcases Nat.lt_or_ge j m.length with hj | hj
      · rw [rwi_cutV hj]; exact (gm j).cutR (by omega)
      · rw [rwi_ge (by rw [cutV_len]; exact hj)]; exact Rg.nil
    have lm : (cutV m 4).length = m.length := cutV_len
    have hok : okT (cutV m 4) 4 := fun j hj => by rw [rwi_cutV (by rw [lm] at hj; exact hj), cutR_len]
    have q1 := p96 (m := m) (n := 4) (by omega) (by omega) (fun j => by have := (gm j).1; omega)
    have w1 : IntKind.i64.wrap a = a := wrap_i64 (by omega) (by omega)
    have hM0 : 0 < m.length := by omega
    obtain ⟨k, hk⟩ : ∃ k : Nat, a.tmod 4 = (k : Int) := ⟨(a.tmod 4).toNat, by have := Int.tmod_nonneg 4 ha.1; omega⟩
    obtain ⟨i, hi⟩ : ∃ i : Nat, a.tmod (m.length : Int) = (i : Int) := ⟨(a.tmod m.length).toNat, by have := Int.tmod_nonneg (m.length : Int) ha.1; omega⟩
    have hk4 : k < 4 := by have := Int.tmod_lt_of_pos a (show (0 : Int) < 4 by decide); omega
    have hiM : i < m.length := by have := Int.tmod_lt_of_pos a (show (0 : Int) < m.length by omega); omega
    have hl4 {a : Addr} : aLen Try.prog 46 (.slice (some a) 4 4) = some (.int .i64 (4 : Nat)) := len_own T.i70
    simp (maxSteps := 1000000) (disch := first | exact sd | fail) only [go_sem, Nat.reduceAdd, Nat.reduceSub, Nat.reduceLeDiff, ↓reduceIte, decide_eq_true_eq, if_true, if_false, Bool.false_eq_true, Int.lt_irrefl, implies_true, true_and, and_true, eq_self, and_self, beq_self_eq_true, aw_drawn (id := 5), aw_drawn' (id := 5), aw_plan (id := 17) plL22_22_17, plL22_22_17, h0]
    refine PC.step (q1) fun m2 j2 => ?_
    try simp only [Heap.next_push, Heap.next_set, Heap.next_kill, next_bump, next_E0] at j2
    rw [← lm] at hi hiM hM0 h0 h200
    clear lm hm hc
    generalize cutV m 4 = M at *
    simp (maxSteps := 1000000) (disch := first | exact sd | fail) only [go_sem, Nat.reduceAdd, Nat.reduceSub, Nat.reduceLeDiff, ↓reduceIte, decide_eq_true_eq, if_true, if_false, Bool.false_eq_true, Int.lt_irrefl, implies_true, true_and, and_true, eq_self, and_self, beq_self_eq_true, aw_drawn (id := 5), aw_drawn' (id := 5), aw_plan (id := 17) plL22_22_17, plL22_22_17, w1, hk, h0, hi, aMk_int, Int.toNat_natCast, show Int.toNat 4 = 4 from rfl]
    rw [eQo_none, eQo_none]
    generalize hG : (((E0 N).bump m1).bump m2).push (.row true 36 ((List.replicate 4 none).flatMap eQo.enc)) = G
    have nG : G.next = m2 + 1 := by rw [← hG, next_push, next_bump]
    have gG : G.get m2 = some (.row true 36 ((List.replicate 4 none).flatMap eQo.enc)) := by rw [← hG]; exact get_push_self (((E0 N).bump m1).bump m2) _
    generalize hF : G.push (.row true 36 ((List.replicate M.length none).flatMap eQo.enc)) = F
    have nF : F.next = m2 + 2 := by rw [← hF, next_push, nG]
    have gF : F.get m2 = some (.row true 36 ((List.replicate 4 none).flatMap eQo.enc)) := by rw [← hF, get_push_ne (by omega)]; exact gG
    have gF2 : F.get (m2 + 1) = some (.row true 36 ((List.replicate M.length none).flatMap eQo.enc)) := by rw [← hF, ← nG]; exact get_push_self _ _
    clear hG hF gG nG
    have a1 : aIndexAddr Try.prog 46 (.slice (some ⟨m2, 0, none⟩) 4 4) (.int .i64 k) = some (.pointer (some ⟨m2, 0 + k * 4, none⟩)) := by
      have := ix_own (b := m2) (off := 0) (n := 4) (c := 4) (k := .i64) (i := (k : Int)) Try.underlying46 T.z55 T.s55 (by omega) (by omega)
      rwa [Int.toNat_natCast] at this
    have a2 : aIndexAddr Try.prog 46 (.slice (some ⟨m2 + 1, 0, none⟩) M.length M.length) (.int .i64 i) = some (.pointer (some ⟨m2 + 1, 0 + i * 4, none⟩)) := by
      have := ix_own (b := m2 + 1) (off := 0) (n := M.length) (c := M.length) (k := .i64) (i := (i : Int)) Try.underlying46 T.z55 T.s55 (by omega) (by omega)
      rwa [Int.toNat_natCast] at this
    refine PC.step (p77 (x := 1) (by omega)) fun m3 j3 => ?_
    try simp only [Heap.next_push, Heap.next_set, Heap.next_kill, next_bump, next_E0] at j3
    have s1 := st_unit (H := F.bump m3) hk4 gF
    rw [get_bump] at s1
    simp (maxSteps := 1000000) (disch := first | exact sd | fail) only [go_sem, Nat.reduceAdd, Nat.reduceSub, Nat.reduceLeDiff, ↓reduceIte, decide_eq_true_eq, if_true, if_false, Bool.false_eq_true, Int.lt_irrefl, implies_true, true_and, and_true, eq_self, and_self, beq_self_eq_true, aw_drawn (id := 5), aw_drawn' (id := 5), aw_plan (id := 17) plL22_22_17, plL22_22_17, a1, s1]
    refine PC.step (p77 (x := 1) (by omega)) fun m4 j4 => ?_
    try simp only [Heap.next_push, Heap.next_set, Heap.next_kill, next_bump, next_E0] at j4
    have s2 := st_unit2 (H := ((F.bump m3).set m2 (.row true 36 ((unitO 4 k).flatMap eQo.enc))).bump m4) (b := m2 + 1) hiM gF2
    simp (maxSteps := 1000000) (disch := first | exact sd | fail) only [go_sem, Nat.reduceAdd, Nat.reduceSub, Nat.reduceLeDiff, ↓reduceIte, decide_eq_true_eq, if_true, if_false, Bool.false_eq_true, Int.lt_irrefl, implies_true, true_and, and_true, eq_self, and_self, beq_self_eq_true, aw_drawn (id := 5), aw_drawn' (id := 5), aw_plan (id := 17) plL22_22_17, plL22_22_17, a2, s2]
    have gu : Rg (unitV 4 k) := Rg.unit (by omega)
    have gv : Rg (unitV M.length i) := Rg.unit h200
    have q5 := p92 (by omega) (fun j => (gm' j).rw) gu.rw (by rw [unitV_len]; exact hok)
    have hokL : okL (unitV M.length i) M 4 := ⟨by omega, by omega, unitV_len, fun j hj => by rw [hok j hj]; rfl⟩
    have q6 := p94 (n := 4) (by omega) gv.rw (fun j => (gm' j).rw) (fun j k => gv.prod (gm' j) j k) (by omega) (by omega) hokL
    have q6 : PC Try.prog 45 _ (.tuple ⟨[Vv eQ (leftV (unitV M.length i) M 4), .int .i64 0]⟩) := q6
    have wl := (Rg.left (n := 4) (by omega) h200 gm' gv).1
    refine made_last (ps := [_]) (l := unitO 4 k) (by simp (maxSteps := 1000000) (disch := first | exact sd | fail) only [go_sem, Nat.reduceAdd, Nat.reduceSub, Nat.reduceLeDiff, ↓reduceIte, decide_eq_true_eq, if_true, if_false, Bool.false_eq_true, Int.lt_irrefl, implies_true, true_and, and_true, eq_self, and_self, beq_self_eq_true, aw_drawn (id := 5), aw_drawn' (id := 5), aw_plan (id := 17) plL22_22_17, plL22_22_17]) (by simp [unitO]) (Nat.le_refl _) q5 fun m5 j5 => ?_
    try simp only [Heap.next_push, Heap.next_set, Heap.next_kill, next_bump, next_E0] at j5
    simp (maxSteps := 1000000) (disch := first | exact sd | fail) only [go_sem, Nat.reduceAdd, Nat.reduceSub, Nat.reduceLeDiff, ↓reduceIte, decide_eq_true_eq, if_true, if_false, Bool.false_eq_true, Int.lt_irrefl, implies_true, true_and, and_true, eq_self, and_self, beq_self_eq_true, aw_drawn (id := 5), aw_drawn' (id := 5), aw_plan (id := 17) plL22_22_17, plL22_22_17]
    refine made_head (l := unitO M.length i) (by simp (maxSteps := 1000000) (disch := first | exact sd | fail) only [go_sem, Nat.reduceAdd, Nat.reduceSub, Nat.reduceLeDiff, ↓reduceIte, decide_eq_true_eq, if_true, if_false, Bool.false_eq_true, Int.lt_irrefl, implies_true, true_and, and_true, eq_self, and_self, beq_self_eq_true, aw_drawn (id := 5), aw_drawn' (id := 5), aw_plan (id := 17) plL22_22_17, plL22_22_17]) (by simp [unitO]) (Nat.le_refl _) q6 fun m6 j6 => ?_
    try simp only [Heap.next_push, Heap.next_set, Heap.next_kill, next_bump, next_E0] at j6
    have lt : (timesV M (unitV 4 k)).length = M.length := tab_len
    have et (j : Nat) (hj : j < M.length) : ev (timesV M (unitV 4 k)) j = ev (rwi M j) k := by
      unfold timesV
      rw [ev_tab hj, dot_unit (hok j hj) hk4]
    have el : sameV (leftV (unitV M.length i) M 4) (rwi M i) = true := by
      have h1 : (leftV (unitV M.length i) M 4).length = 4 := lefP_len
      refine sameV_of (by rw [h1, hok i hiM]) fun c hc => ?_
      rw [h1] at hc
      exact left_unit hiM hc
    have q7 := p97 wl (gm' i).rw
    rw [el] at q7
    have lz := Rg.times h200 gm' gu
    generalize timesV M (unitV 4 k) = C at *
    generalize leftV (unitV M.length i) M 4 = Lf at *
    simp (maxSteps := 1000000) (disch := first | exact sd | fail) only [go_sem, Nat.reduceAdd, Nat.reduceSub, Nat.reduceLeDiff, ↓reduceIte, decide_eq_true_eq, if_true, if_false, Bool.false_eq_true, Int.lt_irrefl, implies_true, true_and, and_true, eq_self, and_self, beq_self_eq_true, aw_drawn (id := 5), aw_drawn' (id := 5), aw_plan (id := 17) plL22_22_17, plL22_22_17]
    refine PC.step (p45) fun m7 j7 => ?_
    try simp only [Heap.next_push, Heap.next_set, Heap.next_kill, next_bump, next_E0] at j7
    simp (maxSteps := 1000000) (disch := first | exact sd | fail) only [go_sem, Nat.reduceAdd, Nat.reduceSub, Nat.reduceLeDiff, ↓reduceIte, decide_eq_true_eq, if_true, if_false, Bool.false_eq_true, Int.lt_irrefl, implies_true, true_and, and_true, eq_self, and_self, beq_self_eq_true, aw_drawn (id := 5), aw_drawn' (id := 5), aw_plan (id := 17) plL22_22_17, plL22_22_17]
    refine PC.step (p45) fun m8 j8 => ?_
    try simp only [Heap.next_push, Heap.next_set, Heap.next_kill, next_bump, next_E0] at j8
    simp (maxSteps := 1000000) (disch := first | exact sd | fail) only [go_sem, Nat.reduceAdd, Nat.reduceSub, Nat.reduceLeDiff, ↓reduceIte, decide_eq_true_eq, if_true, if_false, Bool.false_eq_true, Int.lt_irrefl, implies_true, true_and, and_true, eq_self, and_self, beq_self_eq_true, aw_drawn (id := 5), aw_drawn' (id := 5), aw_plan (id := 17) plL22_22_17, plL22_22_17, lt, ne_eq, not_true_eq_false, show (i : Int) < M.length by omega, Int.toNat_natCast, show M.getD i [] = rwi M i from rfl]
    refine PC.step (q7) fun m9 j9 => ?_
    try simp only [Heap.next_push, Heap.next_set, Heap.next_kill, next_bump, next_E0] at j9
    simp (maxSteps := 1000000) (disch := first | exact sd | fail) only [go_sem, Nat.reduceAdd, Nat.reduceSub, Nat.reduceLeDiff, ↓reduceIte, decide_eq_true_eq, if_true, if_false, Bool.false_eq_true, Int.lt_irrefl, implies_true, true_and, and_true, eq_self, and_self, beq_self_eq_true, aw_drawn (id := 5), aw_drawn' (id := 5), aw_plan (id := 17) plL22_22_17, plL22_22_17]
    refine aw_loopJ (σ := Nat) (fun s J => [Vv eR M, J 1, J 2, J 3, .bool false, J 5, .int .i64 k, J 7, J 8, J 9, Vv eQ C, J 11, J 12, J 13, .int .i64 s, J 15, J 16, J 17, J 18, J 19, J 20, J 21, J 22, J 23, J 24, J 25, J 26, J 27, J 28, J 29, J 30, J 31, J 32, J 33, J 34, J 35, J 36, J 37, J 38, J 39, J 40, J 41, J 42, J 43, J 44, J 45, J 46, J 47, J 48, J 49, J 50, J 51, J 52, J 53, J 54, J 55, J 56, J 57, J 58, J 59, J 60, J 61, J 62, J 63, J 64, J 65, J 66, J 67, J 68, J 69, J 70, J 71, J 72, J 73, J 74, J 75, J 76, J 77, J 78, J 79, J 80, J 81, J 82, J 83, J 84, J 85, J 86, J 87, J 88, J 89, J 90, J 91, J 92, J 93, J 94, J 95, J 96, J 97, J 98, J 99, J 100, J 101, J 102, J 103, J 104]) (fun i s H1 => i = M.length - s ∧ s ≤ M.length) M.length 0 rfl ⟨rfl, Nat.zero_le _⟩ ?_
    rintro i' j J H1 ⟨rfl, hj⟩
    by_cases h4 : (j : Int) < M.length
    · have h5 : (j : Int) < C.length := by omega
      have h6 := hok j (by omega)
      have h7 : (k : Int) < (rwi M j).length := by omega
      have q8 := p98v (lz.getD j) ((gm' j).rw.getD k)
      change PC Try.prog 49 _ (.int .i64 (cq (ev C j) (ev (rwi M j) k))) at q8
      rw [et j (by omega), cq_self] at q8
      simp (maxSteps := 1000000) (disch := first | exact sd | fail) only [go_sem, Nat.reduceAdd, Nat.reduceSub, Nat.reduceLeDiff, ↓reduceIte, decide_eq_true_eq, if_true, if_false, Bool.false_eq_true, Int.lt_irrefl, implies_true, true_and, and_true, eq_self, and_self, beq_self_eq_true, aw_drawn (id := 5), aw_drawn' (id := 5), aw_plan (id := 17) plL22_22_17, plL22_22_17, h4, h5, h7, Int.toNat_natCast, show M.getD j [] = rwi M j from rfl]
      refine PC.step (q8) fun m10 j10 => ?_
      try simp only [Heap.next_push, Heap.next_set, Heap.next_kill, next_bump, next_E0] at j10
      simp (maxSteps := 1000000) (disch := first | exact sd | fail) only [go_sem, Nat.reduceAdd, Nat.reduceSub, Nat.reduceLeDiff, ↓reduceIte, decide_eq_true_eq, if_true, if_false, Bool.false_eq_true, Int.lt_irrefl, implies_true, true_and, and_true, eq_self, and_self, beq_self_eq_true, aw_drawn (id := 5), aw_drawn' (id := 5), aw_plan (id := 17) plL22_22_17, plL22_22_17, ne_eq, not_true_eq_false]
      exact IJ_intro (k := M.length - (j + 1)) (by omega) (j + 1) rfl ⟨rfl, by omega⟩
    · simp (maxSteps := 1000000) (disch := first | exact sd | fail) only [go_sem, Nat.reduceAdd, Nat.reduceSub, Nat.reduceLeDiff, ↓reduceIte, decide_eq_true_eq, if_true, if_false, Bool.false_eq_true, Int.lt_irrefl, implies_true, true_and, and_true, eq_self, and_self, beq_self_eq_true, aw_drawn (id := 5), aw_drawn' (id := 5), aw_plan (id := 17) plL22_22_17, plL22_22_17, h4]
      refine PC.step (p84) fun m10 j10 => ?_
      try simp only [Heap.next_push, Heap.next_set, Heap.next_kill, next_bump, next_E0] at j10
      simp (maxSteps := 1000000) (disch := first | exact sd | fail) only [go_sem, Nat.reduceAdd, Nat.reduceSub, Nat.reduceLeDiff, ↓reduceIte, decide_eq_true_eq, if_true, if_false, Bool.false_eq_true, Int.lt_irrefl, implies_true, true_and, and_true, eq_self, and_self, beq_self_eq_true, aw_drawn (id := 5), aw_drawn' (id := 5), aw_plan (id := 17) plL22_22_17, plL22_22_17]
      exact .rfl
theorem lawVecUnits {H : Heap} {xs : List Value} (hf : ∀ b, H.next ≤ b → H.get b = none) (hg : GoodArgs Try.prog H 8 [48, 5] xs) : ACalls Try.prog 10 xs H fun v _ => v = .bool true := by
  obtain ⟨ps, h1, h2, h3⟩ := args_frz hf (by intro t ht; simp only [List.mem_cons, List.not_mem_nil, or_false] at ht; rcases ht with rfl | rfl <;> kernel_rfl) hg
  obtain ⟨p0, ps0, rfl, a0, r0⟩ := h3.cons
  obtain ⟨m, rfl, hm⟩ := a0.table
  obtain ⟨p1, ps1, rfl, a1, r1⟩ := r0.cons
  obtain ⟨x, rfl, hx⟩ := a1.int Try.underlying5
  obtain rfl := r1.nil
  exact (q22 hm (wf_u8 hx)).law h1
end Go.Abs
