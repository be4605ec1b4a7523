/- The order's laws: are two lists one; the document's example. -/
import Derived.Test.YtboekagofficpaaGreatX11
import Derived.Test.YtboekagofficpaaGreatO14
import Derived.Test.YtboekagofficpaaGreatQc
set_option linter.unusedVariables false
set_option linter.unusedSimpArgs false
namespace Go.Abs
open Go Go.Proofs
set_option maxRecDepth 100000
set_option maxHeartbeats 40000000
theorem T.r276 : isRowT Tryz.prog 54 = some true := by kernel_rfl
theorem T.z276 : sized Tryz.prog 54 = true := by kernel_rfl
theorem T.s276 : szOf Tryz.prog 54 = 1 := by kernel_rfl
theorem T.l276 {H : Heap} {b off : Nat} : aLoad Tryz.prog H 54 (.pointer (some ⟨b, off, none⟩)) = (rowsAt (H.get b) off 1).map fun l => .agg ⟨l⟩ := by rw [load_row T.r276 T.z276, T.s276]
theorem T.w276 {H : Heap} {b off n : Nat} {cells : List Value} : aStore Tryz.prog H 54 (.pointer (some ⟨b, off, none⟩)) (.agg ⟨[fzv n cells]⟩) = stRow H b off [fzv n cells] (H.get b) := store_row (vs := [fzv n cells]) T.z276 T.s276 rfl rfl rfl
theorem T.new276 : aNew Tryz.prog (fun _ => none) (.alloc 54) = some (54, [.slice none 0 0], fun b => .pointer (some ⟨b, 0, none⟩)) := by kernel_rfl
theorem T.alloc276 {H : Heap} {e : Env} {K : Value → Heap → Prop} {d : Option Tmp} {ty : TypeId} {ps : String} {af : Array Edge} {gd : Option (Nat × Bool)} : aStep Tryz.prog e H ⟨d, .alloc 54, ty, ps, af, gd⟩ K = K (.pointer (some ⟨H.next, 0, none⟩)) (H.push (.row true 54 [.slice none 0 0])) := s_alloc T.new276
attribute [go_sem] T.l276 T.w276 T.alloc276
theorem p295 {l : List Int} (hl : l.length ≤ 2 ^ 30) : PC Tryz.prog 13 [Vv eN l, Vv eN l] (.bool true) := by
  refine PC.of (.cons pu_Ns (.cons pu_Ns .nil)) (.ground rfl) fun N hN => ?_
  refine ACalls.of_code T.hm (n := 24) Tryz.func13 rfl rfl rfl rfl ?_; simp only [List.replicate_succ, List.replicate_zero, List.cons_append, List.nil_append]
  simp (maxSteps := 1000000) (disch := first | exact sd | fail) only [go_sem, Nat.reduceAdd, Nat.reduceSub, Nat.reduceLeDiff, ↓reduceIte, decide_eq_true_eq, if_true, if_false, Bool.false_eq_true, Int.lt_irrefl, implies_true, true_and, and_true, eq_self, and_self, beq_self_eq_true, aw_drawn (id := 6), aw_drawn' (id := 6), ne_eq, not_true_eq_false]
  refine aw_loopS (σ := Nat) (fun s J => [Vv eN l, Vv eN l, J 2, J 3, .bool false, .int .i64 s, J 6, J 7, J 8, J 9, J 10, J 11, J 12, J 13, J 14, J 15, J 16, J 17, J 18, J 19, J 20, J 21, J 22, J 23, J 24, J 25]) (fun m s => m = l.length - s ∧ s ≤ l.length) l.length 0 rfl ⟨rfl, Nat.zero_le _⟩ ?_
  rintro m s J ⟨rfl, hs⟩
  by_cases h4 : (s : Int) < l.length
  · have h5 : (s : Int).toNat = s := rfl
    simp (maxSteps := 1000000) (disch := first | exact sd | fail) only [go_sem, Nat.reduceAdd, Nat.reduceSub, Nat.reduceLeDiff, ↓reduceIte, decide_eq_true_eq, if_true, if_false, Bool.false_eq_true, Int.lt_irrefl, implies_true, true_and, and_true, eq_self, and_self, beq_self_eq_true, aw_drawn (id := 6), aw_drawn' (id := 6), h4, h5, ne_eq, not_true_eq_false, bne_self_eq_false]
    exact IJ_intro (k := l.length - (s + 1)) (by omega) (s + 1) rfl ⟨⟨rfl, by omega⟩, rfl⟩
  · simp (maxSteps := 1000000) (disch := first | exact sd | fail) only [go_sem, Nat.reduceAdd, Nat.reduceSub, Nat.reduceLeDiff, ↓reduceIte, decide_eq_true_eq, if_true, if_false, Bool.false_eq_true, Int.lt_irrefl, implies_true, true_and, and_true, eq_self, and_self, beq_self_eq_true, aw_drawn (id := 6), aw_drawn' (id := 6), h4]
    exact .rfl
theorem p296 {l : List Bool} (hl : l.length ≤ 2 ^ 30) : PC Tryz.prog 14 [Vv eB l, Vv eB l] (.bool true) := by
  refine PC.of (.cons pu_Bs (.cons pu_Bs .nil)) (.ground rfl) fun N hN => ?_
  refine ACalls.of_code T.hm (n := 24) Tryz.func14 rfl rfl rfl rfl ?_; simp only [List.replicate_succ, List.replicate_zero, List.cons_append, List.nil_append]
  simp (maxSteps := 1000000) (disch := first | exact sd | fail) only [go_sem, Nat.reduceAdd, Nat.reduceSub, Nat.reduceLeDiff, ↓reduceIte, decide_eq_true_eq, if_true, if_false, Bool.false_eq_true, Int.lt_irrefl, implies_true, true_and, and_true, eq_self, and_self, beq_self_eq_true, aw_drawn (id := 6), aw_drawn' (id := 6), ne_eq, not_true_eq_false]
  refine aw_loopS (σ := Nat) (fun s J => [Vv eB l, Vv eB l, J 2, J 3, .bool false, .int .i64 s, J 6, J 7, J 8, J 9, J 10, J 11, J 12, J 13, J 14, J 15, J 16, J 17, J 18, J 19, J 20, J 21, J 22, J 23, J 24, J 25]) (fun m s => m = l.length - s ∧ s ≤ l.length) l.length 0 rfl ⟨rfl, Nat.zero_le _⟩ ?_
  rintro m s J ⟨rfl, hs⟩
  by_cases h4 : (s : Int) < l.length
  · have h5 : (s : Int).toNat = s := rfl
    simp (maxSteps := 1000000) (disch := first | exact sd | fail) only [go_sem, Nat.reduceAdd, Nat.reduceSub, Nat.reduceLeDiff, ↓reduceIte, decide_eq_true_eq, if_true, if_false, Bool.false_eq_true, Int.lt_irrefl, implies_true, true_and, and_true, eq_self, and_self, beq_self_eq_true, aw_drawn (id := 6), aw_drawn' (id := 6), h4, h5, ne_eq, not_true_eq_false, bne_self_eq_false]
    exact IJ_intro (k := l.length - (s + 1)) (by omega) (s + 1) rfl ⟨⟨rfl, by omega⟩, rfl⟩
  · simp (maxSteps := 1000000) (disch := first | exact sd | fail) only [go_sem, Nat.reduceAdd, Nat.reduceSub, Nat.reduceLeDiff, ↓reduceIte, decide_eq_true_eq, if_true, if_false, Bool.false_eq_true, Int.lt_irrefl, implies_true, true_and, and_true, eq_self, and_self, beq_self_eq_true, aw_drawn (id := 6), aw_drawn' (id := 6), h4]
    exact .rfl
theorem lwA_ok : LimW lwA ∧ SmW lwA := by
  have hA : LimAs [] := ⟨Nat.zero_le _, fun a ha => nomatch ha⟩
  refine ⟨⟨by decide, by decide, ⟨by decide, fun e he => ?_⟩, by decide, fun e he => nomatch he⟩, ⟨fun e he => ?_, fun e he => nomatch he⟩⟩
  · rcases List.mem_cons.1 he with rfl | he
    · exact ⟨⟨by decide, by decide⟩, ⟨by decide, by decide⟩, ⟨by decide, by decide⟩, hA, hA, by decide⟩
    · rw [List.mem_singleton.1 he]
      exact ⟨⟨by decide, by decide⟩, ⟨by decide, by decide⟩, ⟨by decide, by decide⟩, hA, hA, by decide⟩
  · rcases List.mem_cons.1 he with rfl | he
    · exact ⟨fun a ha => (nomatch ha), fun a ha => (nomatch ha)⟩
    · rw [List.mem_singleton.1 he]
      exact ⟨fun a ha => (nomatch ha), fun a ha => (nomatch ha)⟩
theorem ordA {a b : Value} : ordR lwA a b = .tuple ⟨[Vv eN [0, 1], Vv eB [true, false], a]⟩ := by
  unfold ordR
  rw [if_pos (by decide +kernel)]
  have e1 : ordO (ordS lwA.edges lwA.locs.length) lwA.locs.length = [0, 1] := by decide +kernel
  have e2 : (ordS lwA.edges lwA.locs.length).head = [true, false] := by decide +kernel
  rw [e1, e2]
theorem p294 : PC Tryz.prog 10 [] (.bool true) := by
  refine PC.of .nil (.ground rfl) fun N hN => ?_
  have q205 := p205 lwA_ok.1 lwA_ok.2
  rw [ordA] at q205
  have q300 := p300
  have l1 : (([0, 1] : List Int).length : Int) = 2 := rfl
  have l2 : (([true, false] : List Bool).length : Int) = 2 := rfl
  have i0 : (0 : Int) < (([true, false] : List Bool).length : Int) := by decide
  have i1 : (1 : Int) < (([true, false] : List Bool).length : Int) := by decide
  have g0 : ([true, false] : List Bool).getD (Int.toNat 0) false = true := rfl
  have g1 : ([true, false] : List Bool).getD (Int.toNat 1) false = false := rfl
  generalize ([0, 1] : List Int) = o at *
  generalize ([true, false] : List Bool) = h at *
  generalize lwA = l at *
  obtain ⟨L, S, E, V⟩ := l
  unfold Wv at *
  try dsimp only at *
  unfold progV at q300
  have q299 := p299
  unfold progV at q299
  refine ACalls.of_code T.hm (n := 54) Tryz.func10 rfl rfl rfl rfl ?_; simp only [List.replicate_succ, List.replicate_zero, List.cons_append, List.nil_append]
  simp (maxSteps := 1000000) (disch := first | exact sd | fail) only [go_sem, Nat.reduceAdd, Nat.reduceSub, Nat.reduceLeDiff, ↓reduceIte, decide_eq_true_eq, if_true, if_false, Bool.false_eq_true, Int.lt_irrefl, implies_true, true_and, and_true, eq_self, and_self, beq_self_eq_true]
  refine PC.step (q299) fun m1 j1 => ?_
  try simp only [Heap.next_push, Heap.next_set, Heap.next_kill, next_bump, next_E0] at j1
  simp (maxSteps := 30000000) (disch := first | exact sd | fail) only [go_sem, Nat.reduceAdd, Nat.reduceSub, Nat.reduceLeDiff, ↓reduceIte, decide_eq_true_eq, if_true, if_false, Bool.false_eq_true, Int.lt_irrefl, implies_true, true_and, and_true, eq_self, and_self, beq_self_eq_true]
  refine PC.step (q300) fun m2 j2 => ?_
  try simp only [Heap.next_push, Heap.next_set, Heap.next_kill, next_bump, next_E0] at j2
  simp (maxSteps := 30000000) (disch := first | exact sd | fail) only [go_sem, Nat.reduceAdd, Nat.reduceSub, Nat.reduceLeDiff, ↓reduceIte, decide_eq_true_eq, if_true, if_false, Bool.false_eq_true, Int.lt_irrefl, implies_true, true_and, and_true, eq_self, and_self, beq_self_eq_true]
  refine PC.step (q205) fun m3 j3 => ?_
  try simp only [Heap.next_push, Heap.next_set, Heap.next_kill, next_bump, next_E0] at j3
  simp (maxSteps := 30000000) (disch := first | exact sd | fail) only [go_sem, Nat.reduceAdd, Nat.reduceSub, Nat.reduceLeDiff, ↓reduceIte, decide_eq_true_eq, if_true, if_false, Bool.false_eq_true, Int.lt_irrefl, implies_true, true_and, and_true, eq_self, and_self, beq_self_eq_true]
  refine PC.step (p45 (x := 0)) fun m4 j4 => ?_
  try simp only [Heap.next_push, Heap.next_set, Heap.next_kill, next_bump, next_E0] at j4
  simp (maxSteps := 30000000) (disch := first | exact sd | fail) only [go_sem, Nat.reduceAdd, Nat.reduceSub, Nat.reduceLeDiff, ↓reduceIte, decide_eq_true_eq, if_true, if_false, Bool.false_eq_true, Int.lt_irrefl, implies_true, true_and, and_true, eq_self, and_self, beq_self_eq_true, l1, l2, i0, i1, g0, g1, Bool.not_false]
  exact .rfl
end Go.Abs
