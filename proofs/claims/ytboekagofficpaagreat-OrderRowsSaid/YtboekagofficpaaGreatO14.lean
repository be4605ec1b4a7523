/- The order of locations: the program's, as a call of values. -/
import Derived.Test.YtboekagofficpaaGreatO12
import Derived.Test.YtboekagofficpaaGreatO13
import Derived.Test.YtboekagofficpaaGreatB11
set_option linter.unusedVariables false
set_option linter.unusedSimpArgs false
namespace Go.Abs
open Go Go.Proofs
set_option maxRecDepth 100000
set_option maxHeartbeats 40000000
def plO14_205_8 : Plan := ⟨[0, 1, 2, 3, 4, 5, 6, 7, 8, 9, 10], [(11, [2], [12]), (13, [], [])]⟩
theorem ix_rows {b n i : Nat} (h : i < n) : aIndexAddr Tryz.prog 59 (.slice (some ⟨b, 0, none⟩) n n) (.int .i64 (i : Int)) = some (.pointer (some ⟨b, i, none⟩)) := by
  have := ix_ownU (P := Tryz.prog) (b := b) (off := 0) (n := n) (c := n) (k := .i64) (i := (i : Int)) Tryz.underlying59 T.z191 T.s191 (by omega) (by omega)
  simpa using this
theorem gt_row {l : List Value} {i : Nat} (h : i < l.length) : l[i]? = some (l.getD i undef) := by
  rw [List.getElem?_eq_getElem h, List.getD_eq_getElem?_getD, List.getElem?_eq_getElem h]; rfl
theorem sp_row {l : List Value} {i : Nat} {v : Value} (h : i < l.length) : splice l i [v] = l.set i v := by
  rw [splice_eq _ _ _ (by simp; omega), List.set_eq_take_append_cons_drop, if_pos h, List.append_assoc]
  rfl
theorem wr_get {H : Heap} {sl : Value} {o : Nat} {v : Value} {b : Nat} (h : b ≠ sblk sl) : (wr H sl o v).get b = H.get b := wr_ne h
theorem ofNat_getD {l : List Nat} {g : Nat} (h : g < l.length) : (l.map Int.ofNat).getD g 0 = ((l.getD g 0 : Nat) : Int) := by
  rw [List.getD_eq_getElem?_getD, List.getD_eq_getElem?_getD, List.getElem?_map, List.getElem?_eq_getElem h]; rfl
theorem drop_getDU {l : List Nat} {g : Nat} (h : g < l.length) : l.drop g = l.getD g 0 :: l.drop (g + 1) := by
  rw [List.drop_eq_getElem_cons h, List.getD_eq_getElem?_getD, List.getElem?_eq_getElem h]; rfl
theorem mes_le {out : Nat → List Nat} {K : Nat} {st : List (Nat × Nat)} {s s1 : OS} (h : s1.un ≤ s.un) : mes out K st s1 ≤ mes out K st s := by
  unfold mes
  have := Nat.mul_le_mul_right (K + 2) h
  omega
theorem mes_un {out : Nat → List Nat} {K : Nat} {st : List (Nat × Nat)} {s s1 : OS} (h : s1.un + 1 = s.un) : mes out K st s1 + (K + 2) = mes out K st s := by
  unfold mes
  rw [← h, Nat.succ_mul]
  omega
theorem fzn_bools {H : Heap} {b n : Nat} {l : List Bool} (hg : H.get b = some (.row true 4 (l.map .bool))) (hb : b < H.next) (hn : n = l.length) (h9 : n ≤ 2 ^ 30) : FzN Tryz.prog H (Vv eB l) (.slice (some ⟨b, 0, none⟩) n n) := by
  subst hn
  have e : l.flatMap eB.enc = l.map .bool := by
    clear hg h9
    induction l with
    | nil => rfl
    | cons a l ih => rw [List.flatMap_cons, List.map_cons, ih]; rfl
  have hs := Ow.row (P := Tryz.prog) (H0 := E0 0) (H := H) (es := 1) (el := 4) (b := b) (off := 0) (n := l.length) (c := l.length) hg (Nat.zero_le _) hb (.inr ⟨Nat.le_refl _, by unfold unk; omega, by rw [List.length_map]; omega⟩) (by rw [List.length_map]; omega)
  rw [List.drop_zero, List.take_of_length_le (by rw [List.length_map]; omega)] at hs
  unfold Vv
  rw [e]
  exact .own (es := 1) (by decide) T.s4 hs fun x hx => by
    obtain ⟨a, _, rfl⟩ := List.mem_map.1 hx
    rfl
theorem fzn_ints {H0 H : Heap} {sl : Value} {l : List Int} (h : NO H0 H sl l) : FzN Tryz.prog H (Vv eN l) sl :=
  .own (es := 1) (by decide) T.s3 h fun x hx => by
    obtain ⟨a, _, hx⟩ := List.mem_flatMap.1 hx
    rw [List.mem_singleton.1 hx]
    rfl
theorem p205n {l : RW} (h : LimW l) (hs : SmW l) : PN Tryz.prog 11 [Wv l] (ordR l (.int .i64 0) (.int .i64 1)) := by
  have q0 := p199 h hs
  have hw1 := @okW_n l
  have hw2 := @okW_E l
  have hw3 := @okW_out l
  have hw4 := @ordS_OI l
  refine ⟨.cons pu_W .nil, fun N hN => ?_⟩
  unfold ordR
  generalize okW l = w at *
  unfold Wv at *
  refine ACalls.of_code T.hm (n := 157) Tryz.func11 rfl rfl rfl rfl ?_; simp only [List.replicate_succ, List.replicate_zero, List.cons_append, List.nil_append]
  simp (maxSteps := 1000000) (disch := first | exact sd | fail) only [go_sem, Nat.reduceAdd, Nat.reduceSub, Nat.reduceLeDiff, ↓reduceIte, decide_eq_true_eq, if_true, if_false, Bool.false_eq_true, Int.lt_irrefl, implies_true, true_and, and_true, eq_self, and_self, beq_self_eq_true, aw_plan (id := 8) plO14_205_8, plO14_205_8, aw_drawn (id := 11), aw_drawn' (id := 11), aw_drawn (id := 16), aw_drawn' (id := 16), aw_drawn (id := 20), aw_drawn' (id := 20)]
  refine PC.step (q0) fun m1 j1 => ?_
  try simp only [Heap.next_push, Heap.next_set, Heap.next_kill, next_bump, next_E0] at j1
  cases w with
  | false =>
    simp (maxSteps := 1000000) (disch := first | exact sd | fail) only [go_sem, Nat.reduceAdd, Nat.reduceSub, Nat.reduceLeDiff, ↓reduceIte, decide_eq_true_eq, if_true, if_false, Bool.false_eq_true, Int.lt_irrefl, implies_true, true_and, and_true, eq_self, and_self, beq_self_eq_true, aw_plan (id := 8) plO14_205_8, plO14_205_8, aw_drawn (id := 11), aw_drawn' (id := 11), aw_drawn (id := 16), aw_drawn' (id := 16), aw_drawn (id := 20), aw_drawn' (id := 20), Bool.not_false]
    exact .tuple (.cons .nil (.cons .nil (.cons (.ground rfl) .nil)))
  | true =>
  obtain ⟨w1, w2, w4⟩ := hw1 rfl
  have w3 := @hw2 rfl
  have w5 := hw3 rfl
  have w6 := hw4 rfl
  clear hw1 hw2 hw3 hw4 q0 h hs
  rw [if_pos rfl]
  generalize hn : l.locs.length = n at *
  obtain ⟨F, rfl⟩ : ∃ F, n = F + 1 := ⟨n - 1, by omega⟩
  generalize hE : l.edges = E at *
  simp (maxSteps := 1000000) (disch := first | exact sd | fail) only [go_sem, Nat.reduceAdd, Nat.reduceSub, Nat.reduceLeDiff, ↓reduceIte, decide_eq_true_eq, if_true, if_false, Bool.false_eq_true, Int.lt_irrefl, implies_true, true_and, and_true, eq_self, and_self, beq_self_eq_true, aw_plan (id := 8) plO14_205_8, plO14_205_8, aw_drawn (id := 11), aw_drawn' (id := 11), aw_drawn (id := 16), aw_drawn' (id := 16), aw_drawn (id := 20), aw_drawn' (id := 20), Bool.not_true, aMk_int, Int.toNat_natCast, hn, hE]
  refine aw_loopJ (σ := Nat × List Value) (fun s J => [J 0, J 1, .slice none 0 0, .slice none 0 0, .int .i64 0, .int .i64 ((F + 1 : Nat) : Int), .slice (some ⟨m1, 0, none⟩) (F + 1) (F + 1), J 7, J 8, J 9, J 10, J 11, J 12, J 13, J 14, J 15, J 16, J 17, J 18, J 19, J 20, J 21, J 22, J 23, Vv eE E, .int .i64 E.length, .int .i64 s.1, J 27, J 28, J 29, J 30, J 31, J 32, J 33, J 34, J 35, J 36, J 37, J 38, J 39, J 40, J 41, J 42, J 43, J 44, J 45, J 46, J 47, J 48, J 49, J 50, J 51, J 52, J 53, J 54, J 55, J 56, J 57, J 58, J 59, J 60, J 61, J 62, J 63, J 64, J 65, J 66, J 67, J 68, J 69, J 70, J 71, J 72, J 73, J 74, J 75, J 76, J 77, J 78, J 79, J 80, J 81, J 82, J 83, J 84, J 85, J 86, J 87, J 88, J 89, J 90, J 91, J 92, J 93, J 94, J 95, J 96, J 97, J 98, J 99, J 100, J 101, J 102, J 103, J 104, J 105, J 106, J 107, J 108, J 109, J 110, J 111, J 112, J 113, J 114, J 115, J 116, J 117, J 118, J 119, J 120, J 121, J 122, J 123, J 124, J 125, J 126, J 127, J 128, J 129, J 130, J 131, J 132, J 133, J 134, J 135, J 136, J 137, J 138, J 139, J 140, J 141, J 142, J 143, J 144, J 145, J 146, J 147, J 148, J 149, J 150, J 151, J 152, J 153, J 154, J 155, J 156, J 157]) (fun m s H1 => m = E.length - s.1 ∧ s.1 ≤ E.length ∧ OutI (m1 + 1) m1 (F + 1) (E.take s.1) H1 s.2) E.length (0, List.replicate (F + 1) (.slice none 0 0)) rfl ⟨rfl, Nat.zero_le _, ⟨by simp only [next_push, next_bump]; omega, by simp, by simp (maxSteps := 1000000) (disch := first | exact sd | fail) only [go_sem, Nat.reduceAdd, Nat.reduceSub, Nat.reduceLeDiff, ↓reduceIte, decide_eq_true_eq, if_true, if_false, Bool.false_eq_true, Int.lt_irrefl, implies_true, true_and, and_true, eq_self, and_self, beq_self_eq_true, aw_plan (id := 8) plO14_205_8, plO14_205_8, aw_drawn (id := 11), aw_drawn' (id := 11), aw_drawn (id := 16), aw_drawn' (id := 16), aw_drawn (id := 20), aw_drawn' (id := 20)], fun i hi => ?_, fun i j hi hj _ => ?_⟩⟩ ?_
  · dsimp only
    rw [List.getD_eq_getElem?_getD, List.getElem?_replicate, if_pos hi, List.take_zero]
    exact VO.nil
  · dsimp only
    rw [List.getD_eq_getElem?_getD, List.getElem?_replicate, if_pos hi]
    exact .inr rfl
  rintro m ⟨i, vs⟩ J H1 ⟨rfl, hi, ho⟩
  dsimp only at hi ho ⊢
  by_cases h4 : (i : Int) < E.length
  · have h5 : (i : Int).toNat = i := rfl
    have he := w3 (j := i) (by omega)
    obtain ⟨f, hf⟩ : ∃ f : Nat, (E.getD i eE.d).f = f := ⟨(E.getD i eE.d).f.toNat, by omega⟩
    obtain ⟨u, hu⟩ : ∃ u : Nat, (E.getD i eE.d).t = u := ⟨(E.getD i eE.d).t.toNat, by omega⟩
    have hfn : f < F + 1 := by omega
    have hvl := ho.len
    have ix := ix_rows (b := m1) (n := F + 1) (i := f) hfn
    have gr := gt_row (l := vs) (i := f) (by omega)
    have hf1 : f + 1 ≤ vs.length := by omega
    have hll : (outE (E.take i) f).length ≤ 200 := by have := outE_len (E := E.take i) (v := f); rw [List.length_take] at this; omega
    generalize hH1 : (H1.push (AObj.row true 46 [.int .i64 0, .int .i64 0, .int .i64 0, .slice none 0 0, .slice none 0 0, .slice none 0 0])).set H1.next (AObj.row true 46 [.int .i64 (f : Int), .int .i64 (u : Int), .int .i64 (E.getD i eE.d).m, Vv eA (E.getD i eE.d).g, Vv eA (E.getD i eE.d).s, Vv eB (E.getD i eE.d).p]) = H2
    have hle2 : Hle H1 H2 := by rw [← hH1]; exact Hle.set (Hle.push0 _) (Nat.le_refl _) _
    have ho2 := ho.mono (by omega) hle2
    have gE : H2.get H1.next = some (AObj.row true 46 [.int .i64 (f : Int), .int .i64 (u : Int), .int .i64 (E.getD i eE.d).m, Vv eA (E.getD i eE.d).g, Vv eA (E.getD i eE.d).s, Vv eB (E.getD i eE.d).p]) := by rw [← hH1]; exact get_set_self _ _ _
    have n2 : H2.next = H1.next + 1 := by rw [← hH1]; rfl
    obtain ⟨v, H4, ea, oa, fr, nx, bl⟩ := NO.append1 (ho2.o f hfn) ho2.nx (u : Int) (by rw [List.length_map]; omega)
    have hp := ho2.push (by omega) (by omega) (by omega) hf hu hfn oa fr nx bl
    have g2 := ho2.g
    have isv := oa.isSl
    have ne : sblk (vs.getD f undef) = 0 ∨ m1 + 1 ≤ sblk (vs.getD f undef) := (ho2.o f hfn).blkU
    have g4 : H4.get m1 = some (.row true 30 vs) := (fr m1 (by have := ho2.nx; omega) (by omega)).trans g2
    have spr := sp_row (l := vs) (i := f) (v := v) (by omega)
    have isf := (ho2.o f hfn).isSl
    have ltf := (ho.o f hfn).ltFU (by have := ho.nx; omega)
    have gE4 := (fr H1.next (by omega) (by omega)).trans gE
    generalize vs.getD f undef = vf at *
    simp (maxSteps := 1000000) (disch := first | exact sd | fail) only [go_sem, Nat.reduceAdd, Nat.reduceSub, Nat.reduceLeDiff, ↓reduceIte, decide_eq_true_eq, if_true, if_false, Bool.false_eq_true, Int.lt_irrefl, implies_true, true_and, and_true, eq_self, and_self, beq_self_eq_true, aw_plan (id := 8) plO14_205_8, plO14_205_8, aw_drawn (id := 11), aw_drawn' (id := 11), aw_drawn (id := 16), aw_drawn' (id := 16), aw_drawn (id := 20), aw_drawn' (id := 20), h4, h5, hf, hu, hH1]
    simp (maxSteps := 1000000) (disch := first | exact sd | fail) only [go_sem, Nat.reduceAdd, Nat.reduceSub, Nat.reduceLeDiff, ↓reduceIte, decide_eq_true_eq, if_true, if_false, Bool.false_eq_true, Int.lt_irrefl, implies_true, true_and, and_true, eq_self, and_self, beq_self_eq_true, aw_plan (id := 8) plO14_205_8, plO14_205_8, aw_drawn (id := 11), aw_drawn' (id := 11), aw_drawn (id := 16), aw_drawn' (id := 16), aw_drawn (id := 20), aw_drawn' (id := 20), gE, gE4, ix, g2, gr, ea, g4, hf1, spr]
    exact IJ_intro (k := E.length - (i + 1)) (by omega) (i + 1, vs.set f v) rfl ⟨rfl, by dsimp only; omega, hp⟩
  have e : i = E.length := by omega
  subst e
  rw [List.take_length] at ho
  have hE0 : m1 + 1 ≤ H1.next := ho.nx
  have ix0 {b : Nat} : aIndexAddr Tryz.prog 31 (.slice (some ⟨b, 0, none⟩) (F + 1) (F + 1)) (.int .i64 0) = some (.pointer (some ⟨b, 0, none⟩)) := ix_bool (i := 0) (by omega)
  have sp0 : splice (List.replicate (F + 1) (Value.bool false)) 0 [.bool true] = .bool true :: List.replicate F (.bool false) := by rw [List.replicate_succ]; rfl
  have h1F : 1 ≤ F + 1 := by omega
  simp (maxSteps := 1000000) (disch := first | exact sd | fail) only [go_sem, Nat.reduceAdd, Nat.reduceSub, Nat.reduceLeDiff, ↓reduceIte, decide_eq_true_eq, if_true, if_false, Bool.false_eq_true, Int.lt_irrefl, implies_true, true_and, and_true, eq_self, and_self, beq_self_eq_true, aw_plan (id := 8) plO14_205_8, plO14_205_8, aw_drawn (id := 11), aw_drawn' (id := 11), aw_drawn (id := 16), aw_drawn' (id := 16), aw_drawn (id := 20), aw_drawn' (id := 20), h4, aMk_int, Int.toNat_natCast, ix0, sp0, List.length_replicate, h1F]
  generalize hHD : (Heap.set _ _ _) = HD
  have eS : cont (outE E) F (frs (outE E) [(0, 0)]) ((os0 (F + 1)).beg 0) = ordS E (F + 1) := by
    unfold ordS
    rw [visit_succ]
    rfl
  have hK : ∀ v, (outE E v).length ≤ E.length := fun v => outE_len
  generalize ordS E (F + 1) = S at *
  have di : DI H1 (F + 1) (outE E) HD (.slice (some ⟨H1.next + 3, 0, none⟩) 1 1) (.slice none 0 0) [(0, 0)] ((os0 (F + 1)).beg 0) := by
    have e1 : (was ((os0 (F + 1)).beg 0).how).map Value.bool = .bool true :: List.replicate F (.bool false) := by
      show (was ((List.replicate (F + 1) (0 : Int)).set 0 1)).map Value.bool = _
      rw [List.replicate_succ]
      simp [was]
    have e2 : (now ((os0 (F + 1)).beg 0).how).map Value.bool = .bool true :: List.replicate F (.bool false) := by
      show (now ((List.replicate (F + 1) (0 : Int)).set 0 1)).map Value.bool = _
      rw [List.replicate_succ]
      simp [now]
    have e3 : ((os0 (F + 1)).beg 0).head.map Value.bool = List.replicate (F + 1) (.bool false) := by
      show (List.replicate (F + 1) false).map Value.bool = _
      rw [List.map_replicate]
    have gs : HD.get (H1.next + 3) = some (.row true 61 [.int .i64 0, .int .i64 0]) := by subst hHD; simp (maxSteps := 1000000) (disch := first | exact sd | fail) only [go_sem, Nat.reduceAdd, Nat.reduceSub, Nat.reduceLeDiff, ↓reduceIte, decide_eq_true_eq, if_true, if_false, Bool.false_eq_true, Int.lt_irrefl, implies_true, true_and, and_true, eq_self, and_self, beq_self_eq_true, aw_plan (id := 8) plO14_205_8, plO14_205_8, aw_drawn (id := 11), aw_drawn' (id := 11), aw_drawn (id := 16), aw_drawn' (id := 16), aw_drawn (id := 20), aw_drawn' (id := 20)]
    refine ⟨fun b k1 k2 => by subst hHD; simp (maxSteps := 1000000) (disch := first | exact sd | fail) only [go_sem, Nat.reduceAdd, Nat.reduceSub, Nat.reduceLeDiff, ↓reduceIte, decide_eq_true_eq, if_true, if_false, Bool.false_eq_true, Int.lt_irrefl, implies_true, true_and, and_true, eq_self, and_self, beq_self_eq_true, aw_plan (id := 8) plO14_205_8, plO14_205_8, aw_drawn (id := 11), aw_drawn' (id := 11), aw_drawn (id := 16), aw_drawn' (id := 16), aw_drawn (id := 20), aw_drawn' (id := 20)], by subst hHD; simp only [next_push, next_set]; omega, by subst hHD; rw [e3]; simp (maxSteps := 1000000) (disch := first | exact sd | fail) only [go_sem, Nat.reduceAdd, Nat.reduceSub, Nat.reduceLeDiff, ↓reduceIte, decide_eq_true_eq, if_true, if_false, Bool.false_eq_true, Int.lt_irrefl, implies_true, true_and, and_true, eq_self, and_self, beq_self_eq_true, aw_plan (id := 8) plO14_205_8, plO14_205_8, aw_drawn (id := 11), aw_drawn' (id := 11), aw_drawn (id := 16), aw_drawn' (id := 16), aw_drawn (id := 20), aw_drawn' (id := 20)], by subst hHD; rw [e1]; simp (maxSteps := 1000000) (disch := first | exact sd | fail) only [go_sem, Nat.reduceAdd, Nat.reduceSub, Nat.reduceLeDiff, ↓reduceIte, decide_eq_true_eq, if_true, if_false, Bool.false_eq_true, Int.lt_irrefl, implies_true, true_and, and_true, eq_self, and_self, beq_self_eq_true, aw_plan (id := 8) plO14_205_8, plO14_205_8, aw_drawn (id := 11), aw_drawn' (id := 11), aw_drawn (id := 16), aw_drawn' (id := 16), aw_drawn (id := 20), aw_drawn' (id := 20)], by subst hHD; rw [e2]; simp (maxSteps := 1000000) (disch := first | exact sd | fail) only [go_sem, Nat.reduceAdd, Nat.reduceSub, Nat.reduceLeDiff, ↓reduceIte, decide_eq_true_eq, if_true, if_false, Bool.false_eq_true, Int.lt_irrefl, implies_true, true_and, and_true, eq_self, and_self, beq_self_eq_true, aw_plan (id := 8) plO14_205_8, plO14_205_8, aw_drawn (id := 11), aw_drawn' (id := 11), aw_drawn (id := 16), aw_drawn' (id := 16), aw_drawn (id := 20), aw_drawn' (id := 20)], ?_, VO.nil, .inl (by show H1.next + 3 ≠ 0; omega), os0_OI.beg (by omega) os0_how, fun p hp => ?_⟩
    · exact Ow.row (P := Tryz.prog) (H0 := E0 (H1.next + 3)) (H := HD) (es := 2) (el := 61) (b := H1.next + 3) (off := 0) (n := 1) (c := 1) gs (Nat.le_refl _) (by subst hHD; simp only [next_push, next_set]; omega) (.inr ⟨Nat.le_refl _, by unfold unk; omega, by decide⟩) (by decide)
    · rw [List.mem_singleton.1 hp]
      exact ⟨by omega, by show ((List.replicate (F + 1) (0 : Int)).set 0 1).getD 0 0 ≠ 0; rw [how_self (by simp)]; decide, Nat.zero_le _⟩
  clear hHD
  refine aw_loopJ (σ := (Value × Value) × (List (Nat × Nat) × OS)) (fun s J => [J 0, J 1, s.1.2, .slice (some ⟨H1.next, 0, none⟩) (F + 1) (F + 1), .int .i64 0, .int .i64 ((F + 1 : Nat) : Int), .slice (some ⟨m1, 0, none⟩) (F + 1) (F + 1), J 7, J 8, .slice (some ⟨H1.next + 1, 0, none⟩) (F + 1) (F + 1), .slice (some ⟨H1.next + 2, 0, none⟩) (F + 1) (F + 1), s.1.1, J 12, J 13, J 14, J 15, J 16, J 17, J 18, J 19, J 20, J 21, J 22, J 23, J 24, J 25, J 26, J 27, J 28, J 29, J 30, J 31, J 32, J 33, J 34, J 35, J 36, J 37, J 38, J 39, J 40, J 41, J 42, J 43, J 44, J 45, J 46, J 47, J 48, J 49, J 50, J 51, J 52, J 53, J 54, J 55, J 56, J 57, J 58, J 59, J 60, J 61, J 62, J 63, J 64, J 65, J 66, J 67, J 68, J 69, J 70, J 71, J 72, J 73, J 74, J 75, J 76, J 77, J 78, J 79, J 80, J 81, J 82, J 83, J 84, J 85, J 86, J 87, J 88, J 89, J 90, J 91, J 92, J 93, J 94, J 95, J 96, J 97, J 98, J 99, J 100, J 101, J 102, J 103, J 104, J 105, J 106, J 107, J 108, J 109, J 110, J 111, J 112, J 113, J 114, J 115, J 116, J 117, J 118, J 119, J 120, J 121, J 122, J 123, J 124, J 125, J 126, J 127, J 128, J 129, J 130, J 131, J 132, J 133, J 134, J 135, J 136, J 137, J 138, J 139, J 140, J 141, J 142, J 143, J 144, J 145, J 146, J 147, J 148, J 149, J 150, J 151, J 152, J 153, J 154, J 155, J 156, J 157]) (fun m s H => m = mes (outE E) E.length s.2.1 s.2.2 ∧ DI H1 (F + 1) (outE E) H s.1.1 s.1.2 s.2.1 s.2.2 ∧ cont (outE E) F (frs (outE E) s.2.1) s.2.2 = S) (mes (outE E) E.length [(0, 0)] ((os0 (F + 1)).beg 0)) ((.slice (some ⟨H1.next + 3, 0, none⟩) 1 1, .slice none 0 0), ([(0, 0)], (os0 (F + 1)).beg 0)) rfl ⟨rfl, di, eS⟩ ?_
  clear di eS
  rintro m ⟨⟨ssl, lsl⟩, st, s⟩ J H ⟨rfl, di, ct⟩
  dsimp only at di ct ⊢
  rcases List.eq_nil_or_concat st with rfl | ⟨st0, ⟨t, g⟩, rfl⟩
  · -- the stack is empty
    change s = S at ct
    subst ct
    have hls : aLen Tryz.prog 62 ssl = some (.int .i64 0) := di.os.len T.s221 T.i222
    have hlb : s.left.length ≤ F + 1 := by have := di.oi.left; omega
    have hh := di.oi.how
    have hd := di.oi.head
    have dn := di.nx
    simp (maxSteps := 30000000) (disch := first | exact sd | fail) only [go_sem, Nat.reduceAdd, Nat.reduceSub, Nat.reduceLeDiff, ↓reduceIte, decide_eq_true_eq, if_true, if_false, Bool.false_eq_true, Int.lt_irrefl, implies_true, true_and, and_true, eq_self, and_self, beq_self_eq_true, aw_plan (id := 8) plO14_205_8, plO14_205_8, aw_drawn (id := 11), aw_drawn' (id := 11), aw_drawn (id := 16), aw_drawn' (id := 16), aw_drawn (id := 20), aw_drawn' (id := 20), hls]
    refine (c233 (H0 := ⟨H1.next + 3, H.tr, H.gh⟩) (H := H) (l := s.left) (di.ol.baseFU (Nat.le_refl _)) (lowHle dn) (by omega)).mono ?_
    rintro _ H6 ⟨rfl, o6, hle6⟩
    simp (maxSteps := 1000000) (disch := first | exact sd | fail) only [go_sem, Nat.reduceAdd, Nat.reduceSub, Nat.reduceLeDiff, ↓reduceIte, decide_eq_true_eq, if_true, if_false, Bool.false_eq_true, Int.lt_irrefl, implies_true, true_and, and_true, eq_self, and_self, beq_self_eq_true, aw_plan (id := 8) plO14_205_8, plO14_205_8, aw_drawn (id := 11), aw_drawn' (id := 11), aw_drawn (id := 16), aw_drawn' (id := 16), aw_drawn (id := 20), aw_drawn' (id := 20)]
    generalize hHL : (⟨H1.next + 3, H.tr, H.gh⟩ : Heap) = HL at *
    have nL : HL.next = H1.next + 3 := by rw [← hHL]
    have gL : ∀ b, HL.get b = H.get b := fun b => by rw [← hHL]; rfl
    have o6 : NO HL H6 lsl (s.left.reverse ++ rest s 0) := by simpa [rest] using o6
    refine aw_loopJ (σ := Nat × Value) (fun q J => [J 0, J 1, q.2, .slice (some ⟨H1.next, 0, none⟩) (F + 1) (F + 1), .int .i64 0, .int .i64 ((F + 1 : Nat) : Int), J 6, J 7, J 8, .slice (some ⟨H1.next + 1, 0, none⟩) (F + 1) (F + 1), J 10, J 11, J 12, J 13, J 14, J 15, J 16, J 17, J 18, J 19, J 20, J 21, J 22, J 23, J 24, J 25, J 26, J 27, J 28, J 29, J 30, J 31, J 32, J 33, J 34, J 35, J 36, J 37, J 38, J 39, J 40, J 41, J 42, J 43, J 44, J 45, J 46, J 47, J 48, J 49, J 50, J 51, J 52, J 53, J 54, J 55, J 56, J 57, J 58, J 59, J 60, J 61, J 62, J 63, J 64, J 65, J 66, J 67, J 68, J 69, J 70, J 71, J 72, J 73, J 74, J 75, J 76, J 77, J 78, J 79, J 80, J 81, J 82, J 83, J 84, J 85, J 86, J 87, J 88, J 89, J 90, J 91, J 92, J 93, J 94, J 95, J 96, J 97, J 98, J 99, J 100, J 101, J 102, J 103, J 104, J 105, J 106, J 107, J 108, J 109, J 110, J 111, J 112, J 113, J 114, J 115, J 116, J 117, J 118, J 119, J 120, J 121, J 122, J 123, J 124, J 125, J 126, J 127, J 128, J 129, J 130, J 131, J 132, J 133, J 134, J 135, J 136, J 137, J 138, J 139, J 140, J 141, .int .i64 ((F + 1 : Nat) : Int), .int .i64 q.1, J 144, J 145, J 146, J 147, J 148, J 149, J 150, J 151, J 152, J 153, J 154, J 155, J 156, J 157]) (fun m q H3 => m = F + 1 - q.1 ∧ q.1 ≤ F + 1 ∧ Hle HL H3 ∧ NO HL H3 q.2 (s.left.reverse ++ rest s q.1)) (F + 1) (0, lsl) rfl ⟨rfl, Nat.zero_le _, hle6, o6⟩ ?_
    clear o6 hle6
    rintro m ⟨j, sl2⟩ J H4 ⟨rfl, hj, hle, ho4⟩
    dsimp only at hj ho4 ⊢
    have g2 := ((hle.get (H1.next + 1) (by omega)).trans (gL _)).trans di.be
    by_cases h5 : (j : Int) < ((F + 1 : Nat) : Int)
    · have ix := ix_bool (b := H1.next + 1) (n := F + 1) (i := j) (by omega)
      have gj := gt_bool (l := was s.how) (i := j) (by rw [was_len]; omega)
      rw [was_getD (by omega)] at gj
      have hr := rest_succ (s := s) (k := j)
      by_cases h6 : s.how.getD j 0 = 0
      · rw [if_pos h6] at hr
        rw [h6] at gj
        have hrl := rest_len (s := s) (k := j)
        obtain ⟨v, H5, ea, oa, qa, na⟩ := NO.append1h ho4 hle (j : Int) (by rw [List.length_append, List.length_reverse]; omega)
        rw [List.append_assoc, ← hr] at oa
        simp (maxSteps := 1000000) (disch := first | exact sd | fail) only [go_sem, Nat.reduceAdd, Nat.reduceSub, Nat.reduceLeDiff, ↓reduceIte, decide_eq_true_eq, if_true, if_false, Bool.false_eq_true, Int.lt_irrefl, implies_true, true_and, and_true, eq_self, and_self, beq_self_eq_true, aw_plan (id := 8) plO14_205_8, plO14_205_8, aw_drawn (id := 11), aw_drawn' (id := 11), aw_drawn (id := 16), aw_drawn' (id := 16), aw_drawn (id := 20), aw_drawn' (id := 20), g2, h5, ix, gj, ea, ne_eq, not_true_eq_false, decide_false, Bool.not_false]
        exact IJ_intro (k := F + 1 - (j + 1)) (by omega) (j + 1, v) rfl ⟨rfl, by dsimp only; omega, qa, oa⟩
      · rw [if_neg h6, List.append_nil] at hr
        rw [← hr] at ho4
        rw [decide_eq_true h6] at gj
        simp (maxSteps := 1000000) (disch := first | exact sd | fail) only [go_sem, Nat.reduceAdd, Nat.reduceSub, Nat.reduceLeDiff, ↓reduceIte, decide_eq_true_eq, if_true, if_false, Bool.false_eq_true, Int.lt_irrefl, implies_true, true_and, and_true, eq_self, and_self, beq_self_eq_true, aw_plan (id := 8) plO14_205_8, plO14_205_8, aw_drawn (id := 11), aw_drawn' (id := 11), aw_drawn (id := 16), aw_drawn' (id := 16), aw_drawn (id := 20), aw_drawn' (id := 20), g2, h5, ix, gj, Bool.not_true]
        exact IJ_intro (k := F + 1 - (j + 1)) (by omega) (j + 1, sl2) rfl ⟨rfl, by dsimp only; omega, hle, ho4⟩
    have e : j = F + 1 := by omega
    subst e
    have g3 := ((hle.get H1.next (by omega)).trans (gL _)).trans di.hd
    simp (maxSteps := 1000000) (disch := first | exact sd | fail) only [go_sem, Nat.reduceAdd, Nat.reduceSub, Nat.reduceLeDiff, ↓reduceIte, decide_eq_true_eq, if_true, if_false, Bool.false_eq_true, Int.lt_irrefl, implies_true, true_and, and_true, eq_self, and_self, beq_self_eq_true, aw_plan (id := 8) plO14_205_8, plO14_205_8, aw_drawn (id := 11), aw_drawn' (id := 11), aw_drawn (id := 16), aw_drawn' (id := 16), aw_drawn (id := 20), aw_drawn' (id := 20), h5]
    exact .tuple (.cons (fzn_ints ho4) (.cons (fzn_bools g3 (by have := hle.next; omega) hd.symm (by omega)) (.cons (.ground rfl) .nil)))
  -- there is one on top
  simp only [List.concat_eq_append] at di ct ⊢
  rw [frs_snoc] at ct
  have dn := di.nx
  have htm := di.fr (t, g) (List.mem_append.2 (.inr (List.mem_singleton.2 rfl)))
  have ht : t < F + 1 := htm.1
  have ht0 : s.how.getD t 0 ≠ 0 := htm.2.1
  have htg : g ≤ (outE E t).length := htm.2.2
  clear htm
  have hKt := hK t
  have hls : aLen Tryz.prog 62 ssl = some (.int .i64 ((st0.length : Int) + 1)) := by
    have := di.os.len (t := 62) T.s221 T.i222
    rw [List.length_append, List.length_singleton] at this
    exact this
  have hh := di.oi.how
  have hd := di.oi.head
  have hol := di.oi.left
  rw [List.length_append, List.length_singleton] at hol
  have c0 : (0 : Int) < (st0.length : Int) + 1 := by omega
  have e1 : (st0.length : Int) + 1 - 1 = st0.length := by omega
  have pa := PO.addr di.os
  have l0 := PO.load0 di.os
  have l1 := PO.load1 di.os
  have gO : H.get m1 = some (.row true 30 vs) := (di.hk m1 (by omega) (by omega)).trans ho.g
  have hvl := ho.len
  have ixr := ix_rows (b := m1) (n := F + 1) (i := t) ht
  have gr := gt_row (l := vs) (i := t) (by omega)
  have no : NO (E0 (m1 + 1)) H (vs.getD t undef) ((outE E t).map Int.ofNat) := (ho.o t ht).keepU (fun b k1 k2 => di.hk b (by have k1 : m1 + 1 ≤ b := k1; omega) k2) (by omega)
  have lo : aLen Tryz.prog 30 (vs.getD t undef) = some (.int .i64 ((outE E t).length : Int)) := by
    have := no.len (t := 30) T.s3 T.i191
    rwa [List.length_map] at this
  have hst : st0.length ≤ 40 := by omega
  have t1 : t + 1 ≤ F + 1 := ht
  have hnl : (now s.how).length = F + 1 := by rw [now_len]; exact hh
  have hwl : (was s.how).length = F + 1 := by rw [was_len]; exact hh
  by_cases hg : g = (outE E t).length
  · -- all is gone
    have hg2 : (g : Int) = ((outE E t).length : Int) := by rw [← hg]
    have ixo := ix_bool (b := H1.next + 2) (n := F + 1) (i := t) ht
    have spo : splice ((now s.how).map Value.bool) t [.bool false] = (now (s.how.set t 2)).map .bool := by rw [sp_bool (by omega), now_fin]
    have dop := di.op
    have hHo : H.set (H1.next + 2) (.row true 4 ((now (s.how.set t 2)).map .bool)) = off H1 H s t := rfl
    have nHo : (off H1 H s t).next = H.next := rfl
    have oos : PO (E0 (H1.next + 3)) (off H1 H s t) ssl (st0 ++ [(t, g)]) := di.os.setFU (by show H1.next + 2 < H1.next + 3; omega) _
    have ool : NO (E0 (H1.next + 3)) (off H1 H s t) lsl s.left := di.ol.setFU (by show H1.next + 2 < H1.next + 3; omega) _
    have l0' := PO.load0 oos
    obtain ⟨v, H4, ea, oa, fr, nx, bl⟩ := NO.append1 ool (by rw [nHo]; exact dn) (t : Int) (by omega)
    have os4 : PO (E0 (H1.next + 3)) H4 ssl (st0 ++ [(t, g)]) := oos.keepFU (x := sblk lsl) fr (by omega) di.sp (by show 0 < _ + 3; omega)
    obtain ⟨ssl', es, op', sb⟩ := PO.cut os4
    rw [nHo] at fr nx bl
    have dip := di.pop (by omega) op' sb oa fr nx bl
    have hgd : (outE E t).drop g = [] := by rw [hg, List.drop_length]
    rw [hgd, cont_pop] at ct
    have hm := mes_snoc (out := outE E) (K := E.length) (t := t) (g := g) (st := st0) (s := s)
    have hm2 := mes_le (out := outE E) (K := E.length) (st := st0) (un_fin (s := s) (t := t) (by omega))
    generalize vs.getD t undef = vt at *
    simp (maxSteps := 30000000) (disch := first | exact sd | fail) only [go_sem, Nat.reduceAdd, Nat.reduceSub, Nat.reduceLeDiff, ↓reduceIte, decide_eq_true_eq, if_true, if_false, Bool.false_eq_true, Int.lt_irrefl, implies_true, true_and, and_true, eq_self, and_self, beq_self_eq_true, aw_plan (id := 8) plO14_205_8, plO14_205_8, aw_drawn (id := 11), aw_drawn' (id := 11), aw_drawn (id := 16), aw_drawn' (id := 16), aw_drawn (id := 20), aw_drawn' (id := 20), hls, c0, e1, pa, Nat.add_zero, l0, l1, gO, ixr, gr, lo, hg2, dop, ixo, spo, hnl, List.length_map, t1, hHo, l0', ea, es]
    exact IJ_intro (k := mes (outE E) E.length st0 (s.fin t)) (by omega) ((ssl', v), (st0, s.fin t)) rfl ⟨rfl, dip, ct⟩
  -- one more of its edges
  have hgl : g < (outE E t).length := by omega
  have hg2 : ¬ (g : Int) = ((outE E t).length : Int) := by omega
  have hgu := ofNat_getD (l := outE E t) hgl
  have hdr := drop_getDU (l := outE E t) hgl
  have hun : (outE E t).getD g 0 < F + 1 := getDm (P := fun u => u < F + 1) hgl (w5 t)
  have ai : aIndexAddr Tryz.prog 30 (vs.getD t undef) (.int .i64 (g : Int)) = some (.pointer (some (sadr (vs.getD t undef) g))) := by
    have := NO.addr no (k := .i64) (i := (g : Int)) (by omega) (by rw [List.length_map]; omega)
    rwa [Int.toNat_natCast] at this
  have li : aLoad Tryz.prog H 3 (.pointer (some (sadr (vs.getD t undef) g))) = some (.int .i64 (((outE E t).getD g 0 : Nat) : Int)) := by
    have := NO.load no (o := g) (by rw [List.length_map]; omega)
    rwa [hgu] at this
  have hKu := hK ((outE E t).getD g 0)
  generalize (outE E t).getD g 0 = u at *
  have si := (PO.inc di.os).1
  have di5 := di.inc hgl
  have hm1 := mes_snoc (out := outE E) (K := E.length) (t := t) (g := g) (st := st0) (s := s)
  have hm2 := mes_snoc (out := outE E) (K := E.length) (t := t) (g := g + 1) (st := st0) (s := s)
  generalize wr H ssl (st0.length * 2 + 1) (.int .i64 ((g : Int) + 1)) = H5 at *
  have ix1 := ix_bool (b := H1.next + 1) (n := F + 1) (i := u) hun
  have ix2 := ix_bool (b := H1.next + 2) (n := F + 1) (i := u) hun
  have ixh := ix_bool (b := H1.next) (n := F + 1) (i := u) hun
  have gop := gt_bool (l := now s.how) (i := u) (by omega)
  have gwe := gt_bool (l := was s.how) (i := u) (by omega)
  rw [now_getD (by omega)] at gop
  rw [was_getD (by omega)] at gwe
  have dhd := di5.hd
  have dbe := di5.be
  have dop := di5.op
  have dn5 := di5.nx
  have u1 : u + 1 ≤ F + 1 := hun
  rw [hdr] at ct
  generalize vs.getD t undef = vt at *
  by_cases h1 : s.how.getD u 0 = 1
  · rw [cont_mark h1, ← frs_snoc] at ct
    rw [decide_eq_true h1] at gop
    have spm := sp_bool (l := s.head) (i := u) (x := true) (by omega)
    simp (maxSteps := 30000000) (disch := first | exact sd | fail) only [go_sem, Nat.reduceAdd, Nat.reduceSub, Nat.reduceLeDiff, ↓reduceIte, decide_eq_true_eq, if_true, if_false, Bool.false_eq_true, Int.lt_irrefl, implies_true, true_and, and_true, eq_self, and_self, beq_self_eq_true, aw_plan (id := 8) plO14_205_8, plO14_205_8, aw_drawn (id := 11), aw_drawn' (id := 11), aw_drawn (id := 16), aw_drawn' (id := 16), aw_drawn (id := 20), aw_drawn' (id := 20), hls, c0, e1, pa, Nat.add_zero, l0, l1, gO, ixr, gr, lo, hg2, ai, li, si, dop, ix2, gop, dhd, ixh, spm, List.length_map, hd, u1]
    exact IJ_intro (k := mes (outE E) E.length (st0 ++ [(t, g + 1)]) (s.mark u)) (by show mes (outE E) E.length (st0 ++ [(t, g + 1)]) s < _; omega) ((ssl, lsl), (st0 ++ [(t, g + 1)], s.mark u)) rfl ⟨rfl, di5.mark, ct⟩
  rw [decide_eq_false h1] at gop
  by_cases h0 : s.how.getD u 0 = 0
  · have hup := un_pos (s := s) (t := u) (by omega) h0
    have hub := un_beg (s := s) (t := u) (by omega) h0
    rw [cont_push h0 (by rw [frs_len]; omega)] at ct
    have ct2 : cont (outE E) F (frs (outE E) ((st0 ++ [(t, g + 1)]) ++ [(u, 0)])) (s.beg u) = S := by
      rw [frs_snoc, frs_snoc, List.drop_zero]; exact ct
    rw [h0] at gwe
    have spw : splice ((was s.how).map Value.bool) u [.bool true] = (was (s.how.set u 1)).map .bool := by rw [sp_bool (by omega), was_beg]
    have spn : splice ((now s.how).map Value.bool) u [.bool true] = (now (s.how.set u 1)).map .bool := by rw [sp_bool (by omega), now_beg]
    have hH2 : (H5.set (H1.next + 1) (.row true 4 ((was (s.how.set u 1)).map .bool))).set (H1.next + 2) (.row true 4 ((now (s.how.set u 1)).map .bool)) = two H1 H5 s u := rfl
    have n2 : (two H1 H5 s u).next = H5.next := rfl
    have os2 : PO (E0 (H1.next + 3)) (two H1 H5 s u) ssl (st0 ++ [(t, g + 1)]) := (di5.os.setFU (by show H1.next + 1 < H1.next + 3; omega) _).setFU (by show H1.next + 2 < H1.next + 3; omega) _
    obtain ⟨v, H4, ea, oa, fr, nx, bl⟩ := PO.append1 os2 (by rw [n2]; exact dn5) u (by rw [List.length_append, List.length_singleton]; omega)
    have dip := di5.push (by omega) hun h0 oa fr nx bl
    have hm3 := mes_snoc (out := outE E) (K := E.length) (t := u) (g := 0) (st := st0 ++ [(t, g + 1)]) (s := s.beg u)
    have hm4 := mes_un (out := outE E) (K := E.length) (st := st0 ++ [(t, g + 1)]) hub
    simp (maxSteps := 30000000) (disch := first | exact sd | fail) only [go_sem, Nat.reduceAdd, Nat.reduceSub, Nat.reduceLeDiff, ↓reduceIte, decide_eq_true_eq, if_true, if_false, Bool.false_eq_true, Int.lt_irrefl, implies_true, true_and, and_true, eq_self, and_self, beq_self_eq_true, aw_plan (id := 8) plO14_205_8, plO14_205_8, aw_drawn (id := 11), aw_drawn' (id := 11), aw_drawn (id := 16), aw_drawn' (id := 16), aw_drawn (id := 20), aw_drawn' (id := 20), hls, c0, e1, pa, Nat.add_zero, l0, l1, gO, ixr, gr, lo, hg2, ai, li, si, dop, ix2, gop, dbe, ix1, gwe, spw, spn, List.length_map, hwl, hnl, u1, hH2, ea, ne_eq, not_true_eq_false, decide_false, Bool.not_false]
    exact IJ_intro (k := mes (outE E) E.length ((st0 ++ [(t, g + 1)]) ++ [(u, 0)]) (s.beg u)) (by omega) ((v, lsl), ((st0 ++ [(t, g + 1)]) ++ [(u, 0)], s.beg u)) rfl ⟨rfl, dip, ct2⟩
  · rw [cont_skip h0 h1, ← frs_snoc] at ct
    rw [decide_eq_true h0] at gwe
    simp (maxSteps := 30000000) (disch := first | exact sd | fail) only [go_sem, Nat.reduceAdd, Nat.reduceSub, Nat.reduceLeDiff, ↓reduceIte, decide_eq_true_eq, if_true, if_false, Bool.false_eq_true, Int.lt_irrefl, implies_true, true_and, and_true, eq_self, and_self, beq_self_eq_true, aw_plan (id := 8) plO14_205_8, plO14_205_8, aw_drawn (id := 11), aw_drawn' (id := 11), aw_drawn (id := 16), aw_drawn' (id := 16), aw_drawn (id := 20), aw_drawn' (id := 20), hls, c0, e1, pa, Nat.add_zero, l0, l1, gO, ixr, gr, lo, hg2, ai, li, si, dop, ix2, gop, dbe, ix1, gwe, Bool.not_true]
    exact IJ_intro (k := mes (outE E) E.length (st0 ++ [(t, g + 1)]) s) (by omega) ((ssl, lsl), (st0 ++ [(t, g + 1)], s)) rfl ⟨rfl, di5, ct⟩
theorem p205 {l : RW} (h : LimW l) (hs : SmW l) : PC Tryz.prog 11 [Wv l] (ordR l (.int .i64 0) (.int .i64 1)) := (p205n h hs).pc (pu_ordR rfl rfl)
end Go.Abs
