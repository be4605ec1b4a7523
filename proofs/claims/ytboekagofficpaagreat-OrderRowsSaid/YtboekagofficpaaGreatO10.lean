/- Own slices of ints, of places; turned round. -/
import Derived.Test.YtboekagofficpaaGreatO9
import Derived.Test.YtboekagofficpaaGreatYa
set_option linter.unusedVariables false
set_option linter.unusedSimpArgs false
namespace Go.Abs
open Go Go.Proofs
set_option maxRecDepth 100000
set_option maxHeartbeats 4000000
def plO10_233_3 : Plan := ⟨[0, 1, 2, 3, 4, 5, 6, 7, 8, 9, 10, 11, 12], [(13, [], [14]), (15, [], [])]⟩
theorem s_nilCheck {P : Program} {e : Env} {H : Heap} {K : Value → Heap → Prop} {d : Option Tmp} {ty : TypeId} {ps : String} {af : Array Edge} {gd : Option (Nat × Bool)} {x : Operand} : aStep P e H ⟨d, .nilCheck x, ty, ps, af, gd⟩ K = ob (e x) fun a => ob (aNilCheck a) fun v => K v H := by
  show ob (aPure P e _) _ = _
  simp only [aPure]
  cases e x <;> rfl
theorem nil_ptr {a : Addr} : aNilCheck (.pointer (some a)) = some (.pointer (some a)) := _root_.id rfl
attribute [go_sem] s_nilCheck nil_ptr
theorem VO.blkU {α : Type} {E : En α} {P : Program} {H0 H : Heap} {el : TypeId} {sl : Value} {l : List α} (h : VO P E el H0 H sl l) : sblk sl = 0 ∨ H0.next ≤ sblk sl := by
  unfold VO at h
  generalize l.length = n at h
  generalize l.flatMap E.enc = cs at h
  cases h with
  | nil => exact .inl rfl
  | row _ hb0 _ _ _ => exact .inr hb0
abbrev NO (H0 H : Heap) (sl : Value) (l : List Int) : Prop := VO Tryz.prog eN 3 H0 H sl l
theorem eN_flat (l : List Int) : l.flatMap eN.enc = l.map (.int .i64) := by
  induction l with
  | nil => rfl
  | cons a l ih => rw [List.flatMap_cons, List.map_cons, ih]; rfl
section
variable {H0 H : Heap} {sl : Value} {l : List Int}
theorem NO.s (h : NO H0 H sl l) : Sl Tryz.prog H 1 sl l.length (l.map (.int .i64)) := by
  have h2 : Ow Tryz.prog H0 H 1 3 sl l.length (l.map (.int .i64)) := by rw [← eN_flat]; exact h
  exact Ow.toSl h2 T.s3
theorem NO.addr (h : NO H0 H sl l) {k : IntKind} {i : Int} (h0 : 0 ≤ i) (h1 : i < l.length) : aIndexAddr Tryz.prog 30 sl (.int k i) = some (.pointer (some (sadr sl i.toNat))) := by
  have := Sl.addr h.s Tryz.underlying30 T.s3 T.z3 (k := k) h0 h1
  rwa [Nat.mul_one] at this
theorem NO.load (h : NO H0 H sl l) {o : Nat} (ho : o < l.length) : aLoad Tryz.prog H 3 (.pointer (some (sadr sl o))) = some (.int .i64 (l.getD o 0)) := by
  rw [Sl.load h.s T.r3 (by simpa using ho), List.getElem?_map, List.getElem?_eq_getElem ho]
  simp [List.getD_eq_getElem?_getD, List.getElem?_eq_getElem ho]
theorem NO.store (h : NO H0 H sl l) {o : Nat} {x : Int} (ho : o < l.length) :
    aStore Tryz.prog H 3 (.pointer (some (sadr sl o))) (.int .i64 x) = some (wr H sl o (.int .i64 x)) ∧ NO H0 (wr H sl o (.int .i64 x)) sl (l.set o x) := by
  have h2 : Ow Tryz.prog H0 H 1 3 sl l.length (l.map (.int .i64)) := by rw [← eN_flat]; exact h
  refine ⟨Ow.store h2 T.z3 T.s3 rfl rfl (by simpa using ho), ?_⟩
  have := Ow.wr h2 (v := .int .i64 x) (o := o) (by simpa using ho)
  show Ow Tryz.prog H0 _ 1 3 sl (l.set o x).length ((l.set o x).flatMap eN.enc)
  rw [eN_flat, List.length_set, List.map_set]
  exact this
theorem NO.hle (h : NO H0 H sl l) (hle : Hle H0 H) {o : Nat} {v : Value} (ho : o < l.length) : Hle H0 (wr H sl o v) := by
  have h2 : Ow Tryz.prog H0 H 1 3 sl l.length (l.map (.int .i64)) := by rw [← eN_flat]; exact h
  exact hle.wr (Ow.blk h2 (by omega)).1 _ _
theorem NO.append1 (h : NO H0 H sl l) (hle : H0.next ≤ H.next) (x : Int) (hs : l.length ≤ 2 ^ 36) :
    ∃ v H', aAppend Tryz.prog (H.push (.row true 3 [.int .i64 x])) #[30, 30] sl (.slice (some ⟨H.next, 0, none⟩) 1 1) = some (v, H') ∧ NO H0 H' v (l ++ [x]) ∧ (∀ b, b < H.next → b ≠ sblk sl → H'.get b = H.get b) ∧ H.next + 1 ≤ H'.next ∧ (sblk v = sblk sl ∨ sblk v = H.next + 1) :=
  VO.appendFU h hle [x] rfl Tryz.underlying30 (info_of_type Tryz.type3) (z := .int .i64 0) rfl rfl T.s3 Nat.one_pos T.o191 (fun a _ => rfl) (by omega) (by show _ * 8 ≤ _; omega)
end
theorem c233 {H0 H : Heap} {sl : Value} {l : List Int} (h : NO H0 H sl l) (hle : Hle H0 H) (hl : l.length ≤ 2 ^ 45) :
    ACalls Tryz.prog 23 [sl] H fun r H' => r = .tuple ⟨[]⟩ ∧ NO H0 H' sl l.reverse ∧ Hle H0 H' := by
  refine ACalls.of_code T.hm (n := 27) Tryz.func23 rfl rfl rfl rfl ?_; simp only [List.replicate_succ, List.replicate_zero, List.cons_append, List.nil_append]
  simp (maxSteps := 1000000) (disch := first | exact sd | fail) only [go_sem, Nat.reduceAdd, Nat.reduceSub, Nat.reduceLeDiff, ↓reduceIte, decide_eq_true_eq, if_true, if_false, Bool.false_eq_true, Int.lt_irrefl, implies_true, true_and, and_true, eq_self, and_self, beq_self_eq_true, aw_plan (id := 3) plO10_233_3, plO10_233_3, h.len T.s3 T.i191]
  refine aw_loopJ (σ := Nat × Int) (fun s J => [sl, J 1, .int .i64 s.1, .int .i64 s.2, J 4, J 5, J 6, J 7, J 8, J 9, J 10, J 11, J 12, J 13, J 14, J 15, J 16, J 17, J 18, J 19, J 20, J 21, J 22, J 23, J 24, J 25, J 26, J 27]) (fun m s H1 => m = l.length - s.1 ∧ s.1 ≤ l.length ∧ s.2 = (l.length : Int) - 1 - s.1 ∧ Hle H0 H1 ∧ NO H0 H1 sl (rv l s.1)) l.length (0, (l.length : Int) - 1) rfl ⟨rfl, Nat.zero_le _, by simp, hle, by rw [rv_zero]; exact h⟩ ?_
  rintro m ⟨s, j⟩ J H1 ⟨rfl, hs, hj, hle, ho⟩
  simp only at hs hj ho
  subst hj
  by_cases h4 : (s : Int) < (l.length : Int) - 1 - s
  · have hn := rv_len l s
    have k1 : (0 : Int) ≤ (s : Int) := by omega
    have k2 : (0 : Int) ≤ (l.length : Int) - 1 - s := by omega
    have a1 := ho.addr (k := .i64) (i := (s : Int)) k1 (by omega)
    have a2 := ho.addr (k := .i64) (i := (l.length : Int) - 1 - s) k2 (by omega)
    have e1 : ((s : Int)).toNat = s := by omega
    have e2 : ((l.length : Int) - 1 - s).toNat = l.length - 1 - s := by omega
    rw [e1] at a1
    rw [e2] at a2
    have g1 := ho.load (o := s) (by omega)
    have g2 := ho.load (o := l.length - 1 - s) (by omega)
    obtain ⟨s1, o1⟩ := ho.store (o := s) (x := (rv l s).getD (l.length - 1 - s) 0) (by omega)
    have q1 := ho.hle hle (o := s) (v := .int .i64 ((rv l s).getD (l.length - 1 - s) 0)) (by omega)
    obtain ⟨s2, o2⟩ := o1.store (o := l.length - 1 - s) (x := (rv l s).getD s 0) (by rw [List.length_set]; omega)
    have q2 := o1.hle q1 (o := l.length - 1 - s) (v := .int .i64 ((rv l s).getD s 0)) (by rw [List.length_set]; omega)
    rw [rv_step (by omega)] at o2
    simp (maxSteps := 1000000) (disch := first | exact sd | fail) only [go_sem, Nat.reduceAdd, Nat.reduceSub, Nat.reduceLeDiff, ↓reduceIte, decide_eq_true_eq, if_true, if_false, Bool.false_eq_true, Int.lt_irrefl, implies_true, true_and, and_true, eq_self, and_self, beq_self_eq_true, aw_plan (id := 3) plO10_233_3, plO10_233_3, h4, a1, a2, g1, g2, s1, s2]
    exact IJ_intro (k := l.length - (s + 1)) (by omega) (s + 1, (l.length : Int) - 1 - s - 1) rfl ⟨rfl, by dsimp only; omega, by dsimp only; omega, q2, o2⟩
  · rw [rv_end (by omega)] at ho
    simp (maxSteps := 1000000) (disch := first | exact sd | fail) only [go_sem, Nat.reduceAdd, Nat.reduceSub, Nat.reduceLeDiff, ↓reduceIte, decide_eq_true_eq, if_true, if_false, Bool.false_eq_true, Int.lt_irrefl, implies_true, true_and, and_true, eq_self, and_self, beq_self_eq_true, aw_plan (id := 3) plO10_233_3, plO10_233_3, h4]
    exact ⟨ho, hle⟩
/-! ### rows of ints, of truths -/
theorem sp_int {l : List Int} {i : Nat} {x : Int} (h : i < l.length) : splice (l.map (.int .i64)) i [.int .i64 x] = (l.set i x).map (.int .i64) := by
  rw [splice_eq _ _ _ (by simp; omega), List.map_set, List.set_eq_take_append_cons_drop, if_pos (by simpa using h), List.append_assoc]
  rfl
theorem sp_bool {l : List Bool} {i : Nat} {x : Bool} (h : i < l.length) : splice (l.map .bool) i [.bool x] = (l.set i x).map .bool := by
  rw [splice_eq _ _ _ (by simp; omega), List.map_set, List.set_eq_take_append_cons_drop, if_pos (by simpa using h), List.append_assoc]
  rfl
theorem gt_int {l : List Int} {i : Nat} (h : i < l.length) : (l.map (Value.int .i64))[i]? = some (.int .i64 (l.getD i 0)) := by
  rw [List.getElem?_map, List.getElem?_eq_getElem h, List.getD_eq_getElem?_getD, List.getElem?_eq_getElem h]; rfl
theorem gt_bool {l : List Bool} {i : Nat} (h : i < l.length) : (l.map Value.bool)[i]? = some (.bool (l.getD i false)) := by
  rw [List.getElem?_map, List.getElem?_eq_getElem h, List.getD_eq_getElem?_getD, List.getElem?_eq_getElem h]; rfl
theorem ix_int {b n i : Nat} (h : i < n) : aIndexAddr Tryz.prog 30 (.slice (some ⟨b, 0, none⟩) n n) (.int .i64 (i : Int)) = some (.pointer (some ⟨b, i, none⟩)) := by
  have := ix_ownU (P := Tryz.prog) (b := b) (off := 0) (n := n) (c := n) (k := .i64) (i := (i : Int)) Tryz.underlying30 T.z3 T.s3 (by omega) (by omega)
  simpa using this
theorem ix_bool {b n i : Nat} (h : i < n) : aIndexAddr Tryz.prog 31 (.slice (some ⟨b, 0, none⟩) n n) (.int .i64 (i : Int)) = some (.pointer (some ⟨b, i, none⟩)) := by
  have := ix_ownU (P := Tryz.prog) (b := b) (off := 0) (n := n) (c := n) (k := .i64) (i := (i : Int)) Tryz.underlying31 T.z4 T.s4 (by omega) (by omega)
  simpa using this
end Go.Abs
