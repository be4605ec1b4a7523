/- Joined: V10, V11. -/
import Derived.Test.YtfadclnaahanmaaVb
/- Rows of quotients: sameness, sizes, tables times rows. -/
set_option linter.unusedVariables false
set_option linter.unusedSimpArgs false
namespace Go.Abs
open Go Go.Proofs
set_option maxRecDepth 100000
set_option maxHeartbeats 4000000

def plV10_84_2 : Plan := ⟨[0], [(1, [], [2, 3, 4]), (5, [4], []), (6, [], [7, 8])]⟩
def plV10_89_6 : Plan := ⟨[0, 1, 2, 3, 4, 5, 6, 7], [(8, [], [9])]⟩
def plV10_97_6 : Plan := ⟨[0, 1, 2, 3, 4, 5, 6, 7], [(8, [], [9])]⟩
theorem PK.peek {P : Program} {g : FuncId} {ps us : List Value} {q : Value → Prop} {H : Heap} {K : Value → Heap → Prop} (h : PK P g ps q) (hr : ∀ r, q r → ground r = true) (ha : FzRels P H ps us) (k : ∀ r, q r → K r H) : ACalls P g us H K :=
  (h.look hr ha).mono fun v H' ⟨h1, h2⟩ => by rw [h2]; exact k v h1
theorem getD_eq {α : Type} {l : List α} {i : Nat} {d : α} (h : i < l.length) : l.getD i d = l[i] := by
  rw [List.getD_eq_getElem?_getD, List.getElem?_eq_getElem h]; rfl

/-! ### sameness -/
def sameV (a b : List RQ) : Bool := decide (a.length = b.length) && (List.range a.length).all fun i => decide (ev a i = ev b i)
theorem sameV_of {a b : List RQ} (h : a.length = b.length) (k : ∀ i, i < a.length → ev a i = ev b i) : sameV a b = true := by
  unfold sameV
  simp only [h, decide_true, Bool.true_and, List.all_eq_true, List.mem_range, decide_eq_true_eq]
  intro i hi; exact k i (by omega)
/-! ### sizes -/
def rwi (m : List (List RQ)) (i : Nat) : List RQ := m.getD i []
def cnt (m : List (List RQ)) : Nat → Nat
  | 0 => 0
  | i + 1 => cnt m i + 1 + min (rwi m i).length 201
def Gd (m : List (List RQ)) : Prop := m.length ≤ 200 ∧ ∀ j, j < m.length → (rwi m j).length ≤ 200 ∧ (rwi m j).any gq = false
theorem pu_Rs {m : List (List RQ)} : Pu (Vv eR m) := .fz (Pus.flat fun _ _ => .cons pu_Qs .nil)
theorem ACalls.frz1 {P : Program} {g : FuncId} {H : Heap} {K : Value → Heap → Prop} {b n c es : Nat} {own : Bool} {el : TypeId} {cells : List Value} (hg : H.get b = some (.row own el cells)) (hc : c = unk ∨ n ≤ c) (he : 0 < es) (hl : n * es ≤ cells.length) {ps : List Value}
    (h : ACalls P g (fzv n (cells.take (n * es)) :: ps) ((H.kill b).bump (H.next + 1)) K) : ACalls P g (.slice (some ⟨b, 0, none⟩) n c :: ps) H K :=
  ACalls.gh (Gh.head (Gh.slice hg hc he hl)) h
/-! ### tables times rows -/
theorem c175 {H : Heap} {r x : List RQ} (hr : Rw r) (hx : Rw x) : ACalls Try.prog 75 [Vv eQ r, fpv [Vv eQ x]] H fun v H' => v = (if r.length = x.length then .tuple ⟨[Qn (dotV r x), .int .i64 0]⟩ else .tuple ⟨[R4 false [] false [], .int .i64 1]⟩) ∧ Hle H H' := by
  refine ACalls.of_code T.hm (n := 8) Try.func75 rfl rfl rfl rfl ?_; simp only [List.replicate_succ, List.replicate_zero, List.cons_append, List.nil_append]
  simp (maxSteps := 1000000) (disch := first | exact sd | fail) only [go_sem, Nat.reduceAdd, Nat.reduceSub, Nat.reduceLeDiff, ↓reduceIte, decide_eq_true_eq, if_true, if_false, Bool.false_eq_true, Int.lt_irrefl, implies_true, true_and, and_true, eq_self, and_self, beq_self_eq_true]
  by_cases h : r.length = x.length
  · rw [if_pos h]
    refine PC.step (p85 hr hx h) fun m1 j1 => ?_
    try simp only [Heap.next_push, Heap.next_set, Heap.next_kill, next_bump, next_E0] at j1
    simp (maxSteps := 1000000) (disch := first | exact sd | fail) only [go_sem, Nat.reduceAdd, Nat.reduceSub, Nat.reduceLeDiff, ↓reduceIte, decide_eq_true_eq, if_true, if_false, Bool.false_eq_true, Int.lt_irrefl, implies_true, true_and, and_true, eq_self, and_self, beq_self_eq_true]
    exact Hle.set (Hle.bump (Hle.push0 _) j1) (Nat.le_refl _) _
  · rw [if_neg h]
    refine PC.step (p85x h) fun m1 j1 => ?_
    try simp only [Heap.next_push, Heap.next_set, Heap.next_kill, next_bump, next_E0] at j1
    simp (maxSteps := 1000000) (disch := first | exact sd | fail) only [go_sem, Nat.reduceAdd, Nat.reduceSub, Nat.reduceLeDiff, ↓reduceIte, decide_eq_true_eq, if_true, if_false, Bool.false_eq_true, Int.lt_irrefl, implies_true, true_and, and_true, eq_self, and_self, beq_self_eq_true]
    exact Hle.set (Hle.bump (Hle.push0 _) j1) (Nat.le_refl _) _
end Go.Abs

/- Tables times rows. -/
set_option linter.unusedVariables false
set_option linter.unusedSimpArgs false
namespace Go.Abs
open Go Go.Proofs
set_option maxRecDepth 100000
set_option maxHeartbeats 4000000

theorem VO.mono {α : Type} {E : En α} {P : Program} {H0 H H' : Heap} {el : TypeId} {sl : Value} {l : List α} (h : VO P E el H0 H sl l) (hle : Hle H H') : VO P E el H0 H' sl l := Ow.mono h hle
def okT (m : List (List RQ)) (n : Nat) : Prop := ∀ j, j < m.length → (rwi m j).length = n
theorem s175 {H : Heap} {r x : List RQ} (hr : Rw r) (hx : Rw x) (h : r.length = x.length) : ACalls Try.prog 75 [Vv eQ r, fpv [Vv eQ x]] H fun v H' => v = .tuple ⟨[Qn (dotV r x), .int .i64 0]⟩ ∧ Hle H H' :=
  (c175 hr hx).mono fun v H' k => by rw [if_pos h] at k; exact k
theorem s175x {H : Heap} {r x : List RQ} (hr : Rw r) (hx : Rw x) (h : ¬ r.length = x.length) : ACalls Try.prog 75 [Vv eQ r, fpv [Vv eQ x]] H fun v H' => v = .tuple ⟨[R4 false [] false [], .int .i64 1]⟩ ∧ Hle H H' :=
  (c175 hr hx).mono fun v H' k => by rw [if_neg h] at k; exact k
theorem c174 {H : Heap} {m : List (List RQ)} {x : List RQ} (hm : m.length ≤ 2 ^ 16) (hr : ∀ j, Rw (rwi m j)) (hx : Rw x) : ACalls Try.prog 74 [Vv eR m, .func (.func 75) ⟨[]⟩ ⟨[fpv [Vv eQ x]]⟩] H fun v H' => Hle H H' ∧ ((okT m x.length ∧ ∃ sl, v = .tuple ⟨[sl, .int .i64 0]⟩ ∧ QO H H' sl (tab m.length fun i => dotV (rwi m i) x)) ∨ (¬ okT m x.length ∧ v = .tuple ⟨[.slice none 0 0, .int .i64 1]⟩)) := by
  refine ACalls.of_code T.hm (n := 30) Try.func74 rfl rfl rfl rfl ?_; simp only [List.replicate_succ, List.replicate_zero, List.cons_append, List.nil_append]
  simp (maxSteps := 1000000) (disch := first | exact sd | fail) only [go_sem, Nat.reduceAdd, Nat.reduceSub, Nat.reduceLeDiff, ↓reduceIte, decide_eq_true_eq, if_true, if_false, Bool.false_eq_true, Int.lt_irrefl, implies_true, true_and, and_true, eq_self, and_self, beq_self_eq_true]
  refine aw_loopJ (σ := Nat × Value) (fun s J => [Vv eR m, .func (.func 75) ⟨[]⟩ ⟨[fpv [Vv eQ x]]⟩, J 2, J 3, .slice none 0 0, .int .i64 0, s.2, J 7, J 8, J 9, J 10, Vv eR m, .int .i64 m.length, .int .i64 s.1, J 14, J 15, J 16, J 17, J 18, J 19, J 20, J 21, J 22, J 23, J 24, J 25, J 26, J 27, J 28, J 29, J 30, J 31]) (fun i s H1 => i = m.length - s.1 ∧ s.1 ≤ m.length ∧ Hle H H1 ∧ (∀ j, j < s.1 → (rwi m j).length = x.length) ∧ QO H H1 s.2 (tab s.1 fun i => dotV (rwi m i) x)) m.length (0, .slice none 0 0) rfl ⟨rfl, Nat.zero_le _, Hle.rfl, (fun j hj => by omega), VO.nil⟩ ?_
  rintro i ⟨k, sl⟩ J H1 ⟨rfl, hk, hle, hall, ho⟩
  simp only at hk ho hall
  by_cases h4 : (k : Int) < m.length
  · have hrk := hr k
    by_cases h5 : (rwi m k).length = x.length
    · simp (maxSteps := 1000000) (disch := first | exact sd | fail) only [go_sem, Nat.reduceAdd, Nat.reduceSub, Nat.reduceLeDiff, ↓reduceIte, decide_eq_true_eq, if_true, if_false, Bool.false_eq_true, Int.lt_irrefl, implies_true, true_and, and_true, eq_self, and_self, beq_self_eq_true, h4, Int.toNat_natCast, show m.getD k [] = rwi m k from rfl]
      refine (s175 hrk hx h5).mono ?_
      rintro _ H2 ⟨rfl, hle2⟩
      have et := tab_succ (n := k) (f := fun i => dotV (rwi m i) x)
      generalize dotV (rwi m k) x = z at *
      have hle3 : Hle H1 ((H2.push (.row true 47 [.bool false, .slice none 0 0, .bool false, .slice none 0 0])).set H2.next (.row true 47 [.bool (sgn z.num), Vv eU (lmb z.num), .bool (sgn z.den), Vv eU (lmb z.den)])) := Hle.trans hle2 (Hle.set (Hle.push0 _) (Nat.le_refl _) _)
      obtain ⟨v, H4, ea, oa, qa, na⟩ := QO.append1 (ho.mono hle3) (Hle.trans hle hle3) z (by rw [tab_len]; omega)
      simp only [Heap.next_set, Heap.next_push] at ea
      simp (maxSteps := 1000000) (disch := first | exact sd | fail) only [go_sem, Nat.reduceAdd, Nat.reduceSub, Nat.reduceLeDiff, ↓reduceIte, decide_eq_true_eq, if_true, if_false, Bool.false_eq_true, Int.lt_irrefl, implies_true, true_and, and_true, eq_self, and_self, beq_self_eq_true, ea, ne_eq, not_true_eq_false]
      refine IJ_intro (k := m.length - (k + 1)) (by omega) (k + 1, v) rfl ⟨rfl, by dsimp only; omega, qa, fun j hj => ?_, by rw [et]; exact oa⟩
      dsimp only at hj
      rcases Nat.lt_or_ge j k with h6 | h6
      · exact hall j h6
      · have : j = k := by omega
        subst this; exact h5
    · simp (maxSteps := 1000000) (disch := first | exact sd | fail) only [go_sem, Nat.reduceAdd, Nat.reduceSub, Nat.reduceLeDiff, ↓reduceIte, decide_eq_true_eq, if_true, if_false, Bool.false_eq_true, Int.lt_irrefl, implies_true, true_and, and_true, eq_self, and_self, beq_self_eq_true, h4, Int.toNat_natCast, show m.getD k [] = rwi m k from rfl]
      refine (s175x hrk hx h5).mono ?_
      rintro _ H2 ⟨rfl, hle2⟩
      simp (maxSteps := 1000000) (disch := first | exact sd | fail) only [go_sem, Nat.reduceAdd, Nat.reduceSub, Nat.reduceLeDiff, ↓reduceIte, decide_eq_true_eq, if_true, if_false, Bool.false_eq_true, Int.lt_irrefl, implies_true, true_and, and_true, eq_self, and_self, beq_self_eq_true, ne_eq, not_false_eq_true]
      exact ⟨Hle.trans hle (Hle.trans hle2 (Hle.set (Hle.push0 _) (Nat.le_refl _) _)), .inr fun h => h5 (h k (by omega))⟩
  · have e : k = m.length := by omega
    subst e
    simp (maxSteps := 1000000) (disch := first | exact sd | fail) only [go_sem, Nat.reduceAdd, Nat.reduceSub, Nat.reduceLeDiff, ↓reduceIte, decide_eq_true_eq, if_true, if_false, Bool.false_eq_true, Int.lt_irrefl, implies_true, true_and, and_true, eq_self, and_self, beq_self_eq_true, h4]
    exact ⟨hle, .inl ⟨hall, sl, rfl, ho⟩⟩
def timesV (m : List (List RQ)) (x : List RQ) : List RQ := tab m.length fun i => dotV (rwi m i) x
theorem p92 {m : List (List RQ)} {x : List RQ} (hm : m.length ≤ 2 ^ 16) (hr : ∀ j, Rw (rwi m j)) (hx : Rw x) (h : okT m x.length) : PC Try.prog 35 [Vv eR m, Vv eQ x] (.tuple ⟨[Vv eQ (timesV m x), .int .i64 0]⟩) := by
  refine PC.of (.cons pu_Rs (.cons pu_Qs .nil)) (pu_t pu_Qs) fun N hN => ?_
  refine ACalls.of_code T.hm (n := 9) Try.func35 rfl rfl rfl rfl ?_; simp only [List.replicate_succ, List.replicate_zero, List.cons_append, List.nil_append]
  simp (maxSteps := 1000000) (disch := first | exact sd | fail) only [go_sem, Nat.reduceAdd, Nat.reduceSub, Nat.reduceLeDiff, ↓reduceIte, decide_eq_true_eq, if_true, if_false, Bool.false_eq_true, Int.lt_irrefl, implies_true, true_and, and_true, eq_self, and_self, beq_self_eq_true]
  refine ACalls.frzFn (ps := [_]) (cells := [Vv eQ x]) (own := true) (el := 45) (by simp (maxSteps := 1000000) (disch := first | exact sd | fail) only [go_sem, Nat.reduceAdd, Nat.reduceSub, Nat.reduceLeDiff, ↓reduceIte, decide_eq_true_eq, if_true, if_false, Bool.false_eq_true, Int.lt_irrefl, implies_true, true_and, and_true, eq_self, and_self, beq_self_eq_true]; rfl) (by simp) ?_
  refine (c174 hm hr hx).mono ?_
  rintro v H2 ⟨hle, ⟨hk, sl, rfl, ho⟩ | ⟨hk, rfl⟩⟩
  · simp (maxSteps := 1000000) (disch := first | exact sd | fail) only [go_sem, Nat.reduceAdd, Nat.reduceSub, Nat.reduceLeDiff, ↓reduceIte, decide_eq_true_eq, if_true, if_false, Bool.false_eq_true, Int.lt_irrefl, implies_true, true_and, and_true, eq_self, and_self, beq_self_eq_true]
    exact ho.done
  · exact absurd h hk
theorem p92x {m : List (List RQ)} {x : List RQ} (hm : m.length ≤ 2 ^ 16) (hr : ∀ j, Rw (rwi m j)) (hx : Rw x) (h : ¬ okT m x.length) : PC Try.prog 35 [Vv eR m, Vv eQ x] (.tuple ⟨[Vv eQ [], .int .i64 1]⟩) := by
  refine PC.of (.cons pu_Rs (.cons pu_Qs .nil)) (pu_t pu_Qs) fun N hN => ?_
  refine ACalls.of_code T.hm (n := 9) Try.func35 rfl rfl rfl rfl ?_; simp only [List.replicate_succ, List.replicate_zero, List.cons_append, List.nil_append]
  simp (maxSteps := 1000000) (disch := first | exact sd | fail) only [go_sem, Nat.reduceAdd, Nat.reduceSub, Nat.reduceLeDiff, ↓reduceIte, decide_eq_true_eq, if_true, if_false, Bool.false_eq_true, Int.lt_irrefl, implies_true, true_and, and_true, eq_self, and_self, beq_self_eq_true]
  refine ACalls.frzFn (ps := [_]) (cells := [Vv eQ x]) (own := true) (el := 45) (by simp (maxSteps := 1000000) (disch := first | exact sd | fail) only [go_sem, Nat.reduceAdd, Nat.reduceSub, Nat.reduceLeDiff, ↓reduceIte, decide_eq_true_eq, if_true, if_false, Bool.false_eq_true, Int.lt_irrefl, implies_true, true_and, and_true, eq_self, and_self, beq_self_eq_true]; rfl) (by simp) ?_
  refine (c174 hm hr hx).mono ?_
  rintro v H2 ⟨hle, ⟨hk, sl, rfl, ho⟩ | ⟨hk, rfl⟩⟩
  · exact absurd hk h
  · simp (maxSteps := 1000000) (disch := first | exact sd | fail) only [go_sem, Nat.reduceAdd, Nat.reduceSub, Nat.reduceLeDiff, ↓reduceIte, decide_eq_true_eq, if_true, if_false, Bool.false_eq_true, Int.lt_irrefl, implies_true, true_and, and_true, eq_self, and_self, beq_self_eq_true]
    exact fz_nilt
end Go.Abs
