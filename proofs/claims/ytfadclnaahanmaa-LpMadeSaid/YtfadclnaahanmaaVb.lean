/- Joined: V7, V8, V9. -/
import Derived.Test.YtfadclnaahanmaaV6
import Derived.Test.YtfadclnaahanmaaY1
/- Rows of quotients: sums, sizes. -/
set_option linter.unusedVariables false
set_option linter.unusedSimpArgs false
namespace Go.Abs
open Go Go.Proofs
set_option maxRecDepth 100000
set_option maxHeartbeats 4000000

/-! ### plainly -/
def pl85_7 : Plan := ⟨[0, 1, 2, 3, 4, 5, 6, 7, 8], [(9, [0], []), (10, [], []), (11, [], [])]⟩
def vq (a : RQ) : Rat := dq a.p.neg a.p.l a.q.neg a.q.l
def rq (x : Rat) : RQ := ⟨⟨sgn x.num, lmb x.num⟩, ⟨sgn x.den, lmb x.den⟩⟩
theorem vq_rq (x : Rat) : vq (rq x) = x := dq_q x
theorem vq_d : vq eQ.d = 0 := dq_nought
def sumI : Nat → (Nat → Rat) → Rat
  | 0, _ => 0
  | n + 1, f => sumI n f + f n
theorem sumI_congr {f g : Nat → Rat} : ∀ {n : Nat}, (∀ i, i < n → f i = g i) → sumI n f = sumI n g
  | 0, _ => rfl
  | n + 1, h => by rw [sumI, sumI, sumI_congr fun i hi => h i (by omega), h n (by omega)]
theorem sumI_add {f g : Nat → Rat} : ∀ {n : Nat}, sumI n (fun i => f i + g i) = sumI n f + sumI n g
  | 0 => (Rat.zero_add 0).symm
  | n + 1 => by rw [sumI, sumI, sumI, sumI_add]; grind
theorem sumI_mul {f : Nat → Rat} {t : Rat} : ∀ {n : Nat}, sumI n (fun i => t * f i) = t * sumI n f
  | 0 => (Rat.mul_zero t).symm
  | n + 1 => by rw [sumI, sumI, sumI_mul]; grind
theorem sumI_mulr {f : Nat → Rat} {t : Rat} {n : Nat} : sumI n (fun i => f i * t) = sumI n f * t := by
  rw [Rat.mul_comm _ t, ← sumI_mul]
  exact sumI_congr fun i _ => Rat.mul_comm _ _
theorem sumI_zero : ∀ {n : Nat}, sumI n (fun _ => 0) = 0
  | 0 => rfl
  | n + 1 => by rw [sumI, sumI_zero, Rat.add_zero]
theorem sumI_swap {f : Nat → Nat → Rat} {n : Nat} : ∀ {m : Nat}, sumI n (fun i => sumI m (f i)) = sumI m fun j => sumI n fun i => f i j
  | 0 => sumI_zero
  | m + 1 => by simp only [sumI]; rw [sumI_add, sumI_swap]
theorem sumI_one {f : Nat → Rat} {k : Nat} : ∀ {n : Nat}, k < n → (∀ i, i < n → i ≠ k → f i = 0) → sumI n f = f k
  | 0, h, _ => by omega
  | n + 1, h, h0 => by
    rw [sumI]
    by_cases e : k = n
    · subst e
      rw [sumI_congr (g := fun _ => 0) (fun i hi => h0 i (by omega) (by omega)), sumI_zero, Rat.zero_add]
    · rw [sumI_one (by omega) (fun i hi => h0 i (by omega)), h0 n (by omega) (by omega), Rat.add_zero]
theorem lq_sumI {f : Nat → Rat} {B : Nat} : ∀ {n : Nat}, (∀ i, i < n → lq (f i) ≤ B) → lq (sumI n f) ≤ n * (B + 1) + 1
  | 0, _ => by rw [sumI, lq_zero]; omega
  | n + 1, h => by
    have h1 := lq_sumI (n := n) fun i hi => h i (by omega)
    have h2 := h n (by omega)
    have h3 := lq_add (sumI n f) (f n)
    rw [sumI, Nat.succ_mul]
    omega
def ev (l : List RQ) (i : Nat) : Rat := vq (l.getD i eQ.d)
theorem ev_lt {l : List RQ} {i : Nat} (h : i < l.length) : ev l i = vq l[i] := by
  unfold ev; rw [List.getD_eq_getElem?_getD, List.getElem?_eq_getElem h]; rfl
theorem ev_ge {l : List RQ} {i : Nat} (h : l.length ≤ i) : ev l i = 0 := by
  unfold ev; rw [List.getD_eq_getElem?_getD, List.getElem?_eq_none h]; exact vq_d
def dotV (a b : List RQ) : Rat := sumI a.length fun i => ev a i * ev b i
def tab (n : Nat) (f : Nat → Rat) : List RQ := (List.range n).map fun i => rq (f i)
theorem tab_len {n : Nat} {f : Nat → Rat} : (tab n f).length = n := by simp [tab]
theorem tab_succ {n : Nat} {f : Nat → Rat} : tab (n + 1) f = tab n f ++ [rq (f n)] := by simp [tab, List.range_succ]
theorem ev_tab {n i : Nat} {f : Nat → Rat} (h : i < n) : ev (tab n f) i = f i := by
  rw [ev_lt (by rw [tab_len]; exact h)]; simp [tab, vq_rq]
theorem tab_congr {n : Nat} {f g : Nat → Rat} (h : ∀ i, i < n → f i = g i) : tab n f = tab n g := by
  unfold tab
  exact List.map_congr_left fun i hi => by rw [h i (List.mem_range.1 hi)]
def plusV (a : List RQ) (t : Rat) (b : List RQ) : List RQ := tab a.length fun i => ev a i + t * ev b i
def Rz (a : RQ) : Prop := Lim a.p.l ∧ Lim a.q.l ∧ a.p.l.length ≤ 2 ^ 16 ∧ a.q.l.length ≤ 2 ^ 16
def Rw (l : List RQ) : Prop := l.length ≤ 2 ^ 16 ∧ ∀ a ∈ l, Rz a
theorem Rz.d : Rz eQ.d := ⟨Lim.nil, Lim.nil, by decide, by decide⟩
theorem Rw.getD {l : List RQ} (h : Rw l) (i : Nat) : Rz (l.getD i eQ.d) := by
  rcases Nat.lt_or_ge i l.length with hi | hi
  · rw [List.getD_eq_getElem?_getD, List.getElem?_eq_getElem hi]; exact h.2 _ (List.getElem_mem hi)
  · rw [List.getD_eq_getElem?_getD, List.getElem?_eq_none hi]; exact Rz.d
theorem Rz.lp {a : RQ} (h : Rz a) : Lr a.p.l := ⟨h.1, by have := h.2.2.1; omega⟩
theorem Rz.lq' {a : RQ} (h : Rz a) : Lr a.q.l := ⟨h.2.1, by have := h.2.2.2; omega⟩
theorem Rz.le {a : RQ} (h : Rz a) : lq (vq a) ≤ 2 ^ 16 := by
  have := lq_dq (pn := a.p.neg) (qn := a.q.neg) h.1 h.2.1; have := h.2.2; unfold vq; omega
theorem Rw.le {l : List RQ} (h : Rw l) (i : Nat) : lq (ev l i) ≤ 2 ^ 16 := (h.getD i).le
theorem Rz.rq {x : Rat} (h : lq x ≤ 2 ^ 16) : Rz (rq x) := by
  have h1 := lq_num x
  have h2 := lq_den x
  exact ⟨lim_z _, lim_z _, by show ln x.num ≤ _; omega, by show ln (x.den : Int) ≤ _; omega⟩
theorem Rw.tab {n : Nat} {f : Nat → Rat} (hn : n ≤ 2 ^ 16) (h : ∀ i, i < n → lq (f i) ≤ 2 ^ 16) : Rw (tab n f) :=
  ⟨by rw [tab_len]; exact hn, fun a ha => by
    unfold Abs.tab at ha
    obtain ⟨i, hi, rfl⟩ := List.mem_map.1 ha
    exact Rz.rq (h i (List.mem_range.1 hi))⟩
theorem lq_dotP {a b : List RQ} (ha : Rw a) (hb : Rw b) {k : Nat} (hk : k ≤ 2 ^ 16) : lq (sumI k fun i => ev a i * ev b i) ≤ 2 ^ 34 := by
  have h1 := lq_sumI (n := k) (B := 2 ^ 17) (f := fun i => ev a i * ev b i) fun i _ => by
    have := lq_mul (ev a i) (ev b i); have := ha.le i; have := hb.le i; omega
  have h2 : k * (2 ^ 17 + 1) ≤ 2 ^ 16 * (2 ^ 17 + 1) := Nat.mul_le_mul_right _ hk
  omega

/-! ### calls on least forms, on elements -/
theorem lqn {x : Rat} {K : Nat} (h : lq x ≤ K) : ln x.num ≤ K := Nat.le_trans (lq_num x) h
theorem lqd {x : Rat} {K : Nat} (h : lq x ≤ K) : ln (x.den : Int) ≤ K := Nat.le_trans (lq_den x) h
theorem p78q {x y : Rat} (hx : lq x ≤ 2 ^ 37) (hy : lq y ≤ 2 ^ 37) : PC Try.prog 72 [Qn x, Qn y] (Qn (x + y)) := by
  have := p78 (Lr.z (lqn hx)) (Lr.z (lqd hx)) (Lr.z (lqn hy)) (Lr.z (lqd hy)) (pn := sgn x.num) (qn := sgn x.den) (pn' := sgn y.num) (qn' := sgn y.den)
  rw [dq_q, dq_q] at this
  exact this
theorem p78m {a : RQ} {y : Rat} (ha : Rz a) (hy : lq y ≤ 2 ^ 37) : PC Try.prog 72 [.agg ⟨eQ.enc a⟩, Qn y] (let x := vq a; Qn (x + y)) := by
  have := p78 ha.lp ha.lq' (Lr.z (lqn hy)) (Lr.z (lqd hy)) (pn := a.p.neg) (qn := a.q.neg) (pn' := sgn y.num) (qn' := sgn y.den)
  rw [dq_q] at this
  exact this
theorem p172v {a b : RQ} (ha : Rz a) (hb : Rz b) : PC Try.prog 73 [.agg ⟨eQ.enc a⟩, .agg ⟨eQ.enc b⟩] (let x := vq a; let y := vq b; Qn (x * y)) :=
  p172 (pn := a.p.neg) (qn := a.q.neg) (pn' := b.p.neg) (qn' := b.q.neg) ha.lp ha.lq' hb.lp hb.lq'
theorem p177v {a b : RQ} (ha : Rz a) (hb : Rz b) : PC Try.prog 118 [.agg ⟨eQ.enc a⟩, .agg ⟨eQ.enc b⟩] (let x := vq a; let y := vq b; .int .i64 (cq x y)) :=
  p177 (pn := a.p.neg) (qn := a.q.neg) (pn' := b.p.neg) (qn' := b.q.neg) ha.lp ha.lq' hb.lp hb.lq'
theorem p90q {x y : Rat} (hx : lq x ≤ 2 ^ 37) (hy : lq y ≤ 2 ^ 37) : PC Try.prog 48 [Qn x, Qn y] (Qn (x + y)) := by
  have := p90 (Lr.z (lqn hx)) (Lr.z (lqd hx)) (Lr.z (lqn hy)) (Lr.z (lqd hy)) (pn := sgn x.num) (qn := sgn x.den) (pn' := sgn y.num) (qn' := sgn y.den)
  rw [dq_q, dq_q] at this
  exact this
/-! ### Dot -/
theorem dotP_succ (a b : List RQ) (k : Nat) : (sumI k fun i => ev a i * ev b i) + ev a k * ev b k = sumI (k + 1) fun i => ev a i * ev b i := rfl
theorem p85x {a b : List RQ} (h : a.length ≠ b.length) : PC Try.prog 33 [Vv eQ a, Vv eQ b] (.tuple ⟨[R4 false [] false [], .int .i64 1]⟩) := by
  refine PC.of (.cons pu_Qs (.cons pu_Qs .nil)) (pu_t pu_r4) fun N hN => ?_
  have hl : ¬ (a.length : Int) = b.length := by omega
  refine ACalls.of_code T.hm (n := 31) Try.func33 rfl rfl rfl rfl ?_; simp only [List.replicate_succ, List.replicate_zero, List.cons_append, List.nil_append]
  simp (maxSteps := 1000000) (disch := first | exact sd | fail) only [go_sem, Nat.reduceAdd, Nat.reduceSub, Nat.reduceLeDiff, ↓reduceIte, decide_eq_true_eq, if_true, if_false, Bool.false_eq_true, Int.lt_irrefl, implies_true, true_and, and_true, eq_self, and_self, beq_self_eq_true, aw_plan (id := 7) pl85_7, pl85_7, hl, ne_eq, not_false_eq_true]
  exact .tuple (.cons (.nz (.agg (.cons .rfl (.cons .vnil (.cons .rfl (.cons .vnil .nil)))))) (.cons .rfl .nil))
theorem p85 {a b : List RQ} (ha : Rw a) (hb : Rw b) (h : a.length = b.length) : PC Try.prog 33 [Vv eQ a, Vv eQ b] (.tuple ⟨[Qn (dotV a b), .int .i64 0]⟩) := by
  refine PC.of (.cons pu_Qs (.cons pu_Qs .nil)) (pu_t pu_q) fun N hN => ?_
  have hl : (b.length : Int) = a.length := by omega
  have hn := ha.1
  have e0 : ((0 : Int) : Rat) = sumI 0 fun i => ev a i * ev b i := rfl
  refine ACalls.of_code T.hm (n := 31) Try.func33 rfl rfl rfl rfl ?_; simp only [List.replicate_succ, List.replicate_zero, List.cons_append, List.nil_append]
  simp (maxSteps := 1000000) (disch := first | exact sd | fail) only [go_sem, Nat.reduceAdd, Nat.reduceSub, Nat.reduceLeDiff, ↓reduceIte, decide_eq_true_eq, if_true, if_false, Bool.false_eq_true, Int.lt_irrefl, implies_true, true_and, and_true, eq_self, and_self, beq_self_eq_true, aw_plan (id := 7) pl85_7, pl85_7, hl, ne_eq, not_true_eq_false]
  refine PC.step (p76 (x := 0) (by omega)) fun m1 j1 => ?_
  try simp only [Heap.next_push, Heap.next_set, Heap.next_kill, next_bump, next_E0] at j1
  simp (maxSteps := 1000000) (disch := first | exact sd | fail) only [go_sem, Nat.reduceAdd, Nat.reduceSub, Nat.reduceLeDiff, ↓reduceIte, decide_eq_true_eq, if_true, if_false, Bool.false_eq_true, Int.lt_irrefl, implies_true, true_and, and_true, eq_self, and_self, beq_self_eq_true, aw_plan (id := 7) pl85_7, pl85_7]
  rw [e0]
  refine aw_loopJ (σ := Nat) (fun k J => [Vv eQ a, Vv eQ b, J 2, J 3, .pointer (some ⟨N, 0, none⟩), .int .i64 0, .pointer (some ⟨m1, 0, none⟩), J 7, J 8, J 9, J 10, J 11, J 12, J 13, J 14, Vv eQ a, .int .i64 a.length, .int .i64 k, J 18, J 19, J 20, J 21, J 22, J 23, J 24, J 25, J 26, J 27, J 28, J 29, J 30, J 31, J 32]) (fun m k H1 => m = a.length - k ∧ k ≤ a.length ∧ H1.get N = some (.row true 47 [.bool false, .slice none 0 0, .bool false, .slice none 0 0]) ∧ H1.get m1 = some (.row true 47 [.bool (sgn (sumI k fun i => ev a i * ev b i).num), Vv eU (lmb (sumI k fun i => ev a i * ev b i).num), .bool (sgn (sumI k fun i => ev a i * ev b i).den), Vv eU (lmb (sumI k fun i => ev a i * ev b i).den)]) ∧ m1 + 1 ≤ H1.next) a.length 0 rfl ⟨rfl, Nat.zero_le _, by simp (maxSteps := 1000000) (disch := first | exact sd | fail) only [go_sem, Nat.reduceAdd, Nat.reduceSub, Nat.reduceLeDiff, ↓reduceIte, decide_eq_true_eq, if_true, if_false, Bool.false_eq_true, Int.lt_irrefl, implies_true, true_and, and_true, eq_self, and_self, beq_self_eq_true, aw_plan (id := 7) pl85_7, pl85_7], by simp (maxSteps := 1000000) (disch := first | exact sd | fail) only [go_sem, Nat.reduceAdd, Nat.reduceSub, Nat.reduceLeDiff, ↓reduceIte, decide_eq_true_eq, if_true, if_false, Bool.false_eq_true, Int.lt_irrefl, implies_true, true_and, and_true, eq_self, and_self, beq_self_eq_true, aw_plan (id := 7) pl85_7, pl85_7], by simp (maxSteps := 1000000) (disch := first | exact sd | fail) only [go_sem, Nat.reduceAdd, Nat.reduceSub, Nat.reduceLeDiff, ↓reduceIte, decide_eq_true_eq, if_true, if_false, Bool.false_eq_true, Int.lt_irrefl, implies_true, true_and, and_true, eq_self, and_self, beq_self_eq_true, aw_plan (id := 7) pl85_7, pl85_7]; omega⟩ ?_
  rintro m k J H1 ⟨rfl, hk, g1, g2, hx⟩
  by_cases h4 : (k : Int) < a.length
  · have h5 : (k : Int) < b.length := by omega
    have ls := lq_dotP ha hb (k := k) (by omega)
    have lm := lq_mul (ev a k) (ev b k)
    have la := ha.le k
    have lb := hb.le k
    simp (maxSteps := 1000000) (disch := first | exact sd | fail) only [go_sem, Nat.reduceAdd, Nat.reduceSub, Nat.reduceLeDiff, ↓reduceIte, decide_eq_true_eq, if_true, if_false, Bool.false_eq_true, Int.lt_irrefl, implies_true, true_and, and_true, eq_self, and_self, beq_self_eq_true, aw_plan (id := 7) pl85_7, pl85_7, h4, h5, Int.toNat_natCast, g2]
    refine PC.step (p172v (ha.getD k) (hb.getD k)) fun m2 j2 => ?_
    try simp only [Heap.next_push, Heap.next_set, Heap.next_kill, next_bump, next_E0] at j2
    simp (maxSteps := 1000000) (disch := first | exact sd | fail) only [go_sem, Nat.reduceAdd, Nat.reduceSub, Nat.reduceLeDiff, ↓reduceIte, decide_eq_true_eq, if_true, if_false, Bool.false_eq_true, Int.lt_irrefl, implies_true, true_and, and_true, eq_self, and_self, beq_self_eq_true, aw_plan (id := 7) pl85_7, pl85_7, g2]
    refine PC.step (p78q (x := sumI k fun i => ev a i * ev b i) (y := ev a k * ev b k) (by omega) (by omega)) fun m3 j3 => ?_
    try simp only [Heap.next_push, Heap.next_set, Heap.next_kill, next_bump, next_E0] at j3
    rw [dotP_succ]
    simp (maxSteps := 1000000) (disch := first | exact sd | fail) only [go_sem, Nat.reduceAdd, Nat.reduceSub, Nat.reduceLeDiff, ↓reduceIte, decide_eq_true_eq, if_true, if_false, Bool.false_eq_true, Int.lt_irrefl, implies_true, true_and, and_true, eq_self, and_self, beq_self_eq_true, aw_plan (id := 7) pl85_7, pl85_7, g2]
    exact IJ_intro (k := a.length - (k + 1)) (by omega) (k + 1) rfl ⟨rfl, by omega, by simp (maxSteps := 1000000) (disch := first | exact sd | fail) only [go_sem, Nat.reduceAdd, Nat.reduceSub, Nat.reduceLeDiff, ↓reduceIte, decide_eq_true_eq, if_true, if_false, Bool.false_eq_true, Int.lt_irrefl, implies_true, true_and, and_true, eq_self, and_self, beq_self_eq_true, aw_plan (id := 7) pl85_7, pl85_7, g1], by simp (maxSteps := 1000000) (disch := first | exact sd | fail) only [go_sem, Nat.reduceAdd, Nat.reduceSub, Nat.reduceLeDiff, ↓reduceIte, decide_eq_true_eq, if_true, if_false, Bool.false_eq_true, Int.lt_irrefl, implies_true, true_and, and_true, eq_self, and_self, beq_self_eq_true, aw_plan (id := 7) pl85_7, pl85_7], by simp (maxSteps := 1000000) (disch := first | exact sd | fail) only [go_sem, Nat.reduceAdd, Nat.reduceSub, Nat.reduceLeDiff, ↓reduceIte, decide_eq_true_eq, if_true, if_false, Bool.false_eq_true, Int.lt_irrefl, implies_true, true_and, and_true, eq_self, and_self, beq_self_eq_true, aw_plan (id := 7) pl85_7, pl85_7]; omega⟩
  · have e : k = a.length := by omega
    subst e
    simp (maxSteps := 1000000) (disch := first | exact sd | fail) only [go_sem, Nat.reduceAdd, Nat.reduceSub, Nat.reduceLeDiff, ↓reduceIte, decide_eq_true_eq, if_true, if_false, Bool.false_eq_true, Int.lt_irrefl, implies_true, true_and, and_true, eq_self, and_self, beq_self_eq_true, aw_plan (id := 7) pl85_7, pl85_7, h4, g2, g1]
    exact .rfl
end Go.Abs

/- Rows of quotients: the document's Dot, sums of rows, sameness. -/
set_option linter.unusedVariables false
set_option linter.unusedSimpArgs false
namespace Go.Abs
open Go Go.Proofs
set_option maxRecDepth 100000
set_option maxHeartbeats 4000000

def pl86_8 : Plan := ⟨[0, 1, 2, 3, 4, 5, 6, 7, 8], [(9, [0], []), (10, [], []), (11, [], [])]⟩
def pl87_7 : Plan := ⟨[0, 1, 2, 3, 4, 5, 6, 7, 8, 9], [(10, [4], []), (11, [], [12]), (13, [], [14])]⟩
def pl88_7 : Plan := ⟨[0, 1, 2, 3, 4, 5, 6, 7, 8, 9], [(10, [4], []), (11, [], [12]), (13, [], [14])]⟩
def dotP (a b : List RQ) (k : Nat) : Rat := sumI k fun i => ev a i * ev b i
/-! ### rows in memory of one's own -/
section
variable {α : Type} {E : En α} {P : Program} {H0 H : Heap} {el t : TypeId} {l : List α}
theorem VO.fresh {cs : List Value} {n c : Nat} (hle : H0.next ≤ H.next) (hn : n = l.length) (hc : n ≤ c ∧ c * E.es ≤ cs.length ∧ c < unk) (hl : cs.take (n * E.es) = l.flatMap E.enc) (he : 0 < E.es) : VO P E el H0 (H.push (.row true el cs)) (.slice (some ⟨H.next, 0, none⟩) n c) l := by
  unfold VO
  rw [← hl, ← hn]
  have h1 : n * E.es ≤ c * E.es := Nat.mul_le_mul_right _ hc.1
  have := Ow.row (P := P) (H0 := H0) (H := H.push (.row true el cs)) (es := E.es) (el := el) (b := H.next) (off := 0) (n := n) (c := c) (get_push_self _ _) hle (by simp) (.inr ⟨hc.1, hc.2.2, by omega⟩) (by omega)
  rwa [List.drop_zero] at this
theorem repC_len {n : Nat} {zs : List Value} : (repC n zs).length = n * zs.length := by simp [repC]
end
abbrev QO (H0 H : Heap) (sl : Value) (l : List RQ) : Prop := VO Try.prog eQ 47 H0 H sl l
theorem QO.append1 {H0 H : Heap} {sl : Value} {l : List RQ} (h : QO H0 H sl l) (hle : Hle H0 H) (x : Rat) (hs : l.length ≤ 2 ^ 36) :
    ∃ v H', aAppend Try.prog (H.push (.row true 47 [.bool (sgn x.num), Vv eU (lmb x.num), .bool (sgn x.den), Vv eU (lmb x.den)])) #[45, 45] sl (.slice (some ⟨H.next, 0, none⟩) 1 1) = some (v, H') ∧ QO H0 H' v (l ++ [rq x]) ∧ Hle H0 H' ∧ H.next ≤ H'.next :=
  VO.append1 h hle (rq x) Try.underlying45 (info_of_type Try.type47) rfl rfl T.s55 (by decide) T.o70 rfl (by omega) (by show _ * 64 ≤ _; omega)
theorem QO.done {H0 H : Heap} {sl : Value} {l : List RQ} {e : Int} (h : QO H0 H sl l) : FzRel Try.prog H (.tuple ⟨[Vv eQ l, .int .i64 e]⟩) (.tuple ⟨[sl, .int .i64 e]⟩) :=
  .tuple (.cons (h.fz T.s55 (by decide)) (.cons .rfl .nil))
theorem fz_nilt {H : Heap} {e : Int} : FzRel Try.prog H (.tuple ⟨[Vv eQ [], .int .i64 e]⟩) (.tuple ⟨[.slice none 0 0, .int .i64 e]⟩) := .tuple (.cons (.nz .vnil) (.cons .rfl .nil))

theorem p87x {a b : List RQ} {pn qn : Bool} {pl ql : List Int} (h : a.length ≠ b.length) : PC Try.prog 34 [Vv eQ a, R4 pn pl qn ql, Vv eQ b] (.tuple ⟨[Vv eQ [], .int .i64 1]⟩) := by
  refine PC.of (.cons pu_Qs (.cons pu_r4 (.cons pu_Qs .nil))) (pu_t pu_Qs) fun N hN => ?_
  have hl : ¬ (a.length : Int) = b.length := by omega
  refine ACalls.of_code T.hm (n := 36) Try.func34 rfl rfl rfl rfl ?_; simp only [List.replicate_succ, List.replicate_zero, List.cons_append, List.nil_append]
  simp (maxSteps := 1000000) (disch := first | exact sd | fail) only [go_sem, Nat.reduceAdd, Nat.reduceSub, Nat.reduceLeDiff, ↓reduceIte, decide_eq_true_eq, if_true, if_false, Bool.false_eq_true, Int.lt_irrefl, implies_true, true_and, and_true, eq_self, and_self, beq_self_eq_true, aw_plan (id := 7) pl87_7, pl87_7, hl, ne_eq, not_false_eq_true]
  exact fz_nilt
end Go.Abs

/- Rows of quotients: sums of rows, sameness, sizes. -/
set_option linter.unusedVariables false
set_option linter.unusedSimpArgs false
namespace Go.Abs
open Go Go.Proofs
set_option maxRecDepth 100000
set_option maxHeartbeats 4000000

def plV9_87_7 : Plan := ⟨[0, 1, 2, 3, 4, 5, 6, 7, 8, 9], [(10, [4], []), (11, [], [12]), (13, [], [14])]⟩
def plV9_88_7 : Plan := ⟨[0, 1, 2, 3, 4, 5, 6, 7, 8, 9], [(10, [4], []), (11, [], [12]), (13, [], [14])]⟩
theorem p87 {a b : List RQ} {t : RQ} (ha : Rw a) (hb : Rw b) (ht : Rz t) (h : a.length = b.length) : PC Try.prog 34 [Vv eQ a, .agg ⟨eQ.enc t⟩, Vv eQ b] (.tuple ⟨[Vv eQ (plusV a (vq t) b), .int .i64 0]⟩) := by
  refine PC.of (.cons pu_Qs (.cons pu_r4 (.cons pu_Qs .nil))) (pu_t pu_Qs) fun N hN => ?_
  have hl : (b.length : Int) = a.length := by omega
  have hn := ha.1
  refine ACalls.of_code T.hm (n := 36) Try.func34 rfl rfl rfl rfl ?_; simp only [List.replicate_succ, List.replicate_zero, List.cons_append, List.nil_append]
  simp (maxSteps := 1000000) (disch := first | exact sd | fail) only [go_sem, Nat.reduceAdd, Nat.reduceSub, Nat.reduceLeDiff, ↓reduceIte, decide_eq_true_eq, if_true, if_false, Bool.false_eq_true, Int.lt_irrefl, implies_true, true_and, and_true, eq_self, and_self, beq_self_eq_true, aw_plan (id := 7) plV9_87_7, plV9_87_7, hl, ne_eq, not_true_eq_false, aMk_int, Int.toNat_natCast]
  generalize hH0 : (E0 N).push (.row true 47 [.bool t.p.neg, Vv eU t.p.l, .bool t.q.neg, Vv eU t.q.l]) = HB at *
  have nB : HB.next = N + 1 := by rw [← hH0, next_push, next_E0]
  have gB : HB.get N = some (.row true 47 [.bool t.p.neg, Vv eU t.p.l, .bool t.q.neg, Vv eU t.q.l]) := by rw [← hH0]; exact get_push_self _ _
  have ho0 : QO HB (HB.push (.row true 47 (repC a.length [.bool false, .slice none 0 0, .bool false, .slice none 0 0]))) (.slice (some ⟨N + 1, 0, none⟩) 0 a.length) [] := by
    rw [← nB]
    exact VO.fresh (Nat.le_refl _) rfl ⟨Nat.zero_le _, by rw [repC_len]; exact Nat.le_refl _, by unfold unk; omega⟩ (by simp) (by decide)
  refine aw_loopJ (σ := Nat × Value) (fun s J => [Vv eQ a, J 1, Vv eQ b, J 3, .pointer (some ⟨N, 0, none⟩), J 5, .slice none 0 0, .int .i64 0, s.2, J 9, J 10, J 11, J 12, J 13, J 14, J 15, J 16, J 17, Vv eQ a, .int .i64 a.length, .int .i64 s.1, J 21, J 22, J 23, J 24, J 25, J 26, J 27, J 28, J 29, J 30, J 31, J 32, J 33, J 34, J 35, J 36, J 37, J 38]) (fun m s H1 => m = a.length - s.1 ∧ s.1 ≤ a.length ∧ Hle HB H1 ∧ QO HB H1 s.2 (tab s.1 fun i => ev a i + vq t * ev b i)) a.length (0, .slice (some ⟨N + 1, 0, none⟩) 0 a.length) rfl ⟨rfl, Nat.zero_le _, Hle.push0 _, ho0⟩ ?_
  rintro m ⟨k, sl⟩ J H1 ⟨rfl, hk, hle, ho⟩
  simp only at hk ho
  by_cases h4 : (k : Int) < a.length
  · have h5 : (k : Int) < b.length := by omega
    have lm := lq_mul (vq t) (ev b k)
    have lt := ht.le
    have la := ha.le k
    have lb := hb.le k
    have q1 := p172v ht (hb.getD k)
    have q2 := p78m (ha.getD k) (y := vq t * ev b k) (by omega)
    change PC Try.prog 73 _ (Qn (vq t * ev b k)) at q1
    change PC Try.prog 72 _ (Qn (ev a k + vq t * ev b k)) at q2
    have et := tab_succ (n := k) (f := fun i => ev a i + vq t * ev b i)
    generalize ev a k + vq t * ev b k = z at *
    simp (maxSteps := 1000000) (disch := first | exact sd | fail) only [go_sem, Nat.reduceAdd, Nat.reduceSub, Nat.reduceLeDiff, ↓reduceIte, decide_eq_true_eq, if_true, if_false, Bool.false_eq_true, Int.lt_irrefl, implies_true, true_and, and_true, eq_self, and_self, beq_self_eq_true, aw_plan (id := 7) plV9_87_7, plV9_87_7, h4, h5, Int.toNat_natCast, hle.get N, gB]
    refine PC.step (q1) fun m2 j2 => ?_
    try simp only [Heap.next_push, Heap.next_set, Heap.next_kill, next_bump, next_E0] at j2
    simp (maxSteps := 1000000) (disch := first | exact sd | fail) only [go_sem, Nat.reduceAdd, Nat.reduceSub, Nat.reduceLeDiff, ↓reduceIte, decide_eq_true_eq, if_true, if_false, Bool.false_eq_true, Int.lt_irrefl, implies_true, true_and, and_true, eq_self, and_self, beq_self_eq_true, aw_plan (id := 7) plV9_87_7, plV9_87_7]
    refine PC.step (q2) fun m3 j3 => ?_
    try simp only [Heap.next_push, Heap.next_set, Heap.next_kill, next_bump, next_E0] at j3
    have hle2 := (hle.bump j2).bump (m := m3) (by rw [next_bump]; omega)
    obtain ⟨v, H4, ea, oa, qa, na⟩ := QO.append1 ((ho.bump j2).bump (m := m3) (by rw [next_bump]; omega)) hle2 z (by rw [tab_len]; omega)
    rw [next_bump] at ea na
    simp (maxSteps := 1000000) (disch := first | exact sd | fail) only [go_sem, Nat.reduceAdd, Nat.reduceSub, Nat.reduceLeDiff, ↓reduceIte, decide_eq_true_eq, if_true, if_false, Bool.false_eq_true, Int.lt_irrefl, implies_true, true_and, and_true, eq_self, and_self, beq_self_eq_true, aw_plan (id := 7) plV9_87_7, plV9_87_7, ea]
    exact IJ_intro (k := a.length - (k + 1)) (by omega) (k + 1, v) rfl ⟨rfl, by dsimp only; omega, qa, by rw [et]; exact oa⟩
  · have e : k = a.length := by omega
    subst e
    simp (maxSteps := 1000000) (disch := first | exact sd | fail) only [go_sem, Nat.reduceAdd, Nat.reduceSub, Nat.reduceLeDiff, ↓reduceIte, decide_eq_true_eq, if_true, if_false, Bool.false_eq_true, Int.lt_irrefl, implies_true, true_and, and_true, eq_self, and_self, beq_self_eq_true, aw_plan (id := 7) plV9_87_7, plV9_87_7, h4]
    exact ho.done
end Go.Abs
