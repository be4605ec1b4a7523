/- LpMade, on values. -/
import Derived.Test.YtfadclnaahanmaaK11
set_option linter.unusedVariables false
set_option linter.unusedSimpArgs false
namespace Go.Abs
open Go Go.Proofs
set_option maxRecDepth 100000
set_option maxHeartbeats 40000000
def plL31_31_14 : Plan := ⟨[0, 1, 2, 4], [(3, [1], []), (5, [1], [6]), (7, [], [8]), (9, [], [])]⟩
def plL31_31_15 : Plan := ⟨[0, 1, 2, 3, 5, 6], [(4, [1], []), (7, [1], [8]), (9, [], [10]), (11, [], [])]⟩
def plL31_31_16 : Plan := ⟨[0, 1, 2], [(3, [1], [4]), (5, [], [6]), (7, [], [])]⟩
def plL31_31_20 : Plan := ⟨[0, 1, 2], [(3, [1], [4]), (5, [], [6]), (7, [], [])]⟩
def plL31_31_21 : Plan := ⟨[0, 1, 2, 3, 5, 6, 7], [(4, [1], []), (8, [1], [9]), (10, [], [11]), (12, [], [])]⟩
def plL31_31_22 : Plan := ⟨[0, 1, 2, 3, 4], [(5, [1], []), (6, [], [7]), (8, [], [])]⟩
def plL31_31_26 : Plan := ⟨[0, 1, 2, 3, 4, 5, 6, 7, 8, 9, 10, 11], [(12, [9, 5, 1], []), (13, [1], [14]), (15, [], [])]⟩
def plL31_31_29 : Plan := ⟨[0, 1, 2, 3, 4, 5, 6, 7, 8, 9, 10, 11, 12], [(13, [9, 5, 1], []), (14, [1], [15]), (16, [], [])]⟩
def plL31_31_30 : Plan := ⟨[0, 1, 2, 3], [(4, [1], []), (5, [], [6]), (7, [], [])]⟩
theorem FArg.i8s {n : Nat} {p : Value} (h : FArg Try.prog (n + 2) 72 p) : ∃ l : List Int, p = Vv eJ l ∧ l.length ≤ maxLen ∧ ∀ a ∈ l, -128 ≤ a ∧ a < 128 := by
  obtain ⟨len, cells, h1, h2, h3, h4⟩ := (h.slice Try.underlying72).slice Try.underlying72
  rw [T.s115] at h3 h4
  obtain ⟨l, k1, k2, k3⟩ := row_of eJ (fun a => -128 ≤ a ∧ a < 128) (cells := cells) (k := len) h3 (by decide) (fun i hi => by
    obtain ⟨m, q1, q2⟩ := (h4 i hi).int Try.underlying73
    exact ⟨m, q1, wf_i8 q2⟩)
  subst k1
  injection h1 with h1
  exact ⟨l, by rw [h1, k2]; rfl, h2, k3⟩
theorem i8_get {l : List Int} (h : ∀ a ∈ l, -128 ≤ a ∧ a < 128) (i : Nat) : -128 ≤ l.getD i 0 ∧ l.getD i 0 < 128 := by
  rcases Nat.lt_or_ge i l.length with hi | hi
  · rw [getD_eq hi]; exact h _ (List.getElem_mem hi)
  · rw [List.getD_eq_getElem?_getD, List.getElem?_eq_none hi]; exact ⟨by decide, by decide⟩
theorem pu_J {l : List Int} : Pu (Vv eJ l) := .fz (Pus.flat fun _ _ => .cons (.ground rfl) .nil)
theorem fm1 {x : Rat} : [rq x].flatMap eQ.enc = [.bool (sgn x.num), Vv eU (lmb x.num), .bool (sgn x.den), Vv eU (lmb x.den)] := rfl
theorem fm2 {x y : Rat} : [rq x, rq y].flatMap eQ.enc = [.bool (sgn x.num), Vv eU (lmb x.num), .bool (sgn x.den), Vv eU (lmb x.den), .bool (sgn y.num), Vv eU (lmb y.num), .bool (sgn y.den), Vv eU (lmb y.den)] := rfl
theorem unI_cells {n k : Nat} {s : Int} : (List.replicate n (Value.int .i64 0)).set k (.int .i64 s) = (unI n k s).flatMap eN.enc := by
  have e : ∀ l : List Int, l.flatMap eN.enc = l.map (Value.int .i64) := fun l => by
    induction l with
    | nil => rfl
    | cons a l ih => rw [List.flatMap_cons, ih]; rfl
  rw [e, unI, List.map_set, List.map_replicate]
theorem s122n {H : Heap} {K : Value → Heap → Prop} {b n : Nat} {l : List Int} (hl : l.length = n) (hn : n ≤ 2 ^ 16) (hb : ∀ i, -9223372036854775808 ≤ l.getD i 0 ∧ l.getD i 0 ≤ 9223372036854775807) (hg : H.get b = some (.row true 2 (l.flatMap eN.enc))) (k : ∀ m, H.next + 1 ≤ m → K (Vv eQ (rowN l)) ((H.kill b).bump m)) : ACalls Try.prog 47 [.slice (some ⟨b, 0, none⟩) n n] H K := by
  subst hl
  have e : (l.flatMap eN.enc).length = l.length * 1 := eN.flat_length l
  refine ACalls.frz1 (es := 1) hg (.inr (Nat.le_refl _)) (by decide) (by omega) ?_
  rw [List.take_of_length_le (by omega)]
  exact PC.step (p122 hn hb) fun m hm => k m (by simp only [next_bump] at hm; exact hm)
theorem unI_bd {n k : Nat} {s : Int} (hs : s = 1 ∨ s = -1) (i : Nat) : -9223372036854775808 ≤ (unI n k s).getD i 0 ∧ (unI n k s).getD i 0 ≤ 9223372036854775807 := by
  rcases Nat.lt_or_ge i n with h | h
  · rw [unI_get h]; split <;> omega
  · rw [List.getD_eq_getElem?_getD, List.getElem?_eq_none (by rw [unI_len]; exact h)]; exact ⟨by decide, by decide⟩
theorem Bx.holds {HC H : Heap} {p a : Nat} {n : Int} {sA sB sC sX sY : Value} {lA : List (List RQ)} {lB lC lX lY : List RQ} {V : Rat} (h : Bx HC H p a n sA sB sC sX sY lA lB lC lX lY V) {r : Bool} (q : PC Try.prog 44 [Lpv n lA lB lC, Anv 1 (rq V) lX lY []] (.bool r)) {K : Value → Heap → Prop} (k : K (.bool r) H) :
    ACalls Try.prog 44 [.agg ⟨[.int .i64 n, sA, sB, sC]⟩, .agg ⟨[.int .i64 1, .bool (sgn V.num), Vv eU (lmb V.num), .bool (sgn V.den), Vv eU (lmb V.den), sX, sY, .slice none 0 0]⟩] H K :=
  PC.peek q rfl (.cons (.agg (.cons .rfl (.cons (h.oA.fz T.s70 (by decide)) (.cons (h.oB.fz T.s55 (by decide)) (.cons (h.oC.fz T.s55 (by decide)) .nil))))) (.cons (.agg (.cons .rfl (.cons .rfl (.cons .rfl (.cons .rfl (.cons .rfl (.cons (h.oX.fz T.s55 (by decide)) (.cons (h.oY.fz T.s55 (by decide)) (.cons (.nz .vnil) .nil))))))))) .nil)) k
theorem rg_tab {n : Nat} {f : Nat → Int} (hn : n ≤ 200) (h : ∀ j, -30000 ≤ f j ∧ f j ≤ 30000) : Rg (tab n fun j => ((f j : Int) : Rat)) := by
  refine ⟨by rw [tab_len]; exact hn, fun a ha => ?_⟩
  unfold tab at ha
  obtain ⟨i, hi, rfl⟩ := List.mem_map.1 ha
  have := h i
  have := ln_small (z := f i) (by omega)
  exact rg_rq (Nat.le_trans (lq_int _) (by omega))
theorem Rg.set {l : List RQ} {i : Nat} {x : Rat} (h : Rg l) (hx : lq x ≤ 6) : Rg (l.set i (rq x)) := by
  refine ⟨by rw [List.length_set]; exact h.1, fun a ha => ?_⟩
  rcases List.mem_or_eq_of_mem_set ha with ha | rfl
  · exact h.2 a ha
  · exact rg_rq hx
theorem ev_set_self {l : List RQ} {i : Nat} {x : Rat} (h : i < l.length) : ev (l.set i (rq x)) i = x := by
  rw [ev_lt (by rw [List.length_set]; exact h), List.getElem_set_self, vq_rq]
theorem ev_set_ne {l : List RQ} {i j : Nat} {a : RQ} (h : i ≠ j) : ev (l.set i a) j = ev l j := by
  unfold ev
  rw [List.getD_eq_getElem?_getD, List.getD_eq_getElem?_getD, List.getElem?_set_ne h]
theorem mul_bd {x y : Int} (hx : -128 ≤ x ∧ x ≤ 128) (hy : -200 ≤ y ∧ y ≤ 200) : -25600 ≤ x * y ∧ x * y ≤ 25600 := by
  have h : (x * y).natAbs ≤ 128 * 200 := by
    rw [Int.natAbs_mul]
    exact Nat.mul_le_mul (by omega) (by omega)
  omega
theorem lq_mV {c b : Nat → Int} (hc : ∀ i, -128 ≤ c i ∧ c i < 128) (hb : ∀ i, -128 ≤ b i ∧ b i < 128) {k : Nat} (hk : k ≤ 1000) : lq (mV c b k) ≤ 2 ^ 37 := by
  have h := lq_sumI (n := k) (B := 4) (f := fun j => ((c j * xI c b j : Int) : Rat)) fun i _ => by
    have h1 := hc i
    have h2 := hb i
    have h3 : -200 ≤ xI c b i ∧ xI c b i ≤ 200 := by unfold xI; split <;> omega
    have h4 := mul_bd (x := c i) (y := xI c b i) (by omega) h3
    have := lq_int (c i * xI c b i)
    have := ln_small (z := c i * xI c b i) (by omega)
    omega
  unfold mV
  omega
theorem lq_mVs {c b : Nat → Int} (hc : ∀ i, -128 ≤ c i ∧ c i < 128) (hb : ∀ i, -128 ≤ b i ∧ b i < 128) {k : Nat} (hk : k ≤ 6) : lq (mV c b k) ≤ 31 := by
  have h := lq_sumI (n := k) (B := 4) (f := fun j => ((c j * xI c b j : Int) : Rat)) fun i _ => by
    have h1 := hc i
    have h2 := hb i
    have h3 : -200 ≤ xI c b i ∧ xI c b i ≤ 200 := by unfold xI; split <;> omega
    have h4 := mul_bd (x := c i) (y := xI c b i) (by omega) h3
    have := lq_int (c i * xI c b i)
    have := ln_small (z := c i * xI c b i) (by omega)
    omega
  unfold mV
  omega
theorem bx_y {HC H : Heap} {s : Value} {l : List RQ} (h : QO HC H s l) {j : Nat} (hj : j < l.length) : ∃ b0 off n c cs, s = .slice (some ⟨b0, off, none⟩) n c ∧ n = l.length ∧ HC.next ≤ b0 ∧ b0 < H.next ∧ H.get b0 = some (.row true 47 cs) ∧ off + n * 4 ≤ cs.length ∧ (c = unk ∨ (n ≤ c ∧ c < unk ∧ off + c * 4 ≤ cs.length)) ∧ l.flatMap eQ.enc = (cs.drop off).take (n * 4) := by
  unfold QO VO at h
  generalize hn : l.length = m at h
  generalize hc : l.flatMap eQ.enc = ks at h
  cases h with
  | nil => omega
  | @row b0 off n c cs hg hb0 hb hc2 hl => exact ⟨b0, off, _, c, cs, rfl, rfl, hb0, hb, hg, hl, hc2, rfl⟩
theorem en_at {α : Type} (E : En α) : ∀ {l : List α} {j : Nat} (hj : j < l.length), ((l.flatMap E.enc).drop (j * E.es)).take E.es = E.enc l[j]
  | [], j, hj => by simp at hj
  | a :: l, 0, _ => by
    rw [List.flatMap_cons, Nat.zero_mul, List.drop_zero, List.take_append_of_le_length (by rw [E.len]; exact Nat.le_refl _), List.take_of_length_le (by rw [E.len]; exact Nat.le_refl _)]
    rfl
  | a :: l, j + 1, hj => by
    have ih := en_at E (l := l) (j := j) (by simpa using hj)
    rw [List.flatMap_cons, List.drop_append, E.len, List.drop_of_length_le (by rw [E.len, Nat.add_mul]; omega), List.nil_append, show (j + 1) * E.es - E.es = j * E.es by rw [Nat.add_mul]; omega]
    exact ih
theorem splice_win {cs vs : List Value} {off q m : Nat} (h : q + vs.length ≤ m) (hl : off + m ≤ cs.length) : ((splice cs (off + q) vs).drop off).take m = splice ((cs.drop off).take m) q vs := by
  rw [splice_eq _ _ _ (by omega), splice_eq _ _ _ (by simp; omega)]
  have l1 : (cs.take (off + q)).length = off + q := by simp; omega
  rw [List.append_assoc, List.drop_append_of_le_length (by omega), List.drop_take, show off + q - off = q by omega, List.take_append, List.take_append, List.length_take, List.length_drop, List.take_take, List.take_take, List.append_assoc, List.drop_take, List.drop_drop]
  rw [show min q (cs.length - off) = q by omega, show min m q = q by omega, show min q m = q by omega, List.take_of_length_le (i := m - q) (by omega), show m - q - vs.length = m - (q + vs.length) by omega, show off + q + vs.length = off + (q + vs.length) by omega]
theorem Bx.stY {HC H : Heap} {p a : Nat} {n : Int} {sA sB sC sX sY : Value} {lA : List (List RQ)} {lB lC lX lY : List RQ} {V : Rat} (h : Bx HC H p a n sA sB sC sX sY lA lB lC lX lY V) {j : Nat} (hj : j < lY.length) :
    ∃ b0 o, aIndexAddr Try.prog 45 sY (.int .i64 j) = some (.pointer (some ⟨b0, o, none⟩)) ∧ b0 < H.next ∧ HC.next ≤ b0 ∧ rowsAt (H.get b0) o 4 = some (eQ.enc (lY.getD j eQ.d)) ∧
      ∀ H1 x, Hle H H1 → ∃ H2, stRow H1 b0 o (eQ.enc x) (H1.get b0) = some H2 ∧ Bx HC H2 p a n sA sB sC sX sY lA lB lC lX (lY.set j x) V ∧ H2.next = H1.next := by
  obtain ⟨b0, off, nn, cc, cs, rfl, e2, e3, e4, e5, e6, e7, e8⟩ := bx_y h.oY hj
  refine ⟨b0, off + j * 4, ?_, e4, e3, ?_, ?_⟩
  · have := ix_own (b := b0) (off := off) (n := nn) (c := cc) (k := .i64) (i := (j : Int)) Try.underlying45 T.z55 T.s55 (by omega) (by omega)
    rwa [Int.toNat_natCast] at this
  · rw [e5, rowsAt_row, if_pos (by omega), show (cs.drop (off + j * 4)).take 4 = ((lY.flatMap eQ.enc).drop (j * 4)).take 4 from by
      rw [e8, List.drop_take, List.take_take, List.drop_drop, show min 4 (nn * 4 - j * 4) = 4 by omega]]
    rw [getD_eq hj]
    exact congrArg some (en_at eQ hj)
  · intro H1 x hle
    have hg : H1.get b0 = some (.row true 47 cs) := (hle.get _ e4).trans e5
    refine ⟨H1.set b0 (.row true 47 (splice cs (off + j * 4) (eQ.enc x))), ?_, ?_, rfl⟩
    · rw [hg, stRow_row, if_pos (by show off + j * 4 + 4 ≤ _; omega)]
    · have h := h.mono hle
      have hm : ((splice cs (off + j * 4) (eQ.enc x)).drop off).take (nn * 4) = (lY.set j x).flatMap eQ.enc := by
        rw [splice_win (by show j * 4 + 4 ≤ _; omega) e6, ← e8]
        exact En.splice eQ hj
      have hlen : (splice cs (off + j * 4) (eQ.enc x)).length = cs.length := by
        rw [splice_eq _ _ _ (by show off + j * 4 + 4 ≤ _; omega)]
        simp only [List.length_append, List.length_take, List.length_drop, eQ.len]
        show min (off + j * 4) cs.length + 4 + (cs.length - (off + j * 4 + 4)) = _
        omega
      have fr : ∀ b, b < H1.next → b ≠ b0 → (H1.set b0 (.row true 47 (splice cs (off + j * 4) (eQ.enc x)))).get b = H1.get b := fun b _ hb => get_set_ne hb
      have n0 := h.h0
      have yy : QO HC (H1.set b0 (.row true 47 (splice cs (off + j * 4) (eQ.enc x)))) (.slice (some ⟨b0, off, none⟩) nn cc) (lY.set j x) := by
        unfold QO VO
        rw [List.length_set, ← e2, ← hm]
        exact .row (get_set_self _ _ _) e3 (by show b0 < H1.next; have := hle.next; omega) (by rw [hlen]; exact e7) (by rw [hlen]; exact e6)
      have pC := h.pC
      have aC := h.aC
      exact ⟨(get_set_ne (by omega)).trans h.hp, (get_set_ne (by omega)).trans h.ha, h.oA.keepF fr (Nat.le_refl _) h.sAY n0, h.oB.keepF fr (Nat.le_refl _) h.sBY n0, h.oC.keepF fr (Nat.le_refl _) h.sCY n0, h.oX.keepF fr (Nat.le_refl _) h.sXY n0, yy, h.sAB, h.sAC, h.sAX, h.sAY, h.sBC, h.sBX, h.sBY, h.sCX, h.sCY, h.sXY, h.hn, h.h0, h.pC, h.aC, h.pa, h.p0, h.a0⟩
theorem q31 {c b : List Int} {u w : Int} (hc : c.length ≤ maxLen ∧ ∀ a ∈ c, -128 ≤ a ∧ a < 128) (hb : b.length ≤ maxLen ∧ ∀ a ∈ b, -128 ≤ a ∧ a < 128) (hu : 0 ≤ u ∧ u < 256) (hw : -128 ≤ w ∧ w < 128) :
    PC Try.prog 12 [Vv eJ c, Vv eJ b, .int .u8 u, .int .i8 w] (.bool true) := by
  refine PC.of (.cons pu_J (.cons pu_J (.cons (.ground rfl) (.cons (.ground rfl) .nil)))) (.ground rfl) fun N hN => ?_
  have hM : maxLen = 9223372036854775807 := rfl
  have hc1 := hc.1
  have hb1 := hb.1
  have hcg := i8_get hc.2
  have hbg := i8_get hb.2
  obtain ⟨n, hn⟩ : ∃ n : Nat, n = min (min c.length b.length) 6 := ⟨_, rfl⟩
  have hn2 : min (min (c.length : Int) b.length) 6 = (n : Int) := by omega
  refine ACalls.of_code T.hm (n := 171) Try.func12 rfl rfl rfl rfl ?_; simp only [List.replicate_succ, List.replicate_zero, List.cons_append, List.nil_append]
  by_cases h0 : n = 0
  · have h0 : (n : Int) = 0 := by omega
    simp (maxSteps := 1000000) (disch := first | exact sd | fail) only [go_sem, Nat.reduceAdd, Nat.reduceSub, Nat.reduceLeDiff, ↓reduceIte, decide_eq_true_eq, if_true, if_false, Bool.false_eq_true, Int.lt_irrefl, implies_true, true_and, and_true, eq_self, and_self, beq_self_eq_true, aw_drawn (id := 9), aw_drawn' (id := 9), aw_plan (id := 14) plL31_31_14, plL31_31_14, aw_plan (id := 15) plL31_31_15, plL31_31_15, aw_plan (id := 16) plL31_31_16, plL31_31_16, aw_plan (id := 20) plL31_31_20, plL31_31_20, aw_plan (id := 21) plL31_31_21, plL31_31_21, aw_plan (id := 22) plL31_31_22, plL31_31_22, aw_plan (id := 26) plL31_31_26, plL31_31_26, aw_plan (id := 29) plL31_31_29, plL31_31_29, aw_plan (id := 30) plL31_31_30, plL31_31_30, hn2, h0]
    refine PC.step (p116) fun m1 j1 => ?_
    try simp only [Heap.next_push, Heap.next_set, Heap.next_kill, next_bump, next_E0] at j1
    simp (maxSteps := 1000000) (disch := first | exact sd | fail) only [go_sem, Nat.reduceAdd, Nat.reduceSub, Nat.reduceLeDiff, ↓reduceIte, decide_eq_true_eq, if_true, if_false, Bool.false_eq_true, Int.lt_irrefl, implies_true, true_and, and_true, eq_self, and_self, beq_self_eq_true, aw_drawn (id := 9), aw_drawn' (id := 9), aw_plan (id := 14) plL31_31_14, plL31_31_14, aw_plan (id := 15) plL31_31_15, plL31_31_15, aw_plan (id := 16) plL31_31_16, plL31_31_16, aw_plan (id := 20) plL31_31_20, plL31_31_20, aw_plan (id := 21) plL31_31_21, plL31_31_21, aw_plan (id := 22) plL31_31_22, plL31_31_22, aw_plan (id := 26) plL31_31_26, plL31_31_26, aw_plan (id := 29) plL31_31_29, plL31_31_29, aw_plan (id := 30) plL31_31_30, plL31_31_30]
    exact .rfl
  have h1 : ¬ (n : Int) = 0 := by omega
  by_cases h2 : w = 0
  · simp (maxSteps := 1000000) (disch := first | exact sd | fail) only [go_sem, Nat.reduceAdd, Nat.reduceSub, Nat.reduceLeDiff, ↓reduceIte, decide_eq_true_eq, if_true, if_false, Bool.false_eq_true, Int.lt_irrefl, implies_true, true_and, and_true, eq_self, and_self, beq_self_eq_true, aw_drawn (id := 9), aw_drawn' (id := 9), aw_plan (id := 14) plL31_31_14, plL31_31_14, aw_plan (id := 15) plL31_31_15, plL31_31_15, aw_plan (id := 16) plL31_31_16, plL31_31_16, aw_plan (id := 20) plL31_31_20, plL31_31_20, aw_plan (id := 21) plL31_31_21, plL31_31_21, aw_plan (id := 22) plL31_31_22, plL31_31_22, aw_plan (id := 26) plL31_31_26, plL31_31_26, aw_plan (id := 29) plL31_31_29, plL31_31_29, aw_plan (id := 30) plL31_31_30, plL31_31_30, hn2, h1, h2]
    refine PC.step (p116) fun m1 j1 => ?_
    try simp only [Heap.next_push, Heap.next_set, Heap.next_kill, next_bump, next_E0] at j1
    simp (maxSteps := 1000000) (disch := first | exact sd | fail) only [go_sem, Nat.reduceAdd, Nat.reduceSub, Nat.reduceLeDiff, ↓reduceIte, decide_eq_true_eq, if_true, if_false, Bool.false_eq_true, Int.lt_irrefl, implies_true, true_and, and_true, eq_self, and_self, beq_self_eq_true, aw_drawn (id := 9), aw_drawn' (id := 9), aw_plan (id := 14) plL31_31_14, plL31_31_14, aw_plan (id := 15) plL31_31_15, plL31_31_15, aw_plan (id := 16) plL31_31_16, plL31_31_16, aw_plan (id := 20) plL31_31_20, plL31_31_20, aw_plan (id := 21) plL31_31_21, plL31_31_21, aw_plan (id := 22) plL31_31_22, plL31_31_22, aw_plan (id := 26) plL31_31_26, plL31_31_26, aw_plan (id := 29) plL31_31_29, plL31_31_29, aw_plan (id := 30) plL31_31_30, plL31_31_30]
    exact .rfl
  simp (maxSteps := 1000000) (disch := first | exact sd | fail) only [go_sem, Nat.reduceAdd, Nat.reduceSub, Nat.reduceLeDiff, ↓reduceIte, decide_eq_true_eq, if_true, if_false, Bool.false_eq_true, Int.lt_irrefl, implies_true, true_and, and_true, eq_self, and_self, beq_self_eq_true, aw_drawn (id := 9), aw_drawn' (id := 9), aw_plan (id := 14) plL31_31_14, plL31_31_14, aw_plan (id := 15) plL31_31_15, plL31_31_15, aw_plan (id := 16) plL31_31_16, plL31_31_16, aw_plan (id := 20) plL31_31_20, plL31_31_20, aw_plan (id := 21) plL31_31_21, plL31_31_21, aw_plan (id := 22) plL31_31_22, plL31_31_22, aw_plan (id := 26) plL31_31_26, plL31_31_26, aw_plan (id := 29) plL31_31_29, plL31_31_29, aw_plan (id := 30) plL31_31_30, plL31_31_30, hn2, h1, h2]
  refine PC.step (p77 (x := 0) (by omega)) fun m1 j1 => ?_
  try simp only [Heap.next_push, Heap.next_set, Heap.next_kill, next_bump, next_E0] at j1
  simp (maxSteps := 1000000) (disch := first | exact sd | fail) only [go_sem, Nat.reduceAdd, Nat.reduceSub, Nat.reduceLeDiff, ↓reduceIte, decide_eq_true_eq, if_true, if_false, Bool.false_eq_true, Int.lt_irrefl, implies_true, true_and, and_true, eq_self, and_self, beq_self_eq_true, aw_drawn (id := 9), aw_drawn' (id := 9), aw_plan (id := 14) plL31_31_14, plL31_31_14, aw_plan (id := 15) plL31_31_15, plL31_31_15, aw_plan (id := 16) plL31_31_16, plL31_31_16, aw_plan (id := 20) plL31_31_20, plL31_31_20, aw_plan (id := 21) plL31_31_21, plL31_31_21, aw_plan (id := 22) plL31_31_22, plL31_31_22, aw_plan (id := 26) plL31_31_26, plL31_31_26, aw_plan (id := 29) plL31_31_29, plL31_31_29, aw_plan (id := 30) plL31_31_30, plL31_31_30]
  generalize hH : Heap.set _ m1 _ = HC
  have nC : HC.next = m1 + 1 := by rw [← hH]; simp only [Heap.next_set, Heap.next_push, next_bump]
  have gp : HC.get N = some (.row true 62 [.int .i64 n, .slice none 0 0, .slice none 0 0, .slice none 0 0]) := by rw [← hH]; simp (maxSteps := 1000000) (disch := first | exact sd | fail) only [go_sem, Nat.reduceAdd, Nat.reduceSub, Nat.reduceLeDiff, ↓reduceIte, decide_eq_true_eq, if_true, if_false, Bool.false_eq_true, Int.lt_irrefl, implies_true, true_and, and_true, eq_self, and_self, beq_self_eq_true, aw_drawn (id := 9), aw_drawn' (id := 9), aw_plan (id := 14) plL31_31_14, plL31_31_14, aw_plan (id := 15) plL31_31_15, plL31_31_15, aw_plan (id := 16) plL31_31_16, plL31_31_16, aw_plan (id := 20) plL31_31_20, plL31_31_20, aw_plan (id := 21) plL31_31_21, plL31_31_21, aw_plan (id := 22) plL31_31_22, plL31_31_22, aw_plan (id := 26) plL31_31_26, plL31_31_26, aw_plan (id := 29) plL31_31_29, plL31_31_29, aw_plan (id := 30) plL31_31_30, plL31_31_30]
  have ga : HC.get m1 = some (.row true 65 [.int .i64 1, .bool (sgn ((0 : Int) : Rat).num), Vv eU (lmb ((0 : Int) : Rat).num), .bool (sgn ((0 : Int) : Rat).den), Vv eU (lmb ((0 : Int) : Rat).den), .slice none 0 0, .slice none 0 0, .slice none 0 0]) := by rw [← hH]; simp (maxSteps := 1000000) (disch := first | exact sd | fail) only [go_sem, Nat.reduceAdd, Nat.reduceSub, Nat.reduceLeDiff, ↓reduceIte, decide_eq_true_eq, if_true, if_false, Bool.false_eq_true, Int.lt_irrefl, implies_true, true_and, and_true, eq_self, and_self, beq_self_eq_true, aw_drawn (id := 9), aw_drawn' (id := 9), aw_plan (id := 14) plL31_31_14, plL31_31_14, aw_plan (id := 15) plL31_31_15, plL31_31_15, aw_plan (id := 16) plL31_31_16, plL31_31_16, aw_plan (id := 20) plL31_31_20, plL31_31_20, aw_plan (id := 21) plL31_31_21, plL31_31_21, aw_plan (id := 22) plL31_31_22, plL31_31_22, aw_plan (id := 26) plL31_31_26, plL31_31_26, aw_plan (id := 29) plL31_31_29, plL31_31_29, aw_plan (id := 30) plL31_31_30, plL31_31_30]
  clear hH
  have hn6 : n ≤ 6 := by omega
  have b0 : Bx HC HC N m1 n (.slice none 0 0) (.slice none 0 0) (.slice none 0 0) (.slice none 0 0) (.slice none 0 0) (mA n 0) (mB (fun i => b.getD i 0) 0) (mC (fun i => c.getD i 0) 0) (mX (fun i => c.getD i 0) (fun i => b.getD i 0) 0) (mY (fun i => c.getD i 0) 0) (mV (fun i => c.getD i 0) (fun i => b.getD i 0) 0) :=
    ⟨gp, ga, VO.nil, VO.nil, VO.nil, VO.nil, VO.nil, .inr rfl, .inr rfl, .inr rfl, .inr rfl, .inr rfl, .inr rfl, .inr rfl, .inr rfl, .inr rfl, .inr rfl, Nat.le_refl _, by omega, by omega, by omega, by omega, hN, by omega⟩
  refine aw_loopJ (σ := Nat) (fun k J => [Vv eJ c, Vv eJ b, .int .u8 u, .int .i8 w, J 4, J 5, J 6, J 7, .bool false, .int .i64 n, .pointer (some ⟨N, 0, none⟩), .pointer (some ⟨m1, 0, none⟩), .int .i64 k, J 13, J 14, J 15, J 16, J 17, J 18, J 19, J 20, J 21, J 22, J 23, J 24, J 25, J 26, J 27, J 28, J 29, J 30, J 31, J 32, J 33, J 34, J 35, J 36, J 37, J 38, J 39, J 40, J 41, J 42, J 43, J 44, J 45, J 46, J 47, J 48, J 49, J 50, J 51, J 52, J 53, J 54, J 55, J 56, J 57, J 58, J 59, J 60, J 61, J 62, J 63, J 64, J 65, J 66, J 67, J 68, J 69, J 70, J 71, J 72, J 73, J 74, J 75, J 76, J 77, J 78, J 79, J 80, J 81, J 82, J 83, J 84, J 85, J 86, J 87, J 88, J 89, J 90, J 91, J 92, J 93, J 94, J 95, J 96, J 97, J 98, J 99, J 100, J 101, J 102, J 103, J 104, J 105, J 106, J 107, J 108, J 109, J 110, J 111, J 112, J 113, J 114, J 115, J 116, J 117, J 118, J 119, J 120, J 121, J 122, J 123, J 124, J 125, J 126, J 127, J 128, J 129, J 130, J 131, J 132, J 133, J 134, J 135, J 136, J 137, J 138, J 139, J 140, J 141, J 142, J 143, J 144, J 145, J 146, J 147, J 148, J 149, J 150, J 151, J 152, J 153, J 154, J 155, J 156, J 157, J 158, J 159, J 160, J 161, J 162, J 163, J 164, J 165, J 166, J 167, J 168, J 169, J 170, J 171, J 172, J 173, J 174]) (fun m k H1 => m = n - k ∧ k ≤ n ∧ ∃ sA sB sC sX sY, Bx HC H1 N m1 n sA sB sC sX sY (mA n k) (mB (fun i => b.getD i 0) k) (mC (fun i => c.getD i 0) k) (mX (fun i => c.getD i 0) (fun i => b.getD i 0) k) (mY (fun i => c.getD i 0) k) (mV (fun i => c.getD i 0) (fun i => b.getD i 0) k)) n 0 rfl ⟨rfl, Nat.zero_le _, _, _, _, _, _, b0⟩ ?_
  clear b0 gp ga
  rintro m k J H1 ⟨rfl, hk, sA, sB, sC, sX, sY, hB⟩
  by_cases h4 : (k : Int) < n
  · have h5 : (k : Int) < c.length := by omega
    have h6 : (k : Int) < b.length := by omega
    have hc2 := hcg k
    have hb2 := hbg k
    have hkn : k < n := by omega
    have nH := hB.hn
    have gp := hB.hp
    have a1 : aIndexAddr Try.prog 74 (.slice (some ⟨H1.next, 0, none⟩) n n) (.int .i64 k) = some (.pointer (some ⟨H1.next, k, none⟩)) := by
      have := ix_own (b := H1.next) (off := 0) (n := n) (c := n) (k := .i64) (i := (k : Int)) Try.underlying74 T.z2 T.s2 (by omega) (by omega)
      rwa [Int.toNat_natCast, Nat.zero_add, Nat.mul_one] at this
    have a2 : aIndexAddr Try.prog 74 (.slice (some ⟨H1.next + 1, 0, none⟩) n n) (.int .i64 k) = some (.pointer (some ⟨H1.next + 1, k, none⟩)) := by
      have := ix_own (b := H1.next + 1) (off := 0) (n := n) (c := n) (k := .i64) (i := (k : Int)) Try.underlying74 T.z2 T.s2 (by omega) (by omega)
      rwa [Int.toNat_natCast, Nat.zero_add, Nat.mul_one] at this
    have lr : (List.replicate n (Value.int .i64 0)).length = n := by simp
    have hr2 : k + 1 ≤ (List.replicate n (Value.int .i64 0)).length := by rw [lr]; omega
    simp (maxSteps := 1000000) (disch := first | exact sd | fail) only [go_sem, Nat.reduceAdd, Nat.reduceSub, Nat.reduceLeDiff, ↓reduceIte, decide_eq_true_eq, if_true, if_false, Bool.false_eq_true, Int.lt_irrefl, implies_true, true_and, and_true, eq_self, and_self, beq_self_eq_true, aw_drawn (id := 9), aw_drawn' (id := 9), aw_plan (id := 14) plL31_31_14, plL31_31_14, aw_plan (id := 15) plL31_31_15, plL31_31_15, aw_plan (id := 16) plL31_31_16, plL31_31_16, aw_plan (id := 20) plL31_31_20, plL31_31_20, aw_plan (id := 21) plL31_31_21, plL31_31_21, aw_plan (id := 22) plL31_31_22, plL31_31_22, aw_plan (id := 26) plL31_31_26, plL31_31_26, aw_plan (id := 29) plL31_31_29, plL31_31_29, aw_plan (id := 30) plL31_31_30, plL31_31_30, h4, h5, h6, aMk_int, Int.toNat_natCast, a1, a2, gp, hr2, unI_cells]
    have hleU : Hle H1 ((((H1.push (.row true 2 (List.replicate n (Value.int .i64 0)))).push (.row true 2 (List.replicate n (Value.int .i64 0)))).set H1.next (.row true 2 ((unI n k 1).flatMap eN.enc))).set (H1.next + 1) (.row true 2 ((unI n k (-1)).flatMap eN.enc))) :=
      Hle.set (Hle.set (Hle.push (Hle.push Hle.rfl _) _) (Nat.le_refl _) _) (Nat.le_succ _) _
    generalize hU : Heap.set _ (H1.next + 1) _ = HU at hleU ⊢
    have nU : HU.next = H1.next + 2 := by rw [← hU]; rfl
    have gU1 : HU.get H1.next = some (.row true 2 ((unI n k 1).flatMap eN.enc)) := by rw [← hU]; simp (maxSteps := 1000000) (disch := first | exact sd | fail) only [go_sem, Nat.reduceAdd, Nat.reduceSub, Nat.reduceLeDiff, ↓reduceIte, decide_eq_true_eq, if_true, if_false, Bool.false_eq_true, Int.lt_irrefl, implies_true, true_and, and_true, eq_self, and_self, beq_self_eq_true, aw_drawn (id := 9), aw_drawn' (id := 9), aw_plan (id := 14) plL31_31_14, plL31_31_14, aw_plan (id := 15) plL31_31_15, plL31_31_15, aw_plan (id := 16) plL31_31_16, plL31_31_16, aw_plan (id := 20) plL31_31_20, plL31_31_20, aw_plan (id := 21) plL31_31_21, plL31_31_21, aw_plan (id := 22) plL31_31_22, plL31_31_22, aw_plan (id := 26) plL31_31_26, plL31_31_26, aw_plan (id := 29) plL31_31_29, plL31_31_29, aw_plan (id := 30) plL31_31_30, plL31_31_30]
    have gU2 : HU.get (H1.next + 1) = some (.row true 2 ((unI n k (-1)).flatMap eN.enc)) := by rw [← hU]; simp (maxSteps := 1000000) (disch := first | exact sd | fail) only [go_sem, Nat.reduceAdd, Nat.reduceSub, Nat.reduceLeDiff, ↓reduceIte, decide_eq_true_eq, if_true, if_false, Bool.false_eq_true, Int.lt_irrefl, implies_true, true_and, and_true, eq_self, and_self, beq_self_eq_true, aw_drawn (id := 9), aw_drawn' (id := 9), aw_plan (id := 14) plL31_31_14, plL31_31_14, aw_plan (id := 15) plL31_31_15, plL31_31_15, aw_plan (id := 16) plL31_31_16, plL31_31_16, aw_plan (id := 20) plL31_31_20, plL31_31_20, aw_plan (id := 21) plL31_31_21, plL31_31_21, aw_plan (id := 22) plL31_31_22, plL31_31_22, aw_plan (id := 26) plL31_31_26, plL31_31_26, aw_plan (id := 29) plL31_31_29, plL31_31_29, aw_plan (id := 30) plL31_31_30, plL31_31_30]
    clear hU
    have gUp := (hleU.get N (by omega)).trans gp
    refine s122n (l := unI n k 1) unI_len (by omega) (unI_bd (.inl rfl)) gU1 fun m2 j2 => ?_
    simp (maxSteps := 1000000) (disch := first | exact sd | fail) only [go_sem, Nat.reduceAdd, Nat.reduceSub, Nat.reduceLeDiff, ↓reduceIte, decide_eq_true_eq, if_true, if_false, Bool.false_eq_true, Int.lt_irrefl, implies_true, true_and, and_true, eq_self, and_self, beq_self_eq_true, aw_drawn (id := 9), aw_drawn' (id := 9), aw_plan (id := 14) plL31_31_14, plL31_31_14, aw_plan (id := 15) plL31_31_15, plL31_31_15, aw_plan (id := 16) plL31_31_16, plL31_31_16, aw_plan (id := 20) plL31_31_20, plL31_31_20, aw_plan (id := 21) plL31_31_21, plL31_31_21, aw_plan (id := 22) plL31_31_22, plL31_31_22, aw_plan (id := 26) plL31_31_26, plL31_31_26, aw_plan (id := 29) plL31_31_29, plL31_31_29, aw_plan (id := 30) plL31_31_30, plL31_31_30, gUp]
    refine s122n (l := unI n k (-1)) unI_len (by omega) (unI_bd (.inr rfl)) (by rw [get_bump, get_kill_ne (by omega)]; exact gU2) fun m3 j3 => ?_
    have pf {a b : List RQ} : pFill (.slice none 0 0) 2 [(0, Vv eQ a), (1, Vv eQ b)] = some [Vv eQ a, Vv eQ b] := rfl
    simp only [Heap.next_push, next_bump, Heap.next_kill] at j2 j3
    have hle3 : Hle H1 ((((HU.kill H1.next).bump m2).kill (H1.next + 1)).bump m3) := ((((hleU.kill (Nat.le_refl _)).bump (by simp only [Heap.next_kill]; omega)).kill (Nat.le_succ _)).bump (by simp only [Heap.next_kill, next_bump]; omega))
    generalize hG : ((((HU.kill H1.next).bump m2).kill (H1.next + 1)).bump m3) = G3 at hle3 ⊢
    clear hG gU1 gU2 hleU nU
    obtain ⟨vA, HA, eA, iA, gA, nA, hB1⟩ := hB.appA hle3 [rowN (unI n k 1), rowN (unI n k (-1))] (m := 2) rfl (by rw [mA_len]; omega)
    rw [← mA_succ] at hB1
    have gp3 := (hle3.get N (by omega)).trans gp
    clear gUp
    have eA : aAppend Try.prog (G3.push (.row true 45 [Vv eQ (rowN (unI n k 1)), Vv eQ (rowN (unI n k (-1)))])) #[23, 23] sA (.slice (some ⟨G3.next, 0, none⟩) 2 2) = some (vA, HA) := eA
    simp (maxSteps := 1000000) (disch := first | exact sd | fail) only [go_sem, Nat.reduceAdd, Nat.reduceSub, Nat.reduceLeDiff, ↓reduceIte, decide_eq_true_eq, if_true, if_false, Bool.false_eq_true, Int.lt_irrefl, implies_true, true_and, and_true, eq_self, and_self, beq_self_eq_true, aw_drawn (id := 9), aw_drawn' (id := 9), aw_plan (id := 14) plL31_31_14, plL31_31_14, aw_plan (id := 15) plL31_31_15, plL31_31_15, aw_plan (id := 16) plL31_31_16, plL31_31_16, aw_plan (id := 20) plL31_31_20, plL31_31_20, aw_plan (id := 21) plL31_31_21, plL31_31_21, aw_plan (id := 22) plL31_31_22, plL31_31_22, aw_plan (id := 26) plL31_31_26, plL31_31_26, aw_plan (id := 29) plL31_31_29, plL31_31_29, aw_plan (id := 30) plL31_31_30, plL31_31_30, pf, eA, iA, gA, gp3]
    generalize hG : Heap.set HA N _ = H2 at hB1 ⊢
    clear hG eA iA gA gp3 hle3 nA gp hB
    have gp := hB1.hp
    refine PC.step (p77 (x := b.getD k 0 + 9) (by omega)) fun m4 j4 => ?_
    try simp only [Heap.next_push, Heap.next_set, Heap.next_kill, next_bump, next_E0] at j4
    simp (maxSteps := 1000000) (disch := first | exact sd | fail) only [go_sem, Nat.reduceAdd, Nat.reduceSub, Nat.reduceLeDiff, ↓reduceIte, decide_eq_true_eq, if_true, if_false, Bool.false_eq_true, Int.lt_irrefl, implies_true, true_and, and_true, eq_self, and_self, beq_self_eq_true, aw_drawn (id := 9), aw_drawn' (id := 9), aw_plan (id := 14) plL31_31_14, plL31_31_14, aw_plan (id := 15) plL31_31_15, plL31_31_15, aw_plan (id := 16) plL31_31_16, plL31_31_16, aw_plan (id := 20) plL31_31_20, plL31_31_20, aw_plan (id := 21) plL31_31_21, plL31_31_21, aw_plan (id := 22) plL31_31_22, plL31_31_22, aw_plan (id := 26) plL31_31_26, plL31_31_26, aw_plan (id := 29) plL31_31_29, plL31_31_29, aw_plan (id := 30) plL31_31_30, plL31_31_30, gp]
    refine PC.step (p77 (x := - b.getD k 0) (by omega)) fun m5 j5 => ?_
    try simp only [Heap.next_push, Heap.next_set, Heap.next_kill, next_bump, next_E0] at j5
    obtain ⟨vB, HB, eB, iB, gB, nB, hB2⟩ := hB1.appB (H1 := (H2.bump m4).bump m5) ((Hle.rfl.bump j4).bump (by rw [next_bump]; exact j5)) [rq ((b.getD k 0 + 9 : Int) : Rat), rq ((- b.getD k 0 : Int) : Rat)] (m := 2) rfl (by rw [show (mB (fun i => b.getD i 0) k).length = 2 * k from tab_len]; omega)
    rw [fm2] at eB
    have eS := mB_succ (b := fun i => b.getD i 0) (m := k)
    rw [← eS] at hB2
    clear eS
    rw [next_bump] at eB
    simp (maxSteps := 1000000) (disch := first | exact sd | fail) only [go_sem, Nat.reduceAdd, Nat.reduceSub, Nat.reduceLeDiff, ↓reduceIte, decide_eq_true_eq, if_true, if_false, Bool.false_eq_true, Int.lt_irrefl, implies_true, true_and, and_true, eq_self, and_self, beq_self_eq_true, aw_drawn (id := 9), aw_drawn' (id := 9), aw_plan (id := 14) plL31_31_14, plL31_31_14, aw_plan (id := 15) plL31_31_15, plL31_31_15, aw_plan (id := 16) plL31_31_16, plL31_31_16, aw_plan (id := 20) plL31_31_20, plL31_31_20, aw_plan (id := 21) plL31_31_21, plL31_31_21, aw_plan (id := 22) plL31_31_22, plL31_31_22, aw_plan (id := 26) plL31_31_26, plL31_31_26, aw_plan (id := 29) plL31_31_29, plL31_31_29, aw_plan (id := 30) plL31_31_30, plL31_31_30, gp, eB, iB, gB]
    generalize hG : Heap.set HB N _ = H3 at hB2 ⊢
    clear hG eB iB gB nB gp hB1
    have gp := hB2.hp
    refine PC.step (p77 (x := c.getD k 0) (by omega)) fun m6 j6 => ?_
    try simp only [Heap.next_push, Heap.next_set, Heap.next_kill, next_bump, next_E0] at j6
    obtain ⟨vC, H4, eC, iC, gC, nC4, hB3⟩ := hB2.appC (H1 := H3.bump m6) (Hle.rfl.bump j6) [rq ((c.getD k 0 : Int) : Rat)] (m := 1) rfl (by rw [show (mC (fun i => c.getD i 0) k).length = k from tab_len]; omega)
    rw [fm1] at eC
    rw [next_bump] at eC
    have eS := mC_succ (c := fun i => c.getD i 0) (m := k)
    rw [← eS] at hB3
    clear eS
    have ga := hB3.ha
    rw [get_set_ne (by omega)] at ga
    have e8 : (if c.getD k 0 < 0 then 0 else c.getD k 0) = max (c.getD k 0) 0 := by split <;> omega
    have e9 : (if - c.getD k 0 < 0 then 0 else - c.getD k 0) = max (- c.getD k 0) 0 := by split <;> omega
    by_cases h7 : 0 < c.getD k 0
    · have hm := mul_bd (x := c.getD k 0) (y := b.getD k 0 + 9) (by omega) (by omega)
      have wm : IntKind.i64.wrap (c.getD k 0 * (b.getD k 0 + 9)) = c.getD k 0 * (b.getD k 0 + 9) := wrap_i64 (by omega) (by omega)
      have hx : xI (fun i => c.getD i 0) (fun i => b.getD i 0) k = b.getD k 0 + 9 := if_pos h7
      simp (maxSteps := 1000000) (disch := first | exact sd | fail) only [go_sem, Nat.reduceAdd, Nat.reduceSub, Nat.reduceLeDiff, ↓reduceIte, decide_eq_true_eq, if_true, if_false, Bool.false_eq_true, Int.lt_irrefl, implies_true, true_and, and_true, eq_self, and_self, beq_self_eq_true, aw_drawn (id := 9), aw_drawn' (id := 9), aw_plan (id := 14) plL31_31_14, plL31_31_14, aw_plan (id := 15) plL31_31_15, plL31_31_15, aw_plan (id := 16) plL31_31_16, plL31_31_16, aw_plan (id := 20) plL31_31_20, plL31_31_20, aw_plan (id := 21) plL31_31_21, plL31_31_21, aw_plan (id := 22) plL31_31_22, plL31_31_22, aw_plan (id := 26) plL31_31_26, plL31_31_26, aw_plan (id := 29) plL31_31_29, plL31_31_29, aw_plan (id := 30) plL31_31_30, plL31_31_30, gp, eC, iC, gC, h7, ga]
      generalize hG : Heap.set H4 N _ = H5 at hB3 ⊢
      clear hG eC iC gC nC4 gp hB2 ga
      have gp := hB3.ha
      refine PC.step (p77 (x := b.getD k 0 + 9) (by omega)) fun m7 j7 => ?_
      try simp only [Heap.next_push, Heap.next_set, Heap.next_kill, next_bump, next_E0] at j7
      obtain ⟨vX, H6, eX1, iX, gX, nX, hB4⟩ := hB3.appX (H1 := H5.bump m7) (Hle.rfl.bump j7) [rq ((b.getD k 0 + 9 : Int) : Rat)] (m := 1) rfl (by rw [show (mX (fun i => c.getD i 0) (fun i => b.getD i 0) k).length = k from tab_len]; omega)
      rw [fm1] at eX1
      rw [next_bump] at eX1
      have eS := mX_succ (c := fun i => c.getD i 0) (b := fun i => b.getD i 0) (m := k)
      rw [hx] at eS
      rw [← eS] at hB4
      clear eS
      simp (maxSteps := 1000000) (disch := first | exact sd | fail) only [go_sem, Nat.reduceAdd, Nat.reduceSub, Nat.reduceLeDiff, ↓reduceIte, decide_eq_true_eq, if_true, if_false, Bool.false_eq_true, Int.lt_irrefl, implies_true, true_and, and_true, eq_self, and_self, beq_self_eq_true, aw_drawn (id := 9), aw_drawn' (id := 9), aw_plan (id := 14) plL31_31_14, plL31_31_14, aw_plan (id := 15) plL31_31_15, plL31_31_15, aw_plan (id := 16) plL31_31_16, plL31_31_16, aw_plan (id := 20) plL31_31_20, plL31_31_20, aw_plan (id := 21) plL31_31_21, plL31_31_21, aw_plan (id := 22) plL31_31_22, plL31_31_22, aw_plan (id := 26) plL31_31_26, plL31_31_26, aw_plan (id := 29) plL31_31_29, plL31_31_29, aw_plan (id := 30) plL31_31_30, plL31_31_30, gp, eX1, iX, gX, e8, e9]
      generalize hG : Heap.set H6 m1 _ = H7 at hB4 ⊢
      clear hG eX1 iX gX nX gp hB3
      have gp := hB4.ha
      refine PC.step (p77 (x := max (c.getD k 0) 0) (by omega)) fun m8 j8 => ?_
      try simp only [Heap.next_push, Heap.next_set, Heap.next_kill, next_bump, next_E0] at j8
      simp (maxSteps := 1000000) (disch := first | exact sd | fail) only [go_sem, Nat.reduceAdd, Nat.reduceSub, Nat.reduceLeDiff, ↓reduceIte, decide_eq_true_eq, if_true, if_false, Bool.false_eq_true, Int.lt_irrefl, implies_true, true_and, and_true, eq_self, and_self, beq_self_eq_true, aw_drawn (id := 9), aw_drawn' (id := 9), aw_plan (id := 14) plL31_31_14, plL31_31_14, aw_plan (id := 15) plL31_31_15, plL31_31_15, aw_plan (id := 16) plL31_31_16, plL31_31_16, aw_plan (id := 20) plL31_31_20, plL31_31_20, aw_plan (id := 21) plL31_31_21, plL31_31_21, aw_plan (id := 22) plL31_31_22, plL31_31_22, aw_plan (id := 26) plL31_31_26, plL31_31_26, aw_plan (id := 29) plL31_31_29, plL31_31_29, aw_plan (id := 30) plL31_31_30, plL31_31_30, gp, e8, e9]
      refine PC.step (p77 (x := max (- c.getD k 0) 0) (by omega)) fun m9 j9 => ?_
      try simp only [Heap.next_push, Heap.next_set, Heap.next_kill, next_bump, next_E0] at j9
      obtain ⟨vY, H8, eY1, iY, gY, nY, hB5⟩ := hB4.appY (H1 := (H7.bump m8).bump m9) ((Hle.rfl.bump j8).bump (by rw [next_bump]; exact j9)) [rq ((max (c.getD k 0) 0 : Int) : Rat), rq ((max (- c.getD k 0) 0 : Int) : Rat)] (m := 2) rfl (by rw [show (mY (fun i => c.getD i 0) k).length = 2 * k from tab_len]; omega)
      rw [fm2] at eY1
      rw [next_bump] at eY1
      have eS := mY_succ (c := fun i => c.getD i 0) (m := k)
      rw [← eS] at hB5
      clear eS
      simp (maxSteps := 1000000) (disch := first | exact sd | fail) only [go_sem, Nat.reduceAdd, Nat.reduceSub, Nat.reduceLeDiff, ↓reduceIte, decide_eq_true_eq, if_true, if_false, Bool.false_eq_true, Int.lt_irrefl, implies_true, true_and, and_true, eq_self, and_self, beq_self_eq_true, aw_drawn (id := 9), aw_drawn' (id := 9), aw_plan (id := 14) plL31_31_14, plL31_31_14, aw_plan (id := 15) plL31_31_15, plL31_31_15, aw_plan (id := 16) plL31_31_16, plL31_31_16, aw_plan (id := 20) plL31_31_20, plL31_31_20, aw_plan (id := 21) plL31_31_21, plL31_31_21, aw_plan (id := 22) plL31_31_22, plL31_31_22, aw_plan (id := 26) plL31_31_26, plL31_31_26, aw_plan (id := 29) plL31_31_29, plL31_31_29, aw_plan (id := 30) plL31_31_30, plL31_31_30, gp, eY1, iY, gY, wm]
      generalize hG : Heap.set H8 m1 _ = H9 at hB5 ⊢
      clear hG eY1 iY gY nY gp hB4
      have gp := hB5.ha
      refine PC.step (p77 (x := c.getD k 0 * (b.getD k 0 + 9)) (by omega)) fun m10 j10 => ?_
      try simp only [Heap.next_push, Heap.next_set, Heap.next_kill, next_bump, next_E0] at j10
      simp (maxSteps := 1000000) (disch := first | exact sd | fail) only [go_sem, Nat.reduceAdd, Nat.reduceSub, Nat.reduceLeDiff, ↓reduceIte, decide_eq_true_eq, if_true, if_false, Bool.false_eq_true, Int.lt_irrefl, implies_true, true_and, and_true, eq_self, and_self, beq_self_eq_true, aw_drawn (id := 9), aw_drawn' (id := 9), aw_plan (id := 14) plL31_31_14, plL31_31_14, aw_plan (id := 15) plL31_31_15, plL31_31_15, aw_plan (id := 16) plL31_31_16, plL31_31_16, aw_plan (id := 20) plL31_31_20, plL31_31_20, aw_plan (id := 21) plL31_31_21, plL31_31_21, aw_plan (id := 22) plL31_31_22, plL31_31_22, aw_plan (id := 26) plL31_31_26, plL31_31_26, aw_plan (id := 29) plL31_31_29, plL31_31_29, aw_plan (id := 30) plL31_31_30, plL31_31_30, gp, wm]
      have qv := p90q (x := mV (fun i => c.getD i 0) (fun i => b.getD i 0) k) (y := ((c.getD k 0 * (b.getD k 0 + 9) : Int) : Rat)) (lq_mV hcg hbg (by omega)) (by have := lq_int (c.getD k 0 * (b.getD k 0 + 9)); have := ln_small (z := c.getD k 0 * (b.getD k 0 + 9)) (by omega); omega)
      refine PC.step (qv) fun m11 j11 => ?_
      try simp only [Heap.next_push, Heap.next_set, Heap.next_kill, next_bump, next_E0] at j11
      simp (maxSteps := 1000000) (disch := first | exact sd | fail) only [go_sem, Nat.reduceAdd, Nat.reduceSub, Nat.reduceLeDiff, ↓reduceIte, decide_eq_true_eq, if_true, if_false, Bool.false_eq_true, Int.lt_irrefl, implies_true, true_and, and_true, eq_self, and_self, beq_self_eq_true, aw_drawn (id := 9), aw_drawn' (id := 9), aw_plan (id := 14) plL31_31_14, plL31_31_14, aw_plan (id := 15) plL31_31_15, plL31_31_15, aw_plan (id := 16) plL31_31_16, plL31_31_16, aw_plan (id := 20) plL31_31_20, plL31_31_20, aw_plan (id := 21) plL31_31_21, plL31_31_21, aw_plan (id := 22) plL31_31_22, plL31_31_22, aw_plan (id := 26) plL31_31_26, plL31_31_26, aw_plan (id := 29) plL31_31_29, plL31_31_29, aw_plan (id := 30) plL31_31_30, plL31_31_30, gp, wm]
      have hB6 := hB5.setV (H1 := (H9.bump m10).bump m11) ((Hle.rfl.bump j10).bump (by rw [next_bump]; exact j11)) (mV (fun i => c.getD i 0) (fun i => b.getD i 0) k + ((c.getD k 0 * (b.getD k 0 + 9) : Int) : Rat))
      have eS := mV_succ (c := fun i => c.getD i 0) (b := fun i => b.getD i 0) (m := k)
      rw [hx] at eS
      rw [← eS] at hB6 ⊢
      exact IJ_intro (k := n - (k + 1)) (by omega) (k + 1) rfl ⟨rfl, by omega, _, _, _, _, _, hB6⟩
    · have hm := mul_bd (x := c.getD k 0) (y := b.getD k 0) (by omega) (by omega)
      have wm : IntKind.i64.wrap (c.getD k 0 * b.getD k 0) = c.getD k 0 * b.getD k 0 := wrap_i64 (by omega) (by omega)
      have hx : xI (fun i => c.getD i 0) (fun i => b.getD i 0) k = b.getD k 0 := if_neg h7
      simp (maxSteps := 1000000) (disch := first | exact sd | fail) only [go_sem, Nat.reduceAdd, Nat.reduceSub, Nat.reduceLeDiff, ↓reduceIte, decide_eq_true_eq, if_true, if_false, Bool.false_eq_true, Int.lt_irrefl, implies_true, true_and, and_true, eq_self, and_self, beq_self_eq_true, aw_drawn (id := 9), aw_drawn' (id := 9), aw_plan (id := 14) plL31_31_14, plL31_31_14, aw_plan (id := 15) plL31_31_15, plL31_31_15, aw_plan (id := 16) plL31_31_16, plL31_31_16, aw_plan (id := 20) plL31_31_20, plL31_31_20, aw_plan (id := 21) plL31_31_21, plL31_31_21, aw_plan (id := 22) plL31_31_22, plL31_31_22, aw_plan (id := 26) plL31_31_26, plL31_31_26, aw_plan (id := 29) plL31_31_29, plL31_31_29, aw_plan (id := 30) plL31_31_30, plL31_31_30, gp, eC, iC, gC, h7, ga]
      generalize hG : Heap.set H4 N _ = H5 at hB3 ⊢
      clear hG eC iC gC nC4 gp hB2 ga
      have gp := hB3.ha
      refine PC.step (p77 (x := b.getD k 0) (by omega)) fun m7 j7 => ?_
      try simp only [Heap.next_push, Heap.next_set, Heap.next_kill, next_bump, next_E0] at j7
      obtain ⟨vX, H6, eX1, iX, gX, nX, hB4⟩ := hB3.appX (H1 := H5.bump m7) (Hle.rfl.bump j7) [rq ((b.getD k 0 : Int) : Rat)] (m := 1) rfl (by rw [show (mX (fun i => c.getD i 0) (fun i => b.getD i 0) k).length = k from tab_len]; omega)
      rw [fm1] at eX1
      rw [next_bump] at eX1
      have eS := mX_succ (c := fun i => c.getD i 0) (b := fun i => b.getD i 0) (m := k)
      rw [hx] at eS
      rw [← eS] at hB4
      clear eS
      simp (maxSteps := 1000000) (disch := first | exact sd | fail) only [go_sem, Nat.reduceAdd, Nat.reduceSub, Nat.reduceLeDiff, ↓reduceIte, decide_eq_true_eq, if_true, if_false, Bool.false_eq_true, Int.lt_irrefl, implies_true, true_and, and_true, eq_self, and_self, beq_self_eq_true, aw_drawn (id := 9), aw_drawn' (id := 9), aw_plan (id := 14) plL31_31_14, plL31_31_14, aw_plan (id := 15) plL31_31_15, plL31_31_15, aw_plan (id := 16) plL31_31_16, plL31_31_16, aw_plan (id := 20) plL31_31_20, plL31_31_20, aw_plan (id := 21) plL31_31_21, plL31_31_21, aw_plan (id := 22) plL31_31_22, plL31_31_22, aw_plan (id := 26) plL31_31_26, plL31_31_26, aw_plan (id := 29) plL31_31_29, plL31_31_29, aw_plan (id := 30) plL31_31_30, plL31_31_30, gp, eX1, iX, gX, e8, e9]
      generalize hG : Heap.set H6 m1 _ = H7 at hB4 ⊢
      clear hG eX1 iX gX nX gp hB3
      have gp := hB4.ha
      refine PC.step (p77 (x := max (c.getD k 0) 0) (by omega)) fun m8 j8 => ?_
      try simp only [Heap.next_push, Heap.next_set, Heap.next_kill, next_bump, next_E0] at j8
      simp (maxSteps := 1000000) (disch := first | exact sd | fail) only [go_sem, Nat.reduceAdd, Nat.reduceSub, Nat.reduceLeDiff, ↓reduceIte, decide_eq_true_eq, if_true, if_false, Bool.false_eq_true, Int.lt_irrefl, implies_true, true_and, and_true, eq_self, and_self, beq_self_eq_true, aw_drawn (id := 9), aw_drawn' (id := 9), aw_plan (id := 14) plL31_31_14, plL31_31_14, aw_plan (id := 15) plL31_31_15, plL31_31_15, aw_plan (id := 16) plL31_31_16, plL31_31_16, aw_plan (id := 20) plL31_31_20, plL31_31_20, aw_plan (id := 21) plL31_31_21, plL31_31_21, aw_plan (id := 22) plL31_31_22, plL31_31_22, aw_plan (id := 26) plL31_31_26, plL31_31_26, aw_plan (id := 29) plL31_31_29, plL31_31_29, aw_plan (id := 30) plL31_31_30, plL31_31_30, gp, e8, e9]
      refine PC.step (p77 (x := max (- c.getD k 0) 0) (by omega)) fun m9 j9 => ?_
      try simp only [Heap.next_push, Heap.next_set, Heap.next_kill, next_bump, next_E0] at j9
      obtain ⟨vY, H8, eY1, iY, gY, nY, hB5⟩ := hB4.appY (H1 := (H7.bump m8).bump m9) ((Hle.rfl.bump j8).bump (by rw [next_bump]; exact j9)) [rq ((max (c.getD k 0) 0 : Int) : Rat), rq ((max (- c.getD k 0) 0 : Int) : Rat)] (m := 2) rfl (by rw [show (mY (fun i => c.getD i 0) k).length = 2 * k from tab_len]; omega)
      rw [fm2] at eY1
      rw [next_bump] at eY1
      have eS := mY_succ (c := fun i => c.getD i 0) (m := k)
      rw [← eS] at hB5
      clear eS
      simp (maxSteps := 1000000) (disch := first | exact sd | fail) only [go_sem, Nat.reduceAdd, Nat.reduceSub, Nat.reduceLeDiff, ↓reduceIte, decide_eq_true_eq, if_true, if_false, Bool.false_eq_true, Int.lt_irrefl, implies_true, true_and, and_true, eq_self, and_self, beq_self_eq_true, aw_drawn (id := 9), aw_drawn' (id := 9), aw_plan (id := 14) plL31_31_14, plL31_31_14, aw_plan (id := 15) plL31_31_15, plL31_31_15, aw_plan (id := 16) plL31_31_16, plL31_31_16, aw_plan (id := 20) plL31_31_20, plL31_31_20, aw_plan (id := 21) plL31_31_21, plL31_31_21, aw_plan (id := 22) plL31_31_22, plL31_31_22, aw_plan (id := 26) plL31_31_26, plL31_31_26, aw_plan (id := 29) plL31_31_29, plL31_31_29, aw_plan (id := 30) plL31_31_30, plL31_31_30, gp, eY1, iY, gY, wm]
      generalize hG : Heap.set H8 m1 _ = H9 at hB5 ⊢
      clear hG eY1 iY gY nY gp hB4
      have gp := hB5.ha
      refine PC.step (p77 (x := c.getD k 0 * (b.getD k 0)) (by omega)) fun m10 j10 => ?_
      try simp only [Heap.next_push, Heap.next_set, Heap.next_kill, next_bump, next_E0] at j10
      simp (maxSteps := 1000000) (disch := first | exact sd | fail) only [go_sem, Nat.reduceAdd, Nat.reduceSub, Nat.reduceLeDiff, ↓reduceIte, decide_eq_true_eq, if_true, if_false, Bool.false_eq_true, Int.lt_irrefl, implies_true, true_and, and_true, eq_self, and_self, beq_self_eq_true, aw_drawn (id := 9), aw_drawn' (id := 9), aw_plan (id := 14) plL31_31_14, plL31_31_14, aw_plan (id := 15) plL31_31_15, plL31_31_15, aw_plan (id := 16) plL31_31_16, plL31_31_16, aw_plan (id := 20) plL31_31_20, plL31_31_20, aw_plan (id := 21) plL31_31_21, plL31_31_21, aw_plan (id := 22) plL31_31_22, plL31_31_22, aw_plan (id := 26) plL31_31_26, plL31_31_26, aw_plan (id := 29) plL31_31_29, plL31_31_29, aw_plan (id := 30) plL31_31_30, plL31_31_30, gp, wm]
      have qv := p90q (x := mV (fun i => c.getD i 0) (fun i => b.getD i 0) k) (y := ((c.getD k 0 * (b.getD k 0) : Int) : Rat)) (lq_mV hcg hbg (by omega)) (by have := lq_int (c.getD k 0 * (b.getD k 0)); have := ln_small (z := c.getD k 0 * (b.getD k 0)) (by omega); omega)
      refine PC.step (qv) fun m11 j11 => ?_
      try simp only [Heap.next_push, Heap.next_set, Heap.next_kill, next_bump, next_E0] at j11
      simp (maxSteps := 1000000) (disch := first | exact sd | fail) only [go_sem, Nat.reduceAdd, Nat.reduceSub, Nat.reduceLeDiff, ↓reduceIte, decide_eq_true_eq, if_true, if_false, Bool.false_eq_true, Int.lt_irrefl, implies_true, true_and, and_true, eq_self, and_self, beq_self_eq_true, aw_drawn (id := 9), aw_drawn' (id := 9), aw_plan (id := 14) plL31_31_14, plL31_31_14, aw_plan (id := 15) plL31_31_15, plL31_31_15, aw_plan (id := 16) plL31_31_16, plL31_31_16, aw_plan (id := 20) plL31_31_20, plL31_31_20, aw_plan (id := 21) plL31_31_21, plL31_31_21, aw_plan (id := 22) plL31_31_22, plL31_31_22, aw_plan (id := 26) plL31_31_26, plL31_31_26, aw_plan (id := 29) plL31_31_29, plL31_31_29, aw_plan (id := 30) plL31_31_30, plL31_31_30, gp, wm]
      have hB6 := hB5.setV (H1 := (H9.bump m10).bump m11) ((Hle.rfl.bump j10).bump (by rw [next_bump]; exact j11)) (mV (fun i => c.getD i 0) (fun i => b.getD i 0) k + ((c.getD k 0 * (b.getD k 0) : Int) : Rat))
      have eS := mV_succ (c := fun i => c.getD i 0) (b := fun i => b.getD i 0) (m := k)
      rw [hx] at eS
      rw [← eS] at hB6 ⊢
      exact IJ_intro (k := n - (k + 1)) (by omega) (k + 1) rfl ⟨rfl, by omega, _, _, _, _, _, hB6⟩
  · have e : k = n := by omega
    subst e
    have gp := hB.hp
    have ga := hB.ha
    have hk0 : 0 < k := by omega
    have rA : ∀ j, Rg (rwi (mA k k) j) := fun j => by
      rcases Nat.lt_or_ge j (2 * k) with hj | hj
      · rw [mA_row hj]
        refine rg_row (by rw [unI_len]; omega) fun i hi => ?_
        rw [unI_len] at hi
        rw [unI_get hi]
        have := ln_small (z := if i = j / 2 then (if j % 2 = 0 then (1 : Int) else -1) else 0) (by (repeat' split) <;> decide)
        omega
      · rw [rwi_ge (by rw [mA_len]; exact hj)]; exact Rg.nil
    have rB : Rg (mB (fun i => b.getD i 0) k) := rg_tab (by omega) fun j => by have := hbg (j / 2); dsimp only; split <;> omega
    have rC : Rg (mC (fun i => c.getD i 0) k) := rg_tab (by omega) fun j => by have := hcg j; omega
    have rX : Rg (mX (fun i => c.getD i 0) (fun i => b.getD i 0) k) := rg_tab (by omega) fun j => by have := hbg j; unfold xI; dsimp only; split <;> omega
    have rY : Rg (mY (fun i => c.getD i 0) k) := rg_tab (by omega) fun j => by have := hcg (j / 2); dsimp only; split <;> omega
    have lA : (mA k k).length ≤ 200 := by rw [mA_len]; omega
    have t1 := p121 (n := k) (k := 1) (v := rq (mV (fun i => c.getD i 0) (fun i => b.getD i 0) k)) lA rA rB rC rX rY Rg.nil (Rz.rq (Nat.le_trans (lq_mVs hcg hbg (by omega)) (by decide)))
    rw [box_holds hk0 (by omega) (vq_rq _)] at t1
    simp (maxSteps := 1000000) (disch := first | exact sd | fail) only [go_sem, Nat.reduceAdd, Nat.reduceSub, Nat.reduceLeDiff, ↓reduceIte, decide_eq_true_eq, if_true, if_false, Bool.false_eq_true, Int.lt_irrefl, implies_true, true_and, and_true, eq_self, and_self, beq_self_eq_true, aw_drawn (id := 9), aw_drawn' (id := 9), aw_plan (id := 14) plL31_31_14, plL31_31_14, aw_plan (id := 15) plL31_31_15, plL31_31_15, aw_plan (id := 16) plL31_31_16, plL31_31_16, aw_plan (id := 20) plL31_31_20, plL31_31_20, aw_plan (id := 21) plL31_31_21, plL31_31_21, aw_plan (id := 22) plL31_31_22, plL31_31_22, aw_plan (id := 26) plL31_31_26, plL31_31_26, aw_plan (id := 29) plL31_31_29, plL31_31_29, aw_plan (id := 30) plL31_31_30, plL31_31_30, h4, gp, ga]
    refine hB.holds t1 ?_
    obtain ⟨i, hi⟩ : ∃ i : Nat, u.tmod (k : Int) = (i : Int) := ⟨(u.tmod k).toNat, by have := Int.tmod_nonneg (k : Int) hu.1; omega⟩
    have hik : i < k := by have := Int.tmod_lt_of_pos u (show (0 : Int) < k by omega); omega
    have w2 : IntKind.i64.wrap (2 * (i : Int)) = 2 * (i : Int) := wrap_i64 (by omega) (by omega)
    have wu : IntKind.i64.wrap u = u := wrap_i64 (by omega) (by omega)
    have lY : (mY (fun i => c.getD i 0) k).length = 2 * k := tab_len
    obtain ⟨b0, o, i1, bl, bh, r1, st⟩ := hB.stY (j := 2 * i) (by omega)
    have e2i : ((2 * i : Nat) : Int) = 2 * (i : Int) := by omega
    rw [e2i] at i1
    have gy : (mY (fun i => c.getD i 0) k).getD (2 * i) eQ.d = rq ((max (c.getD i 0) 0 : Int) : Rat) := by
      rw [getD_eq (by omega)]
      unfold mY tab
      rw [List.getElem_map, List.getElem_range]
      dsimp only
      rw [if_pos (show 2 * i % 2 = 0 by omega), show 2 * i / 2 = i by omega]
    rw [gy] at r1
    have nH := hB.hn
    have ci := hcg i
    have ly1 : lq ((max (c.getD i 0) 0 : Int) : Rat) ≤ 2 := Nat.le_trans (lq_int _) (by have := ln_small (z := max (c.getD i 0) 0) (by omega); omega)
    have lw1 : lq ((w : Int) : Rat) ≤ 2 := Nat.le_trans (lq_int _) (by have := ln_small (z := w) (by omega); omega)
    have lw2 : lq ((- w : Int) : Rat) ≤ 2 := Nat.le_trans (lq_int _) (by have := ln_small (z := - w) (by omega); omega)
    generalize ((max (c.getD i 0) 0 : Int) : Rat) = y at *
    have q1 := p90q (x := y) (y := ((w : Int) : Rat)) (by omega) (by omega)
    change PC Try.prog 48 [.agg ⟨eQ.enc (rq y)⟩, Qn _] _ at q1
    simp (maxSteps := 1000000) (disch := first | exact sd | fail) only [go_sem, Nat.reduceAdd, Nat.reduceSub, Nat.reduceLeDiff, ↓reduceIte, decide_eq_true_eq, if_true, if_false, Bool.false_eq_true, Int.lt_irrefl, implies_true, true_and, and_true, eq_self, and_self, beq_self_eq_true, aw_drawn (id := 9), aw_drawn' (id := 9), aw_plan (id := 14) plL31_31_14, plL31_31_14, aw_plan (id := 15) plL31_31_15, plL31_31_15, aw_plan (id := 16) plL31_31_16, plL31_31_16, aw_plan (id := 20) plL31_31_20, plL31_31_20, aw_plan (id := 21) plL31_31_21, plL31_31_21, aw_plan (id := 22) plL31_31_22, plL31_31_22, aw_plan (id := 26) plL31_31_26, plL31_31_26, aw_plan (id := 29) plL31_31_29, plL31_31_29, aw_plan (id := 30) plL31_31_30, plL31_31_30, gp, ga, hi, w2, wu, i1, r1]
    refine PC.step (p77 (x := w) (by omega)) fun m20 j20 => ?_
    try simp only [Heap.next_push, Heap.next_set, Heap.next_kill, next_bump, next_E0] at j20
    simp (maxSteps := 1000000) (disch := first | exact sd | fail) only [go_sem, Nat.reduceAdd, Nat.reduceSub, Nat.reduceLeDiff, ↓reduceIte, decide_eq_true_eq, if_true, if_false, Bool.false_eq_true, Int.lt_irrefl, implies_true, true_and, and_true, eq_self, and_self, beq_self_eq_true, aw_drawn (id := 9), aw_drawn' (id := 9), aw_plan (id := 14) plL31_31_14, plL31_31_14, aw_plan (id := 15) plL31_31_15, plL31_31_15, aw_plan (id := 16) plL31_31_16, plL31_31_16, aw_plan (id := 20) plL31_31_20, plL31_31_20, aw_plan (id := 21) plL31_31_21, plL31_31_21, aw_plan (id := 22) plL31_31_22, plL31_31_22, aw_plan (id := 26) plL31_31_26, plL31_31_26, aw_plan (id := 29) plL31_31_29, plL31_31_29, aw_plan (id := 30) plL31_31_30, plL31_31_30, gp, ga, hi, w2, wu, i1, r1]
    refine PC.step (q1) fun m21 j21 => ?_
    try simp only [Heap.next_push, Heap.next_set, Heap.next_kill, next_bump, next_E0] at j21
    have hle2 : Hle H1 ((H1.bump m20).bump m21) := (Hle.rfl.bump j20).bump (by rw [next_bump]; exact j21)
    obtain ⟨H2, s2, hB2, nx2⟩ := st _ (rq (y + ((w : Int) : Rat))) hle2
    rw [get_bump, get_bump] at s2
    change stRow _ b0 o [.bool (sgn (y + ((w : Int) : Rat)).num), Vv eU (lmb (y + ((w : Int) : Rat)).num), .bool (sgn ((y + ((w : Int) : Rat)).den : Int)), Vv eU (lmb ((y + ((w : Int) : Rat)).den : Int))] _ = _ at s2
    have gp2 := hB2.hp
    have ga2 := hB2.ha
    have hw0 : ((w : Int) : Rat) ≠ 0 := fun e => h2 (by exact_mod_cast e)
    have lz : lq (y + ((w : Int) : Rat)) ≤ 6 := by have := lq_add y ((w : Int) : Rat); omega
    have rY2 : Rg ((mY (fun i => c.getD i 0) k).set (2 * i) (rq (y + ((w : Int) : Rat)))) := rY.set lz
    have ey : ev (mY (fun i => c.getD i 0) k) (2 * i) = y := by unfold ev; rw [gy, vq_rq]
    have t2 := p121 (n := k) (k := 1) (v := rq (mV (fun i => c.getD i 0) (fun i => b.getD i 0) k)) lA rA rB rC rX rY2 Rg.nil (Rz.rq (Nat.le_trans (lq_mVs hcg hbg (by omega)) (by decide)))
    rw [box_moved hk0 (by omega) hik hw0 (by rw [ev_set_self (by omega), ey]) (ev_set_ne (by omega))] at t2
    simp (maxSteps := 1000000) (disch := first | exact sd | fail) only [go_sem, Nat.reduceAdd, Nat.reduceSub, Nat.reduceLeDiff, ↓reduceIte, decide_eq_true_eq, if_true, if_false, Bool.false_eq_true, Int.lt_irrefl, implies_true, true_and, and_true, eq_self, and_self, beq_self_eq_true, aw_drawn (id := 9), aw_drawn' (id := 9), aw_plan (id := 14) plL31_31_14, plL31_31_14, aw_plan (id := 15) plL31_31_15, plL31_31_15, aw_plan (id := 16) plL31_31_16, plL31_31_16, aw_plan (id := 20) plL31_31_20, plL31_31_20, aw_plan (id := 21) plL31_31_21, plL31_31_21, aw_plan (id := 22) plL31_31_22, plL31_31_22, aw_plan (id := 26) plL31_31_26, plL31_31_26, aw_plan (id := 29) plL31_31_29, plL31_31_29, aw_plan (id := 30) plL31_31_30, plL31_31_30, gp, ga, hi, w2, wu, i1, s2, gp2, ga2]
    refine hB2.holds t2 ?_
    obtain ⟨b3, o3, i3, bl3, bh3, r3, st3⟩ := hB2.stY (j := 2 * i) (by rw [List.length_set]; omega)
    rw [e2i] at i3
    have gy3 : ((mY (fun i => c.getD i 0) k).set (2 * i) (rq (y + ((w : Int) : Rat)))).getD (2 * i) eQ.d = rq (y + ((w : Int) : Rat)) := by
      rw [getD_eq (by rw [List.length_set]; omega), List.getElem_set_self]
    rw [gy3] at r3
    have q2 := p90q (x := y + ((w : Int) : Rat)) (y := ((- w : Int) : Rat)) (by omega) (by omega)
    change PC Try.prog 48 [.agg ⟨eQ.enc (rq (y + ((w : Int) : Rat)))⟩, Qn _] _ at q2
    have back : y + ((w : Int) : Rat) + ((- w : Int) : Rat) = y := by rw [Rat.intCast_neg]; grind
    rw [back] at q2
    have wn : IntKind.i64.wrap (- w) = - w := wrap_i64 (by omega) (by omega)
    simp (maxSteps := 1000000) (disch := first | exact sd | fail) only [go_sem, Nat.reduceAdd, Nat.reduceSub, Nat.reduceLeDiff, ↓reduceIte, decide_eq_true_eq, if_true, if_false, Bool.false_eq_true, Int.lt_irrefl, implies_true, true_and, and_true, eq_self, and_self, beq_self_eq_true, aw_drawn (id := 9), aw_drawn' (id := 9), aw_plan (id := 14) plL31_31_14, plL31_31_14, aw_plan (id := 15) plL31_31_15, plL31_31_15, aw_plan (id := 16) plL31_31_16, plL31_31_16, aw_plan (id := 20) plL31_31_20, plL31_31_20, aw_plan (id := 21) plL31_31_21, plL31_31_21, aw_plan (id := 22) plL31_31_22, plL31_31_22, aw_plan (id := 26) plL31_31_26, plL31_31_26, aw_plan (id := 29) plL31_31_29, plL31_31_29, aw_plan (id := 30) plL31_31_30, plL31_31_30, gp2, ga2, hi, w2, wu, i3, r3, wn]
    refine PC.step (p77 (x := - w) (by omega)) fun m22 j22 => ?_
    try simp only [Heap.next_push, Heap.next_set, Heap.next_kill, next_bump, next_E0] at j22
    simp (maxSteps := 1000000) (disch := first | exact sd | fail) only [go_sem, Nat.reduceAdd, Nat.reduceSub, Nat.reduceLeDiff, ↓reduceIte, decide_eq_true_eq, if_true, if_false, Bool.false_eq_true, Int.lt_irrefl, implies_true, true_and, and_true, eq_self, and_self, beq_self_eq_true, aw_drawn (id := 9), aw_drawn' (id := 9), aw_plan (id := 14) plL31_31_14, plL31_31_14, aw_plan (id := 15) plL31_31_15, plL31_31_15, aw_plan (id := 16) plL31_31_16, plL31_31_16, aw_plan (id := 20) plL31_31_20, plL31_31_20, aw_plan (id := 21) plL31_31_21, plL31_31_21, aw_plan (id := 22) plL31_31_22, plL31_31_22, aw_plan (id := 26) plL31_31_26, plL31_31_26, aw_plan (id := 29) plL31_31_29, plL31_31_29, aw_plan (id := 30) plL31_31_30, plL31_31_30, gp2, ga2, hi, w2, wu, i3, r3, wn]
    refine PC.step (q2) fun m23 j23 => ?_
    try simp only [Heap.next_push, Heap.next_set, Heap.next_kill, next_bump, next_E0] at j23
    have hle4 : Hle H2 ((H2.bump m22).bump m23) := (Hle.rfl.bump j22).bump (by rw [next_bump]; exact j23)
    obtain ⟨H3, s4, hB3, nx3⟩ := st3 _ (rq y) hle4
    rw [get_bump, get_bump] at s4
    change stRow _ b3 o3 [.bool (sgn y.num), Vv eU (lmb y.num), .bool (sgn (y.den : Int)), Vv eU (lmb (y.den : Int))] _ = _ at s4
    have same : ((mY (fun i => c.getD i 0) k).set (2 * i) (rq (y + ((w : Int) : Rat)))).set (2 * i) (rq y) = mY (fun i => c.getD i 0) k := by
      rw [List.set_set, ← gy, getD_eq (by omega)]
      exact List.set_getElem_self _
    rw [same] at hB3
    have gp3 := hB3.hp
    have ga3 := hB3.ha
    have q3 := p90q (x := mV (fun i => c.getD i 0) (fun i => b.getD i 0) k) (y := ((w : Int) : Rat)) (Nat.le_trans (lq_mVs hcg hbg (by omega)) (by decide)) (by omega)
    simp (maxSteps := 1000000) (disch := first | exact sd | fail) only [go_sem, Nat.reduceAdd, Nat.reduceSub, Nat.reduceLeDiff, ↓reduceIte, decide_eq_true_eq, if_true, if_false, Bool.false_eq_true, Int.lt_irrefl, implies_true, true_and, and_true, eq_self, and_self, beq_self_eq_true, aw_drawn (id := 9), aw_drawn' (id := 9), aw_plan (id := 14) plL31_31_14, plL31_31_14, aw_plan (id := 15) plL31_31_15, plL31_31_15, aw_plan (id := 16) plL31_31_16, plL31_31_16, aw_plan (id := 20) plL31_31_20, plL31_31_20, aw_plan (id := 21) plL31_31_21, plL31_31_21, aw_plan (id := 22) plL31_31_22, plL31_31_22, aw_plan (id := 26) plL31_31_26, plL31_31_26, aw_plan (id := 29) plL31_31_29, plL31_31_29, aw_plan (id := 30) plL31_31_30, plL31_31_30, gp2, ga2, hi, w2, wu, i3, s4, gp3, ga3, wn]
    refine PC.step (p77 (x := w) (by omega)) fun m24 j24 => ?_
    try simp only [Heap.next_push, Heap.next_set, Heap.next_kill, next_bump, next_E0] at j24
    simp (maxSteps := 1000000) (disch := first | exact sd | fail) only [go_sem, Nat.reduceAdd, Nat.reduceSub, Nat.reduceLeDiff, ↓reduceIte, decide_eq_true_eq, if_true, if_false, Bool.false_eq_true, Int.lt_irrefl, implies_true, true_and, and_true, eq_self, and_self, beq_self_eq_true, aw_drawn (id := 9), aw_drawn' (id := 9), aw_plan (id := 14) plL31_31_14, plL31_31_14, aw_plan (id := 15) plL31_31_15, plL31_31_15, aw_plan (id := 16) plL31_31_16, plL31_31_16, aw_plan (id := 20) plL31_31_20, plL31_31_20, aw_plan (id := 21) plL31_31_21, plL31_31_21, aw_plan (id := 22) plL31_31_22, plL31_31_22, aw_plan (id := 26) plL31_31_26, plL31_31_26, aw_plan (id := 29) plL31_31_29, plL31_31_29, aw_plan (id := 30) plL31_31_30, plL31_31_30, gp3, ga3]
    refine PC.step (q3) fun m25 j25 => ?_
    try simp only [Heap.next_push, Heap.next_set, Heap.next_kill, next_bump, next_E0] at j25
    have hB4 := hB3.setV (H1 := (H3.bump m24).bump m25) ((Hle.rfl.bump j24).bump (by rw [next_bump]; exact j25)) (mV (fun i => c.getD i 0) (fun i => b.getD i 0) k + ((w : Int) : Rat))
    have gp4 := hB4.hp
    have ga4 := hB4.ha
    have lv := lq_add (mV (fun i => c.getD i 0) (fun i => b.getD i 0) k) ((w : Int) : Rat)
    have lv2 := lq_mVs hcg hbg (k := k) (by omega)
    have t3 := p121 (n := k) (k := 1) (v := rq (mV (fun i => c.getD i 0) (fun i => b.getD i 0) k + ((w : Int) : Rat))) lA rA rB rC rX rY Rg.nil (Rz.rq (by omega))
    rw [box_off hw0 (vq_rq _)] at t3
    simp (maxSteps := 1000000) (disch := first | exact sd | fail) only [go_sem, Nat.reduceAdd, Nat.reduceSub, Nat.reduceLeDiff, ↓reduceIte, decide_eq_true_eq, if_true, if_false, Bool.false_eq_true, Int.lt_irrefl, implies_true, true_and, and_true, eq_self, and_self, beq_self_eq_true, aw_drawn (id := 9), aw_drawn' (id := 9), aw_plan (id := 14) plL31_31_14, plL31_31_14, aw_plan (id := 15) plL31_31_15, plL31_31_15, aw_plan (id := 16) plL31_31_16, plL31_31_16, aw_plan (id := 20) plL31_31_20, plL31_31_20, aw_plan (id := 21) plL31_31_21, plL31_31_21, aw_plan (id := 22) plL31_31_22, plL31_31_22, aw_plan (id := 26) plL31_31_26, plL31_31_26, aw_plan (id := 29) plL31_31_29, plL31_31_29, aw_plan (id := 30) plL31_31_30, plL31_31_30, gp3, ga3]
    refine hB4.holds t3 ?_
    simp (maxSteps := 1000000) (disch := first | exact sd | fail) only [go_sem, Nat.reduceAdd, Nat.reduceSub, Nat.reduceLeDiff, ↓reduceIte, decide_eq_true_eq, if_true, if_false, Bool.false_eq_true, Int.lt_irrefl, implies_true, true_and, and_true, eq_self, and_self, beq_self_eq_true, aw_drawn (id := 9), aw_drawn' (id := 9), aw_plan (id := 14) plL31_31_14, plL31_31_14, aw_plan (id := 15) plL31_31_15, plL31_31_15, aw_plan (id := 16) plL31_31_16, plL31_31_16, aw_plan (id := 20) plL31_31_20, plL31_31_20, aw_plan (id := 21) plL31_31_21, plL31_31_21, aw_plan (id := 22) plL31_31_22, plL31_31_22, aw_plan (id := 26) plL31_31_26, plL31_31_26, aw_plan (id := 29) plL31_31_29, plL31_31_29, aw_plan (id := 30) plL31_31_30, plL31_31_30]
    refine PC.step (p116) fun m26 j26 => ?_
    try simp only [Heap.next_push, Heap.next_set, Heap.next_kill, next_bump, next_E0] at j26
    simp (maxSteps := 1000000) (disch := first | exact sd | fail) only [go_sem, Nat.reduceAdd, Nat.reduceSub, Nat.reduceLeDiff, ↓reduceIte, decide_eq_true_eq, if_true, if_false, Bool.false_eq_true, Int.lt_irrefl, implies_true, true_and, and_true, eq_self, and_self, beq_self_eq_true, aw_drawn (id := 9), aw_drawn' (id := 9), aw_plan (id := 14) plL31_31_14, plL31_31_14, aw_plan (id := 15) plL31_31_15, plL31_31_15, aw_plan (id := 16) plL31_31_16, plL31_31_16, aw_plan (id := 20) plL31_31_20, plL31_31_20, aw_plan (id := 21) plL31_31_21, plL31_31_21, aw_plan (id := 22) plL31_31_22, plL31_31_22, aw_plan (id := 26) plL31_31_26, plL31_31_26, aw_plan (id := 29) plL31_31_29, plL31_31_29, aw_plan (id := 30) plL31_31_30, plL31_31_30]
    exact .rfl
theorem lawLpMade {H : Heap} {xs : List Value} (hf : ∀ b, H.next ≤ b → H.get b = none) (hg : GoodArgs Try.prog H 8 [72, 72, 5, 73] xs) : ACalls Try.prog 12 xs H fun v _ => v = .bool true := by
  obtain ⟨ps, h1, h2, h3⟩ := args_frz hf (by intro t ht; simp only [List.mem_cons, List.not_mem_nil, or_false] at ht; rcases ht with rfl | rfl | rfl | rfl <;> kernel_rfl) hg
  obtain ⟨p0, ps0, rfl, a0, r0⟩ := h3.cons
  obtain ⟨c, rfl, hc⟩ := a0.i8s
  obtain ⟨p1, ps1, rfl, a1, r1⟩ := r0.cons
  obtain ⟨b, rfl, hb⟩ := a1.i8s
  obtain ⟨p2, ps2, rfl, a2, r2⟩ := r1.cons
  obtain ⟨u, rfl, hu⟩ := a2.int Try.underlying5
  obtain ⟨p3, ps3, rfl, a3, r3⟩ := r2.cons
  obtain ⟨w, rfl, hw⟩ := a3.int Try.underlying73
  obtain rfl := r3.nil
  exact (q31 hc hb (wf_u8 hu) (wf_i8 hw)).law h1
end Go.Abs
