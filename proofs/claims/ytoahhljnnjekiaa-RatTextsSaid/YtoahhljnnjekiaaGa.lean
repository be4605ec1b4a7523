/- Joined: G1, G2, G3. -/
import Derived.Test.YtoahhljnnjekiaaYc
import Derived.Test.YtoahhljnnjekiaaChecked
import Derived.Lib.Strings
import Derived.Lib.Slices
import Derived.Lib.Walk
import Derived.Lib.Bytealg
import Derived.Lib.IndexLaws
import Derived.Test.YtoahhljnnjekiaaWa
import Derived.Test.YtoahhljnnjekiaaY8
import Derived.Test.YtoahhljnnjekiaaV5
/- The place of a byte in a text (the walk is laid by the kit's contract.sh for this program); parts of texts. -/
set_option linter.unusedVariables false
set_option linter.unusedSimpArgs false
namespace Go.Proofs
set_option maxHeartbeats 1000000 in
set_option maxRecDepth 100000 in
theorem Try.stringslite_IndexByte (s : ByteArray) (c : Int) (w : World) :
    Calls Try.prog 120 #[.string s, .int .u8 c] w fun e w' => e = .returned (.int .i64 (Lib.indexByte s.data.toList c.toNat.toUInt8)) ∧ w' = w := by
  go_enter Try.func120, Try.ntmps120
  go_wp2
  rw [run_callFunc_extern Try.func129 (by kernel_rfl) (by kernel_rfl) (by kernel_rfl) (e := Extern.BytealgIndexByte.indexByte) (by kernel_rfl), Lib.run_indexByteString]
  simp only [Result.andThen]
  rw [Oper.upon_value]
  go_wp2
  go_ret
  exact ⟨rfl, rfl⟩
end Go.Proofs
namespace Go.Abs
open Go Go.Proofs
set_option maxRecDepth 100000
set_option maxHeartbeats 4000000
/-- Where a '/' is. -/
def cutI (s : ByteArray) : Int := Lib.indexByte s.data.toList 47
theorem p252 {s : ByteArray} : PC Try.prog 120 [.string s, .int .u8 47] (.int .i64 (cutI s)) := by
  refine PC.of (.cons (.ground rfl) (.cons (.ground rfl) .nil)) (.ground rfl) fun N hN => ⟨⟨_, Try.func120, rfl, rfl⟩, fun ρ w cargs hR ha => ?_⟩
  obtain ⟨L⟩ := cargs
  have e : L = [.string s, .int .u8 47] := ha.gr_eq rfl
  subst e
  refine (Try.stringslite_IndexByte s 47 w).mono ?_
  rintro en w' ⟨rfl, rfl⟩
  exact ⟨_, _, ρ, _, rfl, Ext.refl hR, .ground rfl, .rfl⟩
theorem cutI_none {s : ByteArray} (h : cutI s < 0) : ∀ x ∈ chs s, x ≠ 47 := by
  intro x hx e
  subst e
  obtain ⟨b, hb, hb2⟩ := List.mem_map.1 hx
  obtain ⟨k, hk, hk2⟩ := List.getElem_of_mem hb
  have h1 := Lib.indexByte_ge s.data.toList 47
  refine Lib.indexByte_none (l := s.data.toList) (c := 47) (by unfold cutI at h; omega) k ?_
  rw [List.getElem?_eq_getElem hk, hk2]
  congr 1
  exact UInt8.toNat_inj.1 (by exact Int.ofNat.inj hb2)
theorem cutI_some {s : ByteArray} {o : Nat} (h : cutI s = o) : o < (chs s).length ∧ (chs s).getD o 0 = 47 ∧ ∀ k, k < o → (chs s).getD k 0 ≠ 47 := by
  obtain ⟨h1, h2⟩ := Lib.indexByte_some (l := s.data.toList) (c := 47) h
  obtain ⟨h3, h4⟩ := List.getElem?_eq_some_iff.1 h1
  have hl : (chs s).length = s.data.toList.length := by unfold chs; rw [List.length_map]
  refine ⟨by rw [hl]; exact h3, ?_, fun k hk e => ?_⟩
  · unfold chs
    rw [List.getD_eq_getElem?_getD, List.getElem?_map, h1]; rfl
  · refine h2 k hk ?_
    have hk2 : k < s.data.toList.length := by omega
    unfold chs at e
    rw [List.getD_eq_getElem?_getD, List.getElem?_map, List.getElem?_eq_getElem hk2] at e
    rw [List.getElem?_eq_getElem hk2]
    congr 1
    exact UInt8.toNat_inj.1 (by exact Int.ofNat.inj e)
theorem cutI_bd (s : ByteArray) : -1 ≤ cutI s ∧ cutI s < (chs s).length := by
  have h1 := Lib.indexByte_ge s.data.toList 47
  refine ⟨h1, ?_⟩
  rcases Int.lt_or_le (cutI s) 0 with h | h
  · omega
  · obtain ⟨o, ho⟩ : ∃ o : Nat, cutI s = o := ⟨(cutI s).toNat, by omega⟩
    have := (cutI_some ho).1
    omega
theorem chs_take (s : ByteArray) (a : Nat) : chs (s.extract 0 a) = (chs s).take a := by
  unfold chs
  have : (s.extract 0 a).data.toList = s.data.toList.take a := by
    rw [ByteArray.data_extract, Array.toList_extract, List.extract_eq_take_drop]
    simp
  rw [this, List.map_take]
variable {P : Program} {t : TypeId} {H : Heap}
theorem up_str {s : ByteArray} (hu : P.underlying t = some .string) {k : IntKind} {i : Int} (h0 : 0 ≤ i) (h1 : i ≤ (chs s).length) : aSlice P H t (.string s) none (some (.int k i)) none = some (.string (s.extract 0 i.toNat)) := by
  rw [chs_len] at h1
  have : semPure P (Instr.sliceAt t (.string s) none (some (.int k i)) none) = some (.string (s.extract 0 i.toNat)) := by
    refine (semPure_bind _ _ (semPure_und hu)).trans ?_
    refine (semPure_bind _ _ (semPure_und hu)).trans ?_
    simp [Instr.sliceBounds, Instr.sliceBound, asIntOf, semPure, bind, Sem.bind, pure, h0, h1]
  simp [aSlice, hu, gr_int, scal, this, gr, ground]
end Go.Abs

/- Texts cut in two at a '/'; numbers of short texts. -/
set_option linter.unusedVariables false
set_option linter.unusedSimpArgs false
namespace Go.Abs
open Go Go.Proofs
set_option maxRecDepth 100000
set_option maxHeartbeats 4000000

/-! ### plainly -/
def pl170_13 : Plan := ⟨[0, 1, 3], [(2, [3], []), (4, [], []), (5, [], [6])]⟩
theorem rdL_lt : ∀ (l : List Int) (a : Nat), (∀ x ∈ l, isDig x) → rdL l a < (a + 1) * 10 ^ l.length
  | [], a, _ => by rw [rdL_nil, List.length_nil, Nat.pow_zero]; omega
  | x :: l, a, h => by
    have hx := h x (by simp)
    unfold isDig at hx
    have h1 := rdL_lt l (a * 10 + (x - 48).toNat) fun y hy => h y (by simp [hy])
    rw [rdL_cons, List.length_cons, Nat.pow_succ]
    refine Nat.lt_of_lt_of_le h1 ?_
    rw [Nat.mul_comm (10 ^ l.length) 10, ← Nat.mul_assoc]
    exact Nat.mul_le_mul_right _ (by omega)
theorem rdL_ge : ∀ (l : List Int) (a : Nat), a * 10 ^ l.length ≤ rdL l a
  | [], a => by rw [rdL_nil, List.length_nil, Nat.pow_zero]; omega
  | x :: l, a => by
    have h1 := rdL_ge l (a * 10 + (x - 48).toNat)
    rw [rdL_cons, List.length_cons, Nat.pow_succ]
    refine Nat.le_trans ?_ h1
    rw [Nat.mul_comm (10 ^ l.length) 10, ← Nat.mul_assoc]
    exact Nat.mul_le_mul_right _ (by omega)
theorem ln_zd (l : List Int) : ln (zdV l) ≤ l.length := by
  unfold zdV
  by_cases h : okN l = true
  · rw [if_pos h]
    have h1 := rdL_lt (dgs l) 0 (okN_dig h)
    rw [Nat.zero_add, Nat.one_mul] at h1
    have h2 := dgs_len l
    have h3 : (zdN l).natAbs = rdL (dgs l) 0 := by unfold zdN; split <;> omega
    refine ln_le ?_
    rw [h3]
    refine Nat.lt_of_lt_of_le h1 (Nat.le_trans (Nat.pow_le_pow_left (by decide) _) (Nat.pow_le_pow_right (by decide) h2))
  · rw [if_neg h, ln_zero]; omega
theorem ok_one {l : List Int} (h : okN l = true) (h1 : zdN l = 1) : l = [49] := by
  have hh : ¬ l.headD 0 = 45 := fun e => by unfold zdN at h1; rw [if_pos e] at h1; omega
  have hd : dgs l = l := by unfold dgs; rw [if_neg hh]
  have h2 := h
  simp only [okN, decide_eq_true_eq] at h2
  rw [hd] at h2
  have hdig := okN_dig h
  rw [hd] at hdig
  unfold zdN at h1
  rw [if_neg hh, hd] at h1
  cases l with
  | nil => exact absurd rfl h2.1
  | cons x r =>
    have hx := hdig x (by simp)
    unfold isDig at hx
    have h3 := rdL_ge r (0 * 10 + (x - 48).toNat)
    rw [rdL_cons] at h1
    cases r with
    | nil =>
      rw [rdL_nil] at h1
      have : x = 49 := by omega
      rw [this]
    | cons y r =>
      exfalso
      have h4 : x ≠ 48 := fun e => h2.2.1 ⟨by rw [e]; rfl, .inl (by simp)⟩
      have h5 : 10 ≤ 10 ^ (y :: r).length := by
        rw [List.length_cons, Nat.pow_succ]
        have : 1 ≤ 10 ^ r.length := Nat.one_le_pow _ _ (by decide)
        omega
      have h6 : 10 ≤ (0 * 10 + (x - 48).toNat) * 10 ^ (y :: r).length := Nat.le_trans h5 (Nat.le_mul_of_pos_left _ (by omega))
      omega
/-- The texts ahead of and behind the '/'. -/
def cutA (s : ByteArray) : ByteArray := s.extract 0 (cutI s).toNat
def cutB (s : ByteArray) : ByteArray := s.extract ((cutI s).toNat + 1) s.size
theorem cutA_len {s : ByteArray} : (cutA s).size ≤ s.size := by
  rw [← chs_len, ← chs_len]; unfold cutA; rw [chs_take, List.length_take]; omega
theorem cutB_len {s : ByteArray} : (cutB s).size ≤ s.size := by
  rw [← chs_len, ← chs_len]; unfold cutB; rw [chs_extract, List.length_drop]; omega

/-! ### calls -/
theorem p235 {s : ByteArray} : PC Try.prog 112 [.string s, .string ⟨#[47]⟩] (.int .i64 (cutI s)) := by
  refine PC.of (.cons (.ground rfl) (.cons (.ground rfl) .nil)) (.ground rfl) fun N hN => ?_
  have hl := ln_str (P := Try.prog) (s := ⟨#[47]⟩) Try.underlying9
  have hi := ix_str (P := Try.prog) (s := ⟨#[47]⟩) (k := .i64) (i := 0) Try.underlying9 (by omega) (by decide)
  rw [show (chs ⟨#[47]⟩).length = 1 from rfl] at hl
  rw [show (chs ⟨#[47]⟩).getD (0 : Int).toNat 0 = 47 from rfl] at hi
  refine ACalls.of_code T.hm (n := 141) Try.func112 rfl rfl rfl rfl ?_; simp only [List.replicate_succ, List.replicate_zero, List.cons_append, List.nil_append]
  simp (maxSteps := 1000000) (disch := first | exact sd | fail) only [go_sem, Nat.reduceAdd, Nat.reduceSub, Nat.reduceLeDiff, ↓reduceIte, decide_eq_true_eq, if_true, if_false, Bool.false_eq_true, Int.lt_irrefl, implies_true, true_and, and_true, eq_self, and_self, beq_self_eq_true, hl, hi, Int.natCast_one, show ¬ (1 : Int) = 0 by decide]
  split
  · rename_i h
    rw [seql, decide_eq_true_eq] at h
    have e := chs_inj h
    subst e
    rw [show cutI ⟨#[47]⟩ = 0 from rfl]
    exact .rfl
  · refine PC.step (p252) fun m1 j1 => ?_
    try simp only [Heap.next_push, Heap.next_set, Heap.next_kill, next_bump, next_E0] at j1
    simp (maxSteps := 1000000) (disch := first | exact sd | fail) only [go_sem, Nat.reduceAdd, Nat.reduceSub, Nat.reduceLeDiff, ↓reduceIte, decide_eq_true_eq, if_true, if_false, Bool.false_eq_true, Int.lt_irrefl, implies_true, true_and, and_true, eq_self, and_self, beq_self_eq_true]
    exact .rfl
def cutV2 (s : ByteArray) : Value := if cutI s < 0 then .tuple ⟨[.string s, .string ⟨#[]⟩, .bool false]⟩ else .tuple ⟨[.string (cutA s), .string (cutB s), .bool true]⟩
theorem p216 {s : ByteArray} (hs : s.size ≤ 2 ^ 40) : PC Try.prog 107 [.string s, .string ⟨#[47]⟩] (cutV2 s) := by
  refine PC.of (.cons (.ground rfl) (.cons (.ground rfl) .nil)) (by unfold cutV2; split <;> exact .tuple (.cons (.ground rfl) (.cons (.ground rfl) (.cons (.ground rfl) .nil)))) fun N hN => ?_
  have hl := ln_str (P := Try.prog) (s := ⟨#[47]⟩) Try.underlying9
  rw [show (chs ⟨#[47]⟩).length = 1 from rfl] at hl
  have hb := cutI_bd s
  have hc := chs_len s
  unfold cutV2
  by_cases h : cutI s < 0
  · rw [if_pos h]
    refine ACalls.of_code T.hm (n := 21) Try.func107 rfl rfl rfl rfl ?_; simp only [List.replicate_succ, List.replicate_zero, List.cons_append, List.nil_append]
    simp (maxSteps := 1000000) (disch := first | exact sd | fail) only [go_sem, Nat.reduceAdd, Nat.reduceSub, Nat.reduceLeDiff, ↓reduceIte, decide_eq_true_eq, if_true, if_false, Bool.false_eq_true, Int.lt_irrefl, implies_true, true_and, and_true, eq_self, and_self, beq_self_eq_true, aw_drawn (id := 3), aw_drawn' (id := 3)]
    refine PC.step (p235) fun m1 j1 => ?_
    try simp only [Heap.next_push, Heap.next_set, Heap.next_kill, next_bump, next_E0] at j1
    simp (maxSteps := 1000000) (disch := first | exact sd | fail) only [go_sem, Nat.reduceAdd, Nat.reduceSub, Nat.reduceLeDiff, ↓reduceIte, decide_eq_true_eq, if_true, if_false, Bool.false_eq_true, Int.lt_irrefl, implies_true, true_and, and_true, eq_self, and_self, beq_self_eq_true, aw_drawn (id := 3), aw_drawn' (id := 3), show ¬ (0 : Int) ≤ cutI s by omega]
    exact .rfl
  · rw [if_neg h]
    have h1 := fun H => up_str (P := Try.prog) (H := H) (s := s) (k := .i64) (i := cutI s) Try.underlying9 (by omega) (by omega)
    have h2 := fun H => sl_str (P := Try.prog) (H := H) (s := s) (k := .i64) (i := cutI s + 1) Try.underlying9 (by omega) (by omega)
    rw [show (cutI s + 1).toNat = (cutI s).toNat + 1 by omega] at h2
    refine ACalls.of_code T.hm (n := 21) Try.func107 rfl rfl rfl rfl ?_; simp only [List.replicate_succ, List.replicate_zero, List.cons_append, List.nil_append]
    simp (maxSteps := 1000000) (disch := first | exact sd | fail) only [go_sem, Nat.reduceAdd, Nat.reduceSub, Nat.reduceLeDiff, ↓reduceIte, decide_eq_true_eq, if_true, if_false, Bool.false_eq_true, Int.lt_irrefl, implies_true, true_and, and_true, eq_self, and_self, beq_self_eq_true, aw_drawn (id := 3), aw_drawn' (id := 3)]
    refine PC.step (p235) fun m1 j1 => ?_
    try simp only [Heap.next_push, Heap.next_set, Heap.next_kill, next_bump, next_E0] at j1
    simp (maxSteps := 1000000) (disch := first | exact sd | fail) only [go_sem, Nat.reduceAdd, Nat.reduceSub, Nat.reduceLeDiff, ↓reduceIte, decide_eq_true_eq, if_true, if_false, Bool.false_eq_true, Int.lt_irrefl, implies_true, true_and, and_true, eq_self, and_self, beq_self_eq_true, aw_drawn (id := 3), aw_drawn' (id := 3), show (0 : Int) ≤ cutI s by omega, h1, hl, Int.natCast_one, h2]
    exact .rfl
theorem p169 {s : ByteArray} (hs : s.size ≤ 2 ^ 40) : PC Try.prog 87 [.string s, .string ⟨#[47]⟩] (cutV2 s) := by
  have q := p216 hs
  unfold cutV2 at q ⊢
  refine PC.of (.cons (.ground rfl) (.cons (.ground rfl) .nil)) (by split <;> exact .tuple (.cons (.ground rfl) (.cons (.ground rfl) (.cons (.ground rfl) .nil)))) fun N hN => ?_
  by_cases h : cutI s < 0
  · rw [if_pos h] at q ⊢
    refine ACalls.of_code T.hm (n := 11) Try.func87 rfl rfl rfl rfl ?_; simp only [List.replicate_succ, List.replicate_zero, List.cons_append, List.nil_append]
    simp (maxSteps := 1000000) (disch := first | exact sd | fail) only [go_sem, Nat.reduceAdd, Nat.reduceSub, Nat.reduceLeDiff, ↓reduceIte, decide_eq_true_eq, if_true, if_false, Bool.false_eq_true, Int.lt_irrefl, implies_true, true_and, and_true, eq_self, and_self, beq_self_eq_true]
    refine PC.step (q) fun m1 j1 => ?_
    try simp only [Heap.next_push, Heap.next_set, Heap.next_kill, next_bump, next_E0] at j1
    simp (maxSteps := 1000000) (disch := first | exact sd | fail) only [go_sem, Nat.reduceAdd, Nat.reduceSub, Nat.reduceLeDiff, ↓reduceIte, decide_eq_true_eq, if_true, if_false, Bool.false_eq_true, Int.lt_irrefl, implies_true, true_and, and_true, eq_self, and_self, beq_self_eq_true]
    exact .rfl
  · rw [if_neg h] at q ⊢
    refine ACalls.of_code T.hm (n := 11) Try.func87 rfl rfl rfl rfl ?_; simp only [List.replicate_succ, List.replicate_zero, List.cons_append, List.nil_append]
    simp (maxSteps := 1000000) (disch := first | exact sd | fail) only [go_sem, Nat.reduceAdd, Nat.reduceSub, Nat.reduceLeDiff, ↓reduceIte, decide_eq_true_eq, if_true, if_false, Bool.false_eq_true, Int.lt_irrefl, implies_true, true_and, and_true, eq_self, and_self, beq_self_eq_true]
    refine PC.step (q) fun m1 j1 => ?_
    try simp only [Heap.next_push, Heap.next_set, Heap.next_kill, next_bump, next_E0] at j1
    simp (maxSteps := 1000000) (disch := first | exact sd | fail) only [go_sem, Nat.reduceAdd, Nat.reduceSub, Nat.reduceLeDiff, ↓reduceIte, decide_eq_true_eq, if_true, if_false, Bool.false_eq_true, Int.lt_irrefl, implies_true, true_and, and_true, eq_self, and_self, beq_self_eq_true]
    exact .rfl
theorem p170 {s : ByteArray} (hs : s.size ≤ 5000) : PC Try.prog 88 [.string s] (.tuple ⟨[Zn (zdV (chs s)), .bool (okN (chs s))]⟩) := by
  refine PC.of (.cons (.ground rfl) .nil) (.tuple (.cons pu_in (.cons (.ground rfl) .nil))) fun N hN => ?_
  have hc := chs_len s
  have q := p56 (s := s) (by omega)
  have n5 : ¬ 5000 < (chs s).length := by omega
  unfold rdV rdE at q
  rw [if_neg n5, if_neg n5] at q
  unfold zdV
  generalize chs s = l at *
  cases hok : okN l with
  | true =>
    rw [hok, if_pos rfl, if_pos rfl] at q
    rw [if_pos rfl]
    refine ACalls.of_code T.hm (n := 65) Try.func88 rfl rfl rfl rfl ?_; simp only [List.replicate_succ, List.replicate_zero, List.cons_append, List.nil_append]
    simp (maxSteps := 1000000) (disch := first | exact sd | fail) only [go_sem, Nat.reduceAdd, Nat.reduceSub, Nat.reduceLeDiff, ↓reduceIte, decide_eq_true_eq, if_true, if_false, Bool.false_eq_true, Int.lt_irrefl, implies_true, true_and, and_true, eq_self, and_self, beq_self_eq_true, aw_plan (id := 13) pl170_13, pl170_13]
    refine PC.step (q) fun m1 j1 => ?_
    try simp only [Heap.next_push, Heap.next_set, Heap.next_kill, next_bump, next_E0] at j1
    simp (maxSteps := 1000000) (disch := first | exact sd | fail) only [go_sem, Nat.reduceAdd, Nat.reduceSub, Nat.reduceLeDiff, ↓reduceIte, decide_eq_true_eq, if_true, if_false, Bool.false_eq_true, Int.lt_irrefl, implies_true, true_and, and_true, eq_self, and_self, beq_self_eq_true, aw_plan (id := 13) pl170_13, pl170_13, ne_eq, show ¬ (0 : Int) = 2 by decide, not_false_eq_true, decide_true]
    exact .rfl
  | false =>
    rw [hok, if_neg (by decide), if_neg (by decide)] at q
    rw [if_neg (by decide)]
    refine ACalls.of_code T.hm (n := 65) Try.func88 rfl rfl rfl rfl ?_; simp only [List.replicate_succ, List.replicate_zero, List.cons_append, List.nil_append]
    simp (maxSteps := 1000000) (disch := first | exact sd | fail) only [go_sem, Nat.reduceAdd, Nat.reduceSub, Nat.reduceLeDiff, ↓reduceIte, decide_eq_true_eq, if_true, if_false, Bool.false_eq_true, Int.lt_irrefl, implies_true, true_and, and_true, eq_self, and_self, beq_self_eq_true, aw_plan (id := 13) pl170_13, pl170_13]
    refine PC.step (q) fun m1 j1 => ?_
    try simp only [Heap.next_push, Heap.next_set, Heap.next_kill, next_bump, next_E0] at j1
    simp (maxSteps := 1000000) (disch := first | exact sd | fail) only [go_sem, Nat.reduceAdd, Nat.reduceSub, Nat.reduceLeDiff, ↓reduceIte, decide_eq_true_eq, if_true, if_false, Bool.false_eq_true, Int.lt_irrefl, implies_true, true_and, and_true, eq_self, and_self, beq_self_eq_true, aw_plan (id := 13) pl170_13, pl170_13, ne_eq, show ¬ (4 : Int) = 2 by decide, show ¬ (4 : Int) = 0 by decide, not_false_eq_true, decide_false]
    exact .rfl

/-! ### Read -/
def erQ (e : Int) : Value := .tuple ⟨[R4 false [] false [], .int .i64 e]⟩
def okQ (a b : Int) : Value := .tuple ⟨[.agg ⟨[.bool (sgn a), Vv eU (lmb a), .bool (sgn b), Vv eU (lmb b)]⟩, .int .i64 0]⟩
/-- What is read of a text. -/
def resQ (s : ByteArray) : Value :=
  if cutI s < 0 then (if okN (chs s) = true then okQ (zdV (chs s)) 1 else erQ 4)
  else if okN (chs (cutA s)) = true then
    if okN (chs (cutB s)) = true then
      if zdV (chs (cutB s)) < 0 ∨ zdV (chs (cutB s)) = 1 then erQ 4
      else if zdV (chs (cutB s)) = 0 then erQ 11
      else if Int.gcd (zdV (chs (cutA s))) (zdV (chs (cutB s))) = 1 then okQ (zdV (chs (cutA s))) (zdV (chs (cutB s))) else erQ 4
    else erQ 4
  else erQ 4
theorem pu_er {e : Int} : Pu (erQ e) := pu_t pu_r4
theorem pu_ok {a b : Int} : Pu (okQ a b) := pu_t pu_r4
theorem pu_res {s : ByteArray} : Pu (resQ s) := by
  unfold resQ
  repeat' split
  all_goals first | exact pu_er | exact pu_ok
theorem fz_er {H : Heap} {e : Int} : FzRel Try.prog H (erQ e) (.tuple ⟨[.agg ⟨[.bool false, .slice none 0 0, .bool false, .slice none 0 0]⟩, .int .i64 e]⟩) :=
  .tuple (.cons (.nz (.agg (.cons .rfl (.cons .vnil (.cons .rfl (.cons .vnil .nil)))))) (.cons .rfl .nil))
theorem p79 {s : ByteArray} (hs : s.size ≤ 5000) : PC Try.prog 50 [.string s] (resQ s) := by
  refine PC.of (.cons (.ground rfl) .nil) pu_res fun N hN => ?_
  have hl := ln_str (P := Try.prog) (s := s) Try.underlying9
  have hc := chs_len s
  have hA := cutA_len (s := s)
  have hB := cutB_len (s := s)
  have cA := chs_len (cutA s)
  have cB := chs_len (cutB s)
  have q1 := p169 (s := s) (by omega)
  have q2 := p170 (s := s) hs
  have q3 := p170 (s := cutA s) (by omega)
  have q4 := p170 (s := cutB s) (by omega)
  have n1 := ln_zd (chs s)
  have n2 := ln_zd (chs (cutA s))
  have n3 := ln_zd (chs (cutB s))
  have l1 := ln_one
  have n5 : ¬ (10001 : Int) < (chs s).length := by omega
  unfold cutV2 at q1
  unfold resQ
  refine ACalls.of_code T.hm (n := 62) Try.func50 rfl rfl rfl rfl ?_; simp only [List.replicate_succ, List.replicate_zero, List.cons_append, List.nil_append]
  by_cases h : cutI s < 0
  · rw [if_pos h] at q1 ⊢
    generalize zdV (chs s) = a at *
    have q5 := p163 (n := sgn 1) (l := lmb 1) (lb_z (by omega))
    rw [den_z, decide_eq_false (by decide)] at q5
    have q6 := p46 (n := sgn a) (l := lmb a) (m := sgn 1) (k := lmb 1) (lb_z (by omega)) (lb_z (by omega)) (by rw [den_z]; omega) (by rw [den_z]; omega)
    rw [den_z, den_z, Int.gcd_one] at q6
    have q7 := p55 (n := sgn 1) (l := lmb 1) (m := sgn 1) (k := lmb 1) (lb_z (by omega)) (lb_z (by omega))
    rw [den_z, Int.sub_self] at q7
    cases hok : okN (chs s) with
    | false =>
      rw [hok] at q2
      rw [if_neg (by decide)]
      simp (maxSteps := 1000000) (disch := first | exact sd | fail) only [go_sem, Nat.reduceAdd, Nat.reduceSub, Nat.reduceLeDiff, ↓reduceIte, decide_eq_true_eq, if_true, if_false, Bool.false_eq_true, Int.lt_irrefl, implies_true, true_and, and_true, eq_self, and_self, beq_self_eq_true, hl, n5]
      refine PC.step (q1) fun m1 j1 => ?_
      try simp only [Heap.next_push, Heap.next_set, Heap.next_kill, next_bump, next_E0] at j1
      simp (maxSteps := 1000000) (disch := first | exact sd | fail) only [go_sem, Nat.reduceAdd, Nat.reduceSub, Nat.reduceLeDiff, ↓reduceIte, decide_eq_true_eq, if_true, if_false, Bool.false_eq_true, Int.lt_irrefl, implies_true, true_and, and_true, eq_self, and_self, beq_self_eq_true]
      refine PC.step (q2) fun m2 j2 => ?_
      try simp only [Heap.next_push, Heap.next_set, Heap.next_kill, next_bump, next_E0] at j2
      simp (maxSteps := 1000000) (disch := first | exact sd | fail) only [go_sem, Nat.reduceAdd, Nat.reduceSub, Nat.reduceLeDiff, ↓reduceIte, decide_eq_true_eq, if_true, if_false, Bool.false_eq_true, Int.lt_irrefl, implies_true, true_and, and_true, eq_self, and_self, beq_self_eq_true]
      refine PC.step (p165) fun m3 j3 => ?_
      try simp only [Heap.next_push, Heap.next_set, Heap.next_kill, next_bump, next_E0] at j3
      simp (maxSteps := 1000000) (disch := first | exact sd | fail) only [go_sem, Nat.reduceAdd, Nat.reduceSub, Nat.reduceLeDiff, ↓reduceIte, decide_eq_true_eq, if_true, if_false, Bool.false_eq_true, Int.lt_irrefl, implies_true, true_and, and_true, eq_self, and_self, beq_self_eq_true, Bool.not_false]
      exact fz_er
    | true =>
      rw [hok] at q2
      rw [if_pos rfl]
      simp (maxSteps := 1000000) (disch := first | exact sd | fail) only [go_sem, Nat.reduceAdd, Nat.reduceSub, Nat.reduceLeDiff, ↓reduceIte, decide_eq_true_eq, if_true, if_false, Bool.false_eq_true, Int.lt_irrefl, implies_true, true_and, and_true, eq_self, and_self, beq_self_eq_true, hl, n5]
      refine PC.step (q1) fun m1 j1 => ?_
      try simp only [Heap.next_push, Heap.next_set, Heap.next_kill, next_bump, next_E0] at j1
      simp (maxSteps := 1000000) (disch := first | exact sd | fail) only [go_sem, Nat.reduceAdd, Nat.reduceSub, Nat.reduceLeDiff, ↓reduceIte, decide_eq_true_eq, if_true, if_false, Bool.false_eq_true, Int.lt_irrefl, implies_true, true_and, and_true, eq_self, and_self, beq_self_eq_true]
      refine PC.step (q2) fun m2 j2 => ?_
      try simp only [Heap.next_push, Heap.next_set, Heap.next_kill, next_bump, next_E0] at j2
      simp (maxSteps := 1000000) (disch := first | exact sd | fail) only [go_sem, Nat.reduceAdd, Nat.reduceSub, Nat.reduceLeDiff, ↓reduceIte, decide_eq_true_eq, if_true, if_false, Bool.false_eq_true, Int.lt_irrefl, implies_true, true_and, and_true, eq_self, and_self, beq_self_eq_true]
      refine PC.step (p165) fun m3 j3 => ?_
      try simp only [Heap.next_push, Heap.next_set, Heap.next_kill, next_bump, next_E0] at j3
      simp (maxSteps := 1000000) (disch := first | exact sd | fail) only [go_sem, Nat.reduceAdd, Nat.reduceSub, Nat.reduceLeDiff, ↓reduceIte, decide_eq_true_eq, if_true, if_false, Bool.false_eq_true, Int.lt_irrefl, implies_true, true_and, and_true, eq_self, and_self, beq_self_eq_true, Bool.not_true]
      refine PC.step (q5) fun m4 j4 => ?_
      try simp only [Heap.next_push, Heap.next_set, Heap.next_kill, next_bump, next_E0] at j4
      simp (maxSteps := 1000000) (disch := first | exact sd | fail) only [go_sem, Nat.reduceAdd, Nat.reduceSub, Nat.reduceLeDiff, ↓reduceIte, decide_eq_true_eq, if_true, if_false, Bool.false_eq_true, Int.lt_irrefl, implies_true, true_and, and_true, eq_self, and_self, beq_self_eq_true]
      refine PC.step (q6) fun m5 j5 => ?_
      try simp only [Heap.next_push, Heap.next_set, Heap.next_kill, next_bump, next_E0] at j5
      simp (maxSteps := 1000000) (disch := first | exact sd | fail) only [go_sem, Nat.reduceAdd, Nat.reduceSub, Nat.reduceLeDiff, ↓reduceIte, decide_eq_true_eq, if_true, if_false, Bool.false_eq_true, Int.lt_irrefl, implies_true, true_and, and_true, eq_self, and_self, beq_self_eq_true]
      refine PC.step (p165) fun m6 j6 => ?_
      try simp only [Heap.next_push, Heap.next_set, Heap.next_kill, next_bump, next_E0] at j6
      simp (maxSteps := 1000000) (disch := first | exact sd | fail) only [go_sem, Nat.reduceAdd, Nat.reduceSub, Nat.reduceLeDiff, ↓reduceIte, decide_eq_true_eq, if_true, if_false, Bool.false_eq_true, Int.lt_irrefl, implies_true, true_and, and_true, eq_self, and_self, beq_self_eq_true]
      refine PC.step (q7) fun m7 j7 => ?_
      try simp only [Heap.next_push, Heap.next_set, Heap.next_kill, next_bump, next_E0] at j7
      simp (maxSteps := 1000000) (disch := first | exact sd | fail) only [go_sem, Nat.reduceAdd, Nat.reduceSub, Nat.reduceLeDiff, ↓reduceIte, decide_eq_true_eq, if_true, if_false, Bool.false_eq_true, Int.lt_irrefl, implies_true, true_and, and_true, eq_self, and_self, beq_self_eq_true, ne_eq, not_true_eq_false]
      exact .rfl
  · rw [if_neg h] at q1 ⊢
    have hsq : ((cutB s).toList == (⟨#[49]⟩ : ByteArray).toList) = decide (chs (cutB s) = [49]) := by rw [seql]; rfl
    have hone : okN (chs (cutB s)) = true → zdV (chs (cutB s)) = 1 → chs (cutB s) = [49] := fun h1 h2 => ok_one h1 (by unfold zdV at h2; rw [if_pos h1] at h2; exact h2)
    have hone' : chs (cutB s) = [49] → zdV (chs (cutB s)) = 1 := fun e => by rw [e]; decide +kernel
    generalize cutA s = sa at *
    generalize cutB s = sb at *
    generalize zdV (chs sa) = a at *
    generalize zdV (chs sb) = b at *
    have lg := gcd_lb (K := 5000) (a := a) (b := b) (by omega) (by omega)
    have q5 := p163 (n := sgn b) (l := lmb b) (lb_z (by omega))
    rw [den_z] at q5
    have q6 := p46 (n := sgn a) (l := lmb a) (m := sgn b) (k := lmb b) (lb_z (by omega)) (lb_z (by omega)) (by rw [den_z]; omega) (by rw [den_z]; omega)
    rw [den_z, den_z] at q6
    have q7 := p55 (n := sgn (Int.gcd a b)) (l := lmb (Int.gcd a b)) (m := sgn 1) (k := lmb 1) (lb_z (by omega)) (lb_z (by omega))
    rw [den_z, den_z] at q7
    generalize Int.gcd a b = g at *
    clear hA hB cA cB n1 n2 n3 lg hc l1
    cases hokA : okN (chs sa) with
    | false =>
      rw [hokA] at q3
      rw [if_neg (by decide)]
      simp (maxSteps := 1000000) (disch := first | exact sd | fail) only [go_sem, Nat.reduceAdd, Nat.reduceSub, Nat.reduceLeDiff, ↓reduceIte, decide_eq_true_eq, if_true, if_false, Bool.false_eq_true, Int.lt_irrefl, implies_true, true_and, and_true, eq_self, and_self, beq_self_eq_true, hl, n5]
      refine PC.step (q1) fun m1 j1 => ?_
      try simp only [Heap.next_push, Heap.next_set, Heap.next_kill, next_bump, next_E0] at j1
      simp (maxSteps := 1000000) (disch := first | exact sd | fail) only [go_sem, Nat.reduceAdd, Nat.reduceSub, Nat.reduceLeDiff, ↓reduceIte, decide_eq_true_eq, if_true, if_false, Bool.false_eq_true, Int.lt_irrefl, implies_true, true_and, and_true, eq_self, and_self, beq_self_eq_true]
      refine PC.step (q3) fun m2 j2 => ?_
      try simp only [Heap.next_push, Heap.next_set, Heap.next_kill, next_bump, next_E0] at j2
      simp (maxSteps := 1000000) (disch := first | exact sd | fail) only [go_sem, Nat.reduceAdd, Nat.reduceSub, Nat.reduceLeDiff, ↓reduceIte, decide_eq_true_eq, if_true, if_false, Bool.false_eq_true, Int.lt_irrefl, implies_true, true_and, and_true, eq_self, and_self, beq_self_eq_true]
      refine PC.step (p165) fun m3 j3 => ?_
      try simp only [Heap.next_push, Heap.next_set, Heap.next_kill, next_bump, next_E0] at j3
      simp (maxSteps := 1000000) (disch := first | exact sd | fail) only [go_sem, Nat.reduceAdd, Nat.reduceSub, Nat.reduceLeDiff, ↓reduceIte, decide_eq_true_eq, if_true, if_false, Bool.false_eq_true, Int.lt_irrefl, implies_true, true_and, and_true, eq_self, and_self, beq_self_eq_true]
      refine PC.step (q4) fun m4 j4 => ?_
      try simp only [Heap.next_push, Heap.next_set, Heap.next_kill, next_bump, next_E0] at j4
      simp (maxSteps := 1000000) (disch := first | exact sd | fail) only [go_sem, Nat.reduceAdd, Nat.reduceSub, Nat.reduceLeDiff, ↓reduceIte, decide_eq_true_eq, if_true, if_false, Bool.false_eq_true, Int.lt_irrefl, implies_true, true_and, and_true, eq_self, and_self, beq_self_eq_true, Bool.not_false]
      exact fz_er
    | true =>
      rw [hokA] at q3
      rw [if_pos rfl]
      cases hokB : okN (chs sb) with
      | false =>
        rw [hokB] at q4
        rw [if_neg (by decide)]
        simp (maxSteps := 1000000) (disch := first | exact sd | fail) only [go_sem, Nat.reduceAdd, Nat.reduceSub, Nat.reduceLeDiff, ↓reduceIte, decide_eq_true_eq, if_true, if_false, Bool.false_eq_true, Int.lt_irrefl, implies_true, true_and, and_true, eq_self, and_self, beq_self_eq_true, hl, n5]
        refine PC.step (q1) fun m1 j1 => ?_
        try simp only [Heap.next_push, Heap.next_set, Heap.next_kill, next_bump, next_E0] at j1
        simp (maxSteps := 1000000) (disch := first | exact sd | fail) only [go_sem, Nat.reduceAdd, Nat.reduceSub, Nat.reduceLeDiff, ↓reduceIte, decide_eq_true_eq, if_true, if_false, Bool.false_eq_true, Int.lt_irrefl, implies_true, true_and, and_true, eq_self, and_self, beq_self_eq_true]
        refine PC.step (q3) fun m2 j2 => ?_
        try simp only [Heap.next_push, Heap.next_set, Heap.next_kill, next_bump, next_E0] at j2
        simp (maxSteps := 1000000) (disch := first | exact sd | fail) only [go_sem, Nat.reduceAdd, Nat.reduceSub, Nat.reduceLeDiff, ↓reduceIte, decide_eq_true_eq, if_true, if_false, Bool.false_eq_true, Int.lt_irrefl, implies_true, true_and, and_true, eq_self, and_self, beq_self_eq_true]
        refine PC.step (p165) fun m3 j3 => ?_
        try simp only [Heap.next_push, Heap.next_set, Heap.next_kill, next_bump, next_E0] at j3
        simp (maxSteps := 1000000) (disch := first | exact sd | fail) only [go_sem, Nat.reduceAdd, Nat.reduceSub, Nat.reduceLeDiff, ↓reduceIte, decide_eq_true_eq, if_true, if_false, Bool.false_eq_true, Int.lt_irrefl, implies_true, true_and, and_true, eq_self, and_self, beq_self_eq_true]
        refine PC.step (q4) fun m4 j4 => ?_
        try simp only [Heap.next_push, Heap.next_set, Heap.next_kill, next_bump, next_E0] at j4
        simp (maxSteps := 1000000) (disch := first | exact sd | fail) only [go_sem, Nat.reduceAdd, Nat.reduceSub, Nat.reduceLeDiff, ↓reduceIte, decide_eq_true_eq, if_true, if_false, Bool.false_eq_true, Int.lt_irrefl, implies_true, true_and, and_true, eq_self, and_self, beq_self_eq_true, Bool.not_false, Bool.not_true]
        exact fz_er
      | true =>
        rw [hokB] at q4
        rw [if_pos rfl]
        have hs1 := hone hokB
        have q4 : PC Try.prog 88 [.string sb] (.tuple ⟨[In (sgn b) (lmb b), .bool true]⟩) := q4
        by_cases hb : b < 0
        · rw [if_pos (.inl hb)]
          have e : sgn b = true := decide_eq_true hb
          rw [e] at q4
          simp (maxSteps := 1000000) (disch := first | exact sd | fail) only [go_sem, Nat.reduceAdd, Nat.reduceSub, Nat.reduceLeDiff, ↓reduceIte, decide_eq_true_eq, if_true, if_false, Bool.false_eq_true, Int.lt_irrefl, implies_true, true_and, and_true, eq_self, and_self, beq_self_eq_true, hl, n5]
          refine PC.step (q1) fun m1 j1 => ?_
          try simp only [Heap.next_push, Heap.next_set, Heap.next_kill, next_bump, next_E0] at j1
          simp (maxSteps := 1000000) (disch := first | exact sd | fail) only [go_sem, Nat.reduceAdd, Nat.reduceSub, Nat.reduceLeDiff, ↓reduceIte, decide_eq_true_eq, if_true, if_false, Bool.false_eq_true, Int.lt_irrefl, implies_true, true_and, and_true, eq_self, and_self, beq_self_eq_true]
          refine PC.step (q3) fun m2 j2 => ?_
          try simp only [Heap.next_push, Heap.next_set, Heap.next_kill, next_bump, next_E0] at j2
          simp (maxSteps := 1000000) (disch := first | exact sd | fail) only [go_sem, Nat.reduceAdd, Nat.reduceSub, Nat.reduceLeDiff, ↓reduceIte, decide_eq_true_eq, if_true, if_false, Bool.false_eq_true, Int.lt_irrefl, implies_true, true_and, and_true, eq_self, and_self, beq_self_eq_true]
          refine PC.step (p165) fun m3 j3 => ?_
          try simp only [Heap.next_push, Heap.next_set, Heap.next_kill, next_bump, next_E0] at j3
          simp (maxSteps := 1000000) (disch := first | exact sd | fail) only [go_sem, Nat.reduceAdd, Nat.reduceSub, Nat.reduceLeDiff, ↓reduceIte, decide_eq_true_eq, if_true, if_false, Bool.false_eq_true, Int.lt_irrefl, implies_true, true_and, and_true, eq_self, and_self, beq_self_eq_true]
          refine PC.step (q4) fun m4 j4 => ?_
          try simp only [Heap.next_push, Heap.next_set, Heap.next_kill, next_bump, next_E0] at j4
          simp (maxSteps := 1000000) (disch := first | exact sd | fail) only [go_sem, Nat.reduceAdd, Nat.reduceSub, Nat.reduceLeDiff, ↓reduceIte, decide_eq_true_eq, if_true, if_false, Bool.false_eq_true, Int.lt_irrefl, implies_true, true_and, and_true, eq_self, and_self, beq_self_eq_true, Bool.not_false, Bool.not_true]
          exact fz_er
        · have e : sgn b = false := decide_eq_false hb
          rw [e] at q4 q5 q6
          by_cases hb1 : b = 1
          · rw [if_pos (.inr hb1)]
            rw [hs1 hb1, decide_eq_true rfl] at hsq
            simp (maxSteps := 1000000) (disch := first | exact sd | fail) only [go_sem, Nat.reduceAdd, Nat.reduceSub, Nat.reduceLeDiff, ↓reduceIte, decide_eq_true_eq, if_true, if_false, Bool.false_eq_true, Int.lt_irrefl, implies_true, true_and, and_true, eq_self, and_self, beq_self_eq_true, hl, n5]
            refine PC.step (q1) fun m1 j1 => ?_
            try simp only [Heap.next_push, Heap.next_set, Heap.next_kill, next_bump, next_E0] at j1
            simp (maxSteps := 1000000) (disch := first | exact sd | fail) only [go_sem, Nat.reduceAdd, Nat.reduceSub, Nat.reduceLeDiff, ↓reduceIte, decide_eq_true_eq, if_true, if_false, Bool.false_eq_true, Int.lt_irrefl, implies_true, true_and, and_true, eq_self, and_self, beq_self_eq_true]
            refine PC.step (q3) fun m2 j2 => ?_
            try simp only [Heap.next_push, Heap.next_set, Heap.next_kill, next_bump, next_E0] at j2
            simp (maxSteps := 1000000) (disch := first | exact sd | fail) only [go_sem, Nat.reduceAdd, Nat.reduceSub, Nat.reduceLeDiff, ↓reduceIte, decide_eq_true_eq, if_true, if_false, Bool.false_eq_true, Int.lt_irrefl, implies_true, true_and, and_true, eq_self, and_self, beq_self_eq_true]
            refine PC.step (p165) fun m3 j3 => ?_
            try simp only [Heap.next_push, Heap.next_set, Heap.next_kill, next_bump, next_E0] at j3
            simp (maxSteps := 1000000) (disch := first | exact sd | fail) only [go_sem, Nat.reduceAdd, Nat.reduceSub, Nat.reduceLeDiff, ↓reduceIte, decide_eq_true_eq, if_true, if_false, Bool.false_eq_true, Int.lt_irrefl, implies_true, true_and, and_true, eq_self, and_self, beq_self_eq_true]
            refine PC.step (q4) fun m4 j4 => ?_
            try simp only [Heap.next_push, Heap.next_set, Heap.next_kill, next_bump, next_E0] at j4
            simp (maxSteps := 1000000) (disch := first | exact sd | fail) only [go_sem, Nat.reduceAdd, Nat.reduceSub, Nat.reduceLeDiff, ↓reduceIte, decide_eq_true_eq, if_true, if_false, Bool.false_eq_true, Int.lt_irrefl, implies_true, true_and, and_true, eq_self, and_self, beq_self_eq_true, Bool.not_false, Bool.not_true, bin_seql, hsq]
            exact fz_er
          · rw [if_neg (by omega)]
            rw [decide_eq_false (fun x => hb1 (hone' x))] at hsq
            by_cases hb0 : b = 0
            · rw [if_pos hb0]
              rw [decide_eq_true hb0] at q5
              simp (maxSteps := 1000000) (disch := first | exact sd | fail) only [go_sem, Nat.reduceAdd, Nat.reduceSub, Nat.reduceLeDiff, ↓reduceIte, decide_eq_true_eq, if_true, if_false, Bool.false_eq_true, Int.lt_irrefl, implies_true, true_and, and_true, eq_self, and_self, beq_self_eq_true, hl, n5]
              refine PC.step (q1) fun m1 j1 => ?_
              try simp only [Heap.next_push, Heap.next_set, Heap.next_kill, next_bump, next_E0] at j1
              simp (maxSteps := 1000000) (disch := first | exact sd | fail) only [go_sem, Nat.reduceAdd, Nat.reduceSub, Nat.reduceLeDiff, ↓reduceIte, decide_eq_true_eq, if_true, if_false, Bool.false_eq_true, Int.lt_irrefl, implies_true, true_and, and_true, eq_self, and_self, beq_self_eq_true]
              refine PC.step (q3) fun m2 j2 => ?_
              try simp only [Heap.next_push, Heap.next_set, Heap.next_kill, next_bump, next_E0] at j2
              simp (maxSteps := 1000000) (disch := first | exact sd | fail) only [go_sem, Nat.reduceAdd, Nat.reduceSub, Nat.reduceLeDiff, ↓reduceIte, decide_eq_true_eq, if_true, if_false, Bool.false_eq_true, Int.lt_irrefl, implies_true, true_and, and_true, eq_self, and_self, beq_self_eq_true]
              refine PC.step (p165) fun m3 j3 => ?_
              try simp only [Heap.next_push, Heap.next_set, Heap.next_kill, next_bump, next_E0] at j3
              simp (maxSteps := 1000000) (disch := first | exact sd | fail) only [go_sem, Nat.reduceAdd, Nat.reduceSub, Nat.reduceLeDiff, ↓reduceIte, decide_eq_true_eq, if_true, if_false, Bool.false_eq_true, Int.lt_irrefl, implies_true, true_and, and_true, eq_self, and_self, beq_self_eq_true]
              refine PC.step (q4) fun m4 j4 => ?_
              try simp only [Heap.next_push, Heap.next_set, Heap.next_kill, next_bump, next_E0] at j4
              simp (maxSteps := 1000000) (disch := first | exact sd | fail) only [go_sem, Nat.reduceAdd, Nat.reduceSub, Nat.reduceLeDiff, ↓reduceIte, decide_eq_true_eq, if_true, if_false, Bool.false_eq_true, Int.lt_irrefl, implies_true, true_and, and_true, eq_self, and_self, beq_self_eq_true, Bool.not_false, Bool.not_true, bin_seql, hsq]
              refine PC.step (q5) fun m5 j5 => ?_
              try simp only [Heap.next_push, Heap.next_set, Heap.next_kill, next_bump, next_E0] at j5
              simp (maxSteps := 1000000) (disch := first | exact sd | fail) only [go_sem, Nat.reduceAdd, Nat.reduceSub, Nat.reduceLeDiff, ↓reduceIte, decide_eq_true_eq, if_true, if_false, Bool.false_eq_true, Int.lt_irrefl, implies_true, true_and, and_true, eq_self, and_self, beq_self_eq_true]
              exact fz_er
            · rw [if_neg hb0]
              rw [decide_eq_false hb0] at q5
              by_cases hgg : g = 1
              · rw [if_pos hgg]
                unfold okQ
                rw [e]
                rw [hgg, show (((1 : Nat) : Int) - 1) = 0 by decide] at q7
                rw [hgg] at q6
                simp (maxSteps := 1000000) (disch := first | exact sd | fail) only [go_sem, Nat.reduceAdd, Nat.reduceSub, Nat.reduceLeDiff, ↓reduceIte, decide_eq_true_eq, if_true, if_false, Bool.false_eq_true, Int.lt_irrefl, implies_true, true_and, and_true, eq_self, and_self, beq_self_eq_true, hl, n5]
                refine PC.step (q1) fun m1 j1 => ?_
                try simp only [Heap.next_push, Heap.next_set, Heap.next_kill, next_bump, next_E0] at j1
                simp (maxSteps := 1000000) (disch := first | exact sd | fail) only [go_sem, Nat.reduceAdd, Nat.reduceSub, Nat.reduceLeDiff, ↓reduceIte, decide_eq_true_eq, if_true, if_false, Bool.false_eq_true, Int.lt_irrefl, implies_true, true_and, and_true, eq_self, and_self, beq_self_eq_true]
                refine PC.step (q3) fun m2 j2 => ?_
                try simp only [Heap.next_push, Heap.next_set, Heap.next_kill, next_bump, next_E0] at j2
                simp (maxSteps := 1000000) (disch := first | exact sd | fail) only [go_sem, Nat.reduceAdd, Nat.reduceSub, Nat.reduceLeDiff, ↓reduceIte, decide_eq_true_eq, if_true, if_false, Bool.false_eq_true, Int.lt_irrefl, implies_true, true_and, and_true, eq_self, and_self, beq_self_eq_true]
                refine PC.step (p165) fun m3 j3 => ?_
                try simp only [Heap.next_push, Heap.next_set, Heap.next_kill, next_bump, next_E0] at j3
                simp (maxSteps := 1000000) (disch := first | exact sd | fail) only [go_sem, Nat.reduceAdd, Nat.reduceSub, Nat.reduceLeDiff, ↓reduceIte, decide_eq_true_eq, if_true, if_false, Bool.false_eq_true, Int.lt_irrefl, implies_true, true_and, and_true, eq_self, and_self, beq_self_eq_true]
                refine PC.step (q4) fun m4 j4 => ?_
                try simp only [Heap.next_push, Heap.next_set, Heap.next_kill, next_bump, next_E0] at j4
                simp (maxSteps := 1000000) (disch := first | exact sd | fail) only [go_sem, Nat.reduceAdd, Nat.reduceSub, Nat.reduceLeDiff, ↓reduceIte, decide_eq_true_eq, if_true, if_false, Bool.false_eq_true, Int.lt_irrefl, implies_true, true_and, and_true, eq_self, and_self, beq_self_eq_true, Bool.not_false, Bool.not_true, bin_seql, hsq]
                refine PC.step (q5) fun m5 j5 => ?_
                try simp only [Heap.next_push, Heap.next_set, Heap.next_kill, next_bump, next_E0] at j5
                simp (maxSteps := 1000000) (disch := first | exact sd | fail) only [go_sem, Nat.reduceAdd, Nat.reduceSub, Nat.reduceLeDiff, ↓reduceIte, decide_eq_true_eq, if_true, if_false, Bool.false_eq_true, Int.lt_irrefl, implies_true, true_and, and_true, eq_self, and_self, beq_self_eq_true]
                refine PC.step (q6) fun m6 j6 => ?_
                try simp only [Heap.next_push, Heap.next_set, Heap.next_kill, next_bump, next_E0] at j6
                simp (maxSteps := 1000000) (disch := first | exact sd | fail) only [go_sem, Nat.reduceAdd, Nat.reduceSub, Nat.reduceLeDiff, ↓reduceIte, decide_eq_true_eq, if_true, if_false, Bool.false_eq_true, Int.lt_irrefl, implies_true, true_and, and_true, eq_self, and_self, beq_self_eq_true]
                refine PC.step (p165) fun m7 j7 => ?_
                try simp only [Heap.next_push, Heap.next_set, Heap.next_kill, next_bump, next_E0] at j7
                simp (maxSteps := 1000000) (disch := first | exact sd | fail) only [go_sem, Nat.reduceAdd, Nat.reduceSub, Nat.reduceLeDiff, ↓reduceIte, decide_eq_true_eq, if_true, if_false, Bool.false_eq_true, Int.lt_irrefl, implies_true, true_and, and_true, eq_self, and_self, beq_self_eq_true]
                refine PC.step (q7) fun m8 j8 => ?_
                try simp only [Heap.next_push, Heap.next_set, Heap.next_kill, next_bump, next_E0] at j8
                simp (maxSteps := 1000000) (disch := first | exact sd | fail) only [go_sem, Nat.reduceAdd, Nat.reduceSub, Nat.reduceLeDiff, ↓reduceIte, decide_eq_true_eq, if_true, if_false, Bool.false_eq_true, Int.lt_irrefl, implies_true, true_and, and_true, eq_self, and_self, beq_self_eq_true, ne_eq, not_true_eq_false]
                exact .rfl
              · rw [if_neg hgg]
                have hcm : ¬ sg ((g : Int) - 1) = 0 := fun x => by have := sg_eq0.1 x; omega
                simp (maxSteps := 1000000) (disch := first | exact sd | fail) only [go_sem, Nat.reduceAdd, Nat.reduceSub, Nat.reduceLeDiff, ↓reduceIte, decide_eq_true_eq, if_true, if_false, Bool.false_eq_true, Int.lt_irrefl, implies_true, true_and, and_true, eq_self, and_self, beq_self_eq_true, hl, n5]
                refine PC.step (q1) fun m1 j1 => ?_
                try simp only [Heap.next_push, Heap.next_set, Heap.next_kill, next_bump, next_E0] at j1
                simp (maxSteps := 1000000) (disch := first | exact sd | fail) only [go_sem, Nat.reduceAdd, Nat.reduceSub, Nat.reduceLeDiff, ↓reduceIte, decide_eq_true_eq, if_true, if_false, Bool.false_eq_true, Int.lt_irrefl, implies_true, true_and, and_true, eq_self, and_self, beq_self_eq_true]
                refine PC.step (q3) fun m2 j2 => ?_
                try simp only [Heap.next_push, Heap.next_set, Heap.next_kill, next_bump, next_E0] at j2
                simp (maxSteps := 1000000) (disch := first | exact sd | fail) only [go_sem, Nat.reduceAdd, Nat.reduceSub, Nat.reduceLeDiff, ↓reduceIte, decide_eq_true_eq, if_true, if_false, Bool.false_eq_true, Int.lt_irrefl, implies_true, true_and, and_true, eq_self, and_self, beq_self_eq_true]
                refine PC.step (p165) fun m3 j3 => ?_
                try simp only [Heap.next_push, Heap.next_set, Heap.next_kill, next_bump, next_E0] at j3
                simp (maxSteps := 1000000) (disch := first | exact sd | fail) only [go_sem, Nat.reduceAdd, Nat.reduceSub, Nat.reduceLeDiff, ↓reduceIte, decide_eq_true_eq, if_true, if_false, Bool.false_eq_true, Int.lt_irrefl, implies_true, true_and, and_true, eq_self, and_self, beq_self_eq_true]
                refine PC.step (q4) fun m4 j4 => ?_
                try simp only [Heap.next_push, Heap.next_set, Heap.next_kill, next_bump, next_E0] at j4
                simp (maxSteps := 1000000) (disch := first | exact sd | fail) only [go_sem, Nat.reduceAdd, Nat.reduceSub, Nat.reduceLeDiff, ↓reduceIte, decide_eq_true_eq, if_true, if_false, Bool.false_eq_true, Int.lt_irrefl, implies_true, true_and, and_true, eq_self, and_self, beq_self_eq_true, Bool.not_false, Bool.not_true, bin_seql, hsq]
                refine PC.step (q5) fun m5 j5 => ?_
                try simp only [Heap.next_push, Heap.next_set, Heap.next_kill, next_bump, next_E0] at j5
                simp (maxSteps := 1000000) (disch := first | exact sd | fail) only [go_sem, Nat.reduceAdd, Nat.reduceSub, Nat.reduceLeDiff, ↓reduceIte, decide_eq_true_eq, if_true, if_false, Bool.false_eq_true, Int.lt_irrefl, implies_true, true_and, and_true, eq_self, and_self, beq_self_eq_true]
                refine PC.step (q6) fun m6 j6 => ?_
                try simp only [Heap.next_push, Heap.next_set, Heap.next_kill, next_bump, next_E0] at j6
                simp (maxSteps := 1000000) (disch := first | exact sd | fail) only [go_sem, Nat.reduceAdd, Nat.reduceSub, Nat.reduceLeDiff, ↓reduceIte, decide_eq_true_eq, if_true, if_false, Bool.false_eq_true, Int.lt_irrefl, implies_true, true_and, and_true, eq_self, and_self, beq_self_eq_true]
                refine PC.step (p165) fun m7 j7 => ?_
                try simp only [Heap.next_push, Heap.next_set, Heap.next_kill, next_bump, next_E0] at j7
                simp (maxSteps := 1000000) (disch := first | exact sd | fail) only [go_sem, Nat.reduceAdd, Nat.reduceSub, Nat.reduceLeDiff, ↓reduceIte, decide_eq_true_eq, if_true, if_false, Bool.false_eq_true, Int.lt_irrefl, implies_true, true_and, and_true, eq_self, and_self, beq_self_eq_true]
                refine PC.step (q7) fun m8 j8 => ?_
                try simp only [Heap.next_push, Heap.next_set, Heap.next_kill, next_bump, next_E0] at j8
                simp (maxSteps := 1000000) (disch := first | exact sd | fail) only [go_sem, Nat.reduceAdd, Nat.reduceSub, Nat.reduceLeDiff, ↓reduceIte, decide_eq_true_eq, if_true, if_false, Bool.false_eq_true, Int.lt_irrefl, implies_true, true_and, and_true, eq_self, and_self, beq_self_eq_true, ne_eq, hcm, not_false_eq_true]
                exact fz_er
end Go.Abs

/- The document's own Read of a rational; texts too long. -/
set_option linter.unusedVariables false
set_option linter.unusedSimpArgs false
namespace Go.Abs
open Go Go.Proofs
set_option maxRecDepth 100000
set_option maxHeartbeats 4000000
def pl80_13 : Plan := ⟨[0], [(1, [0], [2]), (3, [], [4])]⟩
def pl80_21 : Plan := ⟨[0], [(1, [], [2, 3, 4]), (5, [4], []), (6, [], [7])]⟩
theorem mayQ_z {a b : Int} (h : b ≠ 0) : mayQ (sgn a) (lmb a) (sgn b) (lmb b) = (!sgn b && decide (Int.gcd a b = 1)) := by
  have h1 : ln b ≠ 0 := fun e => h (ln_eq_zero.1 e)
  unfold mayQ zeroQ
  rw [may_z, may_z, den_z, den_z, len_z, len_z]
  simp [h, h1]
theorem z_one {b : Int} : decide (sgn b = sgn 1 ∧ lmb b = lmb 1) = decide (b = 1) := by
  refine decide_eq_decide.2 ⟨fun h => ?_, fun h => by rw [h]; exact ⟨rfl, rfl⟩⟩
  have := den_z b
  rw [h.1, h.2, den_z] at this
  exact this.symm
theorem p79L {s : ByteArray} (hs : 10001 < s.size) (hs2 : s.size ≤ 9223372036854775807) : PC Try.prog 50 [.string s] (erQ 2) := by
  refine PC.of (.cons (.ground rfl) .nil) pu_er fun N hN => ?_
  have hl := ln_str (P := Try.prog) (s := s) Try.underlying9
  have hc := chs_len s
  have n5 : (10001 : Int) < (chs s).length := by omega
  refine ACalls.of_code T.hm (n := 62) Try.func50 rfl rfl rfl rfl ?_; simp only [List.replicate_succ, List.replicate_zero, List.cons_append, List.nil_append]
  simp (maxSteps := 1000000) (disch := first | exact sd | fail) only [go_sem, Nat.reduceAdd, Nat.reduceSub, Nat.reduceLeDiff, ↓reduceIte, decide_eq_true_eq, if_true, if_false, Bool.false_eq_true, Int.lt_irrefl, implies_true, true_and, and_true, eq_self, and_self, beq_self_eq_true, hl, n5]
  exact fz_er
theorem p80L {s : ByteArray} (hs : 10001 < s.size) (hs2 : s.size ≤ 9223372036854775807) : PC Try.prog 51 [.string s] (erQ 2) := by
  refine PC.of (.cons (.ground rfl) .nil) pu_er fun N hN => ?_
  have hl := ln_str (P := Try.prog) (s := s) Try.underlying9
  have hc := chs_len s
  have n5 : (10001 : Int) < (chs s).length := by omega
  refine ACalls.of_code T.hm (n := 84) Try.func51 rfl rfl rfl rfl ?_; simp only [List.replicate_succ, List.replicate_zero, List.cons_append, List.nil_append]
  simp (maxSteps := 1000000) (disch := first | exact sd | fail) only [go_sem, Nat.reduceAdd, Nat.reduceSub, Nat.reduceLeDiff, ↓reduceIte, decide_eq_true_eq, if_true, if_false, Bool.false_eq_true, Int.lt_irrefl, implies_true, true_and, and_true, eq_self, and_self, beq_self_eq_true, aw_plan (id := 13) pl80_13, pl80_13, aw_plan (id := 21) pl80_21, pl80_21, hl, n5]
  exact fz_er
end Go.Abs
