/- Strings: their bytes, places, parts. -/
import Derived.Test.YthiaciajkjdcnaaYa
import Derived.Test.YthiaciajkjdcnaaZa
import Derived.Laws.Strings
set_option linter.unusedVariables false
set_option linter.unusedSimpArgs false
namespace Go.Abs
open Go Go.Proofs
set_option maxRecDepth 100000
set_option maxHeartbeats 4000000

/-- A text's bytes. -/
def chs (s : ByteArray) : List Int := s.data.toList.map fun b => (b.toNat : Int)
theorem chs_len (s : ByteArray) : (chs s).length = s.size := by
  unfold chs; rw [List.length_map, Array.length_toList]; rfl
theorem chs_bd (s : ByteArray) : ∀ x ∈ chs s, 0 ≤ x ∧ x < 256 := by
  intro x hx
  obtain ⟨b, _, rfl⟩ := List.mem_map.1 hx
  have := b.toNat_lt
  omega
theorem chs_getD_bd (s : ByteArray) (i : Nat) : 0 ≤ (chs s).getD i 0 ∧ (chs s).getD i 0 < 256 := by
  rcases Nat.lt_or_ge i (chs s).length with h | h
  · rw [List.getD_eq_getElem?_getD, List.getElem?_eq_getElem h]
    exact chs_bd s _ (List.getElem_mem h)
  · rw [List.getD_eq_getElem?_getD, List.getElem?_eq_none h]; exact ⟨Int.le_refl _, by decide⟩
theorem chs_inj {a b : ByteArray} (h : chs a = chs b) : a = b := by
  have h2 : a.data.toList = b.data.toList := by
    have hi : Function.Injective fun b : UInt8 => (b.toNat : Int) := fun x y e => UInt8.toNat_inj.1 (by exact Int.ofNat.inj e)
    exact (List.map_inj_right fun x y e => hi e).1 h
  have h3 : a.data = b.data := Array.toList_inj.1 h2
  cases a; cases b; cases h3; rfl
theorem push_chs (s : ByteArray) (b : UInt8) : chs (s.push b) = chs s ++ [(b.toNat : Int)] := by
  unfold chs
  show List.map _ (s.data.push b).toList = _
  rw [Array.toList_push, List.map_append]; rfl
theorem bsOf_go : ∀ (l : List Int) (s : ByteArray), (∀ x ∈ l, 0 ≤ x ∧ x < 256) → chs (l.foldl (fun r n => r.push (UInt8.ofNat n.toNat)) s) = chs s ++ l
  | [], s, _ => by simp
  | x :: l, s, h => by
    have hx := h x (by simp)
    rw [List.foldl_cons, bsOf_go l _ (fun y hy => h y (by simp [hy])), push_chs, List.append_assoc]
    have : ((UInt8.ofNat x.toNat).toNat : Int) = x := by
      rw [UInt8.toNat_ofNat']; omega
    rw [this]; rfl
theorem chs_bsOf {l : List Int} (h : ∀ x ∈ l, 0 ≤ x ∧ x < 256) : chs (bsOf l) = l := by
  unfold bsOf
  rw [bsOf_go l _ h]; rfl
theorem bsOf_chs (s : ByteArray) : bsOf (chs s) = s := chs_inj (chs_bsOf (chs_bd s))
theorem chs_empty : chs ByteArray.empty = [] := rfl
theorem chs_extract (s : ByteArray) (a : Nat) : chs (s.extract a s.size) = (chs s).drop a := by
  unfold chs
  have : (s.extract a s.size).data.toList = s.data.toList.drop a := by
    rw [ByteArray.data_extract, Array.toList_extract, List.extract_eq_take_drop]
    rw [List.take_of_length_le]
    rw [List.length_drop, Array.length_toList]
    exact Nat.le_refl _
  rw [this, List.map_drop]
theorem seql (a b : ByteArray) : (a.toList == b.toList) = decide (chs a = chs b) := by
  rw [ByteArray.toList_eq, ByteArray.toList_eq]
  by_cases h : a = b
  · subst h; simp
  · have h1 : ¬ chs a = chs b := fun e => h (chs_inj e)
    have h2 : ¬ a.data.toList = b.data.toList := fun e => h1 (by unfold chs; rw [e])
    rw [decide_eq_false h1, beq_eq_false_iff_ne]
    exact h2
theorem txt_bd (z : Int) : ∀ x ∈ txt z, 0 ≤ x ∧ x < 256 := by
  have h1 : ∀ n, ∀ x ∈ (decL n).reverse, 0 ≤ x ∧ x < 256 := fun n x hx => by
    have := decL_dig n x (List.mem_reverse.1 hx)
    unfold isDig at this; omega
  intro x hx
  unfold txt at hx
  split at hx
  · rcases List.mem_singleton.1 hx with rfl; decide
  · split at hx
    · rcases List.mem_cons.1 hx with rfl | hx
      · decide
      · exact h1 _ x hx
    · exact h1 _ x hx

variable {P : Program} {t : TypeId} {H : Heap}
theorem semPure_und {d : TypeDesc} (hu : P.underlying t = some d) : semPure P (underlying t) = some d := by
  simp [underlying, program, semPure, bind, Sem.bind, pure, hu]
theorem ln_str {s : ByteArray} (hu : P.underlying t = some .string) : aLen P t (.string s) = some (.int .i64 (chs s).length) := by
  simp only [aLen, hu, chs_len]; rfl
theorem ix_str {s : ByteArray} (hu : P.underlying t = some .string) {k : IntKind} {i : Int} (h0 : 0 ≤ i) (h1 : i < (chs s).length) : aIndex P t (.string s) (.int k i) = some (.int .u8 ((chs s).getD i.toNat 0)) := by
  rw [chs_len] at h1
  have hi : i.toNat < s.size := by omega
  have e : s[i.toNat]? = some s[i.toNat] := getElem?_pos s i.toNat hi
  have e2 : ((s[i.toNat]).toNat : Int) = (chs s).getD i.toNat 0 := by
    unfold chs
    rw [List.getD_eq_getElem?_getD, List.getElem?_map, List.getElem?_eq_getElem (by rw [Array.length_toList]; exact hi)]
    rfl
  have : semPure P (Instr.index t (.string s) (.int k i)) = some (.int .u8 ((chs s).getD i.toNat 0)) := by
    refine (semPure_bind _ _ (semPure_und hu)).trans ?_
    simp only [if_pos h0, e, e2]; rfl
  simp only [aIndex, gr_int, if_true, scal, this, gr, ground]
theorem sl_str {s : ByteArray} (hu : P.underlying t = some .string) {k : IntKind} {i : Int} (h0 : 0 ≤ i) (h1 : i ≤ (chs s).length) : aSlice P H t (.string s) (some (.int k i)) none none = some (.string (s.extract i.toNat s.size)) := by
  rw [chs_len] at h1
  have : semPure P (Instr.sliceAt t (.string s) (some (.int k i)) none none) = some (.string (s.extract i.toNat s.size)) := by
    refine (semPure_bind _ _ (semPure_und hu)).trans ?_
    refine (semPure_bind _ _ (semPure_und hu)).trans ?_
    simp [Instr.sliceBounds, Instr.sliceBound, asIntOf, semPure, bind, Sem.bind, pure, h0, h1]
  simp [aSlice, hu, gr_int, scal, this, gr, ground]
end Go.Abs
