/- The order of locations, plainly: going down, and with a stack. -/
import Derived.Test.YtboekagofficpaaGreatO1
set_option linter.unusedVariables false
set_option linter.unusedSimpArgs false
namespace Go.Abs
open Go Go.Proofs
set_option maxRecDepth 100000
set_option maxHeartbeats 4000000
/-- How each is (0: not yet; 1: come to; 2: left), which are heads, what was left. -/
structure OS where
  how : List Int
  head : List Bool
  left : List Int
def OS.beg (s : OS) (t : Nat) : OS := ⟨s.how.set t 1, s.head, s.left⟩
def OS.fin (s : OS) (t : Nat) : OS := ⟨s.how.set t 2, s.head, s.left ++ [(t : Int)]⟩
def OS.mark (s : OS) (t : Nat) : OS := ⟨s.how, s.head.set t true, s.left⟩
def visit (out : Nat → List Nat) : Nat → Nat → OS → OS
  | 0, _, s => s
  | f + 1, t, s => ((out t).foldl (fun s u => if s.how.getD u 0 = 0 then visit out f u s else if s.how.getD u 0 = 1 then s.mark u else s) (s.beg t)).fin t
def stepO (out : Nat → List Nat) (f : Nat) (s : OS) (u : Nat) : OS := if s.how.getD u 0 = 0 then visit out f u s else if s.how.getD u 0 = 1 then s.mark u else s
theorem visit_succ {out : Nat → List Nat} {f t : Nat} {s : OS} : visit out (f + 1) t s = ((out t).foldl (stepO out f) (s.beg t)).fin t := rfl
def OS.un (s : OS) : Nat := (s.how.filter fun x => decide (x = 0)).length
theorem filt_set {p : Int → Bool} : ∀ {l : List Int} {i : Nat} {x : Int}, i < l.length → ((l.set i x).filter p).length + (if p (l.getD i 0) then 1 else 0) = (l.filter p).length + (if p x then 1 else 0)
  | [], i, x, h => by simp at h
  | a :: l, 0, x, h => by
    simp only [List.set_cons_zero, List.filter_cons, List.getD_cons_zero]
    by_cases h1 : p a = true <;> by_cases h2 : p x = true <;> simp [h1, h2]
  | a :: l, i + 1, x, h => by
    have ih := filt_set (p := p) (l := l) (i := i) (x := x) (by simpa using h)
    simp only [List.set_cons_succ, List.filter_cons, List.getD_cons_succ]
    by_cases h1 : p a = true
    · rw [if_pos h1, if_pos h1, List.length_cons, List.length_cons]; omega
    · rw [if_neg h1, if_neg h1]; exact ih
theorem un_beg {s : OS} {t : Nat} (ht : t < s.how.length) (h : s.how.getD t 0 = 0) : (s.beg t).un + 1 = s.un := by
  have := filt_set (p := fun x => decide (x = 0)) (x := 1) ht
  rw [h] at this
  simpa [OS.un, OS.beg] using this
theorem un_fin {s : OS} {t : Nat} (ht : t < s.how.length) : (s.fin t).un ≤ s.un := by
  have := filt_set (p := fun x => decide (x = 0)) (x := 2) ht
  simp only [OS.un, OS.fin]
  rw [if_neg (by decide : ¬ decide ((2 : Int) = 0) = true)] at this
  omega
theorem un_mark {s : OS} {t : Nat} : (s.mark t).un = s.un := rfl
theorem un_pos {s : OS} {t : Nat} (ht : t < s.how.length) (h : s.how.getD t 0 = 0) : 0 < s.un := by
  have := un_beg ht h; omega
/-- So many of each; so many on the way. -/
structure OI (n d : Nat) (s : OS) : Prop where
  how : s.how.length = n
  head : s.head.length = n
  left : s.left.length + s.un + d ≤ n
theorem OI.beg {n d t : Nat} {s : OS} (h : OI n d s) (ht : t < n) (h0 : s.how.getD t 0 = 0) : OI n (d + 1) (s.beg t) :=
  ⟨by simp [OS.beg, h.how], h.head, by have := un_beg (by rw [h.how]; exact ht) h0; have := h.left; show s.left.length + _ + _ ≤ _; omega⟩
theorem OI.fin {n d t : Nat} {s : OS} (h : OI n (d + 1) s) (ht : t < n) : OI n d (s.fin t) :=
  ⟨by simp [OS.fin, h.how], h.head, by have := un_fin (s := s) (by rw [h.how]; exact ht); have := h.left; show (s.left ++ [_]).length + _ + _ ≤ _; rw [List.length_append, List.length_singleton]; omega⟩
theorem OI.mark {n d t : Nat} {s : OS} (h : OI n d s) : OI n d (s.mark t) := ⟨h.how, by simp [OS.mark, h.head], h.left⟩
/-- It is kept, and no more are not yet. -/
theorem visit_OI {out : Nat → List Nat} {n : Nat} (ho : ∀ v, ∀ u ∈ out v, u < n) : ∀ {f t d : Nat} {s : OS}, OI n d s → t < n → s.how.getD t 0 = 0 → OI n d (visit out f t s) ∧ (visit out f t s).un ≤ s.un
  | 0, t, d, s, h, _, _ => ⟨h, Nat.le_refl _⟩
  | f + 1, t, d, s, h, ht, h0 => by
    rw [visit_succ]
    have key : ∀ (l : List Nat) (s1 : OS), (∀ u ∈ l, u < n) → OI n (d + 1) s1 → OI n (d + 1) (l.foldl (stepO out f) s1) ∧ (l.foldl (stepO out f) s1).un ≤ s1.un := by
      intro l
      induction l with
      | nil => exact fun s1 _ h1 => ⟨h1, Nat.le_refl _⟩
      | cons u l ih =>
        intro s1 hl h1
        rw [List.foldl_cons]
        have h2 : OI n (d + 1) (stepO out f s1 u) ∧ (stepO out f s1 u).un ≤ s1.un := by
          unfold stepO
          split
          · exact visit_OI ho h1 (hl u (List.Mem.head _)) ‹_›
          · split
            · exact ⟨h1.mark, Nat.le_refl _⟩
            · exact ⟨h1, Nat.le_refl _⟩
        obtain ⟨h3, h4⟩ := ih _ (fun v hv => hl v (List.Mem.tail _ hv)) h2.1
        exact ⟨h3, Nat.le_trans h4 h2.2⟩
    obtain ⟨h1, h2⟩ := key (out t) (s.beg t) (ho t) (h.beg ht h0)
    have h3 := un_beg (by rw [h.how]; exact ht) h0
    exact ⟨h1.fin ht, Nat.le_trans (un_fin (by rw [h1.how]; exact ht)) (by omega)⟩
theorem step_OI {out : Nat → List Nat} {n f d u : Nat} {s : OS} (ho : ∀ v, ∀ u ∈ out v, u < n) (h : OI n d s) (hu : u < n) : OI n d (stepO out f s u) ∧ (stepO out f s u).un ≤ s.un := by
  unfold stepO
  split
  · exact visit_OI ho h hu ‹_›
  · split
    · exact ⟨h.mark, Nat.le_refl _⟩
    · exact ⟨h, Nat.le_refl _⟩
/-! ### with a stack -/
def cont (out : Nat → List Nat) (F : Nat) : List (Nat × List Nat) → OS → OS
  | [], s => s
  | (t, r) :: fs, s => cont out F fs ((r.foldl (stepO out (F - fs.length)) s).fin t)
theorem cont_pop {out : Nat → List Nat} {F t : Nat} {fs : List (Nat × List Nat)} {s : OS} : cont out F ((t, []) :: fs) s = cont out F fs (s.fin t) := rfl
theorem cont_push {out : Nat → List Nat} {F t u : Nat} {r : List Nat} {fs : List (Nat × List Nat)} {s : OS} (h : s.how.getD u 0 = 0) (hf : fs.length < F) : cont out F ((t, u :: r) :: fs) s = cont out F ((u, out u) :: (t, r) :: fs) (s.beg u) := by
  obtain ⟨g, hg⟩ : ∃ g, F - fs.length = g + 1 := ⟨F - fs.length - 1, by omega⟩
  have hg2 : F - (fs.length + 1) = g := by omega
  simp only [cont, List.foldl_cons, List.length_cons, hg, hg2]
  rw [show stepO out (g + 1) s u = visit out (g + 1) u s by unfold stepO; rw [if_pos h], visit_succ]
theorem cont_mark {out : Nat → List Nat} {F t u : Nat} {r : List Nat} {fs : List (Nat × List Nat)} {s : OS} (h : s.how.getD u 0 = 1) : cont out F ((t, u :: r) :: fs) s = cont out F ((t, r) :: fs) (s.mark u) := by
  simp only [cont, List.foldl_cons]
  rw [show stepO out (F - fs.length) s u = s.mark u by unfold stepO; rw [if_neg (by omega), if_pos h]]
theorem cont_skip {out : Nat → List Nat} {F t u : Nat} {r : List Nat} {fs : List (Nat × List Nat)} {s : OS} (h0 : s.how.getD u 0 ≠ 0) (h1 : s.how.getD u 0 ≠ 1) : cont out F ((t, u :: r) :: fs) s = cont out F ((t, r) :: fs) s := by
  simp only [cont, List.foldl_cons]
  rw [show stepO out (F - fs.length) s u = s by unfold stepO; rw [if_neg h0, if_neg h1]]
/-! ### of edges -/
def outE (E : List RE) (v : Nat) : List Nat := (E.filter fun e => decide (e.f = (v : Int))).map fun e => e.t.toNat
theorem outE_succ {E : List RE} {v s : Nat} (h : s < E.length) : outE (E.take (s + 1)) v = outE (E.take s) v ++ if (E.getD s eE.d).f = (v : Int) then [(E.getD s eE.d).t.toNat] else [] := by
  unfold outE
  rw [show E.take (s + 1) = E.take s ++ [E.getD s eE.d] by rw [List.take_add_one, List.getD_eq_getElem?_getD, List.getElem?_eq_getElem h]; rfl, List.filter_append, List.map_append]
  congr 1
  rw [List.filter_cons, List.filter_nil]
  by_cases h1 : (E.getD s eE.d).f = (v : Int)
  · rw [if_pos h1, if_pos (decide_eq_true h1)]; rfl
  · rw [if_neg h1, if_neg (by simpa using h1)]; rfl
theorem outE_len {E : List RE} {v : Nat} : (outE E v).length ≤ E.length := by
  unfold outE
  rw [List.length_map]
  exact List.length_filter_le _ _
theorem outE_lt {E : List RE} {n : Nat} (h : ∀ e ∈ E, 0 ≤ e.t ∧ e.t < n) (v : Nat) : ∀ u ∈ outE E v, u < n := by
  intro u hu
  unfold outE at hu
  obtain ⟨e, he, rfl⟩ := List.mem_map.1 hu
  have := h e (List.mem_filter.1 he).1
  omega
def os0 (n : Nat) : OS := ⟨List.replicate n 0, List.replicate n false, []⟩
theorem filter_rep {n : Nat} : (List.replicate n (0 : Int)).filter (fun x => decide (x = 0)) = List.replicate n 0 := by
  rw [List.filter_replicate]; rfl
theorem os0_OI {n : Nat} : OI n 0 (os0 n) := ⟨by simp [os0], by simp [os0], by simp [os0, OS.un, filter_rep]⟩
theorem os0_how {n t : Nat} : (os0 n).how.getD t 0 = 0 := by
  simp only [os0, List.getD_eq_getElem?_getD, List.getElem?_replicate]
  split <;> rfl
def ordS (E : List RE) (n : Nat) : OS := visit (outE E) n 0 (os0 n)
/-- The order. -/
def rest (s : OS) (k : Nat) : List Int := ((List.range k).filter fun i => decide (s.how.getD i 0 = 0)).map Int.ofNat
theorem rest_succ {s : OS} {k : Nat} : rest s (k + 1) = rest s k ++ if s.how.getD k 0 = 0 then [(k : Int)] else [] := by
  unfold rest
  rw [List.range_succ, List.filter_append, List.map_append, List.filter_cons, List.filter_nil]
  congr 1
  by_cases h1 : s.how.getD k 0 = 0
  · rw [if_pos h1, if_pos (decide_eq_true h1)]; rfl
  · rw [if_neg h1, if_neg (by simpa using h1)]; rfl
theorem rest_len {s : OS} {k : Nat} : (rest s k).length ≤ k := by
  unfold rest
  rw [List.length_map]
  have := List.length_filter_le (fun i => decide (s.how.getD i 0 = 0)) (List.range k)
  rwa [List.length_range] at this
def ordO (s : OS) (n : Nat) : List Int := s.left.reverse ++ rest s n
end Go.Abs
