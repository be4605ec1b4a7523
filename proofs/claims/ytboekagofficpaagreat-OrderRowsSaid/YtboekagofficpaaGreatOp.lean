/- Joined: O22, O27, O28, O29, O25, O26, O30. -/
import Derived.Test.YtboekagofficpaaGreatO9
import Derived.Test.YtboekagofficpaaGreatO10
import Derived.Test.YtboekagofficpaaGreatO4
/- Edges that are there twice change nothing of the order. -/
set_option linter.unusedVariables false
set_option linter.unusedSimpArgs false
namespace Go.Abs
open Go Go.Proofs
set_option maxRecDepth 100000
set_option maxHeartbeats 4000000
theorem getD_setN {α : Type} {l : List α} {i j : Nat} {x d : α} (h : i ≠ j) : (l.set i x).getD j d = l.getD j d := by
  rw [List.getD_eq_getElem?_getD, List.getD_eq_getElem?_getD, List.getElem?_set_ne h]
theorem getD_setS {α : Type} {l : List α} {i : Nat} {x d : α} (h : i < l.length) : (l.set i x).getD i d = x := by
  rw [List.getD_eq_getElem?_getD, List.getElem?_set, if_pos rfl, if_pos h]; rfl
/-- What is come to stays; heads stay heads. -/
def Kp (s s' : OS) : Prop := (∀ v, s.how.getD v 0 ≠ 0 → s'.how.getD v 0 = s.how.getD v 0) ∧ ∀ v, s.head.getD v false = true → s'.head.getD v false = true
theorem Kp.rfl {s : OS} : Kp s s := ⟨fun _ _ => Eq.refl _, fun _ h => h⟩
theorem Kp.trans {a b c : OS} (h : Kp a b) (k : Kp b c) : Kp a c := ⟨fun v hv => by
  have := h.1 v hv
  rw [← this]
  exact k.1 v (by rw [this]; exact hv), fun v hv => k.2 v (h.2 v hv)⟩
theorem Kp.mark {s : OS} {u : Nat} : Kp s (s.mark u) := ⟨fun _ _ => Eq.refl _, fun v hv => by
  show (s.head.set u true).getD v false = true
  by_cases e : u = v
  · subst e
    have : u < s.head.length := by
      rcases Nat.lt_or_ge u s.head.length with h | h
      · exact h
      · rw [List.getD_eq_getElem?_getD, List.getElem?_eq_none h] at hv; cases hv
    exact getD_setS this
  · rw [getD_setN e]; exact hv⟩
theorem visit_keep {out : Nat → List Nat} {n : Nat} (ho : ∀ v, ∀ u ∈ out v, u < n) : ∀ {f t d : Nat} {s : OS}, OI n d s → t < n → s.how.getD t 0 = 0 → Kp s (visit out f t s)
  | 0, t, d, s, h, _, _ => Kp.rfl
  | f + 1, t, d, s, h, ht, h0 => by
    rw [visit_succ]
    have key : ∀ (l : List Nat) (s1 : OS), (∀ u ∈ l, u < n) → OI n (d + 1) s1 → Kp s1 (l.foldl (stepO out f) s1) := by
      intro l
      induction l with
      | nil => exact fun s1 _ h1 => Kp.rfl
      | cons u l ih =>
        intro s1 hl h1
        rw [List.foldl_cons]
        have h2 : Kp s1 (stepO out f s1 u) := by
          unfold stepO
          split
          · exact visit_keep ho h1 (hl u (List.Mem.head _)) ‹_›
          · split
            · exact Kp.mark
            · exact Kp.rfl
        exact h2.trans (ih _ (fun v hv => hl v (List.Mem.tail _ hv)) (step_OI ho h1 (hl u (List.Mem.head _))).1)
    have hk := key (out t) (s.beg t) (ho t) (h.beg ht h0)
    refine ⟨fun v hv => ?_, fun v hv => hk.2 v hv⟩
    have hne : t ≠ v := fun e => hv (e ▸ h0)
    have e1 : (s.beg t).how.getD v 0 = s.how.getD v 0 := getD_setN hne
    have e2 := hk.1 v (by rw [e1]; exact hv)
    show (((out t).foldl (stepO out f) (s.beg t)).how.set t 2).getD v 0 = _
    rw [getD_setN hne, e2, e1]
theorem step_keep {out : Nat → List Nat} {n f d u : Nat} {s : OS} (ho : ∀ v, ∀ u ∈ out v, u < n) (h : OI n d s) (hu : u < n) : Kp s (stepO out f s u) := by
  unfold stepO
  split
  · exact visit_keep ho h hu ‹_›
  · split
    · exact Kp.mark
    · exact Kp.rfl
theorem fold_OI {out : Nat → List Nat} {n f d : Nat} (ho : ∀ v, ∀ u ∈ out v, u < n) : ∀ (l : List Nat) (s : OS), (∀ u ∈ l, u < n) → OI n d s → OI n d (l.foldl (stepO out f) s) ∧ (l.foldl (stepO out f) s).un ≤ s.un
  | [], s, _, h => ⟨h, Nat.le_refl _⟩
  | u :: l, s, hl, h => by
    have h2 := step_OI (f := f) ho h (hl u (List.Mem.head _))
    obtain ⟨h3, h4⟩ := fold_OI (f := f) ho l _ (fun v hv => hl v (List.Mem.tail _ hv)) h2.1
    exact ⟨h3, Nat.le_trans h4 h2.2⟩
theorem fold_keep {out : Nat → List Nat} {n f d : Nat} (ho : ∀ v, ∀ u ∈ out v, u < n) : ∀ (l : List Nat) (s : OS), (∀ u ∈ l, u < n) → OI n d s → Kp s (l.foldl (stepO out f) s)
  | [], s, _, h => Kp.rfl
  | u :: l, s, hl, h => (step_keep (f := f) ho h (hl u (List.Mem.head _))).trans (fold_keep ho l _ (fun v hv => hl v (List.Mem.tail _ hv)) (step_OI (f := f) ho h (hl u (List.Mem.head _))).1)
/-- Done with: left, or a head. -/
def DnU (s : OS) (u : Nat) : Prop := s.how.getD u 0 ≠ 0 ∧ (s.how.getD u 0 = 1 → s.head.getD u false = true)
theorem DnU.keep {s s' : OS} {u : Nat} (h : DnU s u) (k : Kp s s') : DnU s' u := by
  have e := k.1 u h.1
  exact ⟨by rw [e]; exact h.1, fun h1 => k.2 u (h.2 (by rw [← e]; exact h1))⟩
theorem step_done {out : Nat → List Nat} {n f d u : Nat} {s : OS} (ho : ∀ v, ∀ u ∈ out v, u < n) (h : OI n d s) (hu : u < n) (hf : s.un ≤ f) : DnU (stepO out f s u) u := by
  unfold stepO
  split
  · rename_i h0
    have hp := un_pos (by rw [h.how]; exact hu) h0
    obtain ⟨g, rfl⟩ : ∃ g, f = g + 1 := ⟨f - 1, by omega⟩
    rw [visit_succ]
    have ho2 := (fold_OI (f := g) ho (out u) _ (ho u) (h.beg hu h0)).1
    have e : (((out u).foldl (stepO out g) (s.beg u)).fin u).how.getD u 0 = 2 := getD_setS (by rw [ho2.how]; exact hu)
    exact ⟨by rw [e]; decide, fun h1 => by rw [e] at h1; cases h1⟩
  · rename_i h0
    split
    · exact ⟨h0, fun _ => getD_setS (by rw [h.head]; exact hu)⟩
    · rename_i h1
      exact ⟨h0, fun h2 => absurd h2 h1⟩
theorem fold_done {out : Nat → List Nat} {n f d : Nat} (ho : ∀ v, ∀ u ∈ out v, u < n) : ∀ (l : List Nat) (s : OS), (∀ u ∈ l, u < n) → OI n d s → s.un ≤ f → ∀ u ∈ l, DnU (l.foldl (stepO out f) s) u
  | [], s, _, _, _, u, hu => nomatch hu
  | w :: l, s, hl, h, hf, u, hu => by
    have hw := hl w (List.Mem.head _)
    have h2 := step_OI (f := f) ho h hw
    have hl' := fun v hv => hl v (List.Mem.tail _ hv)
    rw [List.foldl_cons]
    rcases List.mem_cons.1 hu with rfl | hu
    · exact (step_done ho h hw hf).keep (fold_keep ho l _ hl' h2.1)
    · exact fold_done ho l _ hl' h2.1 (Nat.le_trans h2.2 hf) u hu
theorem mark_same {s : OS} {u : Nat} (h : s.head.getD u false = true) : s.mark u = s := by
  obtain ⟨a, b, c⟩ := s
  unfold OS.mark
  dsimp only at h ⊢
  have hu : u < b.length := by
    rcases Nat.lt_or_ge u b.length with k | k
    · exact k
    · rw [List.getD_eq_getElem?_getD, List.getElem?_eq_none k] at h; cases h
  rw [List.getD_eq_getElem?_getD, List.getElem?_eq_getElem hu] at h
  have h : b[u] = true := h
  rw [← h, List.set_getElem_self]
theorem fold_again {out : Nat → List Nat} {f : Nat} : ∀ (l : List Nat) (s : OS), (∀ u ∈ l, DnU s u) → l.foldl (stepO out f) s = s
  | [], s, _ => rfl
  | u :: l, s, h => by
    have hu := h u (List.Mem.head _)
    have e : stepO out f s u = s := by
      unfold stepO
      rw [if_neg hu.1]
      split
      · exact mark_same (hu.2 ‹_›)
      · rfl
    rw [List.foldl_cons, e]
    exact fold_again l s fun v hv => h v (List.Mem.tail _ hv)
theorem visit_twice {out : Nat → List Nat} {n : Nat} (ho : ∀ v, ∀ u ∈ out v, u < n) : ∀ {f t d : Nat} {s : OS}, OI n d s → t < n → s.how.getD t 0 = 0 → s.un ≤ f → visit (fun v => out v ++ out v) f t s = visit out f t s
  | 0, t, d, s, h, _, _, _ => rfl
  | f + 1, t, d, s, h, ht, h0, hf => by
    rw [visit_succ, visit_succ]
    have u1 := un_beg (by rw [h.how]; exact ht) h0
    have key : ∀ (l : List Nat) (s1 : OS), (∀ u ∈ l, u < n) → OI n (d + 1) s1 → s1.un ≤ f → l.foldl (stepO (fun v => out v ++ out v) f) s1 = l.foldl (stepO out f) s1 := by
      intro l
      induction l with
      | nil => exact fun s1 _ _ _ => rfl
      | cons u l ih =>
        intro s1 hl h1 h2
        have hu := hl u (List.Mem.head _)
        have e : stepO (fun v => out v ++ out v) f s1 u = stepO out f s1 u := by
          unfold stepO
          split
          · exact visit_twice ho h1 hu ‹_› h2
          · rfl
        have h3 := step_OI (f := f) ho h1 hu
        rw [List.foldl_cons, List.foldl_cons, e]
        exact ih _ (fun v hv => hl v (List.Mem.tail _ hv)) h3.1 (Nat.le_trans h3.2 h2)
    have oi1 := h.beg ht h0
    have a := key (out t ++ out t) (s.beg t) (fun u hu => by
      rcases List.mem_append.1 hu with hu | hu <;> exact ho t u hu) oi1 (by omega)
    have b : (out t ++ out t).foldl (stepO out f) (s.beg t) = (out t).foldl (stepO out f) (s.beg t) := by
      rw [List.foldl_append]
      exact fold_again _ _ (fold_done ho (out t) _ (ho t) oi1 (by omega))
    show (((out t ++ out t).foldl (stepO (fun v => out v ++ out v) f) (s.beg t)).fin t) = _
    rw [a, b]
theorem outE_twice {E : List RE} : outE (E ++ E) = fun v => outE E v ++ outE E v := by
  funext v
  unfold outE
  rw [List.filter_append, List.map_append]
theorem ordS_twice {E : List RE} {n : Nat} (hn : 0 < n) (h : ∀ v, ∀ u ∈ outE E v, u < n) : ordS (E ++ E) n = ordS E n := by
  unfold ordS
  rw [outE_twice]
  exact visit_twice h os0_OI hn os0_how (by have := (os0_OI (n := n)).left; omega)
end Go.Abs

/- What is left is told once. -/
set_option linter.unusedVariables false
set_option linter.unusedSimpArgs false
namespace Go.Abs
open Go Go.Proofs
set_option maxRecDepth 100000
set_option maxHeartbeats 4000000
structure Lf (s : OS) : Prop where
  mem : ∀ v : Nat, (v : Int) ∈ s.left ↔ s.how.getD v 0 = 2
  nod : s.left.Nodup
  nat : ∀ x ∈ s.left, 0 ≤ x
theorem Lf.beg {s : OS} {t : Nat} (h : Lf s) (ht : t < s.how.length) (h0 : s.how.getD t 0 = 0) : Lf (s.beg t) := by
  refine ⟨fun v => ?_, h.nod, h.nat⟩
  rw [show (s.beg t).left = s.left from rfl, h.mem v]
  show _ ↔ (s.how.set t 1).getD v 0 = 2
  by_cases e : t = v
  · subst e
    rw [getD_setS ht, h0]
    decide
  · rw [getD_setN e]
theorem Lf.fin {s : OS} {t : Nat} (h : Lf s) (ht : t < s.how.length) (h1 : s.how.getD t 0 = 1) : Lf (s.fin t) := by
  have hn : (t : Int) ∉ s.left := fun k => by rw [h.mem t, h1] at k; cases k
  refine ⟨fun v => ?_, ?_, fun x hx => ?_⟩
  · show (v : Int) ∈ s.left ++ [(t : Int)] ↔ (s.how.set t 2).getD v 0 = 2
    rw [List.mem_append, List.mem_singleton, h.mem v]
    by_cases e : t = v
    · subst e
      rw [getD_setS ht]
      simp
    · rw [getD_setN e]
      constructor
      · rintro (k | k)
        · exact k
        · omega
      · exact .inl
  · show (s.left ++ [(t : Int)]).Nodup
    rw [List.nodup_append]
    refine ⟨h.nod, by simp, fun a ha b hb e => ?_⟩
    rw [List.mem_singleton] at hb
    subst hb
    subst e
    exact hn ha
  · rcases List.mem_append.1 hx with hx | hx
    · exact h.nat x hx
    · rw [List.mem_singleton.1 hx]; omega
theorem Lf.mark {s : OS} {t : Nat} (h : Lf s) : Lf (s.mark t) := ⟨h.mem, h.nod, h.nat⟩
theorem visit_left {out : Nat → List Nat} {n : Nat} (ho : ∀ v, ∀ u ∈ out v, u < n) : ∀ {f t d : Nat} {s : OS}, OI n d s → t < n → s.how.getD t 0 = 0 → Lf s → Lf (visit out f t s)
  | 0, t, d, s, _, _, _, h => h
  | f + 1, t, d, s, h, ht, h0, hl => by
    rw [visit_succ]
    have key : ∀ (l : List Nat) (s1 : OS), (∀ u ∈ l, u < n) → OI n (d + 1) s1 → Lf s1 → Lf (l.foldl (stepO out f) s1) := by
      intro l
      induction l with
      | nil => exact fun s1 _ _ h1 => h1
      | cons u l ih =>
        intro s1 hl1 h1 h2
        have hu := hl1 u (List.Mem.head _)
        rw [List.foldl_cons]
        refine ih _ (fun v hv => hl1 v (List.Mem.tail _ hv)) (step_OI ho h1 hu).1 ?_
        unfold stepO
        split
        · exact visit_left ho h1 hu ‹_› h2
        · split
          · exact h2.mark
          · exact h2
    have oi1 := h.beg ht h0
    have l1 := key (out t) (s.beg t) (ho t) oi1 (hl.beg (by rw [h.how]; exact ht) h0)
    have oi2 := (fold_OI (f := f) ho (out t) _ (ho t) oi1).1
    have kp := fold_keep (f := f) ho (out t) _ (ho t) oi1
    have e1 : (s.beg t).how.getD t 0 = 1 := getD_setS (by rw [h.how]; exact ht)
    exact l1.fin (by rw [oi2.how]; exact ht) (by rw [kp.1 t (by rw [e1]; decide), e1])
theorem os0_left {n : Nat} : Lf (os0 n) := ⟨fun v => by rw [os0_how]; simp [os0], List.nodup_nil, fun x hx => nomatch hx⟩
theorem ordS_left {E : List RE} {n : Nat} (hn : 0 < n) (h : ∀ v, ∀ u ∈ outE E v, u < n) : Lf (ordS E n) := visit_left h os0_OI hn os0_how os0_left
end Go.Abs

/- Edges back lead to heads. -/
set_option linter.unusedVariables false
set_option linter.unusedSimpArgs false
namespace Go.Abs
open Go Go.Proofs
set_option maxRecDepth 100000
set_option maxHeartbeats 4000000
/-- Of what is left each edge leads to a head, or to what was left earlier. -/
def Ps (out : Nat → List Nat) (s : OS) : Prop := ∀ v u, s.how.getD v 0 = 2 → u ∈ out v → s.head.getD u false = true ∨ ∃ a b, s.left = a ++ (v : Int) :: b ∧ (u : Int) ∈ a
theorem Ps.beg {out : Nat → List Nat} {s : OS} {t : Nat} (h : Ps out s) (ht : t < s.how.length) : Ps out (s.beg t) := fun v u hv hu => by
  have hv : (s.how.set t 1).getD v 0 = 2 := hv
  by_cases e : t = v
  · subst e
    rw [getD_setS ht] at hv; cases hv
  · rw [getD_setN e] at hv
    exact h v u hv hu
theorem Ps.mark {out : Nat → List Nat} {s : OS} {t : Nat} (h : Ps out s) : Ps out (s.mark t) := fun v u hv hu => by
  rcases h v u hv hu with k | k
  · exact .inl (Kp.mark.2 u k)
  · exact .inr k
theorem Ps.fin {out : Nat → List Nat} {s : OS} {t : Nat} (h : Ps out s) (hl : Lf s) (h3 : ∀ v, s.how.getD v 0 = 0 ∨ s.how.getD v 0 = 1 ∨ s.how.getD v 0 = 2) (hd : ∀ u ∈ out t, DnU s u) : Ps out (s.fin t) := fun v u hv hu => by
  have hv : (s.how.set t 2).getD v 0 = 2 := hv
  by_cases e : t = v
  · subst e
    have d := hd u hu
    rcases h3 u with k | k | k
    · exact absurd k d.1
    · exact .inl (d.2 k)
    · exact .inr ⟨s.left, [], rfl, (hl.mem u).2 k⟩
  · rw [getD_setN e] at hv
    rcases h v u hv hu with k | ⟨a, b, k1, k2⟩
    · exact .inl k
    · refine .inr ⟨a, b ++ [(t : Int)], ?_, k2⟩
      show s.left ++ [(t : Int)] = _
      rw [k1, List.append_assoc]
      rfl
/-- 0, 1 or 2. -/
def H3 (s : OS) : Prop := ∀ v, s.how.getD v 0 = 0 ∨ s.how.getD v 0 = 1 ∨ s.how.getD v 0 = 2
theorem H3.set {l : List Int} {t : Nat} {x : Int} (hx : x = 1 ∨ x = 2) (h : ∀ v, l.getD v 0 = 0 ∨ l.getD v 0 = 1 ∨ l.getD v 0 = 2) : ∀ v, (l.set t x).getD v 0 = 0 ∨ (l.set t x).getD v 0 = 1 ∨ (l.set t x).getD v 0 = 2 := fun v => by
  by_cases e : t = v
  · subst e
    by_cases k : t < l.length
    · rw [getD_setS k]; exact .inr hx
    · rw [List.set_eq_of_length_le (by omega)]; exact h t
  · rw [getD_setN e]; exact h v
structure Al (out : Nat → List Nat) (s : OS) : Prop where
  lf : Lf s
  ps : Ps out s
  h3 : H3 s
theorem visit_all {out : Nat → List Nat} {n : Nat} (ho : ∀ v, ∀ u ∈ out v, u < n) : ∀ {f t d : Nat} {s : OS}, OI n d s → t < n → s.how.getD t 0 = 0 → s.un ≤ f → Al out s → Al out (visit out f t s)
  | 0, t, d, s, _, _, _, _, h => h
  | f + 1, t, d, s, h, ht, h0, hf, hl => by
    rw [visit_succ]
    have u1 := un_beg (by rw [h.how]; exact ht) h0
    have key : ∀ (l : List Nat) (s1 : OS), (∀ u ∈ l, u < n) → OI n (d + 1) s1 → s1.un ≤ f → Al out s1 → Al out (l.foldl (stepO out f) s1) := by
      intro l
      induction l with
      | nil => exact fun s1 _ _ _ h1 => h1
      | cons u l ih =>
        intro s1 hl1 h1 hu1 h2
        have hu := hl1 u (List.Mem.head _)
        have h3 := step_OI (f := f) ho h1 hu
        rw [List.foldl_cons]
        refine ih _ (fun v hv => hl1 v (List.Mem.tail _ hv)) h3.1 (Nat.le_trans h3.2 hu1) ?_
        unfold stepO
        split
        · exact visit_all ho h1 hu ‹_› hu1 h2
        · split
          · exact ⟨h2.lf.mark, h2.ps.mark, h2.h3⟩
          · exact h2
    have oi1 := h.beg ht h0
    have a1 := key (out t) (s.beg t) (ho t) oi1 (by omega) ⟨hl.lf.beg (by rw [h.how]; exact ht) h0, hl.ps.beg (by rw [h.how]; exact ht), H3.set (.inl rfl) hl.h3⟩
    have oi2 := (fold_OI (f := f) ho (out t) _ (ho t) oi1).1
    have kp := fold_keep (f := f) ho (out t) _ (ho t) oi1
    have e1 : (s.beg t).how.getD t 0 = 1 := getD_setS (by rw [h.how]; exact ht)
    have e2 := kp.1 t (by rw [e1]; decide)
    exact ⟨a1.lf.fin (by rw [oi2.how]; exact ht) (by rw [e2, e1]), a1.ps.fin a1.lf a1.h3 (fold_done ho (out t) _ (ho t) oi1 (by omega)), H3.set (.inr rfl) a1.h3⟩
theorem ordS_all {E : List RE} {n : Nat} (hn : 0 < n) (h : ∀ v, ∀ u ∈ outE E v, u < n) : Al (outE E) (ordS E n) :=
  visit_all h os0_OI hn os0_how (by have := (os0_OI (n := n)).left; omega) ⟨os0_left, fun v u hv _ => (by rw [os0_how] at hv; cases hv), fun v => .inl os0_how⟩
end Go.Abs

/- At the end nothing is still on the way; what is come to leads on to what is come to. -/
set_option linter.unusedVariables false
set_option linter.unusedSimpArgs false
namespace Go.Abs
open Go Go.Proofs
set_option maxRecDepth 100000
set_option maxHeartbeats 4000000
theorem visit_one {out : Nat → List Nat} {n : Nat} (ho : ∀ v, ∀ u ∈ out v, u < n) : ∀ {f t d : Nat} {s : OS}, OI n d s → t < n → s.how.getD t 0 = 0 → ∀ v, (visit out f t s).how.getD v 0 = 1 → s.how.getD v 0 = 1
  | 0, t, d, s, _, _, _, v, h => h
  | f + 1, t, d, s, h, ht, h0, v, hv => by
    rw [visit_succ] at hv
    have key : ∀ (l : List Nat) (s1 : OS), (∀ u ∈ l, u < n) → OI n (d + 1) s1 → (l.foldl (stepO out f) s1).how.getD v 0 = 1 → s1.how.getD v 0 = 1 := by
      intro l
      induction l with
      | nil => exact fun s1 _ _ h1 => h1
      | cons u l ih =>
        intro s1 hl1 h1 h2
        have hu := hl1 u (List.Mem.head _)
        rw [List.foldl_cons] at h2
        have h3 := ih _ (fun v hv => hl1 v (List.Mem.tail _ hv)) (step_OI ho h1 hu).1 h2
        unfold stepO at h3
        split at h3
        · exact visit_one ho h1 hu ‹_› v h3
        · split at h3
          · exact h3
          · exact h3
    have oi1 := h.beg ht h0
    have oi2 := (fold_OI (f := f) ho (out t) _ (ho t) oi1).1
    have hv : (((out t).foldl (stepO out f) (s.beg t)).how.set t 2).getD v 0 = 1 := hv
    by_cases e : t = v
    · subst e
      rw [getD_setS (by rw [oi2.how]; exact ht)] at hv; cases hv
    · rw [getD_setN e] at hv
      have := key (out t) (s.beg t) (ho t) oi1 hv
      have this : (s.how.set t 1).getD v 0 = 1 := this
      rwa [getD_setN e] at this
theorem ordS_two {E : List RE} {n : Nat} (hn : 0 < n) (h : ∀ v, ∀ u ∈ outE E v, u < n) (v : Nat) : (ordS E n).how.getD v 0 = 0 ∨ (ordS E n).how.getD v 0 = 2 := by
  rcases (ordS_all hn h).h3 v with k | k | k
  · exact .inl k
  · have := visit_one h os0_OI hn os0_how v k
    rw [os0_how] at this; cases this
  · exact .inr k
/-- Heads are come to. -/
def Hc (s : OS) : Prop := ∀ v, s.head.getD v false = true → s.how.getD v 0 ≠ 0
theorem visit_heads {out : Nat → List Nat} {n : Nat} (ho : ∀ v, ∀ u ∈ out v, u < n) : ∀ {f t d : Nat} {s : OS}, OI n d s → t < n → s.how.getD t 0 = 0 → Hc s → Hc (visit out f t s)
  | 0, t, d, s, _, _, _, h => h
  | f + 1, t, d, s, h, ht, h0, hl => by
    rw [visit_succ]
    have key : ∀ (l : List Nat) (s1 : OS), (∀ u ∈ l, u < n) → OI n (d + 1) s1 → Hc s1 → Hc (l.foldl (stepO out f) s1) := by
      intro l
      induction l with
      | nil => exact fun s1 _ _ h1 => h1
      | cons u l ih =>
        intro s1 hl1 h1 h2
        have hu := hl1 u (List.Mem.head _)
        rw [List.foldl_cons]
        refine ih _ (fun v hv => hl1 v (List.Mem.tail _ hv)) (step_OI ho h1 hu).1 ?_
        unfold stepO
        split
        · exact visit_heads ho h1 hu ‹_› h2
        · split
          · rename_i k1
            intro v hv
            have hv : (s1.head.set u true).getD v false = true := hv
            by_cases e : u = v
            · subst e
              show s1.how.getD u 0 ≠ 0
              rw [k1]; decide
            · rw [getD_setN e] at hv
              exact h2 v hv
          · exact h2
    have oi1 := h.beg ht h0
    have hb : Hc (s.beg t) := fun v hv => by
      show (s.how.set t 1).getD v 0 ≠ 0
      by_cases e : t = v
      · subst e
        rw [getD_setS (by rw [h.how]; exact ht)]; decide
      · rw [getD_setN e]; exact hl v hv
    have k := key (out t) (s.beg t) (ho t) oi1 hb
    have oi2 := (fold_OI (f := f) ho (out t) _ (ho t) oi1).1
    intro v hv
    show (((out t).foldl (stepO out f) (s.beg t)).how.set t 2).getD v 0 ≠ 0
    by_cases e : t = v
    · subst e
      rw [getD_setS (by rw [oi2.how]; exact ht)]; decide
    · rw [getD_setN e]; exact k v hv
/-- What is come to leads on to what is come to. -/
theorem ordS_closed {E : List RE} {n : Nat} (hn : 0 < n) (h : ∀ v, ∀ u ∈ outE E v, u < n) {v u : Nat} (hv : (ordS E n).how.getD v 0 = 2) (hu : u ∈ outE E v) : (ordS E n).how.getD u 0 = 2 := by
  have a := ordS_all hn h
  have hc : Hc (ordS E n) := visit_heads h os0_OI hn os0_how fun v hv => by
    have : (os0 n).head.getD v false = false := by
      simp only [os0, List.getD_eq_getElem?_getD, List.getElem?_replicate]
      split <;> rfl
    rw [this] at hv; cases hv
  rcases a.ps v u hv hu with k | ⟨x, y, k1, k2⟩
  · rcases ordS_two hn h u with q | q
    · exact absurd q (hc u k)
    · exact q
  · exact (a.lf.mem u).1 (by rw [k1]; exact List.mem_append.2 (.inl k2))
end Go.Abs

/- What can be come to: as the law reckons it. -/
set_option linter.unusedVariables false
set_option linter.unusedSimpArgs false
namespace Go.Abs
open Go Go.Proofs
set_option maxRecDepth 100000
set_option maxHeartbeats 40000000
def stepC (c : List Bool) (e : RE) : List Bool := if c.getD e.f.toNat false = true then c.set e.t.toNat true else c
def comeK (E : List RE) (n : Nat) : Nat → List Bool
  | 0 => (List.replicate n false).set 0 true
  | k + 1 => E.foldl stepC (comeK E n k)
theorem stepC_len {c : List Bool} {e : RE} : (stepC c e).length = c.length := by unfold stepC; split <;> simp
theorem foldC_len : ∀ {E : List RE} {c : List Bool}, (E.foldl stepC c).length = c.length
  | [], c => rfl
  | e :: E, c => by rw [List.foldl_cons, foldC_len, stepC_len]
theorem comeK_len {E : List RE} {n : Nat} : ∀ {k : Nat}, (comeK E n k).length = n
  | 0 => by simp [comeK]
  | k + 1 => by rw [comeK, foldC_len, comeK_len]
theorem fz_boolsU {H : Heap} {b n : Nat} {own : Bool} {l : List Bool} (hg : H.get b = some (.row own 4 (l.map .bool))) (hb : b < H.next) (hn : n = l.length) (h9 : n ≤ 2 ^ 30) : FzRel Tryz.prog H (Vv eB l) (.slice (some ⟨b, 0, none⟩) n n) := by
  subst hn
  have e : l.flatMap eB.enc = l.map .bool := by
    clear hg h9
    induction l with
    | nil => rfl
    | cons a l ih => rw [List.flatMap_cons, List.map_cons, ih]; rfl
  have hs := Sl.row (P := Tryz.prog) (H := H) (es := 1) (b := b) (off := 0) (n := l.length) (c := l.length) hg hb (.inr T.s4) (.inr ⟨Nat.le_refl _, by unfold unk; omega⟩) (by rw [List.length_map]; omega)
  rw [List.drop_zero, List.take_of_length_le (by rw [List.length_map]; omega)] at hs
  unfold Vv
  rw [e]
  exact .sl (es := 1) (by decide) hs .refl
theorem p297 {l : RW} (hn1 : 1 ≤ l.locs.length) (hn : l.locs.length ≤ 40) (hl : l.edges.length ≤ 200) (hE : ∀ j, j < l.edges.length → (0 ≤ (l.edges.getD j eE.d).f ∧ (l.edges.getD j eE.d).f < l.locs.length) ∧ (0 ≤ (l.edges.getD j eE.d).t ∧ (l.edges.getD j eE.d).t < l.locs.length)) :
    PC Tryz.prog 17 [Wv l] (Vv eB (comeK l.edges l.locs.length l.locs.length)) := by
  refine PC.of (.cons pu_W .nil) pu_Bs fun N hN => ?_
  obtain ⟨L, S, E, V⟩ := l
  dsimp only at hn1 hn hl hE ⊢
  unfold Wv
  generalize hLn : L.length = n at *
  obtain ⟨F, rfl⟩ : ∃ F, n = F + 1 := ⟨n - 1, by omega⟩
  have ix0 {b : Nat} : aIndexAddr Tryz.prog 31 (.slice (some ⟨b, 0, none⟩) (F + 1) (F + 1)) (.int .i64 0) = some (.pointer (some ⟨b, 0, none⟩)) := ix_bool (i := 0) (by omega)
  have sp0 : splice (List.replicate (F + 1) (Value.bool false)) 0 [.bool true] = (comeK E (F + 1) 0).map .bool := by
    unfold comeK
    rw [← List.map_replicate, sp_bool (by simp)]
  have h1F : 1 ≤ F + 1 := by omega
  refine ACalls.of_code T.hm (n := 43) Tryz.func17 rfl rfl rfl rfl ?_; simp only [List.replicate_succ, List.replicate_zero, List.cons_append, List.nil_append]
  try dsimp only
  simp (maxSteps := 30000000) (disch := first | exact sd | fail) only [go_sem, Nat.reduceAdd, Nat.reduceSub, Nat.reduceLeDiff, ↓reduceIte, decide_eq_true_eq, if_true, if_false, Bool.false_eq_true, Int.lt_irrefl, implies_true, true_and, and_true, eq_self, and_self, beq_self_eq_true, aMk_int, Int.toNat_natCast, hLn, ix0, sp0, List.length_replicate, h1F]
  refine aw_loopJ (σ := Nat) (fun s J => [J 0, .pointer (some ⟨N, 0, none⟩), J 2, .slice (some ⟨N + 1, 0, none⟩) (F + 1) (F + 1), .int .i64 s, J 5, J 6, J 7, J 8, J 9, J 10, J 11, J 12, J 13, J 14, J 15, J 16, J 17, J 18, J 19, J 20, J 21, J 22, J 23, J 24, J 25, J 26, J 27, J 28, J 29, J 30, J 31, J 32, J 33, J 34, J 35, J 36, J 37, J 38, J 39, J 40, J 41, J 42, J 43]) (fun m s H1 => m = F + 1 - s ∧ s ≤ F + 1 ∧ N + 1 < H1.next ∧ H1.get N = some (.row true 27 [Vv eL L, Vv eS S, Vv eE E, Vv eV V]) ∧ H1.get (N + 1) = some (.row true 4 ((comeK E (F + 1) s).map .bool))) (F + 1) 0 rfl ⟨rfl, Nat.zero_le _, by simp only [next_push, next_set, next_E0]; omega, by simp (maxSteps := 1000000) (disch := first | exact sd | fail) only [go_sem, Nat.reduceAdd, Nat.reduceSub, Nat.reduceLeDiff, ↓reduceIte, decide_eq_true_eq, if_true, if_false, Bool.false_eq_true, Int.lt_irrefl, implies_true, true_and, and_true, eq_self, and_self, beq_self_eq_true], by simp (maxSteps := 1000000) (disch := first | exact sd | fail) only [go_sem, Nat.reduceAdd, Nat.reduceSub, Nat.reduceLeDiff, ↓reduceIte, decide_eq_true_eq, if_true, if_false, Bool.false_eq_true, Int.lt_irrefl, implies_true, true_and, and_true, eq_self, and_self, beq_self_eq_true]⟩ ?_
  rintro m s J H1 ⟨rfl, hs, nx, g0, g1⟩
  by_cases h4 : (s : Int) < ((F + 1 : Nat) : Int)
  · simp (maxSteps := 30000000) (disch := first | exact sd | fail) only [go_sem, Nat.reduceAdd, Nat.reduceSub, Nat.reduceLeDiff, ↓reduceIte, decide_eq_true_eq, if_true, if_false, Bool.false_eq_true, Int.lt_irrefl, implies_true, true_and, and_true, eq_self, and_self, beq_self_eq_true, g0, hLn, h4]
    refine aw_loopJ (σ := Nat) (fun i J => [J 0, .pointer (some ⟨N, 0, none⟩), J 2, .slice (some ⟨N + 1, 0, none⟩) (F + 1) (F + 1), .int .i64 s, .int .i64 i, J 6, J 7, J 8, J 9, J 10, J 11, J 12, J 13, J 14, J 15, J 16, J 17, J 18, J 19, J 20, J 21, J 22, J 23, J 24, J 25, J 26, J 27, J 28, J 29, J 30, J 31, J 32, J 33, J 34, J 35, J 36, J 37, J 38, J 39, J 40, J 41, J 42, J 43]) (fun m i H2 => m = E.length - i ∧ i ≤ E.length ∧ N + 1 < H2.next ∧ H2.get N = some (.row true 27 [Vv eL L, Vv eS S, Vv eE E, Vv eV V]) ∧ H2.get (N + 1) = some (.row true 4 (((E.take i).foldl stepC (comeK E (F + 1) s)).map .bool))) E.length 0 rfl ⟨rfl, Nat.zero_le _, nx, g0, g1⟩ ?_
    clear nx g0 g1
    rintro m i J H2 ⟨rfl, hi, nx, g0, g1⟩
    have hcl : ((E.take i).foldl stepC (comeK E (F + 1) s)).length = F + 1 := by rw [foldC_len, comeK_len]
    by_cases h6 : (i : Int) < E.length
    · have h7 : (i : Int).toNat = i := rfl
      have he := hE i (by omega)
      have et : (E.take (i + 1)).foldl stepC (comeK E (F + 1) s) = stepC ((E.take i).foldl stepC (comeK E (F + 1) s)) (E.getD i eE.d) := by
        rw [show E.take (i + 1) = E.take i ++ [E.getD i eE.d] by rw [List.take_add_one, List.getD_eq_getElem?_getD, List.getElem?_eq_getElem (by omega)]; rfl, List.foldl_append]
        rfl
      generalize hc2 : (E.take (i + 1)).foldl stepC (comeK E (F + 1) s) = c2 at *
      generalize (E.take i).foldl stepC (comeK E (F + 1) s) = c at *
      generalize hee : E.getD i eE.d = a at *
      obtain ⟨f, hf⟩ : ∃ f : Nat, a.f = f := ⟨a.f.toNat, by omega⟩
      obtain ⟨u, hu⟩ : ∃ u : Nat, a.t = u := ⟨a.t.toNat, by omega⟩
      unfold stepC at et
      rw [hf, hu, Int.toNat_natCast, Int.toNat_natCast] at et
      have u1 : u + 1 ≤ F + 1 := by omega
      have ixf := ix_bool (b := N + 1) (n := F + 1) (i := f) (by omega)
      have ixu := ix_bool (b := N + 1) (n := F + 1) (i := u) (by omega)
      have gf := gt_bool (l := c) (i := f) (by omega)
      have spu := sp_bool (l := c) (i := u) (x := true) (by omega)
      cases h8 : c.getD f false with
      | true =>
        rw [h8] at gf
        rw [h8, if_pos rfl] at et
        simp (maxSteps := 30000000) (disch := first | exact sd | fail) only [go_sem, Nat.reduceAdd, Nat.reduceSub, Nat.reduceLeDiff, ↓reduceIte, decide_eq_true_eq, if_true, if_false, Bool.false_eq_true, Int.lt_irrefl, implies_true, true_and, and_true, eq_self, and_self, beq_self_eq_true, g0, g1, h6, h7, hee, hf, hu, ixf, gf, ixu, spu, List.length_map, hcl, u1]
        exact IJ_intro (k := E.length - (i + 1)) (by omega) (i + 1) rfl ⟨rfl, by omega, nx, by rw [get_set_ne (by omega)]; exact g0, by rw [get_set_self, hc2, et]⟩
      | false =>
        rw [h8] at gf
        rw [h8, if_neg (by decide)] at et
        simp (maxSteps := 30000000) (disch := first | exact sd | fail) only [go_sem, Nat.reduceAdd, Nat.reduceSub, Nat.reduceLeDiff, ↓reduceIte, decide_eq_true_eq, if_true, if_false, Bool.false_eq_true, Int.lt_irrefl, implies_true, true_and, and_true, eq_self, and_self, beq_self_eq_true, g0, g1, h6, h7, hee, hf, hu, ixf, gf]
        exact IJ_intro (k := E.length - (i + 1)) (by omega) (i + 1) rfl ⟨rfl, by omega, nx, g0, by rw [hc2, et]; exact g1⟩
    · have e : i = E.length := by omega
      subst e
      rw [List.take_length] at g1
      simp (maxSteps := 30000000) (disch := first | exact sd | fail) only [go_sem, Nat.reduceAdd, Nat.reduceSub, Nat.reduceLeDiff, ↓reduceIte, decide_eq_true_eq, if_true, if_false, Bool.false_eq_true, Int.lt_irrefl, implies_true, true_and, and_true, eq_self, and_self, beq_self_eq_true, g0, h6]
      exact IJ_intro (k := F + 1 - (s + 1)) (by omega) (s + 1) rfl ⟨rfl, by omega, nx, g0, g1⟩
  · have e : s = F + 1 := by omega
    subst e
    simp (maxSteps := 30000000) (disch := first | exact sd | fail) only [go_sem, Nat.reduceAdd, Nat.reduceSub, Nat.reduceLeDiff, ↓reduceIte, decide_eq_true_eq, if_true, if_false, Bool.false_eq_true, Int.lt_irrefl, implies_true, true_and, and_true, eq_self, and_self, beq_self_eq_true, g0, hLn, h4]
    exact fz_boolsU g1 nx comeK_len.symm (by omega)
end Go.Abs

/- Circles: as the law reckons them. -/
set_option linter.unusedVariables false
set_option linter.unusedSimpArgs false
namespace Go.Abs
open Go Go.Proofs
set_option maxRecDepth 100000
set_option maxHeartbeats 40000000
def stepR (bt : List Bool) (fr : Nat) (c : List Bool) (e : RE) : List Bool := if bt.getD e.t.toNat false = true ∨ (e.f.toNat ≠ fr ∧ c.getD e.f.toNat false = false) then c else c.set e.t.toNat true
def roundK (E : List RE) (bt : List Bool) (fr n : Nat) : Nat → List Bool
  | 0 => List.replicate n false
  | k + 1 => E.foldl (stepR bt fr) (roundK E bt fr n k)
theorem stepR_len {bt : List Bool} {fr : Nat} {c : List Bool} {e : RE} : (stepR bt fr c e).length = c.length := by unfold stepR; split <;> simp
theorem foldR_len {bt : List Bool} {fr : Nat} : ∀ {E : List RE} {c : List Bool}, (E.foldl (stepR bt fr) c).length = c.length
  | [], c => rfl
  | e :: E, c => by rw [List.foldl_cons, foldR_len, stepR_len]
theorem roundK_len {E : List RE} {bt : List Bool} {fr n : Nat} : ∀ {k : Nat}, (roundK E bt fr n k).length = n
  | 0 => by simp [roundK]
  | k + 1 => by rw [roundK, foldR_len, roundK_len]
theorem p298 {l : RW} {bt : List Bool} {fr : Nat} (hn1 : 1 ≤ l.locs.length) (hn : l.locs.length ≤ 40) (hl : l.edges.length ≤ 200) (hfr : fr < l.locs.length) (hbt : bt.length = 0 ∨ bt.length = l.locs.length) (hE : ∀ j, j < l.edges.length → (0 ≤ (l.edges.getD j eE.d).f ∧ (l.edges.getD j eE.d).f < l.locs.length) ∧ (0 ≤ (l.edges.getD j eE.d).t ∧ (l.edges.getD j eE.d).t < l.locs.length)) :
    PC Tryz.prog 18 [Wv l, .int .i64 fr, Vv eB bt] (.bool ((roundK l.edges bt fr l.locs.length (l.locs.length + 1)).getD fr false)) := by
  refine PC.of (.cons pu_W (.cons (.ground rfl) (.cons pu_Bs .nil))) (.ground rfl) fun N hN => ?_
  obtain ⟨L, S, E, V⟩ := l
  dsimp only at hn1 hn hl hfr hbt hE ⊢
  unfold Wv
  generalize hLn : L.length = n at *
  refine ACalls.of_code T.hm (n := 63) Tryz.func18 rfl rfl rfl rfl ?_; simp only [List.replicate_succ, List.replicate_zero, List.cons_append, List.nil_append]
  try dsimp only
  simp (maxSteps := 30000000) (disch := first | exact sd | fail) only [go_sem, Nat.reduceAdd, Nat.reduceSub, Nat.reduceLeDiff, ↓reduceIte, decide_eq_true_eq, if_true, if_false, Bool.false_eq_true, Int.lt_irrefl, implies_true, true_and, and_true, eq_self, and_self, beq_self_eq_true, aMk_int, Int.toNat_natCast, hLn]
  refine aw_loopJ (σ := Nat) (fun s J => [J 0, .int .i64 fr, Vv eB bt, .pointer (some ⟨N, 0, none⟩), J 4, J 5, .bool false, .slice (some ⟨N + 1, 0, none⟩) n n, .int .i64 s, J 9, J 10, J 11, J 12, J 13, J 14, J 15, J 16, J 17, J 18, J 19, J 20, J 21, J 22, J 23, J 24, J 25, J 26, J 27, J 28, J 29, J 30, J 31, J 32, J 33, J 34, J 35, J 36, J 37, J 38, J 39, J 40, J 41, J 42, J 43, J 44, J 45, J 46, J 47, J 48, J 49, J 50, J 51, J 52, J 53, J 54, J 55, J 56, J 57, J 58, J 59, J 60, J 61, J 62, J 63, J 64, J 65]) (fun m s H1 => m = n + 1 - s ∧ s ≤ n + 1 ∧ N + 1 < H1.next ∧ H1.get N = some (.row true 27 [Vv eL L, Vv eS S, Vv eE E, Vv eV V]) ∧ H1.get (N + 1) = some (.row true 4 ((roundK E bt fr n s).map .bool))) (n + 1) 0 rfl ⟨rfl, Nat.zero_le _, by simp only [next_push, next_set, next_E0]; omega, by simp (maxSteps := 1000000) (disch := first | exact sd | fail) only [go_sem, Nat.reduceAdd, Nat.reduceSub, Nat.reduceLeDiff, ↓reduceIte, decide_eq_true_eq, if_true, if_false, Bool.false_eq_true, Int.lt_irrefl, implies_true, true_and, and_true, eq_self, and_self, beq_self_eq_true], by unfold roundK; rw [List.map_replicate]; simp (maxSteps := 1000000) (disch := first | exact sd | fail) only [go_sem, Nat.reduceAdd, Nat.reduceSub, Nat.reduceLeDiff, ↓reduceIte, decide_eq_true_eq, if_true, if_false, Bool.false_eq_true, Int.lt_irrefl, implies_true, true_and, and_true, eq_self, and_self, beq_self_eq_true]⟩ ?_
  rintro m s J H1 ⟨rfl, hs, nx, g0, g1⟩
  by_cases h4 : (s : Int) ≤ (n : Int)
  · simp (maxSteps := 30000000) (disch := first | exact sd | fail) only [go_sem, Nat.reduceAdd, Nat.reduceSub, Nat.reduceLeDiff, ↓reduceIte, decide_eq_true_eq, if_true, if_false, Bool.false_eq_true, Int.lt_irrefl, implies_true, true_and, and_true, eq_self, and_self, beq_self_eq_true, g0, hLn, h4]
    refine aw_loopJ (σ := Nat) (fun i J => [J 0, .int .i64 fr, Vv eB bt, .pointer (some ⟨N, 0, none⟩), J 4, J 5, .bool false, .slice (some ⟨N + 1, 0, none⟩) n n, .int .i64 s, .int .i64 i, J 10, J 11, J 12, J 13, J 14, J 15, J 16, J 17, J 18, J 19, J 20, J 21, J 22, J 23, J 24, J 25, J 26, J 27, J 28, J 29, J 30, J 31, J 32, J 33, J 34, J 35, J 36, J 37, J 38, J 39, J 40, J 41, J 42, J 43, J 44, J 45, J 46, J 47, J 48, J 49, J 50, J 51, J 52, J 53, J 54, J 55, J 56, J 57, J 58, J 59, J 60, J 61, J 62, J 63, J 64, J 65]) (fun m i H2 => m = E.length - i ∧ i ≤ E.length ∧ N + 1 < H2.next ∧ H2.get N = some (.row true 27 [Vv eL L, Vv eS S, Vv eE E, Vv eV V]) ∧ H2.get (N + 1) = some (.row true 4 (((E.take i).foldl (stepR bt fr) (roundK E bt fr n s)).map .bool))) E.length 0 rfl ⟨rfl, Nat.zero_le _, nx, g0, g1⟩ ?_
    clear nx g0 g1
    rintro m i J H2 ⟨rfl, hi, nx, g0, g1⟩
    have hcl : ((E.take i).foldl (stepR bt fr) (roundK E bt fr n s)).length = n := by rw [foldR_len, roundK_len]
    by_cases h6 : (i : Int) < E.length
    · have h7 : (i : Int).toNat = i := rfl
      have he := hE i (by omega)
      have et : (E.take (i + 1)).foldl (stepR bt fr) (roundK E bt fr n s) = stepR bt fr ((E.take i).foldl (stepR bt fr) (roundK E bt fr n s)) (E.getD i eE.d) := by
        rw [show E.take (i + 1) = E.take i ++ [E.getD i eE.d] by rw [List.take_add_one, List.getD_eq_getElem?_getD, List.getElem?_eq_getElem (by omega)]; rfl, List.foldl_append]
        rfl
      generalize hc2 : (E.take (i + 1)).foldl (stepR bt fr) (roundK E bt fr n s) = c2 at *
      generalize (E.take i).foldl (stepR bt fr) (roundK E bt fr n s) = c at *
      generalize hee : E.getD i eE.d = a at *
      obtain ⟨f, hf⟩ : ∃ f : Nat, a.f = f := ⟨a.f.toNat, by omega⟩
      obtain ⟨u, hu⟩ : ∃ u : Nat, a.t = u := ⟨a.t.toNat, by omega⟩
      unfold stepR at et
      rw [hf, hu, Int.toNat_natCast, Int.toNat_natCast] at et
      have u1 : u + 1 ≤ n := by omega
      have hu7 : (u : Int).toNat = u := rfl
      have ixf := ix_bool (b := N + 1) (n := n) (i := f) (by omega)
      have ixu := ix_bool (b := N + 1) (n := n) (i := u) (by omega)
      have gf := gt_bool (l := c) (i := f) (by omega)
      have spu := sp_bool (l := c) (i := u) (x := true) (by omega)
      have bt0 : ¬ (0 : Int) < bt.length → bt.getD u false = false := fun h => by
        have : bt = [] := List.length_eq_zero_iff.1 (by omega)
        rw [this]; rfl
      have nx2 : N + 1 < (H2.push (.row true 46 [])).next := by simp only [next_push]; omega
      by_cases hb : (0 : Int) < bt.length
      · have ub : (u : Int) < bt.length := by omega
        cases hbu : bt.getD u false with
        | true =>
          rw [hbu, if_pos (.inl rfl)] at et
          simp (maxSteps := 30000000) (disch := first | exact sd | fail) only [go_sem, Nat.reduceAdd, Nat.reduceSub, Nat.reduceLeDiff, ↓reduceIte, decide_eq_true_eq, if_true, if_false, Bool.false_eq_true, Int.lt_irrefl, implies_true, true_and, and_true, eq_self, and_self, beq_self_eq_true, g0, g1, h6, h7, hee, hf, hu, hb, ub, hu7, hbu]
          exact IJ_intro (k := E.length - (i + 1)) (by omega) (i + 1) rfl ⟨rfl, by omega, by simp only [next_push, next_set]; omega, by simp (maxSteps := 1000000) (disch := first | exact sd | fail) only [go_sem, Nat.reduceAdd, Nat.reduceSub, Nat.reduceLeDiff, ↓reduceIte, decide_eq_true_eq, if_true, if_false, Bool.false_eq_true, Int.lt_irrefl, implies_true, true_and, and_true, eq_self, and_self, beq_self_eq_true, g0], by rw [hc2, et]; simp (maxSteps := 1000000) (disch := first | exact sd | fail) only [go_sem, Nat.reduceAdd, Nat.reduceSub, Nat.reduceLeDiff, ↓reduceIte, decide_eq_true_eq, if_true, if_false, Bool.false_eq_true, Int.lt_irrefl, implies_true, true_and, and_true, eq_self, and_self, beq_self_eq_true, g1]⟩
        | false =>
          by_cases hff : (f : Int) = (fr : Int)
          · have e3 : f = fr := by omega
            rw [hbu, if_neg (by rintro (h | h); cases h; exact h.1 e3)] at et
            simp (maxSteps := 30000000) (disch := first | exact sd | fail) only [go_sem, Nat.reduceAdd, Nat.reduceSub, Nat.reduceLeDiff, ↓reduceIte, decide_eq_true_eq, if_true, if_false, Bool.false_eq_true, Int.lt_irrefl, implies_true, true_and, and_true, eq_self, and_self, beq_self_eq_true, g0, g1, h6, h7, hee, hf, hu, hb, ub, hu7, hbu, hff, ixu, spu, List.length_map, hcl, u1, ne_eq, not_true_eq_false]
            exact IJ_intro (k := E.length - (i + 1)) (by omega) (i + 1) rfl ⟨rfl, by omega, by simp only [next_push, next_set]; omega, by simp (maxSteps := 1000000) (disch := first | exact sd | fail) only [go_sem, Nat.reduceAdd, Nat.reduceSub, Nat.reduceLeDiff, ↓reduceIte, decide_eq_true_eq, if_true, if_false, Bool.false_eq_true, Int.lt_irrefl, implies_true, true_and, and_true, eq_self, and_self, beq_self_eq_true, g0], by rw [hc2, et]; simp (maxSteps := 1000000) (disch := first | exact sd | fail) only [go_sem, Nat.reduceAdd, Nat.reduceSub, Nat.reduceLeDiff, ↓reduceIte, decide_eq_true_eq, if_true, if_false, Bool.false_eq_true, Int.lt_irrefl, implies_true, true_and, and_true, eq_self, and_self, beq_self_eq_true]⟩
          · have e3 : f ≠ fr := by omega
            cases h8 : c.getD f false with
            | true =>
              rw [h8] at gf
              rw [hbu, h8, if_neg (by rintro (h | h); cases h; cases h.2)] at et
              simp (maxSteps := 30000000) (disch := first | exact sd | fail) only [go_sem, Nat.reduceAdd, Nat.reduceSub, Nat.reduceLeDiff, ↓reduceIte, decide_eq_true_eq, if_true, if_false, Bool.false_eq_true, Int.lt_irrefl, implies_true, true_and, and_true, eq_self, and_self, beq_self_eq_true, g0, g1, h6, h7, hee, hf, hu, hb, ub, hu7, hbu, hff, ixf, gf, ixu, spu, List.length_map, hcl, u1, ne_eq, not_false_eq_true, Bool.not_true]
              exact IJ_intro (k := E.length - (i + 1)) (by omega) (i + 1) rfl ⟨rfl, by omega, by simp only [next_push, next_set]; omega, by simp (maxSteps := 1000000) (disch := first | exact sd | fail) only [go_sem, Nat.reduceAdd, Nat.reduceSub, Nat.reduceLeDiff, ↓reduceIte, decide_eq_true_eq, if_true, if_false, Bool.false_eq_true, Int.lt_irrefl, implies_true, true_and, and_true, eq_self, and_self, beq_self_eq_true, g0], by rw [hc2, et]; simp (maxSteps := 1000000) (disch := first | exact sd | fail) only [go_sem, Nat.reduceAdd, Nat.reduceSub, Nat.reduceLeDiff, ↓reduceIte, decide_eq_true_eq, if_true, if_false, Bool.false_eq_true, Int.lt_irrefl, implies_true, true_and, and_true, eq_self, and_self, beq_self_eq_true]⟩
            | false =>
              rw [h8] at gf
              rw [hbu, h8, if_pos (.inr ⟨e3, rfl⟩)] at et
              simp (maxSteps := 30000000) (disch := first | exact sd | fail) only [go_sem, Nat.reduceAdd, Nat.reduceSub, Nat.reduceLeDiff, ↓reduceIte, decide_eq_true_eq, if_true, if_false, Bool.false_eq_true, Int.lt_irrefl, implies_true, true_and, and_true, eq_self, and_self, beq_self_eq_true, g0, g1, h6, h7, hee, hf, hu, hb, ub, hu7, hbu, hff, ixf, gf, ne_eq, not_false_eq_true, Bool.not_false]
              exact IJ_intro (k := E.length - (i + 1)) (by omega) (i + 1) rfl ⟨rfl, by omega, by simp only [next_push, next_set]; omega, by simp (maxSteps := 1000000) (disch := first | exact sd | fail) only [go_sem, Nat.reduceAdd, Nat.reduceSub, Nat.reduceLeDiff, ↓reduceIte, decide_eq_true_eq, if_true, if_false, Bool.false_eq_true, Int.lt_irrefl, implies_true, true_and, and_true, eq_self, and_self, beq_self_eq_true, g0], by rw [hc2, et]; simp (maxSteps := 1000000) (disch := first | exact sd | fail) only [go_sem, Nat.reduceAdd, Nat.reduceSub, Nat.reduceLeDiff, ↓reduceIte, decide_eq_true_eq, if_true, if_false, Bool.false_eq_true, Int.lt_irrefl, implies_true, true_and, and_true, eq_self, and_self, beq_self_eq_true, g1]⟩
      · have hbu := bt0 hb
        by_cases hff : (f : Int) = (fr : Int)
        · have e3 : f = fr := by omega
          rw [hbu, if_neg (by rintro (h | h); cases h; exact h.1 e3)] at et
          simp (maxSteps := 30000000) (disch := first | exact sd | fail) only [go_sem, Nat.reduceAdd, Nat.reduceSub, Nat.reduceLeDiff, ↓reduceIte, decide_eq_true_eq, if_true, if_false, Bool.false_eq_true, Int.lt_irrefl, implies_true, true_and, and_true, eq_self, and_self, beq_self_eq_true, g0, g1, h6, h7, hee, hf, hu, hb, hff, ixu, spu, List.length_map, hcl, u1, ne_eq, not_true_eq_false]
          exact IJ_intro (k := E.length - (i + 1)) (by omega) (i + 1) rfl ⟨rfl, by omega, by simp only [next_push, next_set]; omega, by simp (maxSteps := 1000000) (disch := first | exact sd | fail) only [go_sem, Nat.reduceAdd, Nat.reduceSub, Nat.reduceLeDiff, ↓reduceIte, decide_eq_true_eq, if_true, if_false, Bool.false_eq_true, Int.lt_irrefl, implies_true, true_and, and_true, eq_self, and_self, beq_self_eq_true, g0], by rw [hc2, et]; simp (maxSteps := 1000000) (disch := first | exact sd | fail) only [go_sem, Nat.reduceAdd, Nat.reduceSub, Nat.reduceLeDiff, ↓reduceIte, decide_eq_true_eq, if_true, if_false, Bool.false_eq_true, Int.lt_irrefl, implies_true, true_and, and_true, eq_self, and_self, beq_self_eq_true]⟩
        · have e3 : f ≠ fr := by omega
          cases h8 : c.getD f false with
          | true =>
            rw [h8] at gf
            rw [hbu, h8, if_neg (by rintro (h | h); cases h; cases h.2)] at et
            simp (maxSteps := 30000000) (disch := first | exact sd | fail) only [go_sem, Nat.reduceAdd, Nat.reduceSub, Nat.reduceLeDiff, ↓reduceIte, decide_eq_true_eq, if_true, if_false, Bool.false_eq_true, Int.lt_irrefl, implies_true, true_and, and_true, eq_self, and_self, beq_self_eq_true, g0, g1, h6, h7, hee, hf, hu, hb, hff, ixf, gf, ixu, spu, List.length_map, hcl, u1, ne_eq, not_false_eq_true, Bool.not_true]
            exact IJ_intro (k := E.length - (i + 1)) (by omega) (i + 1) rfl ⟨rfl, by omega, by simp only [next_push, next_set]; omega, by simp (maxSteps := 1000000) (disch := first | exact sd | fail) only [go_sem, Nat.reduceAdd, Nat.reduceSub, Nat.reduceLeDiff, ↓reduceIte, decide_eq_true_eq, if_true, if_false, Bool.false_eq_true, Int.lt_irrefl, implies_true, true_and, and_true, eq_self, and_self, beq_self_eq_true, g0], by rw [hc2, et]; simp (maxSteps := 1000000) (disch := first | exact sd | fail) only [go_sem, Nat.reduceAdd, Nat.reduceSub, Nat.reduceLeDiff, ↓reduceIte, decide_eq_true_eq, if_true, if_false, Bool.false_eq_true, Int.lt_irrefl, implies_true, true_and, and_true, eq_self, and_self, beq_self_eq_true]⟩
          | false =>
            rw [h8] at gf
            rw [hbu, h8, if_pos (.inr ⟨e3, rfl⟩)] at et
            simp (maxSteps := 30000000) (disch := first | exact sd | fail) only [go_sem, Nat.reduceAdd, Nat.reduceSub, Nat.reduceLeDiff, ↓reduceIte, decide_eq_true_eq, if_true, if_false, Bool.false_eq_true, Int.lt_irrefl, implies_true, true_and, and_true, eq_self, and_self, beq_self_eq_true, g0, g1, h6, h7, hee, hf, hu, hb, hff, ixf, gf, ne_eq, not_false_eq_true, Bool.not_false]
            exact IJ_intro (k := E.length - (i + 1)) (by omega) (i + 1) rfl ⟨rfl, by omega, by simp only [next_push, next_set]; omega, by simp (maxSteps := 1000000) (disch := first | exact sd | fail) only [go_sem, Nat.reduceAdd, Nat.reduceSub, Nat.reduceLeDiff, ↓reduceIte, decide_eq_true_eq, if_true, if_false, Bool.false_eq_true, Int.lt_irrefl, implies_true, true_and, and_true, eq_self, and_self, beq_self_eq_true, g0], by rw [hc2, et]; simp (maxSteps := 1000000) (disch := first | exact sd | fail) only [go_sem, Nat.reduceAdd, Nat.reduceSub, Nat.reduceLeDiff, ↓reduceIte, decide_eq_true_eq, if_true, if_false, Bool.false_eq_true, Int.lt_irrefl, implies_true, true_and, and_true, eq_self, and_self, beq_self_eq_true, g1]⟩
    · have e : i = E.length := by omega
      subst e
      rw [List.take_length] at g1
      simp (maxSteps := 30000000) (disch := first | exact sd | fail) only [go_sem, Nat.reduceAdd, Nat.reduceSub, Nat.reduceLeDiff, ↓reduceIte, decide_eq_true_eq, if_true, if_false, Bool.false_eq_true, Int.lt_irrefl, implies_true, true_and, and_true, eq_self, and_self, beq_self_eq_true, g0, h6]
      exact IJ_intro (k := n + 1 - (s + 1)) (by omega) (s + 1) rfl ⟨rfl, by omega, nx, g0, g1⟩
  · have e : s = n + 1 := by omega
    subst e
    have ixr := ix_bool (b := N + 1) (n := n) (i := fr) hfr
    have gr := gt_bool (l := roundK E bt fr n (n + 1)) (i := fr) (by rw [roundK_len]; exact hfr)
    simp (maxSteps := 30000000) (disch := first | exact sd | fail) only [go_sem, Nat.reduceAdd, Nat.reduceSub, Nat.reduceLeDiff, ↓reduceIte, decide_eq_true_eq, if_true, if_false, Bool.false_eq_true, Int.lt_irrefl, implies_true, true_and, and_true, eq_self, and_self, beq_self_eq_true, g0, g1, hLn, h4, ixr, gr]
    exact .rfl
end Go.Abs

/- What is come to, circles, and the order, plainly. -/
set_option linter.unusedVariables false
set_option linter.unusedSimpArgs false
namespace Go.Abs
open Go Go.Proofs
set_option maxRecDepth 100000
set_option maxHeartbeats 4000000
def Up : List Bool → List Bool → Prop
  | [], [] => True
  | a :: l, b :: m => (a = true → b = true) ∧ Up l m
  | _, _ => False
def cntB : List Bool → Nat
  | [] => 0
  | a :: l => (if a = true then 1 else 0) + cntB l
theorem cntB_le : ∀ l, cntB l ≤ l.length
  | [] => Nat.le_refl _
  | a :: l => by
    have := cntB_le l
    rw [cntB, List.length_cons]
    split <;> omega
theorem Up.refl : ∀ l, Up l l
  | [] => trivial
  | a :: l => ⟨fun h => h, Up.refl l⟩
theorem Up.trans : ∀ {a b c : List Bool}, Up a b → Up b c → Up a c
  | [], [], [], _, _ => trivial
  | [], [], _ :: _, _, h => h.elim
  | [], _ :: _, _, h, _ => h.elim
  | _ :: _, [], _, h, _ => h.elim
  | _ :: _, _ :: _, [], _, h => h.elim
  | a :: l, b :: m, c :: k, h, g => ⟨fun x => g.1 (h.1 x), Up.trans h.2 g.2⟩
theorem Up.cnt : ∀ {a b : List Bool}, Up a b → cntB a ≤ cntB b
  | [], [], _ => Nat.le_refl _
  | [], _ :: _, h => h.elim
  | _ :: _, [], h => h.elim
  | a :: l, b :: m, h => by
    have := Up.cnt h.2
    have h1 := h.1
    rw [cntB, cntB]
    by_cases ha : a = true
    · rw [if_pos ha, if_pos (h1 ha)]; omega
    · rw [if_neg ha]; omega
theorem Up.eq : ∀ {a b : List Bool}, Up a b → cntB b ≤ cntB a → a = b
  | [], [], _, _ => rfl
  | [], _ :: _, h, _ => h.elim
  | _ :: _, [], h, _ => h.elim
  | a :: l, b :: m, h, g => by
    have h2 := Up.cnt h.2
    have h1 := h.1
    rw [cntB, cntB] at g
    cases a with
    | true =>
      have hb := h1 rfl
      subst hb
      rw [Up.eq h.2 (by omega)]
    | false =>
      cases b with
      | true => simp at g; omega
      | false => rw [Up.eq h.2 (by omega)]
theorem Up.anti {a b : List Bool} (h : Up a b) (g : Up b a) : a = b := h.eq g.cnt
theorem Up.set : ∀ (l : List Bool) (i : Nat), Up l (l.set i true)
  | [], _ => trivial
  | a :: l, 0 => ⟨fun _ => rfl, Up.refl l⟩
  | a :: l, i + 1 => ⟨fun h => h, Up.set l i⟩
theorem Up.get : ∀ {a b : List Bool} {v : Nat}, Up a b → a.getD v false = true → b.getD v false = true
  | [], [], _, _, h => h
  | [], _ :: _, _, h, _ => h.elim
  | _ :: _, [], _, h, _ => h.elim
  | a :: l, b :: m, 0, h, g => h.1 g
  | a :: l, b :: m, v + 1, h, g => by
    rw [List.getD_cons_succ] at g ⊢
    exact Up.get h.2 g
theorem up_stab {F : List Bool → List Bool} (hF : ∀ c, Up c (F c)) {g : Nat → List Bool} (hg : ∀ k, g (k + 1) = F (g k)) : ∀ k, g (k + 1) = g k ∨ k + 1 ≤ cntB (g (k + 1))
  | 0 => by
    have h := hF (g 0)
    rw [← hg] at h
    rcases Nat.lt_or_ge (cntB (g 0)) (cntB (g 1)) with k | k
    · exact .inr (by show 1 ≤ cntB (g 1); omega)
    · exact .inl (h.eq k).symm
  | k + 1 => by
    rcases up_stab hF hg k with e | e
    · exact .inl (by rw [hg (k + 1), hg k]; rw [hg k] at e; rw [e]; exact e)
    · have h := hF (g (k + 1))
      rw [← hg] at h
      rcases Nat.lt_or_ge (cntB (g (k + 1))) (cntB (g (k + 1 + 1))) with c | c
      · exact .inr (by omega)
      · exact .inl (h.eq c).symm
theorem up_fold {st : List Bool → RE → List Bool} (hs : ∀ c e, Up c (st c e)) : ∀ (E : List RE) (c : List Bool), Up c (E.foldl st c)
  | [], c => Up.refl c
  | e :: E, c => (hs c e).trans (up_fold hs E _)
theorem fold_stab {st : List Bool → RE → List Bool} (hs : ∀ c e, Up c (st c e)) : ∀ (E : List RE) (c : List Bool), E.foldl st c = c → ∀ e ∈ E, st c e = c
  | [], c, _, e, he => nomatch he
  | a :: E, c, h, e, he => by
    rw [List.foldl_cons] at h
    have h1 := up_fold hs E (st c a)
    rw [h] at h1
    have e1 := ((hs c a).anti h1).symm
    rcases List.mem_cons.1 he with rfl | he
    · exact e1
    · rw [e1] at h
      exact fold_stab hs E c h e he
theorem stepC_up (c : List Bool) (e : RE) : Up c (stepC c e) := by
  unfold stepC
  split
  · exact Up.set _ _
  · exact Up.refl _
theorem stepR_up {bt : List Bool} {fr : Nat} (c : List Bool) (e : RE) : Up c (stepR bt fr c e) := by
  unfold stepR
  split
  · exact Up.refl _
  · exact Up.set _ _
def InE (E : List RE) (n : Nat) : Prop := ∀ e ∈ E, (0 ≤ e.f ∧ e.f < n) ∧ (0 ≤ e.t ∧ e.t < n)
theorem come_closed {E : List RE} {n : Nat} (hE : InE E n) {e : RE} (he : e ∈ E) (h : (comeK E n n).getD e.f.toNat false = true) : (comeK E n n).getD e.t.toNat false = true := by
  have hF : ∀ c, Up c (E.foldl stepC c) := fun c => up_fold stepC_up E c
  have hst : E.foldl stepC (comeK E n n) = comeK E n n := by
    rcases up_stab hF (g := comeK E n) (fun k => rfl) n with k | k
    · exact k
    · have := cntB_le (comeK E n (n + 1))
      rw [comeK_len] at this
      omega
  have h1 := fold_stab stepC_up E _ hst e he
  unfold stepC at h1
  rw [if_pos h] at h1
  have h2 := hE e he
  rw [← h1]
  exact getD_setS (by rw [comeK_len]; omega)
theorem comeK_up {E : List RE} {n : Nat} : ∀ k, Up (comeK E n 0) (comeK E n k)
  | 0 => Up.refl _
  | k + 1 => (comeK_up k).trans (up_fold stepC_up E _)
theorem come_zero {E : List RE} {n : Nat} (hn : 0 < n) : (comeK E n n).getD 0 false = true :=
  (comeK_up n).get (by unfold comeK; exact getD_setS (by rw [List.length_replicate]; exact hn))
theorem foldC_sub {S : Nat → Prop} : ∀ (E : List RE) (c : List Bool), (∀ e ∈ E, S e.f.toNat → S e.t.toNat) → (∀ v, c.getD v false = true → S v) → ∀ v, (E.foldl stepC c).getD v false = true → S v
  | [], c, _, h, v, hv => h v hv
  | e :: E, c, hS, h, v, hv => by
    rw [List.foldl_cons] at hv
    refine foldC_sub E _ (fun a ha => hS a (List.Mem.tail _ ha)) (fun w hw => ?_) v hv
    unfold stepC at hw
    split at hw
    · rename_i k
      by_cases ew : e.t.toNat = w
      · rw [← ew]; exact hS e (List.Mem.head _) (h _ k)
      · rw [getD_setN ew] at hw; exact h w hw
    · exact h w hw
theorem rep_false {n v : Nat} : (List.replicate n false).getD v false = false := by
  simp only [List.getD_eq_getElem?_getD, List.getElem?_replicate]
  split <;> rfl
theorem come_sub {E : List RE} {n : Nat} {S : Nat → Prop} (h0 : S 0) (hS : ∀ e ∈ E, S e.f.toNat → S e.t.toNat) : ∀ k v, (comeK E n k).getD v false = true → S v
  | 0, v, h => by
    unfold comeK at h
    by_cases e : 0 = v
    · rw [← e]; exact h0
    · rw [getD_setN e, rep_false] at h; cases h
  | k + 1, v, h => foldC_sub E _ hS (come_sub h0 hS k) v h
theorem round_closed {E : List RE} {bt : List Bool} {fr n : Nat} (hE : InE E n) {e : RE} (he : e ∈ E) (hb : bt.getD e.t.toNat false = false) (h : e.f.toNat = fr ∨ (roundK E bt fr n (n + 1)).getD e.f.toNat false = true) : (roundK E bt fr n (n + 1)).getD e.t.toNat false = true := by
  have hF : ∀ c, Up c (E.foldl (stepR bt fr) c) := fun c => up_fold stepR_up E c
  have hst : E.foldl (stepR bt fr) (roundK E bt fr n (n + 1)) = roundK E bt fr n (n + 1) := by
    rcases up_stab hF (g := roundK E bt fr n) (fun k => rfl) n with k | k
    · rw [k]; exact k
    · have := cntB_le (roundK E bt fr n (n + 1))
      rw [roundK_len] at this
      omega
  have h1 := fold_stab stepR_up E _ hst e he
  unfold stepR at h1
  rw [if_neg (by
    rintro (k | ⟨k1, k2⟩)
    · rw [hb] at k; cases k
    · rcases h with h | h
      · exact k1 h
      · rw [k2] at h; cases h)] at h1
  have h2 := hE e he
  rw [← h1]
  exact getD_setS (by rw [roundK_len]; omega)
theorem foldR_sub {S : Nat → Prop} {bt : List Bool} {fr : Nat} : ∀ (E : List RE) (c : List Bool), (∀ e ∈ E, bt.getD e.t.toNat false = false → (e.f.toNat = fr ∨ S e.f.toNat) → S e.t.toNat) → (∀ v, c.getD v false = true → S v) → ∀ v, (E.foldl (stepR bt fr) c).getD v false = true → S v
  | [], c, _, h, v, hv => h v hv
  | e :: E, c, hS, h, v, hv => by
    rw [List.foldl_cons] at hv
    refine foldR_sub E _ (fun a ha => hS a (List.Mem.tail _ ha)) (fun w hw => ?_) v hv
    unfold stepR at hw
    split at hw
    · exact h w hw
    · rename_i k
      by_cases ew : e.t.toNat = w
      · rw [← ew]
        refine hS e (List.Mem.head _) ?_ ?_
        · cases q : bt.getD e.t.toNat false with
          | true => exact absurd (.inl q) k
          | false => rfl
        · by_cases ef : e.f.toNat = fr
          · exact .inl ef
          · refine .inr (h _ ?_)
            cases q : c.getD e.f.toNat false with
            | true => rfl
            | false => exact absurd (.inr ⟨ef, q⟩) k
      · rw [getD_setN ew] at hw; exact h w hw
theorem round_sub {E : List RE} {bt : List Bool} {fr n : Nat} {S : Nat → Prop} (hS : ∀ e ∈ E, bt.getD e.t.toNat false = false → (e.f.toNat = fr ∨ S e.f.toNat) → S e.t.toNat) : ∀ k v, (roundK E bt fr n k).getD v false = true → S v
  | 0, v, h => by
    unfold roundK at h
    rw [rep_false] at h; cases h
  | k + 1, v, h => foldR_sub E _ hS (round_sub hS k) v h
/-! ### going down -/
theorem visit_sub {out : Nat → List Nat} {S : Nat → Prop} (hS : ∀ v, S v → ∀ u ∈ out v, S u) : ∀ {f t : Nat} {s : OS}, S t → (∀ v, s.how.getD v 0 ≠ 0 → S v) → ∀ v, (visit out f t s).how.getD v 0 ≠ 0 → S v
  | 0, t, s, _, h, v, hv => h v hv
  | f + 1, t, s, ht, h, v, hv => by
    rw [visit_succ] at hv
    have key : ∀ (l : List Nat) (s1 : OS), (∀ u ∈ l, S u) → (∀ v, s1.how.getD v 0 ≠ 0 → S v) → ∀ v, (l.foldl (stepO out f) s1).how.getD v 0 ≠ 0 → S v := by
      intro l
      induction l with
      | nil => exact fun s1 _ h1 => h1
      | cons u l ih =>
        intro s1 hl h1 v hv
        rw [List.foldl_cons] at hv
        refine ih _ (fun v hv => hl v (List.Mem.tail _ hv)) (fun w hw => ?_) v hv
        unfold stepO at hw
        split at hw
        · exact visit_sub hS (hl u (List.Mem.head _)) h1 w hw
        · split at hw
          · exact h1 w hw
          · exact h1 w hw
    have hv : (((out t).foldl (stepO out f) (s.beg t)).how.set t 2).getD v 0 ≠ 0 := hv
    by_cases e : t = v
    · rw [← e]; exact ht
    · rw [getD_setN e] at hv
      refine key (out t) (s.beg t) (hS t ht) (fun w hw => ?_) v hv
      have hw : (s.how.set t 1).getD w 0 ≠ 0 := hw
      by_cases e : t = w
      · rw [← e]; exact ht
      · rw [getD_setN e] at hw; exact h w hw
theorem visit_circ {out : Nat → List Nat} {n : Nat} {R : Nat → Nat → Prop} (ho : ∀ v, ∀ u ∈ out v, u < n) (h1 : ∀ v, ∀ u ∈ out v, R v u) (h2 : ∀ v u, R v u → ∀ w ∈ out u, R v w) : ∀ {f t d : Nat} {s : OS}, OI n d s → t < n → s.how.getD t 0 = 0 → (∀ v, s.how.getD v 0 = 1 → R v t) → (∀ v, s.head.getD v false = true → R v v) → ∀ v, (visit out f t s).head.getD v false = true → R v v
  | 0, t, d, s, _, _, _, _, h, v, hv => h v hv
  | f + 1, t, d, s, h, ht, h0, hop, hh, v, hv => by
    rw [visit_succ] at hv
    have key : ∀ (l : List Nat) (s1 : OS), (∀ u ∈ l, u ∈ out t) → OI n (d + 1) s1 → (∀ v, s1.how.getD v 0 = 1 → v = t ∨ R v t) → (∀ v, s1.head.getD v false = true → R v v) → ∀ v, (l.foldl (stepO out f) s1).head.getD v false = true → R v v := by
      intro l
      induction l with
      | nil => exact fun s1 _ _ _ k => k
      | cons u l ih =>
        intro s1 hl oi k1 k2 v hv
        have hu := hl u (List.Mem.head _)
        have hun := ho t u hu
        have ku : ∀ v, s1.how.getD v 0 = 1 → R v u := fun v hv => by
          rcases k1 v hv with rfl | k
          · exact h1 _ u hu
          · exact h2 v t k u hu
        rw [List.foldl_cons] at hv
        refine ih _ (fun v hv => hl v (List.Mem.tail _ hv)) (step_OI ho oi hun).1 (fun w hw => ?_) (fun w hw => ?_) v hv
        · unfold stepO at hw
          split at hw
          · exact k1 w (visit_one ho oi hun ‹_› w hw)
          · split at hw
            · exact k1 w hw
            · exact k1 w hw
        · unfold stepO at hw
          split at hw
          · exact visit_circ ho h1 h2 oi hun ‹_› ku k2 w hw
          · split at hw
            · rename_i q
              have hw : (s1.head.set u true).getD w false = true := hw
              by_cases e : u = w
              · rw [← e]; exact ku u q
              · rw [getD_setN e] at hw; exact k2 w hw
            · exact k2 w hw
    refine key (out t) (s.beg t) (fun u hu => hu) (h.beg ht h0) (fun w hw => ?_) hh v hv
    have hw : (s.how.set t 1).getD w 0 = 1 := hw
    by_cases e : t = w
    · exact .inl e.symm
    · rw [getD_setN e] at hw; exact .inr (hop w hw)
/-- So many are left, not yet, and on the way. -/
theorem visit_eq {out : Nat → List Nat} {n : Nat} (ho : ∀ v, ∀ u ∈ out v, u < n) : ∀ {f t d : Nat} {s : OS}, OI n d s → t < n → s.how.getD t 0 = 0 → s.left.length + s.un + d = n → (visit out f t s).left.length + (visit out f t s).un + d = n
  | 0, t, d, s, _, _, _, h => h
  | f + 1, t, d, s, h, ht, h0, hl => by
    rw [visit_succ]
    have key : ∀ (l : List Nat) (s1 : OS), (∀ u ∈ l, u < n) → OI n (d + 1) s1 → s1.left.length + s1.un + (d + 1) = n → (l.foldl (stepO out f) s1).left.length + (l.foldl (stepO out f) s1).un + (d + 1) = n := by
      intro l
      induction l with
      | nil => exact fun s1 _ _ h1 => h1
      | cons u l ih =>
        intro s1 hl1 h1 h2
        have hu := hl1 u (List.Mem.head _)
        rw [List.foldl_cons]
        refine ih _ (fun v hv => hl1 v (List.Mem.tail _ hv)) (step_OI ho h1 hu).1 ?_
        unfold stepO
        split
        · exact visit_eq ho h1 hu ‹_› h2
        · split
          · exact h2
          · exact h2
    have oi1 := h.beg ht h0
    have oi2 := (fold_OI (f := f) ho (out t) _ (ho t) oi1).1
    have kp := fold_keep (f := f) ho (out t) _ (ho t) oi1
    have e1 : (s.beg t).how.getD t 0 = 1 := getD_setS (by rw [h.how]; exact ht)
    have e2 := kp.1 t (by rw [e1]; decide)
    have u1 := un_beg (by rw [h.how]; exact ht) h0
    have k := key (out t) (s.beg t) (ho t) oi1 (by show s.left.length + _ + _ = _; omega)
    have f1 := filt_set (p := fun x => decide (x = 0)) (x := 2) (show t < ((out t).foldl (stepO out f) (s.beg t)).how.length by rw [oi2.how]; exact ht)
    rw [e2, e1] at f1
    generalize (out t).foldl (stepO out f) (s.beg t) = S at *
    show (S.left ++ [_]).length + ((S.how.set t 2).filter _).length + d = n
    rw [if_neg (by decide), if_neg (by decide)] at f1
    rw [List.length_append, List.length_singleton]
    unfold OS.un at k
    omega
theorem filt_range {l : List Int} : ((List.range l.length).filter fun i => decide (l.getD i 0 = 0)).length = (l.filter fun x => decide (x = 0)).length := by
  have e : l = (List.range l.length).map fun i => l.getD i 0 := by
    apply List.ext_getElem
    · simp
    · intro i h1 h2
      rw [List.getElem_map, List.getElem_range, List.getD_eq_getElem?_getD, List.getElem?_eq_getElem h1]; rfl
  conv => rhs; rw [e]
  rw [List.filter_map, List.length_map]
  rfl
/-! ### of edges -/
theorem mem_outE {E : List RE} {v u : Nat} : u ∈ outE E v ↔ ∃ e ∈ E, e.f = (v : Int) ∧ e.t.toNat = u := by
  unfold outE
  rw [List.mem_map]
  constructor
  · rintro ⟨e, h, rfl⟩
    have h := List.mem_filter.1 h
    exact ⟨e, h.1, of_decide_eq_true h.2, rfl⟩
  · rintro ⟨e, h, k, rfl⟩
    exact ⟨e, List.mem_filter.2 ⟨h, decide_eq_true k⟩, rfl⟩
theorem InE.out {E : List RE} {n : Nat} (h : InE E n) : ∀ v, ∀ u ∈ outE E v, u < n := outE_lt fun e he => (h e he).2
theorem InE.mem {E : List RE} {n : Nat} (h : InE E n) {e : RE} (he : e ∈ E) : e.t.toNat ∈ outE E e.f.toNat := mem_outE.2 ⟨e, he, by have := (h e he).1; omega, rfl⟩
section
variable {E : List RE} {n : Nat}
theorem ord_zero (hn : 0 < n) (h : InE E n) : (ordS E n).how.getD 0 0 = 2 := by
  obtain ⟨g, rfl⟩ : ∃ g, n = g + 1 := ⟨n - 1, by omega⟩
  unfold ordS
  rw [visit_succ]
  have oi := (fold_OI (f := g) h.out (outE E 0) _ (h.out 0) (os0_OI.beg hn os0_how)).1
  exact getD_setS (by rw [oi.how]; exact hn)
theorem come_two (hn : 0 < n) (h : InE E n) {v : Nat} (hv : (comeK E n n).getD v false = true) : (ordS E n).how.getD v 0 = 2 :=
  come_sub (S := fun v => (ordS E n).how.getD v 0 = 2) (ord_zero hn h) (fun e he hf => ordS_closed hn h.out hf (h.mem he)) n v hv
theorem two_come (hn : 0 < n) (h : InE E n) {v : Nat} (hv : (ordS E n).how.getD v 0 ≠ 0) : (comeK E n n).getD v false = true :=
  visit_sub (out := outE E) (S := fun v => (comeK E n n).getD v false = true) (fun v hv u hu => by
    obtain ⟨e, he, h1, rfl⟩ := mem_outE.1 hu
    exact come_closed h he (by rw [h1]; exact hv)) (come_zero hn) (fun v hv => absurd os0_how hv) v hv
theorem head_come (hn : 0 < n) (h : InE E n) {v : Nat} (hv : (ordS E n).head.getD v false = true) : (comeK E n n).getD v false = true :=
  two_come hn h (visit_heads h.out os0_OI hn os0_how (fun v hv => by
    have : (os0 n).head.getD v false = false := rep_false
    rw [this] at hv; cases hv) v hv)
theorem head_round (hn : 0 < n) (h : InE E n) {v : Nat} (hv : (ordS E n).head.getD v false = true) : (roundK E [] v n (n + 1)).getD v false = true := by
  refine visit_circ (R := fun v u => (roundK E [] v n (n + 1)).getD u false = true) h.out (fun v u hu => ?_) (fun v u hu w hw => ?_) os0_OI hn os0_how (fun v hv => ?_) (fun v hv => ?_) v hv
  · obtain ⟨e, he, h1, rfl⟩ := mem_outE.1 hu
    exact round_closed h he rfl (.inl (by omega))
  · obtain ⟨e, he, h1, rfl⟩ := mem_outE.1 hw
    exact round_closed h he rfl (.inr (by rw [h1]; exact hu))
  · rw [os0_how] at hv; cases hv
  · have : (os0 n).head.getD v false = false := rep_false
    rw [this] at hv; cases hv
theorem split_uniq : ∀ {a b c d : List Int} {x : Int}, (a ++ x :: b).Nodup → a ++ x :: b = c ++ x :: d → a = c
  | [], b, [], d, x, _, _ => rfl
  | [], b, y :: c, d, x, h, e => by
    have e : x :: b = y :: (c ++ x :: d) := e
    injection e with e1 e2
    have h : (x :: b).Nodup := h
    rw [List.nodup_cons] at h
    exact absurd (by rw [e2]; exact List.mem_append.2 (.inr (List.Mem.head _))) h.1
  | y :: a, b, [], d, x, h, e => by
    have e : y :: (a ++ x :: b) = x :: d := e
    injection e with e1 e2
    have h : (y :: (a ++ x :: b)).Nodup := h
    rw [List.nodup_cons] at h
    exact absurd (by rw [e1]; exact List.mem_append.2 (.inr (List.Mem.head _))) h.1
  | y :: a, b, z :: c, d, x, h, e => by
    have e : y :: (a ++ x :: b) = z :: (c ++ x :: d) := e
    injection e with e1 e2
    have h : (y :: (a ++ x :: b)).Nodup := h
    rw [List.nodup_cons] at h
    rw [e1, split_uniq h.2 e2]
/-- Without the heads there is no circle. -/
theorem no_round (hn : 0 < n) (h : InE E n) {v : Nat} (hc : (comeK E n n).getD v false = true) (hv : (ordS E n).head.getD v false = false) : (roundK E (ordS E n).head v n (n + 1)).getD v false = false := by
  have al := ordS_all hn h.out
  have h2 := come_two hn h hc
  obtain ⟨a, b, hab⟩ := List.append_of_mem ((al.lf.mem v).2 h2)
  have nd := al.lf.nod
  rw [hab] at nd
  have key : ∀ w, (roundK E (ordS E n).head v n (n + 1)).getD w false = true → (w : Int) ∈ a := by
    refine round_sub (S := fun w => (w : Int) ∈ a) (fun e he hb hf => ?_) (n + 1)
    have hm := h.mem he
    rcases hf with hf | hf
    · rw [hf] at hm
      rcases al.ps v _ h2 hm with k | ⟨a', b', k1, k2⟩
      · rw [hb] at k; cases k
      · rw [hab] at k1
        rw [split_uniq nd k1]; exact k2
    · have hw2 : (ordS E n).how.getD e.f.toNat 0 = 2 := (al.lf.mem _).1 (by rw [hab]; exact List.mem_append.2 (.inl hf))
      rcases al.ps _ _ hw2 hm with k | ⟨a', b', k1, k2⟩
      · rw [hb] at k; cases k
      · obtain ⟨x, y, hxy⟩ := List.append_of_mem hf
        rw [hab, hxy, List.append_assoc] at k1
        have nd2 := nd
        rw [hxy, List.append_assoc] at nd2
        have := split_uniq nd2 k1
        rw [hxy, this]
        exact List.mem_append.2 (.inl k2)
  cases q : (roundK E (ordS E n).head v n (n + 1)).getD v false with
  | false => rfl
  | true =>
    have := key v q
    rw [List.nodup_append] at nd
    exact absurd rfl (nd.2.2 _ this _ (List.Mem.head _))
/-! ### the order -/
theorem ordO_len (hn : 0 < n) (h : InE E n) : (ordO (ordS E n) n).length = n := by
  have oi : OI n 0 (ordS E n) := (visit_OI h.out os0_OI hn os0_how).1
  have e : (ordS E n).left.length + (ordS E n).un + 0 = n := visit_eq h.out os0_OI hn os0_how (by simp [os0, OS.un, filter_rep])
  have e2 : (rest (ordS E n) n).length = (ordS E n).un := by
    unfold rest OS.un
    rw [List.length_map, ← filt_range, oi.how]
  unfold ordO
  rw [List.length_append, List.length_reverse, e2]
  omega
theorem ordO_in (hn : 0 < n) (h : InE E n) : ∀ x ∈ ordO (ordS E n) n, 0 ≤ x ∧ x < n := by
  intro x hx
  have oi : OI n 0 (ordS E n) := (visit_OI h.out os0_OI hn os0_how).1
  have al := ordS_all hn h.out
  unfold ordO at hx
  rcases List.mem_append.1 hx with hx | hx
  · have hx := List.mem_reverse.1 hx
    have h0 := al.lf.nat x hx
    obtain ⟨v, rfl⟩ : ∃ v : Nat, x = v := ⟨x.toNat, by omega⟩
    have h2 := (al.lf.mem v).1 hx
    rcases Nat.lt_or_ge v n with k | k
    · omega
    · rw [List.getD_eq_getElem?_getD, List.getElem?_eq_none (by rw [oi.how]; exact k)] at h2
      cases h2
  · unfold rest at hx
    obtain ⟨v, hv, rfl⟩ := List.mem_map.1 hx
    have := List.mem_range.1 (List.mem_filter.1 hv).1
    simp only [Int.ofNat_eq_natCast]
    omega
theorem ordO_nodup (hn : 0 < n) (h : InE E n) : (ordO (ordS E n) n).Nodup := by
  have al := ordS_all hn h.out
  unfold ordO
  rw [List.nodup_append]
  refine ⟨List.pairwise_reverse.2 (al.lf.nod.imp fun h => Ne.symm h), ?_, fun a ha b hb e => ?_⟩
  · unfold rest
    exact List.Pairwise.map _ (fun a b hab e => hab (Int.ofNat.inj e)) (List.Pairwise.filter _ List.nodup_range)
  · subst e
    unfold rest at hb
    obtain ⟨v, hv, rfl⟩ := List.mem_map.1 hb
    have h0 := of_decide_eq_true (List.mem_filter.1 hv).2
    have h2 := (al.lf.mem v).1 (List.mem_reverse.1 ha)
    rw [h0] at h2; cases h2
theorem ordO_first (hn : 0 < n) : (ordO (ordS E n) n).getD 0 0 = 0 := by
  obtain ⟨g, rfl⟩ : ∃ g, n = g + 1 := ⟨n - 1, by omega⟩
  unfold ordO ordS
  rw [visit_succ]
  show ((_ ++ [((0 : Nat) : Int)]).reverse ++ _).getD 0 0 = 0
  rw [List.reverse_append]
  rfl
theorem ordO_back (hn : 0 < n) (h : InE E n) {e : RE} (he : e ∈ E) (hc : (comeK E n n).getD e.f.toNat false = true) (hh : (ordS E n).head.getD e.t.toNat false = false) : ∃ i j : Nat, i < j ∧ j < n ∧ (ordO (ordS E n) n).getD i 0 = e.f ∧ (ordO (ordS E n) n).getD j 0 = e.t := by
  have al := ordS_all hn h.out
  have hl := ordO_len hn h
  rcases al.ps _ _ (come_two hn h hc) (h.mem he) with k | ⟨a, b, k1, k2⟩
  · rw [hh] at k; cases k
  · have hi := h e he
    have e1 : ((e.f.toNat : Nat) : Int) = e.f := by omega
    have e2 : ((e.t.toNat : Nat) : Int) = e.t := by omega
    rw [e1] at k1
    rw [e2] at k2
    obtain ⟨x, y, hxy⟩ := List.append_of_mem k2
    have eo : ordO (ordS E n) n = (b.reverse ++ [e.f] ++ y.reverse) ++ (e.t :: (x.reverse ++ rest (ordS E n) n)) := by
      unfold ordO
      rw [k1, hxy]
      simp
    have eo2 : ordO (ordS E n) n = b.reverse ++ (e.f :: (y.reverse ++ (e.t :: (x.reverse ++ rest (ordS E n) n)))) := by
      rw [eo]; simp
    refine ⟨b.length, (b.reverse ++ [e.f] ++ y.reverse).length, ?_, ?_, ?_, ?_⟩
    · simp <;> omega
    · rw [eo] at hl
      simp only [List.length_append, List.length_cons] at hl ⊢
      omega
    · rw [eo2, List.getD_eq_getElem?_getD, List.getElem?_append_right (by simp)]
      simp
    · rw [eo, List.getD_eq_getElem?_getD, List.getElem?_append_right (Nat.le_refl _), Nat.sub_self]
      rfl
end
/-- Where each stands. -/
def atK (o : List Int) (n : Nat) : Nat → List Int
  | 0 => List.replicate n 0
  | k + 1 => (atK o n k).set (o.getD k 0).toNat ((k : Int) + 1)
theorem atK_len {o : List Int} {n : Nat} : ∀ k, (atK o n k).length = n
  | 0 => by simp [atK]
  | k + 1 => by rw [atK, List.length_set, atK_len k]
theorem atK_no {o : List Int} {n v : Nat} (ho : ∀ x ∈ o, 0 ≤ x) : ∀ k, k ≤ o.length → (∀ j, j < k → o.getD j 0 ≠ (v : Int)) → (atK o n k).getD v 0 = 0
  | 0, _, _ => by
    simp only [atK, List.getD_eq_getElem?_getD, List.getElem?_replicate]
    split <;> rfl
  | k + 1, hk, h => by
    have h1 := h k (Nat.lt_succ_self k)
    have h2 : 0 ≤ o.getD k 0 := ho _ (by
      rw [List.getD_eq_getElem?_getD, List.getElem?_eq_getElem (by omega)]; exact List.getElem_mem _)
    rw [atK, getD_setN (by omega)]
    exact atK_no ho k (by omega) fun j hj => h j (by omega)
theorem nodup_getD {o : List Int} (hd : o.Nodup) {i j : Nat} (hi : i < o.length) (hj : j < o.length) (h : o.getD i 0 = o.getD j 0) : i = j := by
  rw [List.getD_eq_getElem?_getD, List.getElem?_eq_getElem hi, List.getD_eq_getElem?_getD, List.getElem?_eq_getElem hj] at h
  have hp := List.pairwise_iff_getElem.1 hd
  rcases Nat.lt_trichotomy i j with k | k | k
  · exact absurd h (hp i j hi hj k)
  · exact k
  · exact absurd h.symm (hp j i hj hi k)
theorem atK_at {o : List Int} {n : Nat} (ho : ∀ x ∈ o, 0 ≤ x ∧ x < n) (hd : o.Nodup) : ∀ k j, k ≤ o.length → j < k → (atK o n k).getD (o.getD j 0).toNat 0 = (j : Int) + 1
  | 0, j, _, h => by omega
  | k + 1, j, hk, h => by
    have hm {i : Nat} (hi : i < o.length) : 0 ≤ o.getD i 0 ∧ o.getD i 0 < n := ho _ (by
      rw [List.getD_eq_getElem?_getD, List.getElem?_eq_getElem hi]; exact List.getElem_mem _)
    have m1 := hm (i := k) (by omega)
    have m2 := hm (i := j) (by omega)
    rw [atK]
    by_cases e : j = k
    · subst e
      exact getD_setS (by rw [atK_len]; omega)
    · rw [getD_setN fun q => e (nodup_getD hd (by omega) (by omega) (by omega))]
      exact atK_at ho hd k j (by omega) (by omega)
end Go.Abs
