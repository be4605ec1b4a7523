/- Linear problems: what proves an answer, plainly. -/
import Derived.Test.YtfadclnaahanmaaKb
import Derived.Test.YtfadclnaahanmaaL21
set_option linter.unusedVariables false
set_option linter.unusedSimpArgs false
namespace Go.Abs
open Go Go.Proofs
set_option maxRecDepth 100000
set_option maxHeartbeats 4000000
theorem sumI_le {f g : Nat → Rat} : ∀ {n : Nat}, (∀ i, i < n → f i ≤ g i) → sumI n f ≤ sumI n g
  | 0, _ => Rat.le_refl
  | n + 1, h => by
    have h1 := sumI_le (n := n) fun i hi => h i (by omega)
    have h2 := h n (by omega)
    show sumI n f + f n ≤ sumI n g + g n
    exact Rat.le_trans (Rat.add_le_add_right.2 h1) (Rat.add_le_add_left.2 h2)
theorem weak {n : Int} {A : List (List RQ)} {B C Y x b : List RQ} (hok : okLp n A B C = true) (hs : okS Y A = true) (hx : (x.length : Int) = n) (hb : belowV A x b = true) : dotV (leftV Y A n.toNat) x ≤ dotV Y b := by
  obtain ⟨⟨h1, h2, h3, h4, h5⟩, h6⟩ := okLp_iff.1 hok
  obtain ⟨y1, y2⟩ := okS_iff.1 hs
  obtain ⟨_, b2⟩ := belowV_iff.1 hb
  rw [sides (w := n.toNat) y1 (fun j hj => by have := h6 j hj; omega) (by omega)]
  unfold dotV
  refine sumI_le fun j hj => ?_
  rw [show ev (timesV A x) j = dotV (rwi A j) x from ev_tab (by omega)]
  exact Rat.mul_le_mul_of_nonneg_left (b2 j (by omega)) (y2 j hj)
theorem same_ev {a b : List RQ} (h : sameV a b = true) : a.length = b.length ∧ ∀ i, i < a.length → ev a i = ev b i := by
  unfold sameV at h
  rw [Bool.and_eq_true, decide_eq_true_eq, List.all_eq_true] at h
  exact ⟨h.1, fun i hi => of_decide_eq_true (h.2 i (List.mem_range.2 hi))⟩
theorem same_dot {a b x : List RQ} (h : sameV a b = true) : dotV a x = dotV b x := by
  obtain ⟨h1, h2⟩ := same_ev h
  unfold dotV
  rw [← h1]
  exact sumI_congr fun i hi => by rw [h2 i hi]
theorem dot_noughts_l {n : Nat} {x : List RQ} : dotV (List.replicate n eQ.d) x = 0 := by
  unfold dotV
  rw [sumI_congr (g := fun _ => 0) fun i _ => by rw [ev_noughts, Rat.zero_mul]]
  exact sumI_zero
theorem dot_noughts_r {n : Nat} {x : List RQ} : dotV x (List.replicate n eQ.d) = 0 := by
  unfold dotV
  rw [sumI_congr (g := fun _ => 0) fun i _ => by rw [ev_noughts, Rat.mul_zero]]
  exact sumI_zero
section
variable {n k k' : Int} {A : List (List RQ)} {B C X Y Z X' Y' Z' x : List RQ} {v v' : RQ}
theorem within_iff : withinV n A B C x = true ↔ okLp n A B C = true ∧ (x.length : Int) = n ∧ belowV A x B = true := by
  unfold withinV
  rw [Bool.and_eq_true, Bool.and_eq_true, decide_eq_true_eq, and_assoc]
theorem opt_iff : optV n A B C v X Y Z = true ↔ okS Y A = true ∧ withinV n A B C X = true ∧ Z.length = 0 ∧ sameV (leftV Y A n.toNat) C = true ∧ dotV C X = vq v ∧ dotV Y B = vq v := by
  unfold optV
  simp only [Bool.and_eq_true, decide_eq_true_eq, and_assoc]
theorem inf_iff : infV n A B v X Y Z = true ↔ okS Y A = true ∧ X.length = 0 ∧ Z.length = 0 ∧ vq v = 0 ∧ sameV (leftV Y A n.toNat) (List.replicate n.toNat eQ.d) = true ∧ dotV Y B < 0 := by
  unfold infV
  simp only [Bool.and_eq_true, decide_eq_true_eq, and_assoc]
theorem unb_iff : unbV n A B C v X Y Z = true ↔ withinV n A B C X = true ∧ (Z.length : Int) = n ∧ Y.length = 0 ∧ vq v = 0 ∧ belowV A Z (List.replicate A.length eQ.d) = true ∧ 0 < dotV C Z := by
  unfold unbV
  simp only [Bool.and_eq_true, decide_eq_true_eq, and_assoc]
theorem holds_iff : holdsV n A B C k v X Y Z = true ↔ okLp n A B C = true ∧ ((k = 1 ∧ optV n A B C v X Y Z = true) ∨ (k = 2 ∧ infV n A B v X Y Z = true) ∨ (k = 3 ∧ unbV n A B C v X Y Z = true)) := by
  unfold holdsV
  rw [Bool.and_eq_true]
  refine and_congr_right fun _ => ?_
  by_cases h1 : k = 1
  · subst h1; simp
  by_cases h2 : k = 2
  · subst h2; simp
  by_cases h3 : k = 3
  · subst h3; simp
  simp [h1, h2, h3]
theorem opt_most (h : optV n A B C v X Y Z = true) (hw : withinV n A B C x = true) : dotV C x ≤ vq v := by
  obtain ⟨h1, h2, h3, h4, h5, h6⟩ := opt_iff.1 h
  obtain ⟨w1, w2, w3⟩ := within_iff.1 hw
  rw [← same_dot h4, ← h6]
  exact weak w1 h1 w2 w3
theorem inf_none (h : infV n A B v X Y Z = true) (hw : withinV n A B C x = true) : False := by
  obtain ⟨h1, h2, h3, h4, h5, h6⟩ := inf_iff.1 h
  obtain ⟨w1, w2, w3⟩ := within_iff.1 hw
  have := weak w1 h1 w2 w3
  rw [same_dot h5, dot_noughts_l] at this
  exact absurd h6 (Rat.not_lt.2 this)
theorem opt_unb (h : optV n A B C v X Y Z = true) (h' : unbV n A B C v' X' Y' Z' = true) : False := by
  obtain ⟨h1, h2, h3, h4, h5, h6⟩ := opt_iff.1 h
  obtain ⟨u1, u2, u3, u4, u5, u6⟩ := unb_iff.1 h'
  have := weak (within_iff.1 u1).1 h1 u2 u5
  rw [same_dot h4, dot_noughts_r] at this
  exact absurd u6 (Rat.not_lt.2 this)
theorem holds_one (hh : holdsV n A B C k v X Y Z = true) (hh' : holdsV n A B C k' v' X' Y' Z' = true) : k = k' ∧ vq v = vq v' := by
  obtain ⟨ho, h⟩ := holds_iff.1 hh
  obtain ⟨_, h'⟩ := holds_iff.1 hh'
  rcases h with ⟨rfl, h⟩ | ⟨rfl, h⟩ | ⟨rfl, h⟩ <;> rcases h' with ⟨rfl, h'⟩ | ⟨rfl, h'⟩ | ⟨rfl, h'⟩
  · refine ⟨rfl, ?_⟩
    have a1 := opt_most h (opt_iff.1 h').2.1
    have a2 := opt_most h' (opt_iff.1 h).2.1
    rw [(opt_iff.1 h').2.2.2.2.1] at a1
    rw [(opt_iff.1 h).2.2.2.2.1] at a2
    exact Rat.le_antisymm a2 a1
  · exact (inf_none h' (opt_iff.1 h).2.1).elim
  · exact (opt_unb h h').elim
  · exact (inf_none h (opt_iff.1 h').2.1).elim
  · exact ⟨rfl, by rw [(inf_iff.1 h).2.2.2.1, (inf_iff.1 h').2.2.2.1]⟩
  · exact (inf_none h (unb_iff.1 h').1).elim
  · exact (opt_unb h' h).elim
  · exact (inf_none h' (unb_iff.1 h).1).elim
  · exact ⟨rfl, by rw [(unb_iff.1 h).2.2.2.1, (unb_iff.1 h').2.2.2.1]⟩
theorem holds_within (hh : holdsV n A B C k v X Y Z = true) (hw : withinV n A B C x = true) : ¬ k = 2 ∧ (k = 1 → dotV C x ≤ vq v) := by
  obtain ⟨ho, h⟩ := holds_iff.1 hh
  rcases h with ⟨rfl, h⟩ | ⟨rfl, h⟩ | ⟨rfl, h⟩
  · exact ⟨by decide, fun _ => opt_most h hw⟩
  · exact (inf_none h hw).elim
  · exact ⟨by decide, fun e => by cases e⟩
end
end Go.Abs
