/- A box with the greatest at its corner, plainly. -/
import Derived.Test.YtfadclnaahanmaaK8
set_option linter.unusedVariables false
set_option linter.unusedSimpArgs false
namespace Go.Abs
open Go Go.Proofs
set_option maxRecDepth 100000
set_option maxHeartbeats 4000000
theorem sumI_two {f : Nat → Rat} : ∀ {n : Nat}, sumI (2 * n) f = sumI n fun i => f (2 * i) + f (2 * i + 1)
  | 0 => rfl
  | n + 1 => by
    have := sumI_two (f := f) (n := n)
    show sumI (2 * n) f + f (2 * n) + f (2 * n + 1) = (sumI n fun i => f (2 * i) + f (2 * i + 1)) + (f (2 * n) + f (2 * n + 1))
    rw [this, Rat.add_assoc]
def unI (n i : Nat) (s : Int) : List Int := (List.replicate n 0).set i s
theorem unI_len {n i : Nat} {s : Int} : (unI n i s).length = n := by simp [unI]
theorem unI_get {n i j : Nat} {s : Int} (hj : j < n) : (unI n i s).getD j 0 = if j = i then s else 0 := by
  unfold unI
  rw [List.getD_eq_getElem?_getD, List.getElem?_set]
  by_cases h : j = i
  · subst h; simp [hj]
  · rw [if_neg h, if_neg (fun e => h e.symm), List.getElem?_replicate, if_pos hj]; rfl
theorem rowN_len {l : List Int} : (rowN l).length = l.length := tab_len
theorem ev_rowN {l : List Int} {i : Nat} (h : i < l.length) : ev (rowN l) i = ((l.getD i 0 : Int) : Rat) := ev_tab h
def mA (n m : Nat) : List (List RQ) := (List.range (2 * m)).map fun j => rowN (unI n (j / 2) (if j % 2 = 0 then 1 else -1))
section
variable {n m : Nat} {c b : Nat → Int}
theorem mA_len : (mA n m).length = 2 * m := by simp [mA]
theorem mA_succ : mA n (m + 1) = mA n m ++ [rowN (unI n m 1), rowN (unI n m (-1))] := by
  unfold mA
  rw [show 2 * (m + 1) = 2 * m + 1 + 1 from rfl, List.range_succ, List.range_succ, List.map_append, List.map_append, List.append_assoc]
  simp only [List.map_cons, List.map_nil]
  rw [show 2 * m / 2 = m by omega, show (2 * m + 1) / 2 = m by omega, show 2 * m % 2 = 0 by omega, show (2 * m + 1) % 2 = 1 by omega]
  rfl
theorem mA_row {j : Nat} (hj : j < 2 * m) : rwi (mA n m) j = rowN (unI n (j / 2) (if j % 2 = 0 then 1 else -1)) := by
  unfold rwi
  rw [getD_eq (by rw [mA_len]; exact hj)]
  simp [mA]
def xI (c b : Nat → Int) (j : Nat) : Int := if 0 < c j then b j + 9 else b j
def mB (b : Nat → Int) (m : Nat) : List RQ := tab (2 * m) fun j => (((if j % 2 = 0 then b (j / 2) + 9 else - b (j / 2)) : Int) : Rat)
def mC (c : Nat → Int) (m : Nat) : List RQ := tab m fun j => ((c j : Int) : Rat)
def mX (c b : Nat → Int) (m : Nat) : List RQ := tab m fun j => ((xI c b j : Int) : Rat)
def mY (c : Nat → Int) (m : Nat) : List RQ := tab (2 * m) fun j => (((if j % 2 = 0 then max (c (j / 2)) 0 else max (- c (j / 2)) 0) : Int) : Rat)
def mV (c b : Nat → Int) (m : Nat) : Rat := sumI m fun j => ((c j * xI c b j : Int) : Rat)
theorem mC_succ : mC c (m + 1) = mC c m ++ [rq ((c m : Int) : Rat)] := tab_succ
theorem mX_succ : mX c b (m + 1) = mX c b m ++ [rq ((xI c b m : Int) : Rat)] := tab_succ
theorem mB_succ : mB b (m + 1) = mB b m ++ [rq ((b m + 9 : Int) : Rat), rq ((- b m : Int) : Rat)] := by
  unfold mB
  rw [show 2 * (m + 1) = 2 * m + 1 + 1 from rfl, tab_succ, tab_succ, List.append_assoc]
  rw [show 2 * m / 2 = m by omega, show (2 * m + 1) / 2 = m by omega, if_pos (show 2 * m % 2 = 0 by omega), if_neg (show ¬ (2 * m + 1) % 2 = 0 by omega)]
  rfl
theorem mY_succ : mY c (m + 1) = mY c m ++ [rq ((max (c m) 0 : Int) : Rat), rq ((max (- c m) 0 : Int) : Rat)] := by
  unfold mY
  rw [show 2 * (m + 1) = 2 * m + 1 + 1 from rfl, tab_succ, tab_succ, List.append_assoc]
  rw [show 2 * m / 2 = m by omega, show (2 * m + 1) / 2 = m by omega, if_pos (show 2 * m % 2 = 0 by omega), if_neg (show ¬ (2 * m + 1) % 2 = 0 by omega)]
  rfl
theorem mV_succ : mV c b (m + 1) = mV c b m + ((c m * xI c b m : Int) : Rat) := rfl
theorem ev_unit_row {i j : Nat} {s : Int} (hj : j < n) : ev (rowN (unI n i s)) j = if j = i then (s : Rat) else 0 := by
  rw [ev_rowN (by rw [unI_len]; exact hj), unI_get hj]
  split <;> rfl
theorem dot_unit_row {i : Nat} {s : Int} {x : List RQ} (hi : i < n) : dotV (rowN (unI n i s)) x = (s : Rat) * ev x i := by
  unfold dotV
  rw [rowN_len, unI_len, sumI_one hi (fun j hj hne => by rw [ev_unit_row hj, if_neg hne, Rat.zero_mul])]
  rw [ev_unit_row hi, if_pos rfl]
theorem left_box {Y : List RQ} {k : Nat} (hk : k < n) : ev (leftV Y (mA n n) n) k = ev Y (2 * k) - ev Y (2 * k + 1) := by
  unfold leftV lefP
  rw [ev_tab hk, mA_len, sumI_two, sumI_one hk]
  · rw [mA_row (by omega), mA_row (by omega), show 2 * k / 2 = k by omega, show (2 * k + 1) / 2 = k by omega, if_pos (show 2 * k % 2 = 0 by omega), if_neg (show ¬ (2 * k + 1) % 2 = 0 by omega), ev_unit_row hk, ev_unit_row hk, if_pos rfl, if_pos rfl]
    show ev Y (2 * k) * 1 + ev Y (2 * k + 1) * (-1) = _
    grind
  · intro i hi hne
    rw [mA_row (by omega), mA_row (by omega), show 2 * i / 2 = i by omega, show (2 * i + 1) / 2 = i by omega, ev_unit_row hk, ev_unit_row hk, if_neg (fun e => hne e.symm)]
    grind
theorem okLp_box (h0 : 0 < n) (hn : n ≤ 6) : okLp n (mA n n) (mB b n) (mC c n) = true := by
  refine okLp_iff.2 ⟨⟨by omega, by omega, by rw [mA_len]; omega, by rw [mA_len]; exact tab_len, by unfold mC; rw [tab_len]⟩, fun j hj => ?_⟩
  rw [mA_len] at hj
  rw [mA_row hj, rowN_len, unI_len]
theorem ev_mY0 {k : Nat} (hk : k < n) : ev (mY c n) (2 * k) = ((max (c k) 0 : Int) : Rat) := by
  unfold mY
  rw [ev_tab (by omega), if_pos (show 2 * k % 2 = 0 by omega), show 2 * k / 2 = k by omega]
theorem ev_mY1 {k : Nat} (hk : k < n) : ev (mY c n) (2 * k + 1) = ((max (- c k) 0 : Int) : Rat) := by
  unfold mY
  rw [ev_tab (by omega), if_neg (show ¬ (2 * k + 1) % 2 = 0 by omega), show (2 * k + 1) / 2 = k by omega]
theorem ev_mB0 {k : Nat} (hk : k < n) : ev (mB b n) (2 * k) = ((b k + 9 : Int) : Rat) := by
  unfold mB
  rw [ev_tab (by omega), if_pos (show 2 * k % 2 = 0 by omega), show 2 * k / 2 = k by omega]
theorem ev_mB1 {k : Nat} (hk : k < n) : ev (mB b n) (2 * k + 1) = ((- b k : Int) : Rat) := by
  unfold mB
  rw [ev_tab (by omega), if_neg (show ¬ (2 * k + 1) % 2 = 0 by omega), show (2 * k + 1) / 2 = k by omega]
theorem ev_mC {k : Nat} (hk : k < n) : ev (mC c n) k = ((c k : Int) : Rat) := ev_tab hk
theorem ev_mX {k : Nat} (hk : k < n) : ev (mX c b n) k = ((xI c b k : Int) : Rat) := ev_tab hk
theorem dot_CX : dotV (mC c n) (mX c b n) = mV c b n := by
  unfold dotV mV
  rw [show (mC c n).length = n from tab_len]
  exact sumI_congr fun i hi => by rw [ev_mC hi, ev_mX hi, ← Rat.intCast_mul]
theorem dot_YB : dotV (mY c n) (mB b n) = mV c b n := by
  unfold dotV mV
  rw [show (mY c n).length = 2 * n from tab_len, sumI_two]
  refine sumI_congr fun i hi => ?_
  rw [ev_mY0 hi, ev_mY1 hi, ev_mB0 hi, ev_mB1 hi, ← Rat.intCast_mul, ← Rat.intCast_mul, ← Rat.intCast_add]
  congr 1
  unfold xI
  by_cases h : 0 < c i
  · rw [if_pos h, show max (c i) 0 = c i by omega, show max (- c i) 0 = 0 by omega]; simp
  · rw [if_neg h, show max (c i) 0 = 0 by omega, show max (- c i) 0 = - c i by omega]; simp [Int.neg_mul_neg]
theorem cast_nonneg {z : Int} (h : 0 ≤ z) : (0 : Rat) ≤ (z : Rat) := Rat.intCast_nonneg.2 h
theorem cast_le {y z : Int} (h : y ≤ z) : (y : Rat) ≤ (z : Rat) := Rat.intCast_le_intCast.2 h
theorem box_holds {v : RQ} (h0 : 0 < n) (hn : n ≤ 6) (hv : vq v = mV c b n) : holdsV n (mA n n) (mB b n) (mC c n) 1 v (mX c b n) (mY c n) [] = true := by
  have ho := okLp_box (c := c) (b := b) h0 hn
  refine holds_iff.2 ⟨ho, .inl ⟨rfl, opt_iff.2 ⟨okS_iff.2 ⟨by rw [mA_len]; exact tab_len, fun j hj => ?_⟩, within_iff.2 ⟨ho, by unfold mX; rw [tab_len], belowV_iff.2 ⟨fun j hj => ?_, fun j hj => ?_⟩⟩, rfl, ?_, ?_, ?_⟩⟩⟩
  · rw [show (mY c n).length = 2 * n from tab_len] at hj
    unfold mY
    rw [ev_tab hj]
    exact cast_nonneg (by split <;> omega)
  · rw [mA_len] at hj
    rw [mA_row hj, rowN_len, unI_len]
    exact tab_len.symm
  · rw [mA_len] at hj
    have h2 : j / 2 < n := by omega
    rw [mA_row hj, dot_unit_row h2, ev_mX h2]
    unfold mB
    rw [ev_tab hj, ← Rat.intCast_mul]
    refine cast_le ?_
    unfold xI
    by_cases h : 0 < c (j / 2) <;> by_cases h3 : j % 2 = 0 <;> simp only [h, h3, if_true, if_false] <;> omega
  · rw [Int.toNat_natCast]
    refine sameV_of (by rw [show (leftV (mY c n) (mA n n) n).length = n from lefP_len]; exact tab_len.symm) fun k hk => ?_
    rw [show (leftV (mY c n) (mA n n) n).length = n from lefP_len] at hk
    rw [left_box hk, ev_mY0 hk, ev_mY1 hk, ev_mC hk, ← Rat.intCast_sub]
    congr 1
    omega
  · rw [dot_CX, hv]
  · rw [dot_YB, hv]
theorem box_moved {v : RQ} {Y : List RQ} {k : Nat} {t : Rat} (h0 : 0 < n) (hn : n ≤ 6) (hk : k < n) (ht : t ≠ 0) (e0 : ev Y (2 * k) = ev (mY c n) (2 * k) + t) (e1 : ev Y (2 * k + 1) = ev (mY c n) (2 * k + 1)) : holdsV n (mA n n) (mB b n) (mC c n) 1 v (mX c b n) Y [] = false := by
  rw [Bool.eq_false_iff]
  intro h
  obtain ⟨_, h⟩ := holds_iff.1 h
  rcases h with ⟨_, h⟩ | ⟨h, _⟩ | ⟨h, _⟩
  · obtain ⟨h1, h2, h3, h4, h5, h6⟩ := opt_iff.1 h
    rw [Int.toNat_natCast] at h4
    have := (same_ev h4).2 k (by rw [show (leftV Y (mA n n) n).length = n from lefP_len]; exact hk)
    rw [left_box hk, e0, e1, ev_mY0 hk, ev_mY1 hk, ev_mC hk] at this
    have e : ((max (c k) 0 : Int) : Rat) - ((max (- c k) 0 : Int) : Rat) = ((c k : Int) : Rat) := by
      rw [← Rat.intCast_sub]
      congr 1
      omega
    generalize ((max (c k) 0 : Int) : Rat) = a1 at *
    generalize ((max (- c k) 0 : Int) : Rat) = a2 at *
    exact ht (by grind)
  · cases h
  · cases h
theorem box_off {v : RQ} {t : Rat} (ht : t ≠ 0) (hv : vq v = mV c b n + t) : holdsV n (mA n n) (mB b n) (mC c n) 1 v (mX c b n) (mY c n) [] = false := by
  rw [Bool.eq_false_iff]
  intro h
  obtain ⟨_, h⟩ := holds_iff.1 h
  rcases h with ⟨_, h⟩ | ⟨h, _⟩ | ⟨h, _⟩
  · obtain ⟨h1, h2, h3, h4, h5, h6⟩ := opt_iff.1 h
    rw [dot_CX, hv] at h5
    exact ht (by grind)
  · cases h
  · cases h
end
end Go.Abs
