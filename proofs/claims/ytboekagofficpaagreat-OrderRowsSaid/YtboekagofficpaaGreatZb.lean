/- Joined: Z6, Z8, Z9, Z10, Z11. -/
import Derived.Test.YtboekagofficpaaGreatZa
/- Shifts of limbs. -/
set_option linter.unusedVariables false
set_option linter.unusedSimpArgs false
set_option linter.unusedVariables false
namespace Go.Abs

def shiftL (p : Int) : List Int → Int → List Int
  | [], c => [c]
  | x :: l, c => ((c + x * p) % 4294967296) :: shiftL p l ((c + x * p) / 4294967296)
theorem shiftL_val (p : Int) : ∀ (l : List Int) (c : Int), val (shiftL p l c) = val l * p + c
  | [], c => by simp [shiftL, val]
  | x :: l, c => by
    simp only [shiftL, val]
    rw [shiftL_val p l, Int.add_mul, Int.mul_assoc]
    generalize val l * p = q
    generalize x * p = r
    omega
theorem shiftL_len (p : Int) : ∀ (l : List Int) (c : Int), (shiftL p l c).length = l.length + 1
  | [], c => rfl
  | x :: l, c => by simp [shiftL, shiftL_len p l]
theorem shift_step {p c x : Int} (hp : 0 < p ∧ p ≤ 4294967296) (hc : 0 ≤ c ∧ c < p) (hx : 0 ≤ x ∧ x < 4294967296) : 0 ≤ x * p ∧ c + x * p < 4294967296 * p ∧ 0 ≤ (c + x * p) / 4294967296 ∧ (c + x * p) / 4294967296 < p := by
  have h1 : 0 ≤ x * p := Int.mul_nonneg hx.1 (by omega)
  have h2 : x * p ≤ 4294967295 * p := Int.mul_le_mul_of_nonneg_right (by omega) (by omega)
  omega
theorem shiftL_lim {p : Int} (hp : 0 < p ∧ p ≤ 4294967296) : ∀ (l : List Int) (c : Int), Lim l → 0 ≤ c ∧ c < p → Lim (shiftL p l c)
  | [], c, _, hc => Lim.cons (by omega) Lim.nil
  | x :: l, c, h, hc => by
    have := shift_step hp hc h.head
    exact Lim.cons (by omega) (shiftL_lim hp l _ h.tail (by omega))

def backL (p : Int) : List Int → List Int
  | [] => []
  | x :: l => ((x + l.headD 0 * 4294967296) / p) % 4294967296 :: backL p l
theorem backL_len (p : Int) : ∀ l, (backL p l).length = l.length
  | [] => rfl
  | x :: l => by simp [backL, backL_len p l]
theorem backL_lim (p : Int) : ∀ l, Lim (backL p l)
  | [] => Lim.nil
  | x :: l => Lim.cons (by omega) (backL_lim p l)
/-- One place of it: p divides a limb's range. -/
theorem back_step {p q x h v : Int} (hp : 0 < p) (hq : p * q = 4294967296) (hx : 0 ≤ x ∧ x < 4294967296) (hh : 0 ≤ h ∧ h < 4294967296) (hv : ∃ t, v = h + 4294967296 * t) :
    ((x + h * 4294967296) / p) % 4294967296 + 4294967296 * (v / p) = (x + 4294967296 * v) / p := by
  obtain ⟨t, rfl⟩ := hv
  have hq0 : 0 < q := by
    rcases Int.lt_or_le 0 q with h1 | h1
    · exact h1
    · have := Int.mul_le_mul_of_nonneg_left h1 (Int.le_of_lt hp); omega
  have e1 : (x + h * 4294967296) / p = x / p + q * h := by
    rw [← hq, show x + h * (p * q) = x + p * (q * h) by rw [Int.mul_comm h, Int.mul_assoc], Int.add_mul_ediv_left _ _ (by omega)]
  have e2 : (x + 4294967296 * (h + 4294967296 * t)) / p = x / p + q * (h + 4294967296 * t) := by
    rw [show x + 4294967296 * (h + 4294967296 * t) = x + p * (q * (h + 4294967296 * t)) by rw [← Int.mul_assoc, hq], Int.add_mul_ediv_left _ _ (by omega)]
  have e3 : (h + 4294967296 * t) / p = h / p + q * t := by
    rw [show h + 4294967296 * t = h + p * (q * t) by rw [← Int.mul_assoc, hq], Int.add_mul_ediv_left _ _ (by omega)]
  rw [e1, e2, e3]
  have h1 := Int.mul_ediv_add_emod h p
  have h2 := Int.emod_nonneg h (show p ≠ 0 by omega)
  have h3 := Int.emod_lt_of_pos h hp
  have h4 : 0 ≤ x / p := Int.ediv_nonneg hx.1 (by omega)
  have h5 : x / p < q := by rw [Int.ediv_lt_iff_lt_mul hp, Int.mul_comm, hq]; exact hx.2
  have e4 : q * h = 4294967296 * (h / p) + q * (h % p) := by
    rw [← hq, show p * q * (h / p) = q * (p * (h / p)) by rw [Int.mul_comm p, Int.mul_assoc], ← Int.mul_add, h1]
  have h6 : 0 ≤ q * (h % p) := Int.mul_nonneg (by omega) h2
  have h7 : q * (h % p) ≤ q * (p - 1) := Int.mul_le_mul_of_nonneg_left (by omega) (by omega)
  have e5 : q * (p - 1) = 4294967296 - q := by rw [Int.mul_sub, Int.mul_one, Int.mul_comm q, hq]
  rw [Int.mul_add q, e4]
  generalize q * (h % p) = u at *
  generalize x / p = w at *
  generalize h / p = s at *
  rw [show q * (4294967296 * t) = 4294967296 * (q * t) by rw [Int.mul_left_comm]]
  generalize q * t = z at *
  omega
theorem backL_val {p q : Int} (hp : 0 < p) (hq : p * q = 4294967296) : ∀ l, Lim l → val (backL p l) = val l / p
  | [], _ => by simp [backL, val]
  | x :: l, h => by
    simp only [backL, val]
    rw [backL_val hp hq l h.tail]
    exact back_step hp hq h.head h.tail.headD ⟨val l.tail, by rw [← val_tail]⟩
end Go.Abs

/- Two rows gone through side by side, in place. -/
set_option linter.unusedVariables false
set_option linter.unusedSimpArgs false
set_option linter.unusedVariables false
namespace Go.Abs

def zipL (f : Int → Int → Int → Int × Int) : List Int → List Int → Int → List Int × Int
  | [], _, c => ([], c)
  | x :: u, v, c => ((f x (v.headD 0) c).1 :: (zipL f u v.tail (f x (v.headD 0) c).2).1, (zipL f u v.tail (f x (v.headD 0) c).2).2)
def fTake (g : Int) : Int → Int → Int → Int × Int := fun x y c => ((x - (c + y * g) % 4294967296) % 4294967296, (c + y * g) / 4294967296 + if x < (c + y * g) % 4294967296 then 1 else 0)
def fGive : Int → Int → Int → Int × Int := fun x y c => ((c + x + y) % 4294967296, (c + x + y) / 4294967296)
theorem takeL_zip (g : Int) : ∀ (u v : List Int) (c : Int), takeL g u v c = zipL (fTake g) u v c
  | [], _, _ => rfl
  | x :: u, v, c => by simp only [takeL, zipL, fTake, takeL_zip g u]
theorem giveL_zip : ∀ (u v : List Int) (c : Int), giveL u v c = zipL fGive u v c
  | [], _, _ => rfl
  | x :: u, v, c => by simp only [giveL, zipL, fGive, giveL_zip u]
theorem zipL_len (f : Int → Int → Int → Int × Int) : ∀ (u v : List Int) (c : Int), (zipL f u v c).1.length = u.length
  | [], _, _ => rfl
  | x :: u, v, c => by simp [zipL, zipL_len f u]

structure ZipInv (f : Int → Int → Int → Int × Int) (u v o : List Int) (i m k : Nat) (c : Int) : Prop where
  len : o.length = u.length
  same : o.drop (i + k) = u.drop (i + k)
  eq : o.take (i + k) ++ (zipL f ((u.drop (i + k)).take (m - k)) (v.drop k) c).1 = u.take i ++ (zipL f ((u.drop i).take m) v 0).1
  car : (zipL f ((u.drop (i + k)).take (m - k)) (v.drop k) c).2 = (zipL f ((u.drop i).take m) v 0).2
variable {f : Int → Int → Int → Int × Int} {u v o : List Int} {i m k : Nat} {c : Int}
theorem ZipInv.init : ZipInv f u v u i m 0 0 := ⟨rfl, rfl, rfl, rfl⟩
theorem ZipInv.get (h : ZipInv f u v o i m k c) : o.getD (i + k) 0 = u.getD (i + k) 0 := by
  have := congrArg (fun l => l.headD 0) h.same
  simpa only [headD_drop] using this
theorem ZipInv.step (h : ZipInv f u v o i m k c) (hk : k < m) (hm : i + m ≤ u.length) :
    ZipInv f u v (o.set (i + k) (f (u.getD (i + k) 0) (v.getD k 0) c).1) i m (k + 1) (f (u.getD (i + k) 0) (v.getD k 0) c).2 := by
  have hl := h.len
  have e1 : (u.drop (i + k)).take (m - k) = u.getD (i + k) 0 :: (u.drop (i + (k + 1))).take (m - (k + 1)) := by
    rw [drop_getD (a := u) (k := i + k) (by omega), show m - k = (m - (k + 1)) + 1 by omega, List.take_succ_cons]; rfl
  have he := h.eq
  have hc := h.car
  rw [e1, zipL, headD_drop, tail_drop] at he hc
  refine ⟨by rw [List.length_set]; exact hl, ?_, ?_, hc⟩
  · rw [← Nat.add_assoc, drop_set]
    have := congrArg List.tail h.same
    simpa only [tail_drop] using this
  · rw [← he, ← Nat.add_assoc, take_set (by omega), List.append_assoc]; rfl
theorem ZipInv.done (h : ZipInv f u v o i m m c) (hm : i + m ≤ u.length) : o = u.take i ++ (zipL f ((u.drop i).take m) v 0).1 ++ u.drop (i + m) ∧ c = (zipL f ((u.drop i).take m) v 0).2 := by
  have he := h.eq
  have hc := h.car
  rw [Nat.sub_self, List.take_zero, zipL] at he hc
  rw [List.append_nil] at he
  refine ⟨?_, hc⟩
  rw [← he, ← h.same, List.take_append_drop]
end Go.Abs

/- Dividing limbs by limbs: between two places. -/
set_option linter.unusedVariables false
set_option linter.unusedSimpArgs false
set_option linter.unusedVariables false
namespace Go.Abs

theorem val_cut {l : List Int} {k : Nat} (h : k ≤ l.length) : val l = val (l.take k) + 4294967296 ^ k * val (l.drop k) := by
  have := val_split k l
  rw [Nat.min_eq_left h] at this
  exact this
theorem val_set {l : List Int} {i : Nat} {x : Int} (h : i < l.length) : val (l.set i x) = val l + 4294967296 ^ i * (x - l.getD i 0) := by
  have e1 := val_cut (l := l) (k := i) (by omega)
  have e2 := val_cut (l := l.set i x) (k := i) (by rw [List.length_set]; omega)
  rw [List.take_set_of_le (Nat.le_refl _)] at e2
  have e3 : (l.set i x).drop i = x :: l.drop (i + 1) := by
    rw [drop_getD (by rw [List.length_set]; exact h), drop_set]
    congr 1
    rw [List.getD_eq_getElem?_getD, List.getElem?_set_self h]; rfl
  rw [e3, val] at e2
  rw [drop_getD h, val] at e1
  rw [e1, e2, Int.mul_add, Int.mul_add, Int.mul_sub]
  omega

structure DivInv (U V : Int) (k : Nat) (u q : List Int) (j : Nat) : Prop where
  ulim : Lim u
  qlim : Lim q
  ulen : u.length = q.length + k
  eq : val u + V * val q = U
  lt : val (u.drop j) < V
  zero : ∀ i, i < j → q.getD i 0 = 0
  le : j ≤ q.length

variable {U V : Int} {k j : Nat} {u q v : List Int}

theorem DivInv.rest (h : DivInv U V k u q (j + 1)) (hV : V ≤ 4294967296 ^ k) : val (u.drop (j + 1 + k)) = 0 := by
  have hl := h.ulen
  have hle := h.le
  have e := val_cut (l := u.drop (j + 1)) (k := k) (by rw [List.length_drop]; omega)
  rw [List.drop_drop] at e
  have h1 := val_nonneg ((h.ulim.drop (j + 1)).take k)
  have h2 := val_nonneg (h.ulim.drop (j + 1 + k))
  have h3 := h.lt
  rcases Int.lt_or_le 0 (val (u.drop (j + 1 + k))) with h4 | h4
  · have h5 : (4294967296 : Int) ^ k * 1 ≤ 4294967296 ^ k * val (u.drop (j + 1 + k)) := Int.mul_le_mul_of_nonneg_left h4 (Int.le_of_lt (Int.pow_pos (by decide)))
    omega
  · omega
theorem DivInv.window (h : DivInv U V k u q (j + 1)) (hV : V ≤ 4294967296 ^ k) : val ((u.drop j).take (k + 1)) = val (u.drop j) ∧ ((u.drop j).take (k + 1)).length = k + 1 := by
  have hl := h.ulen
  have hle := h.le
  have hr := h.rest hV
  have e := val_cut (l := u.drop j) (k := k + 1) (by rw [List.length_drop]; omega)
  rw [List.drop_drop, show j + (k + 1) = j + 1 + k by omega, hr, Int.mul_zero, Int.add_zero] at e
  exact ⟨e.symm, by rw [List.length_take, List.length_drop]; omega⟩

/-- The limbs that a guess is made of. -/
theorem DivInv.win (h : DivInv U V k u q (j + 1)) (hk : 2 ≤ k) (hv : val v = V) (hvl : v.length = k) (lv : Lim v) (ht : 2147483648 ≤ v.getD (k - 1) 0) :
    Win V (val (u.drop j)) (4294967296 ^ (k - 2)) (v.getD (k - 1) 0) (v.getD (k - 2) 0) (val (v.take (k - 2))) (u.getD (j + k) 0 * 4294967296 + u.getD (j + k - 1) 0) (u.getD (j + k - 2) 0) (val ((u.drop j).take (k - 2))) := by
  have hl := h.ulen
  have hle := h.le
  have hVk : V ≤ 4294967296 ^ k := by have := val_lt_pow lv; rw [hv, hvl] at this; omega
  have hr := h.rest hVk
  have ev := val_cut (l := v) (k := k - 2) (by omega)
  have dv : v.drop (k - 2) = [v.getD (k - 2) 0, v.getD (k - 1) 0] := by
    rw [drop_getD (by omega), show k - 2 + 1 = k - 1 by omega, drop_getD (a := v) (by omega), List.drop_of_length_le (by omega)]
  rw [dv] at ev
  have eu := val_cut (l := u.drop j) (k := k - 2) (by rw [List.length_drop]; omega)
  have du : val ((u.drop j).drop (k - 2)) = u.getD (j + k - 2) 0 + 4294967296 * (u.getD (j + k - 1) 0 + 4294967296 * u.getD (j + k) 0) := by
    rw [List.drop_drop, show j + (k - 2) = j + k - 2 by omega, drop_getD (a := u) (by omega), show j + k - 2 + 1 = j + k - 1 by omega, drop_getD (a := u) (k := j + k - 1) (by omega), show j + k - 1 + 1 = j + k by omega, drop_getD (a := u) (k := j + k) (by omega)]
    simp only [val]
    rw [show j + k + 1 = j + 1 + k by omega, hr]
    omega
  rw [du] at eu
  have hu0 := h.ulim.getD (j + k)
  have hu1 := h.ulim.getD (j + k - 1)
  have htk1 : (v.take (k - 2)).length = k - 2 := by rw [List.length_take]; omega
  have htk2 : ((u.drop j).take (k - 2)).length = k - 2 := by rw [List.length_take, List.length_drop]; omega
  refine ⟨?_, ?_, Int.pow_pos (by decide), ?_, ?_, ⟨ht, (lv.getD _).2⟩, lv.getD _, h.ulim.getD _, by omega, ?_⟩
  · rw [← hv, ev]
    simp only [val]
    rw [Int.mul_zero, Int.add_zero, Int.mul_comm (4294967296 ^ (k - 2)), show v.getD (k - 2) 0 + 4294967296 * v.getD (k - 1) 0 = v.getD (k - 1) 0 * 4294967296 + v.getD (k - 2) 0 by omega]
    omega
  · rw [eu, Int.mul_comm (4294967296 ^ (k - 2)), show u.getD (j + k - 2) 0 + 4294967296 * (u.getD (j + k - 1) 0 + 4294967296 * u.getD (j + k) 0) = (u.getD (j + k) 0 * 4294967296 + u.getD (j + k - 1) 0) * 4294967296 + u.getD (j + k - 2) 0 by omega]
    omega
  · have := val_lt_pow (lv.take (k - 2))
    rw [htk1] at this
    exact ⟨val_nonneg (lv.take _), this⟩
  · have := val_lt_pow ((h.ulim.drop j).take (k - 2))
    rw [htk2] at this
    exact ⟨val_nonneg ((h.ulim.drop j).take _), this⟩
  · rw [val_drop_succ]
    have h1 := h.lt
    have h2 := h.ulim.getD j
    omega

/-- A place is done. -/
theorem DivInv.put (h : DivInv U V k u q (j + 1)) (hV : V ≤ 4294967296 ^ k) {o : List Int} {d : Int} (lo : Lim o) (ol : o.length = k + 1) (ho : val o = val (u.drop j) - d * V) (hlt : val o < V) (hd : 0 ≤ d ∧ d < 4294967296) :
    DivInv U V k (u.take j ++ o ++ u.drop (j + (k + 1))) (q.set j d) j := by
  have hl := h.ulen
  have hle := h.le
  have hr := h.rest hV
  have hz := h.zero j (by omega)
  have htj : (u.take j).length = j := by rw [List.length_take]; omega
  have hd1 : (u.take j ++ o ++ u.drop (j + (k + 1))).drop j = o ++ u.drop (j + (k + 1)) := by
    rw [List.append_assoc, List.drop_append, htj, List.drop_of_length_le (by omega), Nat.sub_self]; rfl
  have hvd : val ((u.take j ++ o ++ u.drop (j + (k + 1))).drop j) = val o := by
    rw [hd1, val_append, show j + (k + 1) = j + 1 + k by omega, hr, Int.mul_zero, Int.add_zero]
  have e1 := val_cut (l := u) (k := j) (by omega)
  have e2 := val_cut (l := u.take j ++ o ++ u.drop (j + (k + 1))) (k := j) (by simp only [List.length_append, htj]; omega)
  have ht2 : (u.take j ++ o ++ u.drop (j + (k + 1))).take j = u.take j := by
    rw [List.append_assoc, List.take_append, htj, List.take_of_length_le (by omega), Nat.sub_self, List.take_zero, List.append_nil]
  rw [hvd, ht2] at e2
  refine ⟨((h.ulim.take j).append lo).append (h.ulim.drop _), h.qlim.set _ hd, ?_, ?_, ?_, ?_, ?_⟩
  · simp only [List.length_append, List.length_set, htj, List.length_drop]; omega
  · rw [val_set (by omega), hz, Int.sub_zero, e2, ho, ← h.eq, e1, Int.mul_sub, Int.mul_add, Int.mul_left_comm V, Int.mul_comm V d]
    omega
  · rw [hvd]; exact hlt
  · intro i hi
    rw [List.getD_eq_getElem?_getD, List.getElem?_set_ne (by omega), ← List.getD_eq_getElem?_getD]
    exact h.zero i (by omega)
  · rw [List.length_set]; omega

theorem DivInv.done (h : DivInv U V k u q 0) (hV : 0 < V) : val q = U / V ∧ val u = U % V := by
  have e := h.eq
  have h1 := h.lt
  rw [List.drop_zero] at h1
  have h2 := val_nonneg h.ulim
  rw [← e]
  refine ⟨?_, ?_⟩
  · rw [Int.add_mul_ediv_left _ _ (by omega), Int.ediv_eq_zero_of_lt h2 h1]; omega
  · rw [Int.add_mul_emod_self_left, Int.emod_eq_of_lt h2 h1]
theorem DivInv.init {a : List Int} {p : Int} (hp : 0 < p ∧ p ≤ 2147483648) (la : Lim a) (hv : val v = V) (hvl : v.length = k) (lv : Lim v) (hk : 2 ≤ k) (ht : 2147483648 ≤ v.getD (k - 1) 0) (hl : k ≤ a.length) (lu : Lim u) (hu : val u = val a * p) (hul : u.length = a.length + 1) :
    DivInv (val a * p) V k u (List.replicate (u.length - k) 0) (u.length - k) := by
  have hz : ∀ n, val (List.replicate n 0) = 0 := by
    intro n
    induction n with
    | zero => rfl
    | succ n ih => simp [List.replicate_succ, val, ih]
  refine ⟨lu, fun x hx => by rw [List.eq_of_mem_replicate hx]; omega, by rw [List.length_replicate]; omega, by rw [hz, Int.mul_zero, Int.add_zero, hu], ?_, ?_, by rw [List.length_replicate]; exact Nat.le_refl _⟩
  · -- the top limbs are less
    have e := val_cut (l := u) (k := u.length - k) (by omega)
    have h1 := val_nonneg (lu.take (u.length - k))
    have h2 := val_lt_pow la
    have h3 : val a * p < 4294967296 ^ a.length * p := Int.mul_lt_mul_of_pos_right h2 hp.1
    have h4 : (4294967296 : Int) ^ a.length * p ≤ 4294967296 ^ a.length * 2147483648 := Int.mul_le_mul_of_nonneg_left hp.2 (Int.le_of_lt (Int.pow_pos (by decide)))
    have h5 : (4294967296 : Int) ^ a.length = 4294967296 ^ (u.length - k) * 4294967296 ^ (k - 1) := by rw [← Int.pow_add]; congr 1; omega
    have ev := val_cut (l := v) (k := k - 1) (by omega)
    have dv : v.drop (k - 1) = [v.getD (k - 1) 0] := by
      rw [drop_getD (by omega), List.drop_of_length_le (by omega)]
    rw [dv, val_one] at ev
    have h6 := val_nonneg (lv.take (k - 1))
    have h7 : (4294967296 : Int) ^ (k - 1) * 2147483648 ≤ 4294967296 ^ (k - 1) * v.getD (k - 1) 0 := Int.mul_le_mul_of_nonneg_left ht (Int.le_of_lt (Int.pow_pos (by decide)))
    have h8 : (4294967296 : Int) ^ (k - 1) * 2147483648 ≤ V := by omega
    have h9 : (4294967296 : Int) ^ (u.length - k) * (4294967296 ^ (k - 1) * 2147483648) ≤ 4294967296 ^ (u.length - k) * V := Int.mul_le_mul_of_nonneg_left h8 (Int.le_of_lt (Int.pow_pos (by decide)))
    have h10 : (4294967296 : Int) ^ (u.length - k) * val (u.drop (u.length - k)) < 4294967296 ^ (u.length - k) * V := by
      have h34 := Int.lt_of_lt_of_le h3 h4
      rw [h5, Int.mul_assoc] at h34
      omega
    exact Int.lt_of_mul_lt_mul_left h10 (Int.le_of_lt (Int.pow_pos (by decide)))
  · intro i _
    rw [List.getD_eq_getElem?_getD, List.getElem?_replicate]; split <;> rfl
end Go.Abs

/- Shifting up till the uppermost bit is one. -/
set_option linter.unusedVariables false
set_option linter.unusedSimpArgs false
set_option linter.unusedVariables false
namespace Go.Abs

/-- What is shifted fits where it lay; its uppermost limb has its uppermost bit. -/
theorem norm_top {b v : List Int} {p q : Int} {k : Nat} (lb : Lim b) (lv : Lim v) (hk : b.length = k) (hk1 : 1 ≤ k) (hp : 0 < p) (hq : p * q = 4294967296) (hv : val v = val b * p) (hvl : v.length = k + 1) (h1 : 2147483648 ≤ b.getD (k - 1) 0 * p) (h2 : b.getD (k - 1) 0 * p < 4294967296) :
    val (v.take k) = val b * p ∧ 2147483648 ≤ (v.take k).getD (k - 1) 0 ∧ (v.take k).length = k := by
  have hpk : (0 : Int) < 4294967296 ^ (k - 1) := Int.pow_pos (by decide)
  have eb := val_cut (l := b) (k := k - 1) (by omega)
  have db : b.drop (k - 1) = [b.getD (k - 1) 0] := by rw [drop_getD (by omega), List.drop_of_length_le (by omega)]
  rw [db, val_one] at eb
  have hb1 := val_lt_pow (lb.take (k - 1))
  have hb0 := val_nonneg (lb.take (k - 1))
  rw [show (b.take (k - 1)).length = k - 1 by rw [List.length_take]; omega] at hb1
  generalize hT : b.getD (k - 1) 0 = T at *
  -- (T + 1) * p is at most a limb's range
  have hTq : T < q := by
    have : T * p < q * p := by rw [Int.mul_comm q, hq]; exact h2
    exact Int.lt_of_mul_lt_mul_right this (Int.le_of_lt hp)
  have h3 : (T + 1) * p ≤ 4294967296 := by
    have := Int.mul_le_mul_of_nonneg_right (show T + 1 ≤ q by omega) (Int.le_of_lt hp)
    rw [Int.mul_comm q, hq] at this
    exact this
  have hpow : (4294967296 : Int) ^ k = 4294967296 ^ (k - 1) * 4294967296 := by rw [← Int.pow_succ]; congr 1; omega
  have h4 : val b * p < 4294967296 ^ k := by
    have a1 : val b < 4294967296 ^ (k - 1) * (T + 1) := by rw [Int.mul_add, Int.mul_one]; omega
    have a2 := Int.mul_lt_mul_of_pos_right a1 hp
    have a3 := Int.mul_le_mul_of_nonneg_left h3 (Int.le_of_lt hpk)
    rw [Int.mul_assoc] at a2
    rw [hpow]
    omega
  have ev := val_cut (l := v) (k := k) (by omega)
  have dv : v.drop k = [v.getD k 0] := by rw [drop_getD (by omega), List.drop_of_length_le (by omega)]
  rw [dv, val_one] at ev
  have hv0 := val_nonneg (lv.take k)
  have hvk := lv.getD k
  have hz : v.getD k 0 = 0 := by
    rcases Int.lt_or_le 0 (v.getD k 0) with h | h
    · have a1 : (4294967296 : Int) ^ k * 1 ≤ 4294967296 ^ k * v.getD k 0 := Int.mul_le_mul_of_nonneg_left h (Int.le_of_lt (Int.pow_pos (by decide)))
      omega
    · omega
  rw [hz, Int.mul_zero, Int.add_zero] at ev
  have hlen : (v.take k).length = k := by rw [List.length_take]; omega
  refine ⟨by rw [← ev, hv], ?_, hlen⟩
  have et := val_cut (l := v.take k) (k := k - 1) (by omega)
  have dt : (v.take k).drop (k - 1) = [(v.take k).getD (k - 1) 0] := by rw [drop_getD (by omega), List.drop_of_length_le (by omega)]
  rw [dt, val_one] at et
  have ht1 := val_lt_pow ((lv.take k).take (k - 1))
  rw [show ((v.take k).take (k - 1)).length = k - 1 by rw [List.length_take]; omega] at ht1
  rcases Int.lt_or_le ((v.take k).getD (k - 1) 0) 2147483648 with h | h
  · exfalso
    have a1 : 4294967296 ^ (k - 1) * ((v.take k).getD (k - 1) 0 + 1) ≤ 4294967296 ^ (k - 1) * 2147483648 := Int.mul_le_mul_of_nonneg_left h (Int.le_of_lt hpk)
    have a2 : 4294967296 ^ (k - 1) * 2147483648 ≤ 4294967296 ^ (k - 1) * (T * p) := Int.mul_le_mul_of_nonneg_left h1 (Int.le_of_lt hpk)
    have a3 : 4294967296 ^ (k - 1) * T * p ≤ val b * p := Int.mul_le_mul_of_nonneg_right (by omega) (Int.le_of_lt hp)
    rw [Int.mul_assoc] at a3
    rw [Int.mul_add, Int.mul_one] at a1
    omega
  · exact h
end Go.Abs

/- Dividing bit by bit. -/
set_option linter.unusedVariables false
set_option linter.unusedSimpArgs false
set_option linter.unusedVariables false
namespace Go.Abs

/-- Between two bits: what is gone through, what came out, what is left. kk bits of limb i are still to go. -/
structure BitInv (a q : List Int) (V : Int) (i kk : Nat) (t r : Int) : Prop where
  qlim : Lim q
  qlen : q.length = a.length
  eq : val (a.drop (i + 1)) * 2 ^ (32 - kk) + a.getD i 0 / 2 ^ kk = (val (q.drop (i + 1)) * 2 ^ (32 - kk) + t) * V + r
  rb : 0 ≤ r ∧ r < V
  tb : 0 ≤ t ∧ t < 2 ^ (32 - kk)
  qi : q.getD i 0 = t * 2 ^ kk
  zero : ∀ j, j < i → q.getD j 0 = 0

variable {a q : List Int} {V : Int} {i k : Nat} {t r : Int}
theorem pow2_pos (n : Nat) : (0 : Int) < 2 ^ n := Int.pow_pos (by decide)
theorem div_bit (x : Int) (k : Nat) : x / 2 ^ k = 2 * (x / 2 ^ (k + 1)) + x / 2 ^ k % 2 := by
  have h : x / 2 ^ (k + 1) = x / 2 ^ k / 2 := by rw [Int.pow_succ, Int.ediv_ediv_of_nonneg (Int.le_of_lt (pow2_pos k))]
  rw [h]; omega
/-- A bit more: the remainder doubled, and the bit; less V, if that goes. -/
theorem BitInv.bit (h : BitInv a q V i (k + 1) t r) (hk : k < 32) (hi : i < a.length) {b : Int} (hb : b = a.getD i 0 / 2 ^ k % 2) {s : Int} (hs : s = 0 ∨ s = 1) (hr : 0 ≤ 2 * r + b - s * V ∧ 2 * r + b - s * V < V) :
    BitInv a (q.set i ((2 * t + s) * 2 ^ k)) V i k (2 * t + s) (2 * r + b - s * V) := by
  have hp : (2 : Int) ^ (32 - k) = 2 ^ (32 - (k + 1)) * 2 := by rw [← Int.pow_succ]; congr 1; omega
  have hpk : (2 : Int) ^ (k + 1) = 2 ^ k * 2 := Int.pow_succ 2 k
  have hql := h.qlen
  have htb := h.tb
  have hd : (q.set i ((2 * t + s) * 2 ^ k)).drop (i + 1) = q.drop (i + 1) := drop_set
  have htb2 : 0 ≤ 2 * t + s ∧ 2 * t + s < 2 ^ (32 - k) := by rw [hp]; omega
  have hlim : 0 ≤ (2 * t + s) * 2 ^ k ∧ (2 * t + s) * 2 ^ k < 4294967296 := by
    refine ⟨Int.mul_nonneg htb2.1 (Int.le_of_lt (pow2_pos k)), ?_⟩
    have := Int.mul_lt_mul_of_pos_right htb2.2 (pow2_pos k)
    rw [← Int.pow_add, show 32 - k + k = 32 by omega] at this
    exact this
  refine ⟨h.qlim.set _ hlim, by rw [List.length_set]; exact hql, ?_, hr, htb2, ?_, ?_⟩
  · have e := h.eq
    rw [hd, div_bit (a.getD i 0) k, ← hb, hp]
    have e2 : (val (q.drop (i + 1)) * (2 ^ (32 - (k + 1)) * 2) + (2 * t + s)) * V = 2 * ((val (q.drop (i + 1)) * 2 ^ (32 - (k + 1)) + t) * V) + s * V := by
      rw [← Int.mul_assoc, Int.add_mul, Int.add_mul, Int.add_mul, Int.mul_add]
      rw [show val (q.drop (i + 1)) * 2 ^ (32 - (k + 1)) * 2 * V = 2 * (val (q.drop (i + 1)) * 2 ^ (32 - (k + 1)) * V) by rw [Int.mul_comm _ 2, Int.mul_assoc]]
      rw [Int.mul_assoc 2 t V]
      omega
    rw [e2, ← Int.mul_assoc]
    omega
  · rw [List.getD_eq_getElem?_getD, List.getElem?_set_self (by omega)]; rfl
  · intro j hj
    rw [List.getD_eq_getElem?_getD, List.getElem?_set_ne (by omega), ← List.getD_eq_getElem?_getD]
    exact h.zero j hj
/-- The next limb beneath. -/
theorem BitInv.next (h : BitInv a q V (i + 1) 0 t r) (hi : i + 1 < a.length) (la : Lim a) : BitInv a q V i 32 0 r := by
  have hql := h.qlen
  have e := h.eq
  have hqi := h.qi
  rw [Int.pow_zero, Int.mul_one] at hqi
  rw [Int.pow_zero, Int.ediv_one, Nat.sub_zero, ← hqi] at e
  have h1 := val_drop_succ (a := a) (k := i + 1)
  have h2 := val_drop_succ (a := q) (k := i + 1)
  have hp : (2 : Int) ^ 32 = 4294967296 := by decide
  rw [hp] at e
  have hai := la.getD i
  refine ⟨h.qlim, hql, ?_, h.rb, by decide, by rw [Int.zero_mul]; exact h.zero i (by omega), fun j hj => h.zero j (by omega)⟩
  rw [Nat.sub_self, Int.pow_zero, Int.mul_one, Int.mul_one, hp, Int.ediv_eq_zero_of_lt hai.1 hai.2, h1, h2]
  rw [show val (a.drop (i + 1 + 1)) * 4294967296 = 4294967296 * val (a.drop (i + 1 + 1)) by omega, show val (q.drop (i + 1 + 1)) * 4294967296 = 4294967296 * val (q.drop (i + 1 + 1)) by omega] at e
  rw [show q.getD (i + 1) 0 + 4294967296 * val (q.drop (i + 1 + 1)) + 0 = 4294967296 * val (q.drop (i + 1 + 1)) + q.getD (i + 1) 0 by omega]
  omega
theorem BitInv.done (h : BitInv a q V 0 0 t r) : val q = val a / V ∧ r = val a % V := by
  have e := h.eq
  have hqi := h.qi
  rw [Int.pow_zero, Int.mul_one] at hqi
  rw [Int.pow_zero, Int.ediv_one, Nat.sub_zero, ← hqi] at e
  have h1 := val_drop_succ (a := a) (k := 0)
  have h2 := val_drop_succ (a := q) (k := 0)
  rw [List.drop_zero] at h1 h2
  have hp : (2 : Int) ^ 32 = 4294967296 := by decide
  rw [hp] at e
  have e2 : val a = val q * V + r := by
    rw [h1, h2, show q.getD 0 0 + 4294967296 * val (q.drop (0 + 1)) = val (q.drop (0 + 1)) * 4294967296 + q.getD 0 0 by omega]
    omega
  have hr := h.rb
  rw [e2]
  refine ⟨?_, ?_⟩
  · rw [Int.add_comm, Int.add_mul_ediv_right _ _ (by omega), Int.ediv_eq_zero_of_lt hr.1 hr.2]; omega
  · rw [Int.add_comm, Int.add_mul_emod_self_right, Int.emod_eq_of_lt hr.1 hr.2]
end Go.Abs
