/- Joined: Z6, Z8, Z9, Z10, Z11. -/
import Derived.Test.YtfadclnaahanmaaZa
/- Shifts of limbs. -/
set_option linter.unusedVariables false
set_option linter.unusedSimpArgs false
set_option linter.unusedVariables false
namespace Go.Abs

def shiftL (p : Int) : List Int → Int → List Int
  | [], c => [c]
  | x :: l, c => ((c + x * p) % 4294967296) :: shiftL p l ((c + x * p) / 4294967296)
def backL (p : Int) : List Int → List Int
  | [] => []
  | x :: l => ((x + l.headD 0 * 4294967296) / p) % 4294967296 :: backL p l
end Go.Abs

/- Two rows gone through side by side, in place. -/
set_option linter.unusedVariables false
set_option linter.unusedSimpArgs false
set_option linter.unusedVariables false
namespace Go.Abs

def zipL (f : Int → Int → Int → Int × Int) : List Int → List Int → Int → List Int × Int
  | [], _, c => ([], c)
  | x :: u, v, c => ((f x (v.headD 0) c).1 :: (zipL f u v.tail (f x (v.headD 0) c).2).1, (zipL f u v.tail (f x (v.headD 0) c).2).2)
def fTake (g : Int) : Int → Int → Int → Int × Int := fun x y c => ((x - (c + y * g) % 4294967296) % 4294967296, (c + y * g) / 4294967296 + if x < (c + y * g) % 4294967296 then 1 else 0)
def fGive : Int → Int → Int → Int × Int := fun x y c => ((c + x + y) % 4294967296, (c + x + y) / 4294967296)
structure ZipInv (f : Int → Int → Int → Int × Int) (u v o : List Int) (i m k : Nat) (c : Int) : Prop where
  len : o.length = u.length
  same : o.drop (i + k) = u.drop (i + k)
  eq : o.take (i + k) ++ (zipL f ((u.drop (i + k)).take (m - k)) (v.drop k) c).1 = u.take i ++ (zipL f ((u.drop i).take m) v 0).1
  car : (zipL f ((u.drop (i + k)).take (m - k)) (v.drop k) c).2 = (zipL f ((u.drop i).take m) v 0).2
variable {f : Int → Int → Int → Int × Int} {u v o : List Int} {i m k : Nat} {c : Int}
theorem ZipInv.init : ZipInv f u v u i m 0 0 := ⟨rfl, rfl, rfl, rfl⟩
theorem ZipInv.get (h : ZipInv f u v o i m k c) : o.getD (i + k) 0 = u.getD (i + k) 0 := by
  have := congrArg (fun l => l.headD 0) h.same
  simpa only [headD_drop] using this
theorem ZipInv.step (h : ZipInv f u v o i m k c) (hk : k < m) (hm : i + m ≤ u.length) :
    ZipInv f u v (o.set (i + k) (f (u.getD (i + k) 0) (v.getD k 0) c).1) i m (k + 1) (f (u.getD (i + k) 0) (v.getD k 0) c).2 := by
  have hl := h.len
  have e1 : (u.drop (i + k)).take (m - k) = u.getD (i + k) 0 :: (u.drop (i + (k + 1))).take (m - (k + 1)) := by
    rw [drop_getD (a := u) (k := i + k) (by omega), show m - k = (m - (k + 1)) + 1 by omega, List.take_succ_cons]; rfl
  have he := h.eq
  have hc := h.car
  rw [e1, zipL, headD_drop, tail_drop] at he hc
  refine ⟨by rw [List.length_set]; exact hl, ?_, ?_, hc⟩
  · rw [← Nat.add_assoc, drop_set]
    have := congrArg List.tail h.same
    simpa only [tail_drop] using this
  · rw [← he, ← Nat.add_assoc, take_set (by omega), List.append_assoc]; rfl
theorem ZipInv.done (h : ZipInv f u v o i m m c) (hm : i + m ≤ u.length) : o = u.take i ++ (zipL f ((u.drop i).take m) v 0).1 ++ u.drop (i + m) ∧ c = (zipL f ((u.drop i).take m) v 0).2 := by
  have he := h.eq
  have hc := h.car
  rw [Nat.sub_self, List.take_zero, zipL] at he hc
  rw [List.append_nil] at he
  refine ⟨?_, hc⟩
  rw [← he, ← h.same, List.take_append_drop]
end Go.Abs

/- Dividing limbs by limbs: between two places. -/
set_option linter.unusedVariables false
set_option linter.unusedSimpArgs false
set_option linter.unusedVariables false
namespace Go.Abs

theorem val_cut {l : List Int} {k : Nat} (h : k ≤ l.length) : val l = val (l.take k) + 4294967296 ^ k * val (l.drop k) := by
  have := val_split k l
  rw [Nat.min_eq_left h] at this
  exact this
theorem val_set {l : List Int} {i : Nat} {x : Int} (h : i < l.length) : val (l.set i x) = val l + 4294967296 ^ i * (x - l.getD i 0) := by
  have e1 := val_cut (l := l) (k := i) (by omega)
  have e2 := val_cut (l := l.set i x) (k := i) (by rw [List.length_set]; omega)
  rw [List.take_set_of_le (Nat.le_refl _)] at e2
  have e3 : (l.set i x).drop i = x :: l.drop (i + 1) := by
    rw [drop_getD (by rw [List.length_set]; exact h), drop_set]
    congr 1
    rw [List.getD_eq_getElem?_getD, List.getElem?_set_self h]; rfl
  rw [e3, val] at e2
  rw [drop_getD h, val] at e1
  rw [e1, e2, Int.mul_add, Int.mul_add, Int.mul_sub]
  omega

structure DivInv (U V : Int) (k : Nat) (u q : List Int) (j : Nat) : Prop where
  ulim : Lim u
  qlim : Lim q
  ulen : u.length = q.length + k
  eq : val u + V * val q = U
  lt : val (u.drop j) < V
  zero : ∀ i, i < j → q.getD i 0 = 0
  le : j ≤ q.length

variable {U V : Int} {k j : Nat} {u q v : List Int}

theorem DivInv.rest (h : DivInv U V k u q (j + 1)) (hV : V ≤ 4294967296 ^ k) : val (u.drop (j + 1 + k)) = 0 := by
  have hl := h.ulen
  have hle := h.le
  have e := val_cut (l := u.drop (j + 1)) (k := k) (by rw [List.length_drop]; omega)
  rw [List.drop_drop] at e
  have h1 := val_nonneg ((h.ulim.drop (j + 1)).take k)
  have h2 := val_nonneg (h.ulim.drop (j + 1 + k))
  have h3 := h.lt
  rcases Int.lt_or_le 0 (val (u.drop (j + 1 + k))) with h4 | h4
  · have h5 : (4294967296 : Int) ^ k * 1 ≤ 4294967296 ^ k * val (u.drop (j + 1 + k)) := Int.mul_le_mul_of_nonneg_left h4 (Int.le_of_lt (Int.pow_pos (by decide)))
    omega
  · omega
theorem DivInv.put (h : DivInv U V k u q (j + 1)) (hV : V ≤ 4294967296 ^ k) {o : List Int} {d : Int} (lo : Lim o) (ol : o.length = k + 1) (ho : val o = val (u.drop j) - d * V) (hlt : val o < V) (hd : 0 ≤ d ∧ d < 4294967296) :
    DivInv U V k (u.take j ++ o ++ u.drop (j + (k + 1))) (q.set j d) j := by
  have hl := h.ulen
  have hle := h.le
  have hr := h.rest hV
  have hz := h.zero j (by omega)
  have htj : (u.take j).length = j := by rw [List.length_take]; omega
  have hd1 : (u.take j ++ o ++ u.drop (j + (k + 1))).drop j = o ++ u.drop (j + (k + 1)) := by
    rw [List.append_assoc, List.drop_append, htj, List.drop_of_length_le (by omega), Nat.sub_self]; rfl
  have hvd : val ((u.take j ++ o ++ u.drop (j + (k + 1))).drop j) = val o := by
    rw [hd1, val_append, show j + (k + 1) = j + 1 + k by omega, hr, Int.mul_zero, Int.add_zero]
  have e1 := val_cut (l := u) (k := j) (by omega)
  have e2 := val_cut (l := u.take j ++ o ++ u.drop (j + (k + 1))) (k := j) (by simp only [List.length_append, htj]; omega)
  have ht2 : (u.take j ++ o ++ u.drop (j + (k + 1))).take j = u.take j := by
    rw [List.append_assoc, List.take_append, htj, List.take_of_length_le (by omega), Nat.sub_self, List.take_zero, List.append_nil]
  rw [hvd, ht2] at e2
  refine ⟨((h.ulim.take j).append lo).append (h.ulim.drop _), h.qlim.set _ hd, ?_, ?_, ?_, ?_, ?_⟩
  · simp only [List.length_append, List.length_set, htj, List.length_drop]; omega
  · rw [val_set (by omega), hz, Int.sub_zero, e2, ho, ← h.eq, e1, Int.mul_sub, Int.mul_add, Int.mul_left_comm V, Int.mul_comm V d]
    omega
  · rw [hvd]; exact hlt
  · intro i hi
    rw [List.getD_eq_getElem?_getD, List.getElem?_set_ne (by omega), ← List.getD_eq_getElem?_getD]
    exact h.zero i (by omega)
  · rw [List.length_set]; omega

theorem DivInv.done (h : DivInv U V k u q 0) (hV : 0 < V) : val q = U / V ∧ val u = U % V := by
  have e := h.eq
  have h1 := h.lt
  rw [List.drop_zero] at h1
  have h2 := val_nonneg h.ulim
  rw [← e]
  refine ⟨?_, ?_⟩
  · rw [Int.add_mul_ediv_left _ _ (by omega), Int.ediv_eq_zero_of_lt h2 h1]; omega
  · rw [Int.add_mul_emod_self_left, Int.emod_eq_of_lt h2 h1]
theorem DivInv.init {a : List Int} {p : Int} (hp : 0 < p ∧ p ≤ 2147483648) (la : Lim a) (hv : val v = V) (hvl : v.length = k) (lv : Lim v) (hk : 2 ≤ k) (ht : 2147483648 ≤ v.getD (k - 1) 0) (hl : k ≤ a.length) (lu : Lim u) (hu : val u = val a * p) (hul : u.length = a.length + 1) :
    DivInv (val a * p) V k u (List.replicate (u.length - k) 0) (u.length - k) := by
  have hz : ∀ n, val (List.replicate n 0) = 0 := by
    intro n
    induction n with
    | zero => rfl
    | succ n ih => simp [List.replicate_succ, val, ih]
  refine ⟨lu, fun x hx => by rw [List.eq_of_mem_replicate hx]; omega, by rw [List.length_replicate]; omega, by rw [hz, Int.mul_zero, Int.add_zero, hu], ?_, ?_, by rw [List.length_replicate]; exact Nat.le_refl _⟩
  · -- the top limbs are less
    have e := val_cut (l := u) (k := u.length - k) (by omega)
    have h1 := val_nonneg (lu.take (u.length - k))
    have h2 := val_lt_pow la
    have h3 : val a * p < 4294967296 ^ a.length * p := Int.mul_lt_mul_of_pos_right h2 hp.1
    have h4 : (4294967296 : Int) ^ a.length * p ≤ 4294967296 ^ a.length * 2147483648 := Int.mul_le_mul_of_nonneg_left hp.2 (Int.le_of_lt (Int.pow_pos (by decide)))
    have h5 : (4294967296 : Int) ^ a.length = 4294967296 ^ (u.length - k) * 4294967296 ^ (k - 1) := by rw [← Int.pow_add]; congr 1; omega
    have ev := val_cut (l := v) (k := k - 1) (by omega)
    have dv : v.drop (k - 1) = [v.getD (k - 1) 0] := by
      rw [drop_getD (by omega), List.drop_of_length_le (by omega)]
    rw [dv, val_one] at ev
    have h6 := val_nonneg (lv.take (k - 1))
    have h7 : (4294967296 : Int) ^ (k - 1) * 2147483648 ≤ 4294967296 ^ (k - 1) * v.getD (k - 1) 0 := Int.mul_le_mul_of_nonneg_left ht (Int.le_of_lt (Int.pow_pos (by decide)))
    have h8 : (4294967296 : Int) ^ (k - 1) * 2147483648 ≤ V := by omega
    have h9 : (4294967296 : Int) ^ (u.length - k) * (4294967296 ^ (k - 1) * 2147483648) ≤ 4294967296 ^ (u.length - k) * V := Int.mul_le_mul_of_nonneg_left h8 (Int.le_of_lt (Int.pow_pos (by decide)))
    have h10 : (4294967296 : Int) ^ (u.length - k) * val (u.drop (u.length - k)) < 4294967296 ^ (u.length - k) * V := by
      have h34 := Int.lt_of_lt_of_le h3 h4
      rw [h5, Int.mul_assoc] at h34
      omega
    exact Int.lt_of_mul_lt_mul_left h10 (Int.le_of_lt (Int.pow_pos (by decide)))
  · intro i _
    rw [List.getD_eq_getElem?_getD, List.getElem?_replicate]; split <;> rfl
end Go.Abs

/- Shifting up till the uppermost bit is one. -/
set_option linter.unusedVariables false
set_option linter.unusedSimpArgs false
set_option linter.unusedVariables false
namespace Go.Abs

end Go.Abs

/- Dividing bit by bit. -/
set_option linter.unusedVariables false
set_option linter.unusedSimpArgs false
set_option linter.unusedVariables false
namespace Go.Abs

structure BitInv (a q : List Int) (V : Int) (i kk : Nat) (t r : Int) : Prop where
  qlim : Lim q
  qlen : q.length = a.length
  eq : val (a.drop (i + 1)) * 2 ^ (32 - kk) + a.getD i 0 / 2 ^ kk = (val (q.drop (i + 1)) * 2 ^ (32 - kk) + t) * V + r
  rb : 0 ≤ r ∧ r < V
  tb : 0 ≤ t ∧ t < 2 ^ (32 - kk)
  qi : q.getD i 0 = t * 2 ^ kk
  zero : ∀ j, j < i → q.getD j 0 = 0

variable {a q : List Int} {V : Int} {i k : Nat} {t r : Int}
theorem pow2_pos (n : Nat) : (0 : Int) < 2 ^ n := Int.pow_pos (by decide)
theorem div_bit (x : Int) (k : Nat) : x / 2 ^ k = 2 * (x / 2 ^ (k + 1)) + x / 2 ^ k % 2 := by
  have h : x / 2 ^ (k + 1) = x / 2 ^ k / 2 := by rw [Int.pow_succ, Int.ediv_ediv_of_nonneg (Int.le_of_lt (pow2_pos k))]
  rw [h]; omega
theorem BitInv.bit (h : BitInv a q V i (k + 1) t r) (hk : k < 32) (hi : i < a.length) {b : Int} (hb : b = a.getD i 0 / 2 ^ k % 2) {s : Int} (hs : s = 0 ∨ s = 1) (hr : 0 ≤ 2 * r + b - s * V ∧ 2 * r + b - s * V < V) :
    BitInv a (q.set i ((2 * t + s) * 2 ^ k)) V i k (2 * t + s) (2 * r + b - s * V) := by
  have hp : (2 : Int) ^ (32 - k) = 2 ^ (32 - (k + 1)) * 2 := by rw [← Int.pow_succ]; congr 1; omega
  have hpk : (2 : Int) ^ (k + 1) = 2 ^ k * 2 := Int.pow_succ 2 k
  have hql := h.qlen
  have htb := h.tb
  have hd : (q.set i ((2 * t + s) * 2 ^ k)).drop (i + 1) = q.drop (i + 1) := drop_set
  have htb2 : 0 ≤ 2 * t + s ∧ 2 * t + s < 2 ^ (32 - k) := by rw [hp]; omega
  have hlim : 0 ≤ (2 * t + s) * 2 ^ k ∧ (2 * t + s) * 2 ^ k < 4294967296 := by
    refine ⟨Int.mul_nonneg htb2.1 (Int.le_of_lt (pow2_pos k)), ?_⟩
    have := Int.mul_lt_mul_of_pos_right htb2.2 (pow2_pos k)
    rw [← Int.pow_add, show 32 - k + k = 32 by omega] at this
    exact this
  refine ⟨h.qlim.set _ hlim, by rw [List.length_set]; exact hql, ?_, hr, htb2, ?_, ?_⟩
  · have e := h.eq
    rw [hd, div_bit (a.getD i 0) k, ← hb, hp]
    have e2 : (val (q.drop (i + 1)) * (2 ^ (32 - (k + 1)) * 2) + (2 * t + s)) * V = 2 * ((val (q.drop (i + 1)) * 2 ^ (32 - (k + 1)) + t) * V) + s * V := by
      rw [← Int.mul_assoc, Int.add_mul, Int.add_mul, Int.add_mul, Int.mul_add]
      rw [show val (q.drop (i + 1)) * 2 ^ (32 - (k + 1)) * 2 * V = 2 * (val (q.drop (i + 1)) * 2 ^ (32 - (k + 1)) * V) by rw [Int.mul_comm _ 2, Int.mul_assoc]]
      rw [Int.mul_assoc 2 t V]
      omega
    rw [e2, ← Int.mul_assoc]
    omega
  · rw [List.getD_eq_getElem?_getD, List.getElem?_set_self (by omega)]; rfl
  · intro j hj
    rw [List.getD_eq_getElem?_getD, List.getElem?_set_ne (by omega), ← List.getD_eq_getElem?_getD]
    exact h.zero j hj
theorem BitInv.next (h : BitInv a q V (i + 1) 0 t r) (hi : i + 1 < a.length) (la : Lim a) : BitInv a q V i 32 0 r := by
  have hql := h.qlen
  have e := h.eq
  have hqi := h.qi
  rw [Int.pow_zero, Int.mul_one] at hqi
  rw [Int.pow_zero, Int.ediv_one, Nat.sub_zero, ← hqi] at e
  have h1 := val_drop_succ (a := a) (k := i + 1)
  have h2 := val_drop_succ (a := q) (k := i + 1)
  have hp : (2 : Int) ^ 32 = 4294967296 := by decide
  rw [hp] at e
  have hai := la.getD i
  refine ⟨h.qlim, hql, ?_, h.rb, by decide, by rw [Int.zero_mul]; exact h.zero i (by omega), fun j hj => h.zero j (by omega)⟩
  rw [Nat.sub_self, Int.pow_zero, Int.mul_one, Int.mul_one, hp, Int.ediv_eq_zero_of_lt hai.1 hai.2, h1, h2]
  rw [show val (a.drop (i + 1 + 1)) * 4294967296 = 4294967296 * val (a.drop (i + 1 + 1)) by omega, show val (q.drop (i + 1 + 1)) * 4294967296 = 4294967296 * val (q.drop (i + 1 + 1)) by omega] at e
  rw [show q.getD (i + 1) 0 + 4294967296 * val (q.drop (i + 1 + 1)) + 0 = 4294967296 * val (q.drop (i + 1 + 1)) + q.getD (i + 1) 0 by omega]
  omega
theorem BitInv.done (h : BitInv a q V 0 0 t r) : val q = val a / V ∧ r = val a % V := by
  have e := h.eq
  have hqi := h.qi
  rw [Int.pow_zero, Int.mul_one] at hqi
  rw [Int.pow_zero, Int.ediv_one, Nat.sub_zero, ← hqi] at e
  have h1 := val_drop_succ (a := a) (k := 0)
  have h2 := val_drop_succ (a := q) (k := 0)
  rw [List.drop_zero] at h1 h2
  have hp : (2 : Int) ^ 32 = 4294967296 := by decide
  rw [hp] at e
  have e2 : val a = val q * V + r := by
    rw [h1, h2, show q.getD 0 0 + 4294967296 * val (q.drop (0 + 1)) = val (q.drop (0 + 1)) * 4294967296 + q.getD 0 0 by omega]
    omega
  have hr := h.rb
  rw [e2]
  refine ⟨?_, ?_⟩
  · rw [Int.add_comm, Int.add_mul_ediv_right _ _ (by omega), Int.ediv_eq_zero_of_lt hr.1 hr.2]; omega
  · rw [Int.add_comm, Int.add_mul_emod_self_right, Int.emod_eq_of_lt hr.1 hr.2]
end Go.Abs
