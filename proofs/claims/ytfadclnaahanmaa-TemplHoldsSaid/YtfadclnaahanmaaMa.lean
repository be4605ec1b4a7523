/- Joined: M1, M2, M3, M4. -/
import Derived.Test.YtfadclnaahanmaaVe
/- Templates' rows, the code's and the document's. -/
set_option linter.unusedVariables false
set_option linter.unusedSimpArgs false
namespace Go.Abs
open Go Go.Proofs
set_option maxRecDepth 100000
set_option maxHeartbeats 4000000
def rowT (n : Nat) (f : Nat → Int) : List RQ := tab n fun j => ((f j : Int) : Rat)
theorem rowT_len {n : Nat} {f : Nat → Int} : (rowT n f).length = n := tab_len
theorem rowT_congr {n : Nat} {f g : Nat → Int} (h : ∀ j, j < n → f j = g j) : rowT n f = rowT n g := tab_congr fun j hj => by rw [h j hj]
theorem rowT_get {n j : Nat} {f : Nat → Int} (hj : j < n) : (rowT n f)[j]? = some (rq ((f j : Int) : Rat)) := by
  unfold rowT tab
  rw [List.getElem?_map, List.getElem?_range hj]
  rfl
theorem zl_all {n : Nat} : zl n n = (List.replicate n (rq 0)).map some := by
  unfold zl
  rw [Nat.sub_self, List.replicate_zero, List.append_nil, List.map_replicate]
theorem own_row {H0 H : Heap} {b n : Nat} {l : List RQ} (hg : H.get b = some (.row true 47 ((l.map some).flatMap eQo.enc))) (hb0 : H0.next ≤ b) (hb : b < H.next) (hl : l.length = n) (hn : n ≤ 2 ^ 40) : QO H0 H (.slice (some ⟨b, 0, none⟩) n n) l := by
  rw [eQo_some] at hg
  have := Ow.row (P := Try.prog) (H0 := H0) (H := H) (es := 4) (el := 47) (b := b) (off := 0) (n := n) (c := n) hg hb0 hb (.inr ⟨Nat.le_refl _, by unfold unk; omega, by rw [eQ.flat_length, hl]; show _ ≤ n * 4; omega⟩) (by rw [eQ.flat_length, hl]; show _ ≤ n * 4; omega)
  rw [List.drop_zero, List.take_of_length_le (by rw [eQ.flat_length, hl]; show n * 4 ≤ _; omega)] at this
  unfold QO VO
  rw [hl]
  exact this
theorem p223 {n i k : Nat} {a b : Int} (hn : n ≤ 2 ^ 20) (hi : i < n) (hk : k < n) (ha : -9223372036854775808 ≤ a ∧ a ≤ 9223372036854775807) (hb : -9223372036854775808 ≤ b ∧ b ≤ 9223372036854775807) :
    PC Try.prog 90 [.int .i64 n, .int .i64 i, .int .i64 a, .int .i64 k, .int .i64 b] (Vv eQ (rowT n fun j => if j = i then a else if j = k then b else 0)) := by
  refine PC.of (.cons (.ground rfl) (.cons (.ground rfl) (.cons (.ground rfl) (.cons (.ground rfl) (.cons (.ground rfl) .nil))))) pu_Qs fun N hN => ?_
  refine ACalls.of_code T.hm (n := 34) Try.func90 rfl rfl rfl rfl ?_; simp only [List.replicate_succ, List.replicate_zero, List.cons_append, List.nil_append]
  generalize E0 N = H
  have hlen {a : Addr} : aLen Try.prog 45 (.slice (some a) n n) = some (.int .i64 n) := len_own T.i70
  simp (maxSteps := 1000000) (disch := first | exact sd | fail) only [go_sem, Nat.reduceAdd, Nat.reduceSub, Nat.reduceLeDiff, ↓reduceIte, decide_eq_true_eq, if_true, if_false, Bool.false_eq_true, Int.lt_irrefl, implies_true, true_and, and_true, eq_self, and_self, beq_self_eq_true, aMk_int, Int.toNat_natCast, hlen]
  rw [eQo_none]
  refine aw_loopJ (σ := Nat) (fun s J => [.int .i64 n, .int .i64 i, .int .i64 a, .int .i64 k, .int .i64 b, J 5, J 6, J 7, J 8, J 9, .slice none 0 0, .slice (some ⟨H.next, 0, none⟩) n n, J 12, J 13, J 14, J 15, .int .i64 n, .int .i64 s, J 18, J 19, J 20, J 21, J 22, J 23, J 24, J 25, J 26, J 27, J 28, J 29, J 30, J 31, J 32, J 33, J 34, J 35, J 36, J 37, J 38]) (fun m s H1 => m = n - s ∧ s ≤ n ∧ Hle H H1 ∧ H.next < H1.next ∧ H1.get H.next = some (.row true 47 ((zl n s).flatMap eQo.enc))) n 0 rfl ⟨rfl, Nat.zero_le _, Hle.push0 _, by simp, by rw [get_push_self]; simp [zl]⟩ ?_
  rintro m s J H1 ⟨rfl, hs, hle, hlt, hg⟩
  by_cases h4 : (s : Int) < n
  · have ha : aIndexAddr Try.prog 45 (.slice (some ⟨H.next, 0, none⟩) n n) (.int .i64 s) = some (.pointer (some ⟨H.next, 0 + s * 4, none⟩)) := ix_own Try.underlying45 T.z55 T.s55 (by omega) h4
    simp (maxSteps := 1000000) (disch := first | exact sd | fail) only [go_sem, Nat.reduceAdd, Nat.reduceSub, Nat.reduceLeDiff, ↓reduceIte, decide_eq_true_eq, if_true, if_false, Bool.false_eq_true, Int.lt_irrefl, implies_true, true_and, and_true, eq_self, and_self, beq_self_eq_true, h4]
    refine PC.step (p76 (x := 0) (by omega)) fun m1 j1 => ?_
    try simp only [Heap.next_push, Heap.next_set, Heap.next_kill, next_bump, next_E0] at j1
    simp (maxSteps := 1000000) (disch := first | exact sd | fail) only [go_sem, Nat.reduceAdd, Nat.reduceSub, Nat.reduceLeDiff, ↓reduceIte, decide_eq_true_eq, if_true, if_false, Bool.false_eq_true, Int.lt_irrefl, implies_true, true_and, and_true, eq_self, and_self, beq_self_eq_true, ha]
    have hlen2 : ((zl n s).flatMap eQo.enc).length = n * 4 := by rw [eQo.flat_length, zl_len hs]; rfl
    have hst := st_at (H := H1.bump m1) (b := H.next) (off := 0 + s * 4) (vs := [.bool (sgn ((0 : Int) : Rat).num), Vv eU (lmb ((0 : Int) : Rat).num), .bool (sgn (((0 : Int) : Rat).den : Int)), Vv eU (lmb (((0 : Int) : Rat).den : Int))]) (cs' := (zl n (s + 1)).flatMap eQo.enc) hg (by rw [hlen2]; simp; omega) (by
      rw [Nat.zero_add, ← zl_set (by omega)]
      exact En.splice eQo (x := some (rq 0)) (by rw [zl_len hs]; omega))
    rw [get_bump] at hst
    simp (maxSteps := 1000000) (disch := first | exact sd | fail) only [go_sem, Nat.reduceAdd, Nat.reduceSub, Nat.reduceLeDiff, ↓reduceIte, decide_eq_true_eq, if_true, if_false, Bool.false_eq_true, Int.lt_irrefl, implies_true, true_and, and_true, eq_self, and_self, beq_self_eq_true, hst]
    exact IJ_intro (k := n - (s + 1)) (by omega) (s + 1) rfl ⟨rfl, by omega, Hle.set (Hle.bump hle j1) (Nat.le_refl _) _, by simp (maxSteps := 1000000) (disch := first | exact sd | fail) only [go_sem, Nat.reduceAdd, Nat.reduceSub, Nat.reduceLeDiff, ↓reduceIte, decide_eq_true_eq, if_true, if_false, Bool.false_eq_true, Int.lt_irrefl, implies_true, true_and, and_true, eq_self, and_self, beq_self_eq_true]; omega, by simp (maxSteps := 1000000) (disch := first | exact sd | fail) only [go_sem, Nat.reduceAdd, Nat.reduceSub, Nat.reduceLeDiff, ↓reduceIte, decide_eq_true_eq, if_true, if_false, Bool.false_eq_true, Int.lt_irrefl, implies_true, true_and, and_true, eq_self, and_self, beq_self_eq_true]⟩
  have e : s = n := by omega
  subst e
  rw [zl_all] at hg
  generalize hL0 : List.replicate s (rq 0) = L0 at hg
  have l0 : L0.length = s := by rw [← hL0]; simp
  have st {G : Heap} {L : List RQ} {c : Nat} {x : Int} (hG : G.get H.next = some (.row true 47 ((L.map some).flatMap eQo.enc))) (hl : L.length = s) (hc : c < s) :
      stRow G H.next (0 + c * 4) [.bool (sgn (x : Rat).num), Vv eU (lmb (x : Rat).num), .bool (sgn ((x : Rat).den : Int)), Vv eU (lmb ((x : Rat).den : Int))] (G.get H.next) = some (G.set H.next (.row true 47 (((L.set c (rq (x : Rat))).map some).flatMap eQo.enc))) :=
    st_at hG (by rw [eQo.flat_length, List.length_map, hl]; show 0 + c * 4 + 4 ≤ s * 4; omega) (by
      rw [Nat.zero_add, List.map_set]
      exact En.splice eQo (x := some (rq (x : Rat))) (by rw [List.length_map, hl]; exact hc))
  have ai {c : Nat} (hc : c < s) : aIndexAddr Try.prog 45 (.slice (some ⟨H.next, 0, none⟩) s s) (.int .i64 c) = some (.pointer (some ⟨H.next, 0 + c * 4, none⟩)) := by
    have := ix_own (b := H.next) (off := 0) (n := s) (c := s) (k := .i64) (i := (c : Int)) Try.underlying45 T.z55 T.s55 (by omega) (by omega)
    rwa [Int.toNat_natCast] at this
  have e2 (l1 : (L0.set i (rq (a : Rat))).length = s) : (if k = i then L0.set i (rq (a : Rat)) else (L0.set i (rq (a : Rat))).set k (rq (b : Rat))) = rowT s fun j => if j = i then a else if j = k then b else 0 := by
    refine List.ext_getElem? fun j => ?_
    rcases Nat.lt_or_ge j s with hj | hj
    · rw [rowT_get hj, ← hL0]
      by_cases e : j = i
      · subst e
        rw [if_pos rfl]
        split
        · rw [List.getElem?_set_self (by simpa using hj)]
        · rename_i hne
          rw [List.getElem?_set_ne hne, List.getElem?_set_self (by simpa using hj)]
      · rw [if_neg e]
        split
        · rename_i hki
          rw [if_neg (by omega), List.getElem?_set_ne (fun h => e h.symm), List.getElem?_replicate, if_pos hj]
          rfl
        · by_cases ek : j = k
          · subst ek
            rw [if_pos rfl, List.getElem?_set_self (by simpa using hj)]
          · rw [if_neg ek, List.getElem?_set_ne (fun h => ek h.symm), List.getElem?_set_ne (fun h => e h.symm), List.getElem?_replicate, if_pos hj]
            rfl
    · rw [List.getElem?_eq_none (by split <;> simp [l0, hj]), List.getElem?_eq_none (by rw [rowT_len]; exact hj)]
  simp (maxSteps := 1000000) (disch := first | exact sd | fail) only [go_sem, Nat.reduceAdd, Nat.reduceSub, Nat.reduceLeDiff, ↓reduceIte, decide_eq_true_eq, if_true, if_false, Bool.false_eq_true, Int.lt_irrefl, implies_true, true_and, and_true, eq_self, and_self, beq_self_eq_true, h4]
  refine PC.step (p76 (x := a) ha) fun m1 j1 => ?_
  try simp only [Heap.next_push, Heap.next_set, Heap.next_kill, next_bump, next_E0] at j1
  have s1 := st (G := H1.bump m1) (x := a) hg l0 hi
  rw [get_bump] at s1
  by_cases h5 : (k : Int) = i
  · simp (maxSteps := 1000000) (disch := first | exact sd | fail) only [go_sem, Nat.reduceAdd, Nat.reduceSub, Nat.reduceLeDiff, ↓reduceIte, decide_eq_true_eq, if_true, if_false, Bool.false_eq_true, Int.lt_irrefl, implies_true, true_and, and_true, eq_self, and_self, beq_self_eq_true, ai hi, s1, h5, ne_eq, not_true_eq_false]
    have := own_row (H0 := E0 0) (H := (H1.bump m1).set H.next (.row true 47 (((L0.set i (rq (a : Rat))).map some).flatMap eQo.enc))) (b := H.next) (n := s) (get_set_self _ _ _) (Nat.zero_le _) (by rw [next_set, next_bump]; omega) (by simpa using l0) (by omega)
    rw [← e2 (by simpa using l0), if_pos (by omega)]
    exact VO.fz this T.s55 (by decide)
  · simp (maxSteps := 1000000) (disch := first | exact sd | fail) only [go_sem, Nat.reduceAdd, Nat.reduceSub, Nat.reduceLeDiff, ↓reduceIte, decide_eq_true_eq, if_true, if_false, Bool.false_eq_true, Int.lt_irrefl, implies_true, true_and, and_true, eq_self, and_self, beq_self_eq_true, ai hi, s1, h5, ne_eq, not_false_eq_true]
    refine PC.step (p76 (x := b) hb) fun m2 j2 => ?_
    try simp only [Heap.next_push, Heap.next_set, Heap.next_kill, next_bump, next_E0] at j2
    have s2 := st (G := ((H1.bump m1).set H.next (.row true 47 (((L0.set i (rq (a : Rat))).map some).flatMap eQo.enc))).bump m2) (x := b) (L := L0.set i (rq (a : Rat))) (by rw [get_bump, get_set_self]) (by simpa using l0) hk
    rw [get_bump, get_set_self] at s2
    simp (maxSteps := 1000000) (disch := first | exact sd | fail) only [go_sem, Nat.reduceAdd, Nat.reduceSub, Nat.reduceLeDiff, ↓reduceIte, decide_eq_true_eq, if_true, if_false, Bool.false_eq_true, Int.lt_irrefl, implies_true, true_and, and_true, eq_self, and_self, beq_self_eq_true, ai hk, s2]
    have := own_row (H0 := E0 0) (H := (((H1.bump m1).set H.next (.row true 47 (((L0.set i (rq (a : Rat))).map some).flatMap eQo.enc))).bump m2).set H.next (.row true 47 ((((L0.set i (rq (a : Rat))).set k (rq (b : Rat))).map some).flatMap eQo.enc))) (b := H.next) (n := s) (get_set_self _ _ _) (Nat.zero_le _) (by rw [next_set, next_bump]; omega) (by simpa using l0) (by omega)
    rw [← e2 (by simpa using l0), if_neg (by omega)]
    exact VO.fz this T.s55 (by decide)
theorem p194 {n i : Nat} {p k q : Int} (hn : n ≤ 2 ^ 20) (hp : -9223372036854775808 ≤ p ∧ p ≤ 9223372036854775807) (hq : -9223372036854775808 ≤ q ∧ q ≤ 9223372036854775807) :
    PC Try.prog 54 [.int .i64 n, .int .i64 i, .int .i64 p, .int .i64 k, .int .i64 q] (Vv eQ (rowT n fun (j : Nat) => if (j : Int) = k then q else if j = i then p else 0)) := by
  refine PC.of (.cons (.ground rfl) (.cons (.ground rfl) (.cons (.ground rfl) (.cons (.ground rfl) (.cons (.ground rfl) .nil))))) pu_Qs fun N hN => ?_
  refine ACalls.of_code T.hm (n := 28) Try.func54 rfl rfl rfl rfl ?_; simp only [List.replicate_succ, List.replicate_zero, List.cons_append, List.nil_append]
  generalize E0 N = H
  obtain ⟨f, hf⟩ : ∃ f : Nat → Int, f = fun (j : Nat) => if (j : Int) = k then q else if j = i then p else 0 := ⟨_, rfl⟩
  rw [← hf]
  simp (maxSteps := 1000000) (disch := first | exact sd | fail) only [go_sem, Nat.reduceAdd, Nat.reduceSub, Nat.reduceLeDiff, ↓reduceIte, decide_eq_true_eq, if_true, if_false, Bool.false_eq_true, Int.lt_irrefl, implies_true, true_and, and_true, eq_self, and_self, beq_self_eq_true]
  refine aw_loopJ (σ := Nat × Value) (fun s J => [.int .i64 n, .int .i64 i, .int .i64 p, .int .i64 k, .int .i64 q, J 5, J 6, J 7, J 8, J 9, .slice none 0 0, s.2, .int .i64 s.1, J 13, J 14, J 15, J 16, J 17, J 18, J 19, J 20, J 21, J 22, J 23, J 24, J 25, J 26, J 27, J 28, J 29, J 30, J 31, J 32]) (fun m s H1 => m = n - s.1 ∧ s.1 ≤ n ∧ Hle H H1 ∧ QO H H1 s.2 (rowT s.1 f)) n (0, .slice none 0 0) rfl ⟨rfl, Nat.zero_le _, Hle.rfl, VO.nil⟩ ?_
  rintro m ⟨s, sl⟩ J H1 ⟨rfl, hs, hle, ho⟩
  simp only at hs ho
  by_cases h4 : (s : Int) < n
  · have hfs : f s = if (s : Int) = k then q else if s = i then p else 0 := by rw [hf]
    have hb : -9223372036854775808 ≤ f s ∧ f s ≤ 9223372036854775807 := by rw [hfs]; split; exact hq; split; exact hp; omega
    have et : rowT (s + 1) f = rowT s f ++ [rq ((f s : Int) : Rat)] := tab_succ
    by_cases c1 : s = i
    · subst c1
      by_cases c2 : (s : Int) = k
      · have hx : f s = q := by rw [hfs, if_pos c2]
        subst c2
        rw [hx] at et hb
        simp (maxSteps := 1000000) (disch := first | exact sd | fail) only [go_sem, Nat.reduceAdd, Nat.reduceSub, Nat.reduceLeDiff, ↓reduceIte, decide_eq_true_eq, if_true, if_false, Bool.false_eq_true, Int.lt_irrefl, implies_true, true_and, and_true, eq_self, and_self, beq_self_eq_true, h4]
        refine PC.step (p77 (x := q) hb) fun m1 j1 => ?_
        try simp only [Heap.next_push, Heap.next_set, Heap.next_kill, next_bump, next_E0] at j1
        obtain ⟨v, H4, ea, oa, qa, na⟩ := QO.append1 (ho.bump j1) (Hle.bump hle j1) (q : Rat) (by rw [rowT_len]; omega)
        rw [next_bump] at ea
        simp (maxSteps := 1000000) (disch := first | exact sd | fail) only [go_sem, Nat.reduceAdd, Nat.reduceSub, Nat.reduceLeDiff, ↓reduceIte, decide_eq_true_eq, if_true, if_false, Bool.false_eq_true, Int.lt_irrefl, implies_true, true_and, and_true, eq_self, and_self, beq_self_eq_true, ea]
        exact IJ_intro (k := n - (s + 1)) (by omega) (s + 1, v) rfl ⟨rfl, by dsimp only; omega, qa, by rw [et]; exact oa⟩
      · have hx : f s = p := by rw [hfs, if_neg c2, if_pos rfl]
        rw [hx] at et hb
        simp (maxSteps := 1000000) (disch := first | exact sd | fail) only [go_sem, Nat.reduceAdd, Nat.reduceSub, Nat.reduceLeDiff, ↓reduceIte, decide_eq_true_eq, if_true, if_false, Bool.false_eq_true, Int.lt_irrefl, implies_true, true_and, and_true, eq_self, and_self, beq_self_eq_true, h4, c2]
        refine PC.step (p77 (x := p) hb) fun m1 j1 => ?_
        try simp only [Heap.next_push, Heap.next_set, Heap.next_kill, next_bump, next_E0] at j1
        obtain ⟨v, H4, ea, oa, qa, na⟩ := QO.append1 (ho.bump j1) (Hle.bump hle j1) (p : Rat) (by rw [rowT_len]; omega)
        rw [next_bump] at ea
        simp (maxSteps := 1000000) (disch := first | exact sd | fail) only [go_sem, Nat.reduceAdd, Nat.reduceSub, Nat.reduceLeDiff, ↓reduceIte, decide_eq_true_eq, if_true, if_false, Bool.false_eq_true, Int.lt_irrefl, implies_true, true_and, and_true, eq_self, and_self, beq_self_eq_true, ea]
        exact IJ_intro (k := n - (s + 1)) (by omega) (s + 1, v) rfl ⟨rfl, by dsimp only; omega, qa, by rw [et]; exact oa⟩
    · have c1 : ¬ (s : Int) = i := by omega
      by_cases c2 : (s : Int) = k
      · have hx : f s = q := by rw [hfs, if_pos c2]
        subst c2
        rw [hx] at et hb
        simp (maxSteps := 1000000) (disch := first | exact sd | fail) only [go_sem, Nat.reduceAdd, Nat.reduceSub, Nat.reduceLeDiff, ↓reduceIte, decide_eq_true_eq, if_true, if_false, Bool.false_eq_true, Int.lt_irrefl, implies_true, true_and, and_true, eq_self, and_self, beq_self_eq_true, h4, c1]
        refine PC.step (p77 (x := q) hb) fun m1 j1 => ?_
        try simp only [Heap.next_push, Heap.next_set, Heap.next_kill, next_bump, next_E0] at j1
        obtain ⟨v, H4, ea, oa, qa, na⟩ := QO.append1 (ho.bump j1) (Hle.bump hle j1) (q : Rat) (by rw [rowT_len]; omega)
        rw [next_bump] at ea
        simp (maxSteps := 1000000) (disch := first | exact sd | fail) only [go_sem, Nat.reduceAdd, Nat.reduceSub, Nat.reduceLeDiff, ↓reduceIte, decide_eq_true_eq, if_true, if_false, Bool.false_eq_true, Int.lt_irrefl, implies_true, true_and, and_true, eq_self, and_self, beq_self_eq_true, ea]
        exact IJ_intro (k := n - (s + 1)) (by omega) (s + 1, v) rfl ⟨rfl, by dsimp only; omega, qa, by rw [et]; exact oa⟩
      · have hx : f s = 0 := by rw [hfs, if_neg c2, if_neg (by omega)]
        rw [hx] at et hb
        simp (maxSteps := 1000000) (disch := first | exact sd | fail) only [go_sem, Nat.reduceAdd, Nat.reduceSub, Nat.reduceLeDiff, ↓reduceIte, decide_eq_true_eq, if_true, if_false, Bool.false_eq_true, Int.lt_irrefl, implies_true, true_and, and_true, eq_self, and_self, beq_self_eq_true, h4, c1, c2]
        refine PC.step (p77 (x := 0) (by omega)) fun m1 j1 => ?_
        try simp only [Heap.next_push, Heap.next_set, Heap.next_kill, next_bump, next_E0] at j1
        obtain ⟨v, H4, ea, oa, qa, na⟩ := QO.append1 (ho.bump j1) (Hle.bump hle j1) ((0 : Int) : Rat) (by rw [rowT_len]; omega)
        rw [next_bump] at ea
        simp (maxSteps := 1000000) (disch := first | exact sd | fail) only [go_sem, Nat.reduceAdd, Nat.reduceSub, Nat.reduceLeDiff, ↓reduceIte, decide_eq_true_eq, if_true, if_false, Bool.false_eq_true, Int.lt_irrefl, implies_true, true_and, and_true, eq_self, and_self, beq_self_eq_true, ea]
        exact IJ_intro (k := n - (s + 1)) (by omega) (s + 1, v) rfl ⟨rfl, by dsimp only; omega, qa, by rw [et]; exact oa⟩
  · have e : s = n := by omega
    subst e
    simp (maxSteps := 1000000) (disch := first | exact sd | fail) only [go_sem, Nat.reduceAdd, Nat.reduceSub, Nat.reduceLeDiff, ↓reduceIte, decide_eq_true_eq, if_true, if_false, Bool.false_eq_true, Int.lt_irrefl, implies_true, true_and, and_true, eq_self, and_self, beq_self_eq_true, h4]
    exact VO.fz ho T.s55 (by decide)
end Go.Abs

/- Loops over functions: what an iterator gives; the templates' iterators. -/
set_option linter.unusedVariables false
set_option linter.unusedSimpArgs false
namespace Go.Abs
open Go Go.Proofs
set_option maxRecDepth 100000
set_option maxHeartbeats 4000000
theorem env_nilf {T : Tm} : env T (.const .nilFunc) = some .nilFunc := _root_.id rfl
attribute [go_sem] Heap.get_wg Heap.next_wg env_nilf
theorem aw_range {P : Program} {f : Operand} {ps : Array Tmp} {asg body : Code} {Q : Exit → Tm → Heap → Prop} {T : Tm} {H : Heap} {g : FuncId} {cap : List Value} (hf : env T f = some (.func (.func g) ⟨[]⟩ ⟨cap⟩))
    (h : ∀ l fn tm df, ACalls P g (.func (.yield l) ⟨[]⟩ ⟨[]⟩ :: cap) (H.wg (⟨l, { state := .ready, pending := none, fn := fn, tmps := tm, params := ps, assign := asg, body := body, defers := df }, T⟩ :: H.gh)) fun _ H' => Q .normal T (H'.wg H.gh)) : aw P (.rangeFunc f ps asg body) Q T H := by
  simp only [aw, hf]
  refine ⟨trivial, fun l r h1 h2 h3 h4 h5 => ?_⟩
  obtain ⟨st, pd, fn, tm, pm, ag, bd, df⟩ := r
  simp only at h1 h2 h3 h4 h5
  subst h1 h2 h3 h4 h5
  exact h l fn tm df
def Kz (Kr : Heap → Prop) : Exit → Tm → Heap → Prop := fun e _ H2 => e = .normal ∧ Kr H2
def Ka (P : Program) (body : Code) (Kr : Heap → Prop) : Exit → Tm → Heap → Prop := fun e T1 H1 => e = .normal ∧ aw P body (Kz Kr) T1 H1
theorem Kz_normal {Kr : Heap → Prop} {T : Tm} {H : Heap} : Kz Kr .normal T H = Kr H := by simp [Kz]
theorem Ka_normal {P : Program} {body : Code} {Kr : Heap → Prop} {T : Tm} {H : Heap} : Ka P body Kr .normal T H = aw P body (Kz Kr) T H := by simp [Ka]
attribute [go_sem] Kz_normal Ka_normal
theorem AYields.one {P : Program} (hm : P.follows .mixedOrders = true) {l : Nat} {fn df : Nat} {tm : Array Value} {p : Tmp} {asg body : Code} {T : Tm} {gs : List Pin} {H : Heap} {x : Value} {K : Value → Heap → Prop}
    (hg : H.gh = ⟨l, { state := .ready, pending := none, fn := fn, tmps := tm, params := #[p], assign := asg, body := body, defers := df }, T⟩ :: gs) (hp1 : plainC asg = true) (hp2 : plainC body = true)
    (h : aw P asg (Ka P body fun H2 => K (.bool true) (H2.wg H.gh)) (T.set p x) (H.wg gs)) : AYields P l [x] H K := by
  refine AYields.of_body hm hg rfl rfl rfl hp1 hp2 ?_
  rw [hg] at h
  exact h
def It (HB : Heap) (f : Value) (rows : List (List RQ)) : Prop :=
  ∃ g cap, f = .func (.func g) ⟨[]⟩ ⟨cap⟩ ∧ ∀ (l : Nat) (I : List (List RQ) → Heap → Prop) (Fo : Heap → Nat → Prop) (H : Heap),
    (∀ pre H1 H2, I pre H1 → Hle H1 H2 → H2.gh = H1.gh → I pre H2) → (∀ pre H1, I pre H1 → Hle HB H1) →
    (∀ pre H1 b, I pre H1 → Fo H1 b → b < H1.next) → (∀ pre H1 H2 b, I pre H1 → Hle H1 H2 → Fo H2 b → Fo H1 b) →
    (∀ pre x post H1, rows = pre ++ x :: post → I pre H1 → AYields Try.prog l [Vv eQ x] H1 fun v H2 => v = .bool true ∧ I (pre ++ [x]) H2 ∧ H1.next ≤ H2.next ∧ ∀ b, 0 < b → b < H1.next → ¬ Fo H1 b → H2.get b = H1.get b ∧ ¬ Fo H2 b) →
    I [] H → ACalls Try.prog g (.func (.yield l) ⟨[]⟩ ⟨[]⟩ :: cap) H fun _ H' => I rows H'
theorem Hle.bumpS (H : Heap) {m : Nat} (h : H.next ≤ m) : Hle H (H.bump m) := Hle.bump Hle.rfl h
def r1 (n i : Nat) (a : Int) : List RQ := rowT n fun j => if j = i then a else 0
def r2 (n i : Nat) (a : Int) (k : Nat) (b : Int) : List RQ := rowT n fun j => if j = k then b else if j = i then a else 0
def sglP (n m : Nat) : List (List RQ) := (List.range m).flatMap fun i => [r1 n i 1, r1 n i (-1)]
def sgl (n : Nat) := sglP n n
theorem sglP_succ {n m : Nat} : sglP n (m + 1) = sglP n m ++ [r1 n m 1, r1 n m (-1)] := by
  unfold sglP; rw [List.range_succ, List.flatMap_append]; simp
theorem range_split {α : Type} {f : Nat → List α} {n s : Nat} (h : s < n) : ∃ post, (List.range n).flatMap f = (List.range s).flatMap f ++ (f s ++ post) := by
  refine ⟨((List.range (n - (s + 1))).map (s + 1 + ·)).flatMap f, ?_⟩
  have e : List.range n = List.range s ++ (s :: (List.range (n - (s + 1))).map (s + 1 + ·)) := by
    have h1 : n = s + 1 + (n - (s + 1)) := by omega
    conv => lhs; rw [h1, List.range_add, List.range_succ]
    simp
  rw [e, List.flatMap_append, List.flatMap_cons]
theorem p223s {n i : Nat} {a : Int} (hn : n ≤ 2 ^ 20) (hi : i < n) (ha : -9223372036854775808 ≤ a ∧ a ≤ 9223372036854775807) : PC Try.prog 90 [.int .i64 n, .int .i64 i, .int .i64 a, .int .i64 i, .int .i64 0] (Vv eQ (r1 n i a)) :=
  (p223 hn hi hi ha (b := 0) (by omega)).ok (by congr 1; exact rowT_congr fun j _ => by split <;> rfl)
theorem p223d {n i k : Nat} {a b : Int} (hn : n ≤ 2 ^ 20) (hi : i < n) (hk : k < n) (hne : k ≠ i) (ha : -9223372036854775808 ≤ a ∧ a ≤ 9223372036854775807) (hb : -9223372036854775808 ≤ b ∧ b ≤ 9223372036854775807) : PC Try.prog 90 [.int .i64 n, .int .i64 i, .int .i64 a, .int .i64 k, .int .i64 b] (Vv eQ (r2 n i a k b)) :=
  (p223 hn hi hk ha hb).ok (by
    congr 1
    refine rowT_congr fun j _ => ?_
    by_cases e : j = i
    · rw [if_pos e, if_neg (by omega), if_pos e]
    · rw [if_neg e, if_neg e])
theorem it222 {HB : Heap} {bn n : Nat} {own : Bool} (hg : HB.get bn = some (.row own 3 [.int .i64 n])) (hb : bn < HB.next) (hn : n ≤ 6) : It HB (.func (.func 89) ⟨[]⟩ ⟨[.pointer (some ⟨bn, 0, none⟩)]⟩) (sgl n) := by
  refine ⟨_, _, rfl, fun l I Fo H hI hB hF1 hF2 hY h0 => ?_⟩
  have gB {pre : List (List RQ)} {H1 : Heap} (h : I pre H1) : H1.get bn = some (.row own 3 [.int .i64 n]) := ((hB _ _ h).get bn hb).trans hg
  refine ACalls.of_code T.hm (n := 23) Try.func89 rfl rfl rfl rfl ?_; simp only [List.replicate_succ, List.replicate_zero, List.cons_append, List.nil_append]
  simp (maxSteps := 1000000) (disch := first | exact sd | fail) only [go_sem, Nat.reduceAdd, Nat.reduceSub, Nat.reduceLeDiff, ↓reduceIte, decide_eq_true_eq, if_true, if_false, Bool.false_eq_true, Int.lt_irrefl, implies_true, true_and, and_true, eq_self, and_self, beq_self_eq_true, gB h0]
  refine aw_loopJ (σ := Nat) (fun s J => [.func (.yield l) ⟨[]⟩ ⟨[]⟩, .pointer (some ⟨bn, 0, none⟩), J 2, J 3, .int .i64 n, .int .i64 s, J 6, J 7, J 8, J 9, J 10, J 11, J 12, J 13, J 14, J 15, J 16, J 17, J 18, J 19, J 20, J 21, J 22, J 23, J 24]) (fun m s H1 => m = n - s ∧ s ≤ n ∧ I (sglP n s) H1) n 0 rfl ⟨rfl, Nat.zero_le _, h0⟩ ?_
  rintro m s J H1 ⟨rfl, hs, hi⟩
  by_cases h4 : (s : Int) < n
  · have hs' : s < n := by omega
    obtain ⟨post, hp⟩ := range_split (f := fun i => [r1 n i 1, r1 n i (-1)]) hs'
    have hp : sgl n = sglP n s ++ ([r1 n s 1, r1 n s (-1)] ++ post) := hp
    have g1 := gB hi
    simp (maxSteps := 1000000) (disch := first | exact sd | fail) only [go_sem, Nat.reduceAdd, Nat.reduceSub, Nat.reduceLeDiff, ↓reduceIte, decide_eq_true_eq, if_true, if_false, Bool.false_eq_true, Int.lt_irrefl, implies_true, true_and, and_true, eq_self, and_self, beq_self_eq_true, h4, g1]
    refine PC.step (p223s (a := 1) (by omega) hs' (by omega)) fun m1 j1 => ?_
    try simp only [Heap.next_push, Heap.next_set, Heap.next_kill, next_bump, next_E0] at j1
    have i1 := hI _ _ _ hi (Hle.bumpS H1 j1) rfl
    simp (maxSteps := 1000000) (disch := first | exact sd | fail) only [go_sem, Nat.reduceAdd, Nat.reduceSub, Nat.reduceLeDiff, ↓reduceIte, decide_eq_true_eq, if_true, if_false, Bool.false_eq_true, Int.lt_irrefl, implies_true, true_and, and_true, eq_self, and_self, beq_self_eq_true]
    refine (hY _ _ _ _ (by rw [hp]; rfl) i1).mono ?_
    rintro v H2 ⟨rfl, i2, _⟩
    have g2 := gB i2
    simp (maxSteps := 1000000) (disch := first | exact sd | fail) only [go_sem, Nat.reduceAdd, Nat.reduceSub, Nat.reduceLeDiff, ↓reduceIte, decide_eq_true_eq, if_true, if_false, Bool.false_eq_true, Int.lt_irrefl, implies_true, true_and, and_true, eq_self, and_self, beq_self_eq_true, g2]
    refine PC.step (p223s (a := -1) (by omega) hs' (by omega)) fun m2 j2 => ?_
    try simp only [Heap.next_push, Heap.next_set, Heap.next_kill, next_bump, next_E0] at j2
    have i3 := hI _ _ _ i2 (Hle.bumpS H2 j2) rfl
    simp (maxSteps := 1000000) (disch := first | exact sd | fail) only [go_sem, Nat.reduceAdd, Nat.reduceSub, Nat.reduceLeDiff, ↓reduceIte, decide_eq_true_eq, if_true, if_false, Bool.false_eq_true, Int.lt_irrefl, implies_true, true_and, and_true, eq_self, and_self, beq_self_eq_true]
    refine (hY _ _ post _ (by rw [hp]; simp) i3).mono ?_
    rintro v H3 ⟨rfl, i4, _⟩
    simp (maxSteps := 1000000) (disch := first | exact sd | fail) only [go_sem, Nat.reduceAdd, Nat.reduceSub, Nat.reduceLeDiff, ↓reduceIte, decide_eq_true_eq, if_true, if_false, Bool.false_eq_true, Int.lt_irrefl, implies_true, true_and, and_true, eq_self, and_self, beq_self_eq_true]
    exact IJ_intro (k := n - (s + 1)) (by omega) (s + 1) rfl ⟨rfl, by omega, by rw [sglP_succ]; simpa using i4⟩
  · have e : s = n := by omega
    subst e
    simp (maxSteps := 1000000) (disch := first | exact sd | fail) only [go_sem, Nat.reduceAdd, Nat.reduceSub, Nat.reduceLeDiff, ↓reduceIte, decide_eq_true_eq, if_true, if_false, Bool.false_eq_true, Int.lt_irrefl, implies_true, true_and, and_true, eq_self, and_self, beq_self_eq_true, h4]
    exact hi
end Go.Abs

/- Templates made of what iterators give: made, Interval, Zone. -/
set_option linter.unusedVariables false
set_option linter.unusedSimpArgs false
namespace Go.Abs
open Go Go.Proofs
set_option maxRecDepth 100000
set_option maxHeartbeats 4000000
theorem T.i212 : isSliceT Try.prog 117 = true := by kernel_rfl
theorem T.l183 {H : Heap} {b off : Nat} : aLoad Try.prog H 80 (.pointer (some ⟨b, off, none⟩)) = rowAt (H.get b) off := load_one T.r183
theorem T.parts212 {H : Heap} {e : Env} {K : Value → Heap → Prop} {d : Option Tmp} {ty : TypeId} {ps : String} {af : Array Edge} {gd : Option (Nat × Bool)} {parts : List (Nat × Operand)} {len : Nat} (hlen : len ≤ 2 ^ 24) : aStep Try.prog e H ⟨d, .buildSlice 117 len ⟨parts⟩, ty, ps, af, gd⟩ K = ob (evps e parts) fun vs => ob (pFill .nilFunc len vs) fun cs => K (.slice (some ⟨H.next, 0, none⟩) len len) (H.push (.row true 80 cs)) :=
  s_parts Try.underlying117 (info_of_type Try.type80) (z := .nilFunc) rfl rfl rfl rfl hlen
attribute [go_sem] T.l183 T.parts212
def Jm (HC : Heap) (tb : Nat) (X : List (List RQ)) (G : Heap) : Prop :=
  HC.next ≤ G.next ∧ (∀ b, b < HC.next → b ≠ tb → G.get b = HC.get b) ∧ ∃ sl, G.get tb = some (.row true 25 [sl]) ∧ VO Try.prog eR 45 HC G sl (X.take 40)
theorem VO.base {α : Type} {E : En α} {P : Program} {H0 H0' H : Heap} {el : TypeId} {sl : Value} {l : List α} (h : VO P E el H0 H sl l) (e : H0'.next ≤ H0.next) : VO P E el H0' H sl l := by
  unfold VO at h ⊢
  generalize l.length = n at h ⊢
  generalize l.flatMap E.enc = cs at h ⊢
  cases h with
  | nil => exact .nil
  | row hg hb0 hb hc hl => exact .row hg (Nat.le_trans e hb0) hb hc hl
theorem VO.setO {α : Type} {E : En α} {P : Program} {H0 H : Heap} {el : TypeId} {sl : Value} {l : List α} (h : VO P E el H0 H sl l) {b : Nat} (hb : b < H0.next) (o : AObj) : VO P E el H0 (H.set b o) sl l := by
  unfold VO at h ⊢
  generalize l.length = n at h ⊢
  generalize l.flatMap E.enc = cs at h ⊢
  cases h with
  | nil => exact .nil
  | row hg hb0 hbn hc hl => exact .row (by rw [get_set_ne (by omega)]; exact hg) hb0 hbn hc hl
theorem VO.setO' {α : Type} {E : En α} {P : Program} {H0 H : Heap} {el : TypeId} {sl : Value} {l : List α} {HC : Heap} (h : VO P E el HC H sl l) {b : Nat} (hb : b < HC.next) (h0 : H0.next ≤ HC.next) (o : AObj) : VO P E el H0 (H.set b o) sl l :=
  (h.setO hb o).base h0
theorem Jm.mono {HC : Heap} {tb : Nat} {X : List (List RQ)} {G G' : Heap} (h : Jm HC tb X G) (hb : tb < HC.next) (hle : Hle G G') : Jm HC tb X G' := by
  obtain ⟨h1, h2, sl, h3, h4⟩ := h
  exact ⟨Nat.le_trans h1 hle.next, fun b k1 k2 => (hle.get b (by omega)).trans (h2 b k1 k2), sl, (hle.get tb (by omega)).trans h3, h4.mono hle⟩
theorem VO.append1x {α : Type} {E : En α} {P : Program} {H0 H : Heap} {el t : TypeId} {sl : Value} {l : List α} (h : VO P E el H0 H sl l) (hle : Hle H0 H) (x : α) {i : TypeInfo} {z : Value} (ht : P.underlying t = some (.slice el)) (hi : P.info? el = some i) (hz : i.zero = some z) (hzs : z.cells.size = i.size) (hs : szOf P el = E.es) (h0 : 0 < E.es) (ho : okSrc P t = true) (h1 : (E.enc x).all (·.oneCell') = true)
    (hsm : l.length + 1 ≤ 9223372036854775807) (hb : (2 * (l.length + 1) + 200) * i.bytes ≤ 281474976710656) :
    ∃ v H', aAppend P (H.push (.row true el (E.enc x))) #[t, t] sl (.slice (some ⟨H.next, 0, none⟩) 1 1) = some (v, H') ∧ VO P E el H0 H' v (l ++ [x]) ∧ (∀ b, b < H.next → b ≠ sblk sl → H'.get b = H.get b) ∧ H.next ≤ H'.next ∧ (sblk v = sblk sl ∨ sblk v = H.next + 1) ∧ Hle H0 H' := by
  have hx := Sl.row (P := P) (H := H.push (.row true el (E.enc x))) (es := E.es) (b := H.next) (off := 0) (n := 1) (c := 1) (get_push_self _ _) (by simp) (.inr hs) (.inr ⟨Nat.le_refl _, by unfold unk; omega⟩) (by rw [E.len]; omega)
  have e1 : ((E.enc x).drop 0).take (1 * E.es) = E.enc x := by rw [List.drop_zero, Nat.one_mul, List.take_of_length_le (by rw [E.len]; omega)]
  rw [e1] at hx
  have h2 : Ow P H0 (H.push (.row true el (E.enc x))) E.es el sl l.length (l.flatMap E.enc) := Ow.mono h (Hle.push0 _)
  obtain ⟨a1, a2, a3, a4, a5⟩ := Ow.append h2 (hle.push _) ht hi hz hzs hs h0 ho (Sl.lenV hx) (Sl.src hx) (by rw [E.len]; omega) h1 hsm hb
  have ab := append_blk a1
  rw [next_push] at ab a4 a5
  refine ⟨_, _, a1, ?_, fun b k1 k2 => (a4 b (by omega) k2).trans (get_push_ne (by omega)), by omega, ab, a3⟩
  unfold VO
  rw [List.length_append, List.flatMap_append, List.flatMap_singleton]
  exact a2
theorem VO.sblk_lt {α : Type} {E : En α} {P : Program} {H0 H : Heap} {el : TypeId} {sl : Value} {l : List α} (h : VO P E el H0 H sl l) (h0 : 0 < H.next) : sblk sl < H.next := by
  unfold VO at h
  generalize l.length = n at h
  generalize l.flatMap E.enc = cs at h
  cases h with
  | nil => exact h0
  | row _ _ hb _ _ => exact hb
def Fm (HC : Heap) (tb : Nat) (G : Heap) (b : Nat) : Prop := b = tb ∨ (HC.next ≤ b ∧ ∃ sl, G.get tb = some (.row true 25 [sl]) ∧ sblk sl = b)
theorem take_snoc {α : Type} {X : List α} {x : α} (h : X.length < 40) : (X ++ [x]).take 40 = X.take 40 ++ [x] := by
  rw [List.take_of_length_le (by simp; omega), List.take_of_length_le (by omega)]
theorem take_full {α : Type} {X : List α} {x : α} (h : 40 ≤ X.length) : (X ++ [x]).take 40 = X.take 40 := List.take_append_of_le_length h
theorem c190 {HB : Heap} {b n : Nat} {own : Bool} {fs : List Value} {rs : List (List (List RQ))} (hg : HB.get b = some (.row own 80 fs)) (hb : b < HB.next) (hn : fs.length = n) (hl : rs.length = n) (hn9 : n < 2 ^ 40) (hI : ∀ (j : Nat) (f : Value) (r : List (List RQ)), fs[j]? = some f → rs[j]? = some r → It HB f r) :
    ACalls Try.prog 50 [.slice (some ⟨b, 0, none⟩) n n] HB fun v H' => ∃ sl, v = .agg ⟨[sl]⟩ ∧ VO Try.prog eR 45 HB H' sl (rs.flatten.take 40) ∧ Hle HB H' := by
  refine ACalls.of_code T.hm (n := 26) Try.func50 rfl rfl rfl rfl ?_; simp only [List.replicate_succ, List.replicate_zero, List.cons_append, List.nil_append]
  have hlen {a : Addr} : aLen Try.prog 117 (.slice (some a) n n) = some (.int .i64 n) := len_own T.i212
  simp (maxSteps := 1000000) (disch := first | exact sd | fail) only [go_sem, Nat.reduceAdd, Nat.reduceSub, Nat.reduceLeDiff, ↓reduceIte, decide_eq_true_eq, if_true, if_false, Bool.false_eq_true, Int.lt_irrefl, implies_true, true_and, and_true, eq_self, and_self, beq_self_eq_true, hlen]
  generalize hHC : (HB.push (.row true 25 [.slice none 0 0])).push (.row true 25 [.slice none 0 0]) = HC
  have nC : HC.next = HB.next + 2 := by rw [← hHC]; rfl
  have gC : ∀ c, c < HB.next → HC.get c = HB.get c := fun c hc => by rw [← hHC, get_push_ne (by rw [next_push]; omega), get_push_ne (by omega)]
  have gt : HC.get (HB.next + 1) = some (.row true 25 [.slice none 0 0]) := by rw [← hHC]; exact get_push_self (HB.push _) _
  have gr : HC.get HB.next = some (.row true 25 [.slice none 0 0]) := by rw [← hHC, get_push_ne (by rw [next_push]; omega)]; exact get_push_self HB _
  refine aw_loopJ (σ := Nat) (fun s J => [.slice (some ⟨b, 0, none⟩) n n, J 1, .pointer (some ⟨HB.next, 0, none⟩), .pointer (some ⟨HB.next + 1, 0, none⟩), J 4, J 5, J 6, .slice (some ⟨b, 0, none⟩) n n, .int .i64 n, .int .i64 s, J 10, J 11, J 12, J 13, J 14, J 15, J 16, J 17, J 18, J 19, J 20, J 21, J 22, J 23, J 24, J 25, J 26]) (fun m s H1 => m = n - s ∧ s ≤ n ∧ Jm HC (HB.next + 1) (rs.take s).flatten H1) n 0 rfl ⟨rfl, Nat.zero_le _, by omega, fun _ _ _ => rfl, _, gt, VO.nil⟩ ?_
  rintro m s J H1 ⟨rfl, hs, hj⟩
  by_cases h4 : (s : Int) < n
  · have hs' : s < n := by omega
    have hfs : fs[s]? = some fs[s] := List.getElem?_eq_getElem (by omega)
    have hrs : rs[s]? = some rs[s] := List.getElem?_eq_getElem (by omega)
    obtain ⟨g, cap, hf, it⟩ := hI s _ _ hfs hrs
    rw [hf] at hfs
    have et : (rs.take (s + 1)).flatten = (rs.take s).flatten ++ rs[s] := by
      rw [List.take_add_one, hrs]
      simp only [Option.toList_some, List.flatten_append, List.flatten_cons, List.flatten_nil, List.append_nil]
    generalize rs[s] = R at *
    generalize hX : (rs.take s).flatten = X at *
    have ha : aIndexAddr Try.prog 117 (.slice (some ⟨b, 0, none⟩) n n) (.int .i64 s) = some (.pointer (some ⟨b, 0 + s * 1, none⟩)) := ix_own Try.underlying117 T.z183 T.s183 (by omega) h4
    have hr : rowAt (H1.get b) (0 + s * 1) = some (.func (.func g) ⟨[]⟩ ⟨cap⟩) := by
      rw [hj.2.1 b (by omega) (by omega), gC b hb, hg, Nat.zero_add, Nat.mul_one]
      exact hfs
    simp (maxSteps := 1000000) (disch := first | exact sd | fail) only [go_sem, Nat.reduceAdd, Nat.reduceSub, Nat.reduceLeDiff, ↓reduceIte, decide_eq_true_eq, if_true, if_false, Bool.false_eq_true, Int.lt_irrefl, implies_true, true_and, and_true, eq_self, and_self, beq_self_eq_true, h4, ha, hr]
    refine aw_range (g := g) (cap := cap) rfl fun l fn tm df => ?_
    have hg0 : H1.gh = H1.gh := rfl
    generalize H1.gh = gs at hg0 ⊢
    refine (it l (fun pre G => G.gh = _ :: gs ∧ Jm HC (HB.next + 1) (X ++ pre) G) (Fm HC (HB.next + 1)) _ (fun pre G G' h hle hgh => ⟨hgh.trans h.1, h.2.mono (by omega) hle⟩) (fun pre G h => ⟨by have := h.2.1; omega, fun c hc => (h.2.2.1 c (by omega) (by omega)).trans (gC c hc)⟩) (fun pre G c h hf => by
      obtain ⟨_, k1, k2, sl, k3, k4⟩ := h
      rcases hf with rfl | ⟨_, sl', e1, rfl⟩
      · omega
      · rw [k3] at e1
        injection e1 with e1; injection e1 with _ _ e1; injection e1 with e1
        subst e1
        exact k4.sblk_lt (by omega)) (fun pre G G' c h hle hf => by
      rcases hf with rfl | ⟨h1, sl', e1, rfl⟩
      · exact .inl rfl
      · exact .inr ⟨h1, sl', by rw [← hle.get _ (by have := h.2.1; omega)]; exact e1, rfl⟩) ?_ ⟨rfl, by rw [List.append_nil]; exact hj.mono (by omega) (Hle.wg _ _)⟩).mono ?_
    · rintro pre x post G hp ⟨hgh, k1, k2, sl, k3, k4⟩
      refine AYields.one T.hm hgh rfl rfl ?_
      have k4' : VO Try.prog eR 45 HC (G.wg gs) sl ((X ++ pre).take 40) := k4.mono (Hle.wg _ _)
      have hsl := k4.isSl
      have hlen2 := k4.len (t := 23) T.s70 T.i72
      have k2' : ∀ c, c < HC.next → c ≠ HB.next + 1 → (G.wg gs).get c = HC.get c := k2
      have k3' : (G.wg gs).get (HB.next + 1) = some (.row true 25 [sl]) := k3
      have k1' : HC.next ≤ (G.wg gs).next := k1
      have eN : G.next = (G.wg gs).next := rfl
      have eG : ∀ c, G.get c = (G.wg gs).get c := fun _ => rfl
      generalize G.wg gs = G1 at *
      have hsb1 : ∀ c, c < HC.next → 0 < c → c ≠ sblk sl := fun c hc h0 e => by
        have k4b := k4'
        unfold VO at k4b
        generalize ((X ++ pre).take 40).length = nn at k4b
        generalize ((X ++ pre).take 40).flatMap eR.enc = cc at k4b
        cases k4b with
        | nil => exact absurd e (by show ¬ c = 0; omega)
        | @row b' off' n' c' cs' hg' hb0 _ _ _ =>
          have e2 : c = b' := e
          omega
      by_cases h5 : (X ++ pre).length < 40
      · have h6 : (((X ++ pre).take 40).length : Int) < 40 := by rw [List.length_take]; omega
        obtain ⟨v, H4, ea, oa, qa, na, bl, ql⟩ := VO.append1x (H0 := G1.bump HC.next) (VO.base k4' (Nat.le_refl _)) ⟨k1', fun _ _ => rfl⟩ x (t := 23) Try.underlying23 (info_of_type Try.type45) rfl rfl T.s70 (by decide) T.o72 rfl (by rw [List.length_take]; omega) (by rw [List.length_take]; show _ * 24 ≤ _; omega)
        have ea : aAppend Try.prog (G1.push (.row true 45 [Vv eQ x])) #[23, 23] sl (.slice (some ⟨G1.next, 0, none⟩) 1 1) = some (v, H4) := ea
        have pf : pFill (.slice none 0 0) 1 [(0, Vv eQ x)] = some [Vv eQ x] := rfl
        have gq : H4.get (HB.next + 1) = some (.row true 25 [sl]) := by rw [qa _ (by omega) (hsb1 _ (by omega) (by omega))]; exact k3'
        have isv := oa.isSl
        simp (maxSteps := 1000000) (disch := first | exact sd | fail) only [go_sem, Nat.reduceAdd, Nat.reduceSub, Nat.reduceLeDiff, ↓reduceIte, decide_eq_true_eq, if_true, if_false, Bool.false_eq_true, Int.lt_irrefl, implies_true, true_and, and_true, eq_self, and_self, beq_self_eq_true, k3', hlen2, h6, pf, ea, gq]
        refine ⟨⟨hgh, by rw [Heap.next_wg, next_set]; omega, fun c hc hne => ?_, v, by rw [Heap.get_wg, get_set_self], ?_⟩, by omega, fun c hc0 hc hnf => ?_⟩
        · rw [Heap.get_wg, get_set_ne hne, ql.get _ (by rw [next_bump]; exact hc), get_bump]
          exact k2' c hc hne
        · rw [← List.append_assoc, take_snoc h5]
          exact ((VO.base (H0' := HC) oa (Nat.le_refl _)).setO (by omega) _).mono (Hle.wg _ _)
        · have hct : c ≠ HB.next + 1 := fun e => hnf (.inl e)
          have hcs : c ≠ sblk sl := fun e => by
            rcases Nat.lt_or_ge c HC.next with h | h
            · exact hsb1 c h hc0 e
            · exact hnf (.inr ⟨h, sl, k3, e.symm⟩)
          refine ⟨by rw [get_set_ne hct, qa _ (by omega) hcs, eG], fun hf => ?_⟩
          rcases hf with e | ⟨_, sl', e1, e2⟩
          · exact hct e
          · rw [Heap.get_wg, get_set_self] at e1
            injection e1 with e1; injection e1 with _ _ e1; injection e1 with e1
            subst e1
            rcases bl with bl | bl
            · exact hcs (by rw [← e2, bl])
            · omega
      · have h6 : ¬ (((X ++ pre).take 40).length : Int) < 40 := by rw [List.length_take]; omega
        simp (maxSteps := 1000000) (disch := first | exact sd | fail) only [go_sem, Nat.reduceAdd, Nat.reduceSub, Nat.reduceLeDiff, ↓reduceIte, decide_eq_true_eq, if_true, if_false, Bool.false_eq_true, Int.lt_irrefl, implies_true, true_and, and_true, eq_self, and_self, beq_self_eq_true, k3', hlen2, h6]
        refine ⟨⟨hgh, k1', k2', sl, k3', by rw [← List.append_assoc, take_full (by omega)]; exact k4'.mono (Hle.wg _ _)⟩, by rw [eN]; exact Nat.le_refl _, fun c hc0 hc hnf => ⟨by rw [eG], fun hf => hnf ?_⟩⟩
        rcases hf with e | ⟨h, sl', e1, e2⟩
        · exact .inl e
        · exact .inr ⟨h, sl', by rw [eG]; exact e1, e2⟩
    · rintro v H' ⟨hgh, hj'⟩
      simp (maxSteps := 1000000) (disch := first | exact sd | fail) only [go_sem, Nat.reduceAdd, Nat.reduceSub, Nat.reduceLeDiff, ↓reduceIte, decide_eq_true_eq, if_true, if_false, Bool.false_eq_true, Int.lt_irrefl, implies_true, true_and, and_true, eq_self, and_self, beq_self_eq_true]
      exact IJ_intro (k := n - (s + 1)) (by omega) (s + 1) rfl ⟨rfl, by omega, by rw [et]; exact hj'.mono (by omega) (Hle.wg _ _)⟩
  · have e : s = n := by omega
    subst e
    obtain ⟨k1, k2, sl, k3, k4⟩ := hj
    have g0 : H1.get HB.next = some (.row true 25 [.slice none 0 0]) := (k2 _ (by omega) (by omega)).trans gr
    have hsl := k4.isSl
    have e3 : rs.take s = rs := List.take_of_length_le (by omega)
    rw [e3] at k4
    simp (maxSteps := 1000000) (disch := first | exact sd | fail) only [go_sem, Nat.reduceAdd, Nat.reduceSub, Nat.reduceLeDiff, ↓reduceIte, decide_eq_true_eq, if_true, if_false, Bool.false_eq_true, Int.lt_irrefl, implies_true, true_and, and_true, eq_self, and_self, beq_self_eq_true, h4, k3, g0]
    exact ⟨sl, rfl, VO.setO' k4 (by omega) (by omega) _, by rw [next_set]; omega, fun c hc => by rw [get_set_ne (by omega), k2 c (by omega) (by omega)]; exact gC c hc⟩
end Go.Abs

/- Interval, Zone. -/
set_option linter.unusedVariables false
set_option linter.unusedSimpArgs false
namespace Go.Abs
open Go Go.Proofs
set_option maxRecDepth 100000
set_option maxHeartbeats 4000000
def difI (n i m : Nat) : List (List RQ) := (List.range m).flatMap fun k => if k = i then [] else [r2 n i 1 k (-1)]
def difP (n m : Nat) : List (List RQ) := (List.range m).flatMap fun i => difI n i n
def dif (n : Nat) := difP n n
theorem difI_succ {n i m : Nat} : difI n i (m + 1) = difI n i m ++ (if m = i then [] else [r2 n i 1 m (-1)]) := by
  unfold difI; rw [List.range_succ, List.flatMap_append]; simp
theorem difP_succ {n m : Nat} : difP n (m + 1) = difP n m ++ difI n m n := by
  unfold difP; rw [List.range_succ, List.flatMap_append]; simp
theorem it224 {HB : Heap} {bn n : Nat} {own : Bool} (hg : HB.get bn = some (.row own 3 [.int .i64 n])) (hb : bn < HB.next) (hn : n ≤ 6) : It HB (.func (.func 91) ⟨[]⟩ ⟨[.pointer (some ⟨bn, 0, none⟩)]⟩) (dif n) := by
  refine ⟨_, _, rfl, fun l I Fo H hI hB hF1 hF2 hY h0 => ?_⟩
  have gB {pre : List (List RQ)} {H1 : Heap} (h : I pre H1) : H1.get bn = some (.row own 3 [.int .i64 n]) := ((hB _ _ h).get bn hb).trans hg
  refine ACalls.of_code T.hm (n := 25) Try.func91 rfl rfl rfl rfl ?_; simp only [List.replicate_succ, List.replicate_zero, List.cons_append, List.nil_append]
  simp (maxSteps := 1000000) (disch := first | exact sd | fail) only [go_sem, Nat.reduceAdd, Nat.reduceSub, Nat.reduceLeDiff, ↓reduceIte, decide_eq_true_eq, if_true, if_false, Bool.false_eq_true, Int.lt_irrefl, implies_true, true_and, and_true, eq_self, and_self, beq_self_eq_true, gB h0]
  refine aw_loopJ (σ := Nat) (fun s J => [.func (.yield l) ⟨[]⟩ ⟨[]⟩, .pointer (some ⟨bn, 0, none⟩), J 2, J 3, J 4, .int .i64 n, .int .i64 s, J 7, J 8, J 9, J 10, J 11, J 12, J 13, J 14, J 15, J 16, J 17, J 18, J 19, J 20, J 21, J 22, J 23, J 24, J 25, J 26]) (fun m s H1 => m = n - s ∧ s ≤ n ∧ I (difP n s) H1) n 0 rfl ⟨rfl, Nat.zero_le _, h0⟩ ?_
  rintro m s J H1 ⟨rfl, hs, hi⟩
  by_cases h4 : (s : Int) < n
  · have hs' : s < n := by omega
    obtain ⟨post, hp⟩ := range_split (f := fun i => difI n i n) hs'
    have hp : dif n = difP n s ++ (difI n s n ++ post) := hp
    have g1 := gB hi
    simp (maxSteps := 1000000) (disch := first | exact sd | fail) only [go_sem, Nat.reduceAdd, Nat.reduceSub, Nat.reduceLeDiff, ↓reduceIte, decide_eq_true_eq, if_true, if_false, Bool.false_eq_true, Int.lt_irrefl, implies_true, true_and, and_true, eq_self, and_self, beq_self_eq_true, h4, g1]
    refine aw_loopJ (σ := Nat) (fun k J => [.func (.yield l) ⟨[]⟩ ⟨[]⟩, .pointer (some ⟨bn, 0, none⟩), J 2, .int .i64 s, J 4, .int .i64 n, .int .i64 s, J 7, J 8, .int .i64 n, .int .i64 k, J 11, J 12, J 13, J 14, J 15, J 16, J 17, J 18, J 19, J 20, J 21, J 22, J 23, J 24, J 25, J 26]) (fun m k H1 => m = n - k ∧ k ≤ n ∧ I (difP n s ++ difI n s k) H1) n 0 rfl ⟨rfl, Nat.zero_le _, by simpa [difI] using hi⟩ ?_
    rintro m k J H1 ⟨rfl, hk, hi⟩
    by_cases h5 : (k : Int) < n
    · have hk' : k < n := by omega
      have g1 := gB hi
      by_cases h6 : (k : Int) = s
      · have e : k = s := by omega
        subst e
        simp (maxSteps := 1000000) (disch := first | exact sd | fail) only [go_sem, Nat.reduceAdd, Nat.reduceSub, Nat.reduceLeDiff, ↓reduceIte, decide_eq_true_eq, if_true, if_false, Bool.false_eq_true, Int.lt_irrefl, implies_true, true_and, and_true, eq_self, and_self, beq_self_eq_true, h5, g1, ne_eq, not_true_eq_false]
        exact IJ_intro (k := n - (k + 1)) (by omega) (k + 1) rfl ⟨rfl, by omega, by rw [difI_succ, if_pos rfl, List.append_nil]; exact hi⟩
      · simp (maxSteps := 1000000) (disch := first | exact sd | fail) only [go_sem, Nat.reduceAdd, Nat.reduceSub, Nat.reduceLeDiff, ↓reduceIte, decide_eq_true_eq, if_true, if_false, Bool.false_eq_true, Int.lt_irrefl, implies_true, true_and, and_true, eq_self, and_self, beq_self_eq_true, h5, g1, h6, ne_eq, not_false_eq_true]
        refine PC.step (p223d (i := s) (k := k) (a := 1) (b := -1) (by omega) hs' hk' (by omega) (by omega) (by omega)) fun m1 j1 => ?_
        try simp only [Heap.next_push, Heap.next_set, Heap.next_kill, next_bump, next_E0] at j1
        have i1 := hI _ _ _ hi (Hle.bumpS H1 j1) rfl
        obtain ⟨post2, hp2⟩ := range_split (f := fun k => if k = s then [] else [r2 n s 1 k (-1)]) hk'
        have hp2 : difI n s n = difI n s k ++ ((if k = s then [] else [r2 n s 1 k (-1)]) ++ post2) := hp2
        rw [if_neg (by omega)] at hp2
        simp (maxSteps := 1000000) (disch := first | exact sd | fail) only [go_sem, Nat.reduceAdd, Nat.reduceSub, Nat.reduceLeDiff, ↓reduceIte, decide_eq_true_eq, if_true, if_false, Bool.false_eq_true, Int.lt_irrefl, implies_true, true_and, and_true, eq_self, and_self, beq_self_eq_true]
        refine (hY _ _ (post2 ++ post) _ (by rw [hp, hp2]; simp) i1).mono ?_
        rintro v H2 ⟨rfl, i2, _⟩
        simp (maxSteps := 1000000) (disch := first | exact sd | fail) only [go_sem, Nat.reduceAdd, Nat.reduceSub, Nat.reduceLeDiff, ↓reduceIte, decide_eq_true_eq, if_true, if_false, Bool.false_eq_true, Int.lt_irrefl, implies_true, true_and, and_true, eq_self, and_self, beq_self_eq_true]
        exact IJ_intro (k := n - (k + 1)) (by omega) (k + 1) rfl ⟨rfl, by omega, by rw [difI_succ, if_neg (by omega), ← List.append_assoc]; exact i2⟩
    · have e : k = n := by omega
      subst e
      simp (maxSteps := 1000000) (disch := first | exact sd | fail) only [go_sem, Nat.reduceAdd, Nat.reduceSub, Nat.reduceLeDiff, ↓reduceIte, decide_eq_true_eq, if_true, if_false, Bool.false_eq_true, Int.lt_irrefl, implies_true, true_and, and_true, eq_self, and_self, beq_self_eq_true, h5]
      exact IJ_intro (k := k - (s + 1)) (by omega) (s + 1) rfl ⟨rfl, by omega, by rw [difP_succ]; exact hi⟩
  · have e : s = n := by omega
    subst e
    simp (maxSteps := 1000000) (disch := first | exact sd | fail) only [go_sem, Nat.reduceAdd, Nat.reduceSub, Nat.reduceLeDiff, ↓reduceIte, decide_eq_true_eq, if_true, if_false, Bool.false_eq_true, Int.lt_irrefl, implies_true, true_and, and_true, eq_self, and_self, beq_self_eq_true, h4]
    exact hi
def slt (n : Int) : Nat := (max 0 (min n 6)).toNat
theorem slt_le (n : Int) : slt n ≤ 6 := by unfold slt; omega
theorem p192 {n : Int} : PC Try.prog 52 [.int .i64 n] (.int .i64 (slt n)) := by
  refine PC.of (.cons (.ground rfl) .nil) (.ground rfl) fun N hN => ?_
  refine ACalls.of_code T.hm (n := 5) Try.func52 rfl rfl rfl rfl ?_; simp only [List.replicate_succ, List.replicate_zero, List.cons_append, List.nil_append]
  have e : ((slt n : Nat) : Int) = max 0 (min n 6) := by unfold slt; omega
  simp (maxSteps := 1000000) (disch := first | exact sd | fail) only [go_sem, Nat.reduceAdd, Nat.reduceSub, Nat.reduceLeDiff, ↓reduceIte, decide_eq_true_eq, if_true, if_false, Bool.false_eq_true, Int.lt_irrefl, implies_true, true_and, and_true, eq_self, and_self, beq_self_eq_true]
  rw [show (if (0 : Int) < if 6 < n then 6 else n then if 6 < n then 6 else n else 0) = (slt n : Int) from by rw [e]; split <;> split <;> omega]
  exact .rfl
theorem c191 {H : Heap} {n : Int} : ACalls Try.prog 51 [.int .i64 n] H fun v H' => v = .func (.func 89) ⟨[]⟩ ⟨[.pointer (some ⟨H.next, 0, none⟩)]⟩ ∧ H' = H.push (.row true 3 [.int .i64 n]) := by
  refine ACalls.of_code T.hm (n := 3) Try.func51 rfl rfl rfl rfl ?_; simp only [List.replicate_succ, List.replicate_zero, List.cons_append, List.nil_append]
  simp (maxSteps := 1000000) (disch := first | exact sd | fail) only [go_sem, Nat.reduceAdd, Nat.reduceSub, Nat.reduceLeDiff, ↓reduceIte, decide_eq_true_eq, if_true, if_false, Bool.false_eq_true, Int.lt_irrefl, implies_true, true_and, and_true, eq_self, and_self, beq_self_eq_true]
theorem c196 {H : Heap} {n : Int} : ACalls Try.prog 56 [.int .i64 n] H fun v H' => v = .func (.func 91) ⟨[]⟩ ⟨[.pointer (some ⟨H.next, 0, none⟩)]⟩ ∧ H' = H.push (.row true 3 [.int .i64 n]) := by
  refine ACalls.of_code T.hm (n := 3) Try.func56 rfl rfl rfl rfl ?_; simp only [List.replicate_succ, List.replicate_zero, List.cons_append, List.nil_append]
  simp (maxSteps := 1000000) (disch := first | exact sd | fail) only [go_sem, Nat.reduceAdd, Nat.reduceSub, Nat.reduceLeDiff, ↓reduceIte, decide_eq_true_eq, if_true, if_false, Bool.false_eq_true, Int.lt_irrefl, implies_true, true_and, and_true, eq_self, and_self, beq_self_eq_true]
def Tv (rows : List (List RQ)) : Value := .agg ⟨[Vv eR rows]⟩
theorem pu_T {rows : List (List RQ)} : Pu (Tv rows) := .agg (.cons pu_Rs .nil)
theorem p124 {n : Int} : PC Try.prog 14 [.int .i64 n] (Tv ((sgl (slt n)).take 40)) := by
  refine PC.of (.cons (.ground rfl) .nil) pu_T fun N hN => ?_
  have hs := slt_le n
  refine ACalls.of_code T.hm (n := 7) Try.func14 rfl rfl rfl rfl ?_; simp only [List.replicate_succ, List.replicate_zero, List.cons_append, List.nil_append]
  simp (maxSteps := 1000000) (disch := first | exact sd | fail) only [go_sem, Nat.reduceAdd, Nat.reduceSub, Nat.reduceLeDiff, ↓reduceIte, decide_eq_true_eq, if_true, if_false, Bool.false_eq_true, Int.lt_irrefl, implies_true, true_and, and_true, eq_self, and_self, beq_self_eq_true]
  refine PC.step (p192) fun m1 j1 => ?_
  try simp only [Heap.next_push, Heap.next_set, Heap.next_kill, next_bump, next_E0] at j1
  simp (maxSteps := 1000000) (disch := first | exact sd | fail) only [go_sem, Nat.reduceAdd, Nat.reduceSub, Nat.reduceLeDiff, ↓reduceIte, decide_eq_true_eq, if_true, if_false, Bool.false_eq_true, Int.lt_irrefl, implies_true, true_and, and_true, eq_self, and_self, beq_self_eq_true]
  refine c191.mono ?_
  rintro v H1 ⟨rfl, rfl⟩
  have pf {v : Value} {a b : List Value} {f : Fn} (hv : v = .func f ⟨a⟩ ⟨b⟩) : pFill .nilFunc 1 [(0, v)] = some [v] := by subst hv; rfl
  simp (maxSteps := 1000000) (disch := first | exact sd | fail) only [go_sem, Nat.reduceAdd, Nat.reduceSub, Nat.reduceLeDiff, ↓reduceIte, decide_eq_true_eq, if_true, if_false, Bool.false_eq_true, Int.lt_irrefl, implies_true, true_and, and_true, eq_self, and_self, beq_self_eq_true, pf rfl]
  refine gen_call fun G hG => ?_
  have nG : G.next = m1 + 2 := by rw [hG]; simp (maxSteps := 1000000) (disch := first | exact sd | fail) only [go_sem, Nat.reduceAdd, Nat.reduceSub, Nat.reduceLeDiff, ↓reduceIte, decide_eq_true_eq, if_true, if_false, Bool.false_eq_true, Int.lt_irrefl, implies_true, true_and, and_true, eq_self, and_self, beq_self_eq_true]
  have gG : G.get (m1 + 1) = some (.row true 80 [.func (.func 89) ⟨[]⟩ ⟨[.pointer (some ⟨m1, 0, none⟩)]⟩]) := by rw [hG]; simp (maxSteps := 1000000) (disch := first | exact sd | fail) only [go_sem, Nat.reduceAdd, Nat.reduceSub, Nat.reduceLeDiff, ↓reduceIte, decide_eq_true_eq, if_true, if_false, Bool.false_eq_true, Int.lt_irrefl, implies_true, true_and, and_true, eq_self, and_self, beq_self_eq_true]
  have gb : G.get m1 = some (.row true 3 [.int .i64 (slt n : Nat)]) := by rw [hG]; simp (maxSteps := 1000000) (disch := first | exact sd | fail) only [go_sem, Nat.reduceAdd, Nat.reduceSub, Nat.reduceLeDiff, ↓reduceIte, decide_eq_true_eq, if_true, if_false, Bool.false_eq_true, Int.lt_irrefl, implies_true, true_and, and_true, eq_self, and_self, beq_self_eq_true]
  have g0 : G.get N = some (.row true 25 [.slice none 0 0]) := by rw [hG]; simp (maxSteps := 1000000) (disch := first | exact sd | fail) only [go_sem, Nat.reduceAdd, Nat.reduceSub, Nat.reduceLeDiff, ↓reduceIte, decide_eq_true_eq, if_true, if_false, Bool.false_eq_true, Int.lt_irrefl, implies_true, true_and, and_true, eq_self, and_self, beq_self_eq_true]
  clear hG
  refine (c190 (rs := [sgl (slt n)]) gG (by omega) rfl rfl (by simp) (fun j f r hf hr => by
    match j, hf, hr with
    | 0, hf, hr =>
      injection hf with hf; injection hr with hr
      subst hf hr
      exact it222 gb (by omega) hs)).mono ?_
  rintro v H' ⟨sl, rfl, ho, hle⟩
  have hsl := ho.isSl
  have g0' : H'.get N = some (.row true 25 [.slice none 0 0]) := by rw [hle.get N (by omega)]; exact g0
  have nH := hle.next
  simp (maxSteps := 1000000) (disch := first | exact sd | fail) only [go_sem, Nat.reduceAdd, Nat.reduceSub, Nat.reduceLeDiff, ↓reduceIte, decide_eq_true_eq, if_true, if_false, Bool.false_eq_true, Int.lt_irrefl, implies_true, true_and, and_true, eq_self, and_self, beq_self_eq_true, g0']
  rw [List.flatten_cons, List.flatten_nil, List.append_nil] at ho
  exact .agg (.cons (VO.fz (ho.setO (by omega) _) T.s70 (by decide)) .nil)
theorem p126 {n : Int} : PC Try.prog 16 [.int .i64 n] (Tv ((sgl (slt n) ++ dif (slt n)).take 40)) := by
  refine PC.of (.cons (.ground rfl) .nil) pu_T fun N hN => ?_
  have hs := slt_le n
  refine ACalls.of_code T.hm (n := 10) Try.func16 rfl rfl rfl rfl ?_; simp only [List.replicate_succ, List.replicate_zero, List.cons_append, List.nil_append]
  simp (maxSteps := 1000000) (disch := first | exact sd | fail) only [go_sem, Nat.reduceAdd, Nat.reduceSub, Nat.reduceLeDiff, ↓reduceIte, decide_eq_true_eq, if_true, if_false, Bool.false_eq_true, Int.lt_irrefl, implies_true, true_and, and_true, eq_self, and_self, beq_self_eq_true]
  refine PC.step (p192) fun m1 j1 => ?_
  try simp only [Heap.next_push, Heap.next_set, Heap.next_kill, next_bump, next_E0] at j1
  simp (maxSteps := 1000000) (disch := first | exact sd | fail) only [go_sem, Nat.reduceAdd, Nat.reduceSub, Nat.reduceLeDiff, ↓reduceIte, decide_eq_true_eq, if_true, if_false, Bool.false_eq_true, Int.lt_irrefl, implies_true, true_and, and_true, eq_self, and_self, beq_self_eq_true]
  refine c191.mono ?_
  rintro v H1 ⟨rfl, rfl⟩
  simp (maxSteps := 1000000) (disch := first | exact sd | fail) only [go_sem, Nat.reduceAdd, Nat.reduceSub, Nat.reduceLeDiff, ↓reduceIte, decide_eq_true_eq, if_true, if_false, Bool.false_eq_true, Int.lt_irrefl, implies_true, true_and, and_true, eq_self, and_self, beq_self_eq_true]
  refine PC.step (p192) fun m2 j2 => ?_
  try simp only [Heap.next_push, Heap.next_set, Heap.next_kill, next_bump, next_E0] at j2
  try simp only [Heap.next_push, next_bump] at j2
  simp (maxSteps := 1000000) (disch := first | exact sd | fail) only [go_sem, Nat.reduceAdd, Nat.reduceSub, Nat.reduceLeDiff, ↓reduceIte, decide_eq_true_eq, if_true, if_false, Bool.false_eq_true, Int.lt_irrefl, implies_true, true_and, and_true, eq_self, and_self, beq_self_eq_true]
  refine c196.mono ?_
  rintro v H2 ⟨rfl, rfl⟩
  have pf {f g : Fn} {a b c d : List Value} : pFill .nilFunc 2 [(0, .func f ⟨a⟩ ⟨b⟩), (1, .func g ⟨c⟩ ⟨d⟩)] = some [.func f ⟨a⟩ ⟨b⟩, .func g ⟨c⟩ ⟨d⟩] := rfl
  simp (maxSteps := 1000000) (disch := first | exact sd | fail) only [go_sem, Nat.reduceAdd, Nat.reduceSub, Nat.reduceLeDiff, ↓reduceIte, decide_eq_true_eq, if_true, if_false, Bool.false_eq_true, Int.lt_irrefl, implies_true, true_and, and_true, eq_self, and_self, beq_self_eq_true, pf]
  refine gen_call fun G hG => ?_
  have nG : G.next = m2 + 2 := by rw [hG]; simp (maxSteps := 1000000) (disch := first | exact sd | fail) only [go_sem, Nat.reduceAdd, Nat.reduceSub, Nat.reduceLeDiff, ↓reduceIte, decide_eq_true_eq, if_true, if_false, Bool.false_eq_true, Int.lt_irrefl, implies_true, true_and, and_true, eq_self, and_self, beq_self_eq_true]
  have gG : G.get (m2 + 1) = some (.row true 80 [.func (.func 89) ⟨[]⟩ ⟨[.pointer (some ⟨m1, 0, none⟩)]⟩, .func (.func 91) ⟨[]⟩ ⟨[.pointer (some ⟨m2, 0, none⟩)]⟩]) := by rw [hG]; simp (maxSteps := 1000000) (disch := first | exact sd | fail) only [go_sem, Nat.reduceAdd, Nat.reduceSub, Nat.reduceLeDiff, ↓reduceIte, decide_eq_true_eq, if_true, if_false, Bool.false_eq_true, Int.lt_irrefl, implies_true, true_and, and_true, eq_self, and_self, beq_self_eq_true]
  have gb : G.get m1 = some (.row true 3 [.int .i64 (slt n : Nat)]) := by rw [hG]; simp (maxSteps := 1000000) (disch := first | exact sd | fail) only [go_sem, Nat.reduceAdd, Nat.reduceSub, Nat.reduceLeDiff, ↓reduceIte, decide_eq_true_eq, if_true, if_false, Bool.false_eq_true, Int.lt_irrefl, implies_true, true_and, and_true, eq_self, and_self, beq_self_eq_true]
  have gc : G.get m2 = some (.row true 3 [.int .i64 (slt n : Nat)]) := by rw [hG]; simp (maxSteps := 1000000) (disch := first | exact sd | fail) only [go_sem, Nat.reduceAdd, Nat.reduceSub, Nat.reduceLeDiff, ↓reduceIte, decide_eq_true_eq, if_true, if_false, Bool.false_eq_true, Int.lt_irrefl, implies_true, true_and, and_true, eq_self, and_self, beq_self_eq_true]
  have g0 : G.get N = some (.row true 25 [.slice none 0 0]) := by rw [hG]; simp (maxSteps := 1000000) (disch := first | exact sd | fail) only [go_sem, Nat.reduceAdd, Nat.reduceSub, Nat.reduceLeDiff, ↓reduceIte, decide_eq_true_eq, if_true, if_false, Bool.false_eq_true, Int.lt_irrefl, implies_true, true_and, and_true, eq_self, and_self, beq_self_eq_true]
  clear hG
  refine (c190 (rs := [sgl (slt n), dif (slt n)]) gG (by omega) rfl rfl (by simp) (fun j f r hf hr => by
    match j, hf, hr with
    | 0, hf, hr =>
      injection hf with hf; injection hr with hr
      subst hf hr
      exact it222 gb (by omega) hs
    | 1, hf, hr =>
      injection hf with hf; injection hr with hr
      subst hf hr
      exact it224 gc (by omega) hs)).mono ?_
  rintro v H' ⟨sl, rfl, ho, hle⟩
  have hsl := ho.isSl
  have g0' : H'.get N = some (.row true 25 [.slice none 0 0]) := by rw [hle.get N (by omega)]; exact g0
  have nH := hle.next
  simp (maxSteps := 1000000) (disch := first | exact sd | fail) only [go_sem, Nat.reduceAdd, Nat.reduceSub, Nat.reduceLeDiff, ↓reduceIte, decide_eq_true_eq, if_true, if_false, Bool.false_eq_true, Int.lt_irrefl, implies_true, true_and, and_true, eq_self, and_self, beq_self_eq_true, g0']
  rw [List.flatten_cons, List.flatten_cons, List.flatten_nil, List.append_nil] at ho
  exact .agg (.cons (VO.fz (ho.setO (by omega) _) T.s70 (by decide)) .nil)
end Go.Abs
