/- The order of locations: the document's. -/
import Derived.Test.YtboekagofficpaaGreatO5
import Derived.Test.YtboekagofficpaaGreatO10
set_option linter.unusedVariables false
set_option linter.unusedSimpArgs false
namespace Go.Abs
open Go Go.Proofs
set_option maxRecDepth 100000
set_option maxHeartbeats 4000000
def plO11_234_10 : Plan := ⟨[0, 1, 2, 3, 4, 5, 6], [(7, [], [])]⟩
/-- What goes through locations, in memory. -/
structure WK (B wb hb db n : Nat) (l : RW) (H : Heap) (s : OS) : Prop where
  nx : B ≤ H.next
  w : ∃ ls, H.get wb = some (.row true 67 [Vv eL l.locs, Vv eS l.slots, Vv eE l.edges, Vv eV l.viols, .slice (some ⟨hb, 0, none⟩) n n, .slice (some ⟨db, 0, none⟩) n n, ls]) ∧ NO (E0 B) H ls s.left
  h : H.get hb = some (.row true 3 (s.how.map (.int .i64)))
  d : H.get db = some (.row true 4 (s.head.map .bool))
structure WB (B wb hb db : Nat) : Prop where
  p : 0 < hb
  a : hb < db
  b : db < wb
  c : wb < B
theorem WK.mono {B wb hb db n : Nat} {l : RW} {H H' : Heap} {s : OS} (h : WK B wb hb db n l H s) (b : WB B wb hb db) (hle : Hle H H') : WK B wb hb db n l H' s := by
  obtain ⟨ls, h1, h2⟩ := h.w
  have := h.nx
  have := b.a; have := b.b; have := b.c
  exact ⟨Nat.le_trans h.nx hle.next, ⟨ls, (hle.get _ (by omega)).trans h1, h2.monoU hle⟩, (hle.get _ (by omega)).trans h.h, (hle.get _ (by omega)).trans h.d⟩
theorem WK.setH {B wb hb db n : Nat} {l : RW} {H : Heap} {s : OS} (h : WK B wb hb db n l H s) (b : WB B wb hb db) {x : List Int} : WK B wb hb db n l (H.set hb (.row true 3 (x.map (.int .i64)))) ⟨x, s.head, s.left⟩ := by
  obtain ⟨ls, h1, h2⟩ := h.w
  have := b.a; have := b.b; have := b.c
  exact ⟨h.nx, ⟨ls, (get_set_ne (by omega)).trans h1, h2.setFU (by show hb < B; omega) _⟩, get_set_self _ _ _, (get_set_ne (by omega)).trans h.d⟩
theorem WK.setD {B wb hb db n : Nat} {l : RW} {H : Heap} {s : OS} (h : WK B wb hb db n l H s) (b : WB B wb hb db) {x : List Bool} : WK B wb hb db n l (H.set db (.row true 4 (x.map .bool))) ⟨s.how, x, s.left⟩ := by
  obtain ⟨ls, h1, h2⟩ := h.w
  have := b.a; have := b.b; have := b.c
  exact ⟨h.nx, ⟨ls, (get_set_ne (by omega)).trans h1, h2.setFU (by show db < B; omega) _⟩, (get_set_ne (by omega)).trans h.h, get_set_self _ _ _⟩
theorem Hle.ps {H : Heap} {o o' : AObj} : Hle H ((H.push o).set H.next o') := Hle.set (Hle.push0 _) (Nat.le_refl _) _
theorem lowHle {B : Nat} {H : Heap} (h : B ≤ H.next) : Hle ⟨B, H.tr, H.gh⟩ H := ⟨h, fun _ _ => rfl⟩
theorem c234 {l : RW} {n B wb hb db : Nat} (hb0 : WB B wb hb db) (hn : n ≤ 40) (hE : ∀ j, j < l.edges.length → (0 ≤ (l.edges.getD j eE.d).f ∧ (l.edges.getD j eE.d).f < n) ∧ (0 ≤ (l.edges.getD j eE.d).t ∧ (l.edges.getD j eE.d).t < n)) (hl : l.edges.length ≤ 200) (ho : ∀ v, ∀ u ∈ outE l.edges v, u < n) :
    ∀ (f k d : Nat) (s : OS) (H : Heap), OI n d s → WK B wb hb db n l H s → k < n → s.how.getD k 0 = 0 → s.un ≤ f → ACalls Tryz.prog 25 [.pointer (some ⟨wb, 0, none⟩), .int .i64 k] H fun v H' => v = .tuple ⟨[]⟩ ∧ WK B wb hb db n l H' (visit (outE l.edges) f k s)
  | 0, k, d, s, H, oi, wk, hk, h0, hu => by have := un_pos (by rw [oi.how]; exact hk) h0; omega
  | f + 1, k, d, s, H, oi, wk, hk, h0, hu => by
    have p1 := hb0.a; have p2 := hb0.b; have p3 := hb0.c
    obtain ⟨ls, w1, w2⟩ := wk.w
    have w3 := wk.h
    have w5 := wk.nx
    have hlen := oi.how
    have hk1 : k + 1 ≤ n := hk
    have ixk := ix_int (b := hb) (n := n) (i := k) hk
    have spk := sp_int (l := s.how) (i := k) (x := 1) (by omega)
    have u1 := un_beg (s := s) (t := k) (by omega) h0
    refine ACalls.of_code T.hm (n := 71) Tryz.func25 rfl rfl rfl rfl ?_; simp only [List.replicate_succ, List.replicate_zero, List.cons_append, List.nil_append]
    simp (maxSteps := 1000000) (disch := first | exact sd | fail) only [go_sem, Nat.reduceAdd, Nat.reduceSub, Nat.reduceLeDiff, ↓reduceIte, decide_eq_true_eq, if_true, if_false, Bool.false_eq_true, Int.lt_irrefl, implies_true, true_and, and_true, eq_self, and_self, beq_self_eq_true, aw_drawn (id := 6), aw_drawn' (id := 6), aw_plan (id := 10) plO11_234_10, plO11_234_10, w1, w3, ixk, List.length_map, hlen, hk1, spk]
    have wk1 : WK B wb hb db n l (H.set hb (.row true 3 ((s.how.set k 1).map (.int .i64)))) (s.beg k) := wk.setH hb0
    rw [visit_succ]
    have oi1 := oi.beg hk h0
    generalize hH1 : H.set hb (.row true 3 ((s.how.set k 1).map (.int .i64))) = H1 at *
    generalize s.beg k = s1 at *
    clear w1 w2 w3
    refine aw_loopJ (σ := Nat) (fun i J => [.pointer (some ⟨wb, 0, none⟩), .int .i64 k, J 2, J 3, .int .i64 i, J 5, J 6, J 7, J 8, J 9, J 10, J 11, J 12, J 13, J 14, J 15, J 16, J 17, J 18, J 19, J 20, J 21, J 22, J 23, J 24, J 25, J 26, J 27, J 28, J 29, J 30, J 31, J 32, J 33, J 34, J 35, J 36, J 37, J 38, J 39, J 40, J 41, J 42, J 43, J 44, J 45, J 46, J 47, J 48, J 49, J 50, J 51, J 52, J 53, J 54, J 55, J 56, J 57, J 58, J 59, J 60, J 61, J 62, J 63, J 64, J 65, J 66, J 67, J 68, J 69, J 70, J 71, J 72]) (fun m i H2 => m = l.edges.length - i ∧ i ≤ l.edges.length ∧ ∃ s2, s2 = (outE (l.edges.take i) k).foldl (stepO (outE l.edges) f) s1 ∧ OI n (d + 1) s2 ∧ s2.un ≤ f ∧ WK B wb hb db n l H2 s2) l.edges.length 0 rfl ⟨rfl, Nat.zero_le _, s1, rfl, oi1, by omega, wk1⟩ ?_
    rintro m i J H2 ⟨rfl, hi, s2, es2, oi2, hu2, wk2⟩
    obtain ⟨ls, w1, w2⟩ := wk2.w
    have w3 := wk2.h
    have w4 := wk2.d
    have w5 := wk2.nx
    have hlen := oi2.how
    have hlen2 := oi2.head
    by_cases h4 : (i : Int) < l.edges.length
    · have h5 : (i : Int).toNat = i := rfl
      have hs := outE_succ (E := l.edges) (v := k) (s := i) (by omega)
      have he := hE i (by omega)
      generalize hee : l.edges.getD i eE.d = a at *
      by_cases h6 : a.f = k
      rotate_left
      · simp (maxSteps := 30000000) (disch := first | exact sd | fail) only [go_sem, Nat.reduceAdd, Nat.reduceSub, Nat.reduceLeDiff, ↓reduceIte, decide_eq_true_eq, if_true, if_false, Bool.false_eq_true, Int.lt_irrefl, implies_true, true_and, and_true, eq_self, and_self, beq_self_eq_true, aw_drawn (id := 6), aw_drawn' (id := 6), aw_plan (id := 10) plO11_234_10, plO11_234_10, w1, h4, h5, hee, h6, ne_eq, not_false_eq_true]
        rw [if_neg h6, List.append_nil] at hs
        exact IJ_intro (k := l.edges.length - (i + 1)) (by omega) (i + 1) rfl ⟨rfl, by omega, s2, by rw [hs]; exact es2, oi2, hu2, wk2.mono hb0 Hle.ps⟩
      obtain ⟨u, hu3⟩ : ∃ u : Nat, a.t = u := ⟨a.t.toNat, by omega⟩
      have hun : u < n := by omega
      have hun1 : u + 1 ≤ n := hun
      rw [if_pos h6, hu3, Int.toNat_natCast] at hs
      have es3 : (outE (l.edges.take (i + 1)) k).foldl (stepO (outE l.edges) f) s1 = stepO (outE l.edges) f s2 u := by rw [hs, List.foldl_append, ← es2]; rfl
      have oi3 := step_OI (f := f) ho oi2 hun
      have ixu := ix_int (b := hb) (n := n) (i := u) hun
      have ixd := ix_bool (b := db) (n := n) (i := u) hun
      have gtu := gt_int (l := s2.how) (i := u) (by omega)
      have spd := sp_bool (l := s2.head) (i := u) (x := true) (by omega)
      have hu4 : u < (s2.head.map Value.bool).length := by rw [List.length_map]; omega
      by_cases h7 : s2.how.getD u 0 = 0
      · rw [h7] at gtu
        simp (maxSteps := 30000000) (disch := first | exact sd | fail) only [go_sem, Nat.reduceAdd, Nat.reduceSub, Nat.reduceLeDiff, ↓reduceIte, decide_eq_true_eq, if_true, if_false, Bool.false_eq_true, Int.lt_irrefl, implies_true, true_and, and_true, eq_self, and_self, beq_self_eq_true, aw_drawn (id := 6), aw_drawn' (id := 6), aw_plan (id := 10) plO11_234_10, plO11_234_10, w1, w3, h4, h5, hee, h6, hu3, ixu, gtu, ne_eq, not_true_eq_false]
        refine (c234 hb0 hn hE hl ho f u (d + 1) s2 _ oi2 (wk2.mono hb0 Hle.ps) hun h7 hu2).mono ?_
        rintro _ H3 ⟨rfl, wk3⟩
        simp (maxSteps := 1000000) (disch := first | exact sd | fail) only [go_sem, Nat.reduceAdd, Nat.reduceSub, Nat.reduceLeDiff, ↓reduceIte, decide_eq_true_eq, if_true, if_false, Bool.false_eq_true, Int.lt_irrefl, implies_true, true_and, and_true, eq_self, and_self, beq_self_eq_true, aw_drawn (id := 6), aw_drawn' (id := 6), aw_plan (id := 10) plO11_234_10, plO11_234_10]
        refine IJ_intro (k := l.edges.length - (i + 1)) (by omega) (i + 1) rfl ⟨rfl, by omega, _, rfl, by rw [es3]; exact oi3.1, by rw [es3]; omega, ?_⟩
        · rw [es3]
          unfold stepO
          rw [if_pos h7]
          exact wk3
      · by_cases h8 : s2.how.getD u 0 = 1
        · rw [h8] at gtu
          have e3 : stepO (outE l.edges) f s2 u = s2.mark u := by unfold stepO; rw [if_neg h7, if_pos h8]
          simp (maxSteps := 30000000) (disch := first | exact sd | fail) only [go_sem, Nat.reduceAdd, Nat.reduceSub, Nat.reduceLeDiff, ↓reduceIte, decide_eq_true_eq, if_true, if_false, Bool.false_eq_true, Int.lt_irrefl, implies_true, true_and, and_true, eq_self, and_self, beq_self_eq_true, aw_drawn (id := 6), aw_drawn' (id := 6), aw_plan (id := 10) plO11_234_10, plO11_234_10, w1, w3, w4, h4, h5, hee, h6, hu3, ixu, gtu, ixd, List.length_map, hlen2, hun1, spd, ne_eq, not_true_eq_false]
          refine IJ_intro (k := l.edges.length - (i + 1)) (by omega) (i + 1) rfl ⟨rfl, by omega, _, rfl, by rw [es3]; exact oi3.1, by rw [es3]; omega, ?_⟩
          rw [es3, e3]
          exact (wk2.mono hb0 Hle.ps).setD hb0
        · have e3 : stepO (outE l.edges) f s2 u = s2 := by unfold stepO; rw [if_neg h7, if_neg h8]
          generalize s2.how.getD u 0 = x at *
          simp (maxSteps := 30000000) (disch := first | exact sd | fail) only [go_sem, Nat.reduceAdd, Nat.reduceSub, Nat.reduceLeDiff, ↓reduceIte, decide_eq_true_eq, if_true, if_false, Bool.false_eq_true, Int.lt_irrefl, implies_true, true_and, and_true, eq_self, and_self, beq_self_eq_true, aw_drawn (id := 6), aw_drawn' (id := 6), aw_plan (id := 10) plO11_234_10, plO11_234_10, w1, w3, h4, h5, hee, h6, h7, h8, hu3, ixu, gtu, ne_eq, not_true_eq_false]
          refine IJ_intro (k := l.edges.length - (i + 1)) (by omega) (i + 1) rfl ⟨rfl, by omega, _, rfl, by rw [es3]; exact oi3.1, by rw [es3]; omega, ?_⟩
          rw [es3, e3]
          exact wk2.mono hb0 Hle.ps
    have e : i = l.edges.length := by omega
    subst e
    rw [List.take_length] at es2
    rw [← es2]
    have ixk2 := ix_int (b := hb) (n := n) (i := k) hk
    have spk2 := sp_int (l := s2.how) (i := k) (x := 2) (by omega)
    have hll : s2.left.length ≤ n := by have := oi2.left; omega
    have wk3 : WK B wb hb db n l (H2.set hb (.row true 3 ((s2.how.set k 2).map (.int .i64)))) ⟨s2.how.set k 2, s2.head, s2.left⟩ := wk2.setH hb0
    have gw : (H2.set hb (.row true 3 ((s2.how.set k 2).map (.int .i64)))).get wb = H2.get wb := get_set_ne (by omega)
    obtain ⟨v, H4, ea, oa, fr, nx, bl⟩ := NO.append1 (w2.setFU (b := hb) (by show hb < B; omega) (.row true 3 ((s2.how.set k 2).map (.int .i64)))) wk3.nx (k : Int) (by omega)
    have isv := oa.isSl
    generalize hH3 : H2.set hb (.row true 3 ((s2.how.set k 2).map (.int .i64))) = H3 at *
    have nb := w2.blkU
    have w5' := wk3.nx
    have nb : sblk ls = 0 ∨ B ≤ sblk ls := nb
    have p4 := hb0.p
    have f1 := fr hb (by omega) (by omega)
    have f2 := fr db (by omega) (by omega)
    have f3 := fr wb (by omega) (by omega)
    rw [gw, w1] at f3
    have w1' : H3.get wb = _ := gw.trans w1
    simp (maxSteps := 30000000) (disch := first | exact sd | fail) only [go_sem, Nat.reduceAdd, Nat.reduceSub, Nat.reduceLeDiff, ↓reduceIte, decide_eq_true_eq, if_true, if_false, Bool.false_eq_true, Int.lt_irrefl, implies_true, true_and, and_true, eq_self, and_self, beq_self_eq_true, aw_drawn (id := 6), aw_drawn' (id := 6), aw_plan (id := 10) plO11_234_10, plO11_234_10, h4, w1, w3, ixk2, List.length_map, hlen, hk1, spk2, hH3, w1', ea, f3]
    refine ⟨by show B ≤ H4.next; omega, ⟨v, by rw [get_set_self], oa.setFU (by show wb < B; omega) _⟩, ?_, ?_⟩
    · rw [get_set_ne (by omega), f1]; exact wk3.h
    · rw [get_set_ne (by omega), f2]; exact wk3.d
end Go.Abs
