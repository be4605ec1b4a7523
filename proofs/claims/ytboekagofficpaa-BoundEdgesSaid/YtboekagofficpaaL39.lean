/- BoundEdges, on values. -/
import Derived.Test.YtboekagofficpaaO16
import Derived.Test.YtboekagofficpaaO7
import Derived.Test.YtboekagofficpaaO8
import Derived.Test.YtboekagofficpaaOz
set_option linter.unusedVariables false
set_option linter.unusedSimpArgs false
namespace Go.Abs
open Go Go.Proofs
set_option maxRecDepth 100000
set_option maxHeartbeats 40000000
def plL39_39_8 : Plan := ⟨[0, 1, 3, 4], [(2, [3], []), (5, [], []), (6, [], [7, 8, 9, 11, 12]), (10, [11], []), (13, [], []), (14, [], [15, 16, 17, 18, 19, 21, 22, 23]), (20, [21], []), (24, [], []), (25, [], [26, 27, 28, 29, 30, 32, 33]), (31, [32], []), (34, [], [35, 36, 37, 38, 39, 40, 42, 43, 44]), (41, [43, 42], []), (45, [], [46, 47, 48]), (49, [], [50, 51])]⟩
theorem p134 : PC Try.prog 7 [] (.bool true) := PC.reckoned T.hm (n := 100000) (by kernel_rfl)
theorem Nzs.len : ∀ {ps vs : List Value}, Nzs ps vs → ps.length = vs.length
  | _, _, .nil => rfl
  | _, _, .cons _ hs => by simp [Nzs.len hs]
/-- Nil for empty within what is frozen. -/
theorem Gh.nzf {P : Program} {H : Heap} {n : Nat} {ps vs : List Value} (h : Nzs ps vs) : Gh P [fzv n vs] H [fzv n ps] H := ⟨rfl, fun ρ w cs hR hv => by
  have hl := h.len
  cases hv with
  | cons h1 h2 =>
    cases h2
    refine ⟨ρ, Ext.refl hR, .cons ?_ .nil⟩
    rcases h1.frozen with ⟨b, off, L, cs, c, k1, hf, hn, hb, hc, rfl⟩ | ⟨rfl, e, rfl⟩ | ⟨rfl, e, a, c, rfl⟩
    · exact .fz k1 hf hn (by rw [hl]; exact hb) (by rw [hl]; exact h.rel hc)
    · subst e
      cases h
      exact .fznil
    · subst e
      cases h
      exact .fzvoid⟩
theorem Gh.voX {α : Type} {E : En α} {P : Program} {H0 H : Heap} {el : TypeId} {sl : Value} {l : List α} (h : VO P E el H0 H sl l) (he : 0 < E.es) : ∃ H', Gh P [sl] H [Vv E l] H' ∧ (∀ c, c ≠ sblk sl → H'.get c = H.get c) ∧ H.next ≤ H'.next := by
  unfold VO at h
  generalize hn : l.length = n at h
  generalize hcs : l.flatMap E.enc = cs at h
  cases h with
  | nil =>
    refine ⟨H, ⟨rfl, fun ρ w cs hR hv => ⟨ρ, Ext.refl hR, ?_⟩⟩, fun _ _ => rfl, Nat.le_refl _⟩
    cases hv with
    | cons h1 h2 =>
      cases h2
      have hl : l = [] := List.length_eq_zero_iff.1 hn
      subst hl
      exact .cons (Nz.rel .nil h1) .nil
  | @row b off n c rs hg hb0 hb hc hl =>
    refine ⟨(H.kill b).bump (H.next + 1), ?_, fun c hc => by rw [get_bump]; exact get_kill_ne hc, by rw [next_bump]; exact Nat.le_succ _⟩
    have := Gh.sliceOU (P := P) (n := n) (c := c) (es := E.es) hg (hc.imp id fun h => h.1) he hl
    unfold Vv
    rw [hn, hcs]
    exact this
theorem VO.appendVU {α : Type} {E : En α} {P : Program} {H0 H : Heap} {el t : TypeId} {sl : Value} {l l2 : List α} (h : VO P E el H0 H sl l) (hle : Hle H0 H) (ht : P.underlying t = some (.slice el)) {i : TypeInfo} {z : Value} (hi : P.info? el = some i) (hz : i.zero = some z) (hzs : z.cells.size = i.size) (hs : szOf P el = E.es) (h0 : 0 < E.es) (ho : okSrc P t = true)
    (h1 : ∀ a ∈ l2, (E.enc a).all (·.oneCell') = true) (hsm : l.length + l2.length ≤ 9223372036854775807) (hb : (2 * (l.length + l2.length) + 200) * i.bytes ≤ 281474976710656) :
    ∃ v H', aAppend P H #[t, t] sl (Vv E l2) = some (v, H') ∧ VO P E el H0 H' v (l ++ l2) ∧ Hle H0 H' ∧ H.next ≤ H'.next := by
  obtain ⟨a1, a2, a3, a4, a5⟩ := Ow.append h hle ht hi hz hzs hs h0 ho (lenV_Vv (E := E) (l := l2)) (src_Vv H) (E.flat_length l2) (by
    simp only [List.all_eq_true, List.mem_flatMap] at h1 ⊢
    rintro x ⟨a, ha, hx⟩
    exact h1 a ha x hx) hsm hb
  refine ⟨_, _, a1, ?_, a3, a5⟩
  unfold VO
  rw [List.length_append, List.flatMap_append]
  exact a2
/-- Edges as they came, or as made. -/
def eEx : En (Option RE) := ⟨fun o => match o with | none => [.int .i64 0, .int .i64 0, .int .i64 0, .slice none 0 0, .slice none 0 0, .slice none 0 0] | some e => eE.enc e, 6, none, fun o => by cases o <;> rfl⟩
theorem eEx_some {l : List RE} : (l.map some).flatMap eEx.enc = l.flatMap eE.enc := by
  induction l with
  | nil => rfl
  | cons a l ih => rw [List.map_cons, List.flatMap_cons, List.flatMap_cons, ih]; rfl
theorem eEx_nz {l : List RE} : Nzs ((l ++ [(⟨0, 0, 0, [], [], []⟩ : RE)]).flatMap eE.enc) ((l.map some ++ [none]).flatMap eEx.enc) := by
  rw [List.flatMap_append, List.flatMap_append, eEx_some]
  induction l.flatMap eE.enc with
  | nil => exact .cons .rfl (.cons .rfl (.cons .rfl (.cons .vnil (.cons .vnil (.cons .vnil .nil)))))
  | cons a l ih => exact .cons .rfl ih
/-! ### the programs -/
def moreW (l : RW) : RW := ⟨l.locs, l.slots, l.edges ++ [⟨0, 0, 0, [], [], []⟩], l.viols⟩
theorem edg_ok {n : Int} {ns : List Int} (hn : 0 ≤ n) : okW (edgW n ns) = true ∧ okW (moreW (edgW n ns)) = true ∧ LimW (edgW n ns) ∧ SmW (edgW n ns) ∧ LimW (moreW (edgW n ns)) ∧ SmW (moreW (edgW n ns)) ∧ (edgW n ns).edges.length ≤ 40 := by
  have hM : maxLen = 9223372036854775807 := rfl
  have h12 := Int.tmod_nonneg 12 hn
  have h13 := Int.tmod_lt_of_pos n (show (0 : Int) < 12 by decide)
  have hk1 : 1 ≤ kkN n ∧ kkN n ≤ 12 := by unfold kkN; omega
  have hj : jmx ns ≤ 40 := by unfold jmx; omega
  unfold moreW edgW
  generalize kkN n = kk at *
  generalize jmx ns = jm at *
  have hE : ∀ e ∈ (edgP kk ns jm).map mkE ++ [(⟨0, 0, 0, [], [], []⟩ : RE)], ((0 ≤ e.f ∧ e.f < kk) ∧ 0 ≤ e.t ∧ e.t < kk) ∧ e.m = 0 ∧ e.g = [] ∧ e.s = [] ∧ e.p = [] := by
    intro e he
    rcases List.mem_append.1 he with he | he
    · obtain ⟨p, hp, rfl⟩ := List.mem_map.1 he
      unfold edgP at hp
      obtain ⟨i, _, rfl⟩ := List.mem_map.1 hp
      have f1 := Nat.mod_lt (ns.getD (2 * i) 0).toNat (show 0 < kk by omega)
      have f2 := Nat.mod_lt (ns.getD (2 * i + 1) 0).toNat (show 0 < kk by omega)
      unfold mkE
      dsimp only
      exact ⟨by omega, rfl, rfl, rfl, rfl⟩
    · rw [List.mem_singleton.1 he]
      exact ⟨by dsimp only; omega, rfl, rfl, rfl, rfl⟩
  have hl : ((edgP kk ns jm).map mkE).length = jm := by rw [List.length_map, edgP_len]
  have ok (e : RE) (h : ((0 ≤ e.f ∧ e.f < kk) ∧ 0 ≤ e.t ∧ e.t < kk) ∧ e.m = 0 ∧ e.g = [] ∧ e.s = [] ∧ e.p = []) : okE kk 0 e = true := by
    obtain ⟨⟨h1, h2⟩, h3, h4, h5, h6⟩ := h
    refine okE_iff.2 ⟨h1, h2, by omega, by rw [h5]; rfl, by rw [h5]; rfl, by rw [h4]; rfl⟩
  have lm (e : RE) (h : ((0 ≤ e.f ∧ e.f < kk) ∧ 0 ≤ e.t ∧ e.t < kk) ∧ e.m = 0 ∧ e.g = [] ∧ e.s = [] ∧ e.p = []) : LimE e ∧ SmE e := by
    obtain ⟨⟨h1, h2⟩, h3, h4, h5, h6⟩ := h
    have hA : LimAs [] := ⟨Nat.zero_le _, fun a ha => by cases ha⟩
    unfold LimE SmE I64
    rw [h4, h5, h6]
    exact ⟨⟨by omega, by omega, by omega, hA, hA, Nat.zero_le _⟩, ⟨fun a ha => (by cases ha), fun a ha => (by cases ha)⟩⟩
  have hE1 : ∀ e ∈ (edgP kk ns jm).map mkE, _ := fun e he => hE e (List.mem_append.2 (.inl he))
  refine ⟨?_, ?_, ⟨by rw [List.length_replicate]; omega, Nat.zero_le _, ⟨by rw [hl]; omega, fun e he => (lm e (hE1 e he)).1⟩, Nat.zero_le _, fun e he => by cases he⟩, ⟨fun e he => (lm e (hE1 e he)).2, fun e he => by cases he⟩, ⟨by rw [List.length_replicate]; omega, Nat.zero_le _, ⟨by rw [List.length_append, hl, List.length_singleton]; omega, fun e he => (lm e (hE e he)).1⟩, Nat.zero_le _, fun e he => by cases he⟩, ⟨fun e he => (lm e (hE e he)).2, fun e he => by cases he⟩, by rw [hl]; omega⟩
  · unfold okW
    dsimp only
    simp only [List.length_nil]
    rw [List.length_replicate, hl, decide_eq_true (by simp; omega), List.all_eq_true.2 fun e he => ok e (hE1 e he)]
    rfl
  · unfold okW
    dsimp only
    simp only [List.length_nil]
    rw [List.length_replicate, List.length_append, hl, List.length_singleton, decide_eq_true (by simp; omega), List.all_eq_true.2 fun e he => ok e (hE e he)]
    rfl
theorem turns_lt {d w r : Int} (hd : 0 ≤ d ∧ d < 20) : turnsV d [] 0 r < turnsV (d + 1) [] 0 r := by
  have e1 : okO d [] 0 = true := by simp [okO]; omega
  have e2 : okO (d + 1) [] 0 = true := by simp [okO]; omega
  unfold turnsV
  rw [e1, e2, if_pos rfl, if_pos rfl]
  omega
theorem sweeps_le {l : RW} {d d' w r : Int} {th : List RQ} (h : turnsV d th w r ≤ turnsV d' th w r) : sweepsV l d th w r ≤ sweepsV l d' th w r := by
  unfold sweepsV
  split
  · exact Nat.add_le_add_right (Nat.mul_le_mul_right _ (Nat.add_le_add_right (Nat.mul_le_mul_left _ h) 1)) 1
  · exact Nat.le_refl _
theorem rnd_lnU {l : RW} {r : Int} : ln (rndV l r) ≤ 2 ^ 30 := by
  unfold rndV
  cases hw : okW l with
  | false => rw [if_neg (by decide), ln_zero]; omega
  | true =>
    obtain ⟨w1, w2, _, w4, _⟩ := okW_len hw
    rw [if_pos rfl]
    have hn := fewN_le r
    have hp2 : l.locs.length * fewN r ≤ 1600 := Nat.mul_le_mul (show _ ≤ 40 by omega) hn
    have h1 := ln_small (z := ((l.locs.length * fewN r + 1 : Nat) : Int)) (by omega)
    have h2 := ln_prd' (a := ((l.locs.length * fewN r + 1 : Nat) : Int)) (l := alls l.edges (fewN r) l.locs.length) (by omega) (alls_mem w4)
    rw [alls_len] at h2
    omega
theorem p68z {a b : Int} (ha : ln a ≤ 2 ^ 30) (hb : ln b ≤ 2 ^ 30) (h : a ≤ b) : PK Try.prog 16 [Zn a, Zn b] fun r => ∃ c : Int, r = .int .i64 c ∧ c ≤ 0 := by
  have := p68 (n := sgn a) (m := sgn b) (lb_z (z := a) (by omega)) (lb_z (z := b) (by omega))
  rw [den_z, den_z] at this
  have e : sg (a - b) ≤ 0 := by unfold sg; split; decide; split; omega; decide
  exact ⟨this.1, fun n hn => (this.2 n hn).mono fun v H' ⟨r, h1, h2, h3⟩ => ⟨r, h1, h2, _, h3, e⟩⟩
theorem ACalls.more {P : Program} {g : FuncId} {K : Value → Heap → Prop} {H0 H : Heap} {el : TypeId} {a b c v : Value} {ps : List Value} {E : List RE} (o : VO P eEx el H0 H v (E.map some ++ [none]))
    (k : ∀ Y, (∀ c, c ≠ sblk v → Y.get c = H.get c) → H.next ≤ Y.next → ACalls P g (.agg ⟨[a, b, Vv eE (E ++ [⟨0, 0, 0, [], [], []⟩]), c]⟩ :: ps) Y K) : ACalls P g (.agg ⟨[a, b, v, c]⟩ :: ps) H K := by
  obtain ⟨Y, h1, h2, h3⟩ := Gh.voX o (by decide)
  have h4 : Gh P [Vv eEx (E.map some ++ [none])] Y [Vv eE (E ++ [⟨0, 0, 0, [], [], []⟩])] Y := by
    unfold Vv
    rw [show (E.map some ++ [none] : List (Option RE)).length = (E ++ [(⟨0, 0, 0, [], [], []⟩ : RE)]).length by simp]
    exact Gh.nzf eEx_nz
  exact ACalls.gh (Gh.head (Gh.agg (Gh.tail (Gh.tail (Gh.head (h1.trans h4)))))) (k Y h2 h3)
theorem nzO {d : Int} : Nz (Opv d [] 0) (.agg ⟨[.int .i64 d, .slice none 0 0, .int .i64 0]⟩) := .agg (.cons .rfl (.cons .vnil (.cons .rfl .nil)))
theorem FArg.ints8 {n : Nat} {p : Value} (h : FArg Try.prog (n + 2) 38 p) : ∃ l : List Int, p = Vv eY l ∧ l.length ≤ maxLen ∧ ∀ a ∈ l, 0 ≤ a ∧ a < 256 := by
  obtain ⟨len, cells, e, h1, h2, h3⟩ := FGood.slice (n := n + 1) (h.slice Try.underlying38) Try.underlying38
  rw [T.s5] at h2 h3
  obtain ⟨l, k1, k2, k3⟩ := row_of eY (fun x => 0 ≤ x ∧ x < 256) (cells := cells) (k := len) h2 (by decide) (fun i hi => by
    obtain ⟨m, q1, q2⟩ := (h3 i hi).int Try.underlying5
    exact ⟨m, q1, wf_u8 q2⟩)
  subst k1
  injection e with e
  exact ⟨l, by rw [e, k2]; rfl, h1, k3⟩
theorem q39 {n rows delay : Int} {ns : List Int} (hn : 0 ≤ n ∧ n < 256) (hr : 0 ≤ rows ∧ rows < 256) (hd : 0 ≤ delay ∧ delay < 256) (hs : ∀ x ∈ ns, 0 ≤ x ∧ x < 256) (hl : ns.length ≤ maxLen) : PC Try.prog 4 [.int .u8 n, Vv eY ns, .int .u8 rows, .int .u8 delay] (.bool true) := by
  have hM : maxLen = 9223372036854775807 := rfl
  have hY : Pu (Vv eY ns) := pu_flat1 fun _ => .cons (.ground rfl) .nil
  refine PC.of (.cons (.ground rfl) (.cons hY (.cons (.ground rfl) (.cons (.ground rfl) .nil)))) (.ground rfl) fun N hN => ?_
  have q141 := p141 hn hs (by omega)
  obtain ⟨ok1, ok2, lm1, sm1, lm2, sm2, hE40⟩ := edg_ok (ns := ns) hn.1
  have d1 := Int.tmod_nonneg 20 hd.1
  have d2 := Int.tmod_lt_of_pos delay (show (0 : Int) < 20 by decide)
  have r1 := Int.tmod_nonneg 30 hr.1
  have r2 := Int.tmod_lt_of_pos rows (show (0 : Int) < 30 by decide)
  have hsm : SmT [] := ⟨Nat.zero_le _, fun a ha => (by cases ha)⟩
  generalize hdm : delay.tmod 20 = d at *
  generalize hkm : rows.tmod 30 = k at *
  have qa := @p135 (edgW n ns) k lm1 sm1
  have qb := @p136 (edgW n ns) k lm1 sm1
  have qc := @p135 (moreW (edgW n ns)) k lm2 sm2
  have qd := @p135 (edgW n ns) (k + 1) lm1 sm1
  have le1 : rndV (edgW n ns) k ≤ rndV (moreW (edgW n ns)) k := rnd_le ok1 ok2 rfl (fun i => cntE_more) (Nat.le_refl _)
  have le2 : rndV (edgW n ns) k ≤ rndV (edgW n ns) (k + 1) := rnd_le ok1 ok1 rfl (fun i => Nat.le_refl _) (by unfold fewN; omega)
  have q44 := p44t (a := rndV (edgW n ns) k) (b := rndV (edgW n ns) k) (by have := rnd_lnU (l := edgW n ns) (r := k); omega) rfl
  have c1 := p68z rnd_lnU rnd_lnU le1
  have c2 := p68z rnd_lnU rnd_lnU le2
  have t1 := p137 (d := d) (w := 0) (r := k) hsm
  have t2 := p137 (d := d + 1) (w := 0) (r := k) hsm
  have s1 := p139 (d := d) (w := 0) (r := k) lm1 sm1 hsm
  have s2 := p139 (d := d + 1) (w := 0) (r := k) lm1 sm1 hsm
  have lt1 := turns_lt (d := d) (w := 0) (r := k) ⟨d1, d2⟩
  have le3 := sweeps_le (l := edgW n ns) (w := 0) (Nat.le_of_lt lt1)
  generalize rndV (edgW n ns) (k + 1) = z3 at *
  generalize rndV (moreW (edgW n ns)) k = z2 at *
  generalize rndV (edgW n ns) k = z1 at *
  generalize turnsV (d + 1) [] 0 k = u2 at *
  generalize turnsV d [] 0 k = u1 at *
  generalize sweepsV (edgW n ns) (d + 1) [] 0 k = w2 at *
  generalize sweepsV (edgW n ns) d [] 0 k = w1 at *
  have lt1 : (u1 : Int) < (u2 : Int) := by omega
  have le3 : (w1 : Int) ≤ (w2 : Int) := by omega
  clear ok1 ok2 lm1 lm2 sm1 sm2 hsm le1 le2
  unfold moreW at qc
  generalize edgW n ns = l at *
  obtain ⟨L, S, E, V⟩ := l
  dsimp only at hE40 qc
  unfold Wv at *
  dsimp only at *
  refine ACalls.of_code T.hm (n := 85) Try.func4 rfl rfl rfl rfl ?_; simp only [List.replicate_succ, List.replicate_zero, List.cons_append, List.nil_append]
  simp (maxSteps := 1000000) (disch := first | exact sd | fail) only [go_sem, Nat.reduceAdd, Nat.reduceSub, Nat.reduceLeDiff, ↓reduceIte, decide_eq_true_eq, if_true, if_false, Bool.false_eq_true, Int.lt_irrefl, implies_true, true_and, and_true, eq_self, and_self, beq_self_eq_true, aw_plan (id := 8) plL39_39_8, plL39_39_8]
  refine PC.step (q141) fun m1 j1 => ?_
  try simp only [Heap.next_push, Heap.next_set, Heap.next_kill, next_bump, next_E0] at j1
  have r0 {z : Value} : rFill 6 z 0 [] = some [] := rFill_all (vs := []) (by simp)
  simp (maxSteps := 30000000) (disch := first | exact sd | fail) only [go_sem, Nat.reduceAdd, Nat.reduceSub, Nat.reduceLeDiff, ↓reduceIte, decide_eq_true_eq, if_true, if_false, Bool.false_eq_true, Int.lt_irrefl, implies_true, true_and, and_true, eq_self, and_self, beq_self_eq_true, aw_plan (id := 8) plL39_39_8, plL39_39_8, Int.toNat_natCast, hdm, hkm, r0]
  generalize hG : (Heap.push _ (AObj.row true 43 [])) = G
  have nG : G.next = m1 + 4 := by rw [← hG]; rfl
  have k9 : G.get m1 = some (.row true 27 [Vv eL L, Vv eS S, Vv eE E, Vv eV V]) := by rw [← hG]; simp (maxSteps := 1000000) (disch := first | exact sd | fail) only [go_sem, Nat.reduceAdd, Nat.reduceSub, Nat.reduceLeDiff, ↓reduceIte, decide_eq_true_eq, if_true, if_false, Bool.false_eq_true, Int.lt_irrefl, implies_true, true_and, and_true, eq_self, and_self, beq_self_eq_true, aw_plan (id := 8) plL39_39_8, plL39_39_8]
  have k10 : G.get (m1 + 1) = some (.row true 30 [.int .i64 d, .slice none 0 0, .int .i64 0]) := by rw [← hG]; simp (maxSteps := 1000000) (disch := first | exact sd | fail) only [go_sem, Nat.reduceAdd, Nat.reduceSub, Nat.reduceLeDiff, ↓reduceIte, decide_eq_true_eq, if_true, if_false, Bool.false_eq_true, Int.lt_irrefl, implies_true, true_and, and_true, eq_self, and_self, beq_self_eq_true, aw_plan (id := 8) plL39_39_8, plL39_39_8]
  have k11 : G.get (m1 + 2) = some (.row true 27 [Vv eL L, Vv eS S, Vv eE E, Vv eV V]) := by rw [← hG]; simp (maxSteps := 1000000) (disch := first | exact sd | fail) only [go_sem, Nat.reduceAdd, Nat.reduceSub, Nat.reduceLeDiff, ↓reduceIte, decide_eq_true_eq, if_true, if_false, Bool.false_eq_true, Int.lt_irrefl, implies_true, true_and, and_true, eq_self, and_self, beq_self_eq_true, aw_plan (id := 8) plL39_39_8, plL39_39_8]
  have k12 : G.get (m1 + 3) = some (.row true 43 []) := by rw [← hG]; simp (maxSteps := 1000000) (disch := first | exact sd | fail) only [go_sem, Nat.reduceAdd, Nat.reduceSub, Nat.reduceLeDiff, ↓reduceIte, decide_eq_true_eq, if_true, if_false, Bool.false_eq_true, Int.lt_irrefl, implies_true, true_and, and_true, eq_self, and_self, beq_self_eq_true, aw_plan (id := 8) plL39_39_8, plL39_39_8]
  clear hG
  generalize hHL : (⟨m1 + 3, G.tr, G.gh⟩ : Heap) = HL
  have hle0 : Hle HL G := by rw [← hHL]; exact lowHle (by omega)
  have nL : HL.next = m1 + 3 := by rw [← hHL]
  clear hHL
  have o4 : VO Try.prog eE 43 HL G (.slice (some ⟨m1 + 3, 0, none⟩) 0 0) [] := Ow.row (P := Try.prog) (H0 := HL) (H := G) (es := 6) (el := 43) (b := m1 + 3) (off := 0) (n := 0) (c := 0) k12 (by omega) (by omega) (.inr ⟨Nat.le_refl _, by unfold unk; omega, by decide⟩) (by decide)
  obtain ⟨v5, H5, e5, o5, l5, n5⟩ := VO.appendVU (l2 := E) o4 hle0 (t := 24) Try.underlying24 (info_of_type Try.type43) rfl rfl T.s145 (by decide) T.o128 (fun a _ => rfl) (by rw [List.length_nil]; omega) (by rw [List.length_nil]; show _ * 96 ≤ _; omega)
  have o5 : VO Try.prog eEx 43 HL H5 v5 (E.map some) := by
    unfold VO at o5 ⊢
    rw [eEx_some, List.length_map]
    exact o5
  obtain ⟨v6, H6, e6, o6, l6, n6⟩ := VO.append1 o5 l5 none (t := 24) Try.underlying24 (info_of_type Try.type43) rfl rfl T.s145 (by decide) T.o128 rfl (by rw [List.length_map]; omega) (by rw [List.length_map]; show _ * 96 ≤ _; omega)
  have e6 : aAppend Try.prog (H5.push (.row true 43 [.int .i64 0, .int .i64 0, .int .i64 0, .slice none 0 0, .slice none 0 0, .slice none 0 0])) #[24, 24] v5 (.slice (some ⟨H5.next, 0, none⟩) 1 1) = some (v6, H6) := e6
  have is6 := o6.isSl
  have f9 := ((l6.get m1 (by omega)).trans (hle0.get m1 (by omega)).symm).trans k9
  have f10 := ((l6.get (m1 + 1) (by omega)).trans (hle0.get (m1 + 1) (by omega)).symm).trans k10
  have f11 := ((l6.get (m1 + 2) (by omega)).trans (hle0.get (m1 + 2) (by omega)).symm).trans k11
  have n56 : m1 + 4 ≤ H6.next := by omega
  have h0m : 0 < m1 := by omega
  have ob := o6.blkU
  rw [nL] at ob
  have olt := o6.ltFU (by omega)
  have o7 : VO Try.prog eEx 43 HL (H6.set (m1 + 2) (.row true 27 [Vv eL L, Vv eS S, v6, Vv eV V])) v6 (E.map some ++ [none]) := o6.setFU (by omega) _
  simp (maxSteps := 30000000) (disch := first | exact sd | fail) only [go_sem, Nat.reduceAdd, Nat.reduceSub, Nat.reduceLeDiff, ↓reduceIte, decide_eq_true_eq, if_true, if_false, Bool.false_eq_true, Int.lt_irrefl, implies_true, true_and, and_true, eq_self, and_self, beq_self_eq_true, aw_plan (id := 8) plL39_39_8, plL39_39_8, e5, e6, f9, f10, f11]
  generalize hX : (Heap.set _ H6.next (AObj.row true 30 [.int .i64 (d + 1), .slice none 0 0, .int .i64 0])) = X
  have g9 : X.get m1 = some (.row true 27 [Vv eL L, Vv eS S, Vv eE E, Vv eV V]) := by rw [← hX]; simp (maxSteps := 1000000) (disch := first | exact sd | fail) only [go_sem, Nat.reduceAdd, Nat.reduceSub, Nat.reduceLeDiff, ↓reduceIte, decide_eq_true_eq, if_true, if_false, Bool.false_eq_true, Int.lt_irrefl, implies_true, true_and, and_true, eq_self, and_self, beq_self_eq_true, aw_plan (id := 8) plL39_39_8, plL39_39_8, f9]
  have g10 : X.get (m1 + 1) = some (.row true 30 [.int .i64 d, .slice none 0 0, .int .i64 0]) := by rw [← hX]; simp (maxSteps := 1000000) (disch := first | exact sd | fail) only [go_sem, Nat.reduceAdd, Nat.reduceSub, Nat.reduceLeDiff, ↓reduceIte, decide_eq_true_eq, if_true, if_false, Bool.false_eq_true, Int.lt_irrefl, implies_true, true_and, and_true, eq_self, and_self, beq_self_eq_true, aw_plan (id := 8) plL39_39_8, plL39_39_8, f10]
  have g11 : X.get (m1 + 2) = some (.row true 27 [Vv eL L, Vv eS S, v6, Vv eV V]) := by rw [← hX]; simp (maxSteps := 1000000) (disch := first | exact sd | fail) only [go_sem, Nat.reduceAdd, Nat.reduceSub, Nat.reduceLeDiff, ↓reduceIte, decide_eq_true_eq, if_true, if_false, Bool.false_eq_true, Int.lt_irrefl, implies_true, true_and, and_true, eq_self, and_self, beq_self_eq_true, aw_plan (id := 8) plL39_39_8, plL39_39_8]
  have g13 : X.get H6.next = some (.row true 30 [.int .i64 (d + 1), .slice none 0 0, .int .i64 0]) := by rw [← hX]; exact get_set_self _ _ _
  have nX : H6.next + 1 ≤ X.next := by rw [← hX]; simp only [next_set, next_push]; omega
  have oX : VO Try.prog eEx 43 HL X v6 (E.map some ++ [none]) := by
    refine o6.keepFU (x := m1 + 2) (fun b h1 h2 => ?_) (by omega) (by omega) (by omega)
    rw [← hX]
    rw [get_set_ne (by omega)]
    first | (rw [get_set_ne (by omega), get_push_ne (by simp only [next_set]; omega), get_set_ne (by omega)]) | simp (maxSteps := 1000000) (disch := first | exact sd | fail) only [go_sem, Nat.reduceAdd, Nat.reduceSub, Nat.reduceLeDiff, ↓reduceIte, decide_eq_true_eq, if_true, if_false, Bool.false_eq_true, Int.lt_irrefl, implies_true, true_and, and_true, eq_self, and_self, beq_self_eq_true, aw_plan (id := 8) plL39_39_8, plL39_39_8]
  clear hX
  refine PC.step (qa) fun m2 j2 => ?_
  try simp only [Heap.next_push, Heap.next_set, Heap.next_kill, next_bump, next_E0] at j2
  simp (maxSteps := 30000000) (disch := first | exact sd | fail) only [go_sem, Nat.reduceAdd, Nat.reduceSub, Nat.reduceLeDiff, ↓reduceIte, decide_eq_true_eq, if_true, if_false, Bool.false_eq_true, Int.lt_irrefl, implies_true, true_and, and_true, eq_self, and_self, beq_self_eq_true, aw_plan (id := 8) plL39_39_8, plL39_39_8, g9, g10, g11, g13]
  refine PC.step (qb) fun m3 j3 => ?_
  try simp only [Heap.next_push, Heap.next_set, Heap.next_kill, next_bump, next_E0] at j3
  simp (maxSteps := 30000000) (disch := first | exact sd | fail) only [go_sem, Nat.reduceAdd, Nat.reduceSub, Nat.reduceLeDiff, ↓reduceIte, decide_eq_true_eq, if_true, if_false, Bool.false_eq_true, Int.lt_irrefl, implies_true, true_and, and_true, eq_self, and_self, beq_self_eq_true, aw_plan (id := 8) plL39_39_8, plL39_39_8, g9, g10, g11, g13]
  refine PC.step (q44) fun m4 j4 => ?_
  try simp only [Heap.next_push, Heap.next_set, Heap.next_kill, next_bump, next_E0] at j4
  simp (maxSteps := 30000000) (disch := first | exact sd | fail) only [go_sem, Nat.reduceAdd, Nat.reduceSub, Nat.reduceLeDiff, ↓reduceIte, decide_eq_true_eq, if_true, if_false, Bool.false_eq_true, Int.lt_irrefl, implies_true, true_and, and_true, eq_self, and_self, beq_self_eq_true, aw_plan (id := 8) plL39_39_8, plL39_39_8, g9, g10, g11, g13]
  refine PC.step (qa) fun m5 j5 => ?_
  try simp only [Heap.next_push, Heap.next_set, Heap.next_kill, next_bump, next_E0] at j5
  simp (maxSteps := 30000000) (disch := first | exact sd | fail) only [go_sem, Nat.reduceAdd, Nat.reduceSub, Nat.reduceLeDiff, ↓reduceIte, decide_eq_true_eq, if_true, if_false, Bool.false_eq_true, Int.lt_irrefl, implies_true, true_and, and_true, eq_self, and_self, beq_self_eq_true, aw_plan (id := 8) plL39_39_8, plL39_39_8, g9, g10, g11, g13]
  refine ACalls.more (H0 := HL) ((((oX.bump j2).bump j3).bump j4).bump j5) fun Y frY nY => ?_
  have y9 : Y.get m1 = _ := (frY m1 (by omega)).trans g9
  have y10 : Y.get (m1 + 1) = _ := (frY (m1 + 1) (by omega)).trans g10
  have y11 : Y.get (m1 + 2) = _ := (frY (m1 + 2) (by omega)).trans g11
  have y13 : Y.get H6.next = _ := (frY H6.next (by omega)).trans g13
  clear frY g9 g10 g11 g13
  refine PC.step (qc) fun m6 j6 => ?_
  try simp only [Heap.next_push, Heap.next_set, Heap.next_kill, next_bump, next_E0] at j6
  simp (maxSteps := 30000000) (disch := first | exact sd | fail) only [go_sem, Nat.reduceAdd, Nat.reduceSub, Nat.reduceLeDiff, ↓reduceIte, decide_eq_true_eq, if_true, if_false, Bool.false_eq_true, Int.lt_irrefl, implies_true, true_and, and_true, eq_self, and_self, beq_self_eq_true, aw_plan (id := 8) plL39_39_8, plL39_39_8, y9, y10, y11, y13]
  refine PK.step c1 ?_
  rintro _ m7 ⟨x1, rfl, hx1⟩ j7
  simp (maxSteps := 30000000) (disch := first | exact sd | fail) only [go_sem, Nat.reduceAdd, Nat.reduceSub, Nat.reduceLeDiff, ↓reduceIte, decide_eq_true_eq, if_true, if_false, Bool.false_eq_true, Int.lt_irrefl, implies_true, true_and, and_true, eq_self, and_self, beq_self_eq_true, aw_plan (id := 8) plL39_39_8, plL39_39_8, y9, y10, y11, y13, hx1]
  refine PC.step (qa) fun m8 j8 => ?_
  try simp only [Heap.next_push, Heap.next_set, Heap.next_kill, next_bump, next_E0] at j8
  simp (maxSteps := 30000000) (disch := first | exact sd | fail) only [go_sem, Nat.reduceAdd, Nat.reduceSub, Nat.reduceLeDiff, ↓reduceIte, decide_eq_true_eq, if_true, if_false, Bool.false_eq_true, Int.lt_irrefl, implies_true, true_and, and_true, eq_self, and_self, beq_self_eq_true, aw_plan (id := 8) plL39_39_8, plL39_39_8, y9, y10, y11, y13]
  refine PC.step (qd) fun m9 j9 => ?_
  try simp only [Heap.next_push, Heap.next_set, Heap.next_kill, next_bump, next_E0] at j9
  simp (maxSteps := 30000000) (disch := first | exact sd | fail) only [go_sem, Nat.reduceAdd, Nat.reduceSub, Nat.reduceLeDiff, ↓reduceIte, decide_eq_true_eq, if_true, if_false, Bool.false_eq_true, Int.lt_irrefl, implies_true, true_and, and_true, eq_self, and_self, beq_self_eq_true, aw_plan (id := 8) plL39_39_8, plL39_39_8, y9, y10, y11, y13]
  refine PK.step c2 ?_
  rintro _ m10 ⟨x2, rfl, hx2⟩ j10
  simp (maxSteps := 30000000) (disch := first | exact sd | fail) only [go_sem, Nat.reduceAdd, Nat.reduceSub, Nat.reduceLeDiff, ↓reduceIte, decide_eq_true_eq, if_true, if_false, Bool.false_eq_true, Int.lt_irrefl, implies_true, true_and, and_true, eq_self, and_self, beq_self_eq_true, aw_plan (id := 8) plL39_39_8, plL39_39_8, y9, y10, y11, y13, hx2]
  refine ACalls.nz (.cons nzO (.cons .rfl .nil)) ?_
  refine PC.step (t1) fun m11 j11 => ?_
  try simp only [Heap.next_push, Heap.next_set, Heap.next_kill, next_bump, next_E0] at j11
  simp (maxSteps := 30000000) (disch := first | exact sd | fail) only [go_sem, Nat.reduceAdd, Nat.reduceSub, Nat.reduceLeDiff, ↓reduceIte, decide_eq_true_eq, if_true, if_false, Bool.false_eq_true, Int.lt_irrefl, implies_true, true_and, and_true, eq_self, and_self, beq_self_eq_true, aw_plan (id := 8) plL39_39_8, plL39_39_8, y9, y10, y11, y13]
  refine ACalls.nz (.cons nzO (.cons .rfl .nil)) ?_
  refine PC.step (t2) fun m12 j12 => ?_
  try simp only [Heap.next_push, Heap.next_set, Heap.next_kill, next_bump, next_E0] at j12
  simp (maxSteps := 30000000) (disch := first | exact sd | fail) only [go_sem, Nat.reduceAdd, Nat.reduceSub, Nat.reduceLeDiff, ↓reduceIte, decide_eq_true_eq, if_true, if_false, Bool.false_eq_true, Int.lt_irrefl, implies_true, true_and, and_true, eq_self, and_self, beq_self_eq_true, aw_plan (id := 8) plL39_39_8, plL39_39_8, y9, y10, y11, y13, lt1]
  refine ACalls.nz (.cons .rfl (.cons nzO (.cons .rfl .nil))) ?_
  refine PC.step (s1) fun m13 j13 => ?_
  try simp only [Heap.next_push, Heap.next_set, Heap.next_kill, next_bump, next_E0] at j13
  simp (maxSteps := 30000000) (disch := first | exact sd | fail) only [go_sem, Nat.reduceAdd, Nat.reduceSub, Nat.reduceLeDiff, ↓reduceIte, decide_eq_true_eq, if_true, if_false, Bool.false_eq_true, Int.lt_irrefl, implies_true, true_and, and_true, eq_self, and_self, beq_self_eq_true, aw_plan (id := 8) plL39_39_8, plL39_39_8, y9, y10, y11, y13]
  refine ACalls.nz (.cons .rfl (.cons nzO (.cons .rfl .nil))) ?_
  refine PC.step (s2) fun m14 j14 => ?_
  try simp only [Heap.next_push, Heap.next_set, Heap.next_kill, next_bump, next_E0] at j14
  simp (maxSteps := 30000000) (disch := first | exact sd | fail) only [go_sem, Nat.reduceAdd, Nat.reduceSub, Nat.reduceLeDiff, ↓reduceIte, decide_eq_true_eq, if_true, if_false, Bool.false_eq_true, Int.lt_irrefl, implies_true, true_and, and_true, eq_self, and_self, beq_self_eq_true, aw_plan (id := 8) plL39_39_8, plL39_39_8, y9, y10, y11, y13, le3]
  refine PC.step (p134) fun m15 j15 => ?_
  try simp only [Heap.next_push, Heap.next_set, Heap.next_kill, next_bump, next_E0] at j15
  simp (maxSteps := 30000000) (disch := first | exact sd | fail) only [go_sem, Nat.reduceAdd, Nat.reduceSub, Nat.reduceLeDiff, ↓reduceIte, decide_eq_true_eq, if_true, if_false, Bool.false_eq_true, Int.lt_irrefl, implies_true, true_and, and_true, eq_self, and_self, beq_self_eq_true, aw_plan (id := 8) plL39_39_8, plL39_39_8, y9, y10, y11, y13]
  exact .rfl
theorem lawBoundEdges {H : Heap} {xs : List Value} (hf : ∀ b, H.next ≤ b → H.get b = none) (hg : GoodArgs Try.prog H 8 [5, 38, 5, 5] xs) : ACalls Try.prog 4 xs H fun v _ => v = .bool true := by
  obtain ⟨ps, h1, h2, h3⟩ := args_frz hf (by intro t ht; simp only [List.mem_cons, List.not_mem_nil, or_false] at ht; rcases ht with rfl | rfl | rfl | rfl <;> kernel_rfl) hg
  obtain ⟨p0, ps0, rfl, a0, r0⟩ := h3.cons
  obtain ⟨n, rfl, hn⟩ := a0.int Try.underlying5
  obtain ⟨p1, ps1, rfl, a1, r1⟩ := r0.cons
  obtain ⟨ns, rfl, hl, hs⟩ := a1.ints8
  obtain ⟨p2, ps2, rfl, a2, r2⟩ := r1.cons
  obtain ⟨rows, rfl, hr⟩ := a2.int Try.underlying5
  obtain ⟨p3, ps3, rfl, a3, r3⟩ := r2.cons
  obtain ⟨dl, rfl, hd⟩ := a3.int Try.underlying5
  obtain rfl := r3.nil
  exact (q39 (wf_u8 hn) (wf_u8 hr) (wf_u8 hd) hs hl).law h1
end Go.Abs
