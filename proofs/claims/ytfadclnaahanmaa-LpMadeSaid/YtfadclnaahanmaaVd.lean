/- Joined: V12, V13, V14. -/
import Derived.Test.YtfadclnaahanmaaVc
import Derived.Test.YtfadclnaahanmaaA31
/- What laws on rows call beside. -/
set_option linter.unusedVariables false
set_option linter.unusedSimpArgs false
namespace Go.Abs
open Go Go.Proofs
set_option maxRecDepth 100000
set_option maxHeartbeats 4000000

def Rg (l : List RQ) : Prop := l.length ≤ 200 ∧ ∀ a ∈ l, LimQ a ∧ gq a = false
theorem gq_rz {a : RQ} (h : LimQ a) (k : gq a = false) : Rz a ∧ lq (vq a) ≤ 6 := by
  have h3 := lq_dq (pn := a.p.neg) (qn := a.q.neg) h.1 h.2
  unfold gq at k
  simp at k
  exact ⟨⟨h.1, h.2, by omega, by omega⟩, by unfold vq; omega⟩
theorem Rg.rw {l : List RQ} (h : Rg l) : Rw l := ⟨by have := h.1; omega, fun a ha => (gq_rz (h.2 a ha).1 (h.2 a ha).2).1⟩
theorem Rg.le {l : List RQ} (h : Rg l) (i : Nat) : lq (ev l i) ≤ 6 := by
  rcases Nat.lt_or_ge i l.length with hi | hi
  · rw [ev_lt hi]; exact (gq_rz (h.2 _ (List.getElem_mem hi)).1 (h.2 _ (List.getElem_mem hi)).2).2
  · rw [ev_ge hi, lq_zero]; omega
theorem rg_of {l : List RQ} (hl : ∀ a ∈ l, LimQ a) (h : l.length ≤ 200 ∧ l.any gq = false) : Rg l :=
  ⟨h.1, fun a ha => ⟨hl a ha, by
    have := List.any_eq_false.1 h.2 a ha
    simpa using this⟩⟩
theorem Gd.at {ls : List (List RQ)} (h : Gd ls) {j : Nat} (hj : j < ls.length) {l : List RQ} (e : rwi ls j = l) (hl : ∀ a ∈ l, LimQ a) : Rg l := rg_of hl (by rw [← e]; exact h.2 j hj)
end Go.Abs

/- Own slices handed on, frozen, wherever they stand; rows times tables. -/
set_option linter.unusedVariables false
set_option linter.unusedSimpArgs false
namespace Go.Abs
open Go Go.Proofs
set_option maxRecDepth 100000
set_option maxHeartbeats 4000000

section
variable {P : Program} {H0 H : Heap} {g : FuncId} {K : Value → Heap → Prop}
theorem Gh.sliceO {b off n c es : Nat} {own : Bool} {el : TypeId} {cells : List Value} (hg : H.get b = some (.row own el cells)) (hc : c = unk ∨ n ≤ c) (he : 0 < es) (hl : off + n * es ≤ cells.length) :
    Gh P [.slice (some ⟨b, off, none⟩) n c] H [fzv n ((cells.drop off).take (n * es))] ((H.kill b).bump (H.next + 1)) := ⟨rfl, fun ρ w cs hR hv => by
  cases hv with
  | cons h1 h2 =>
    cases h2
    rcases h1.ssome with ⟨b1, off1, L, c', e1, e2, rfl, hor⟩ | ⟨e1, rfl, _⟩
    rotate_left
    · injection e1 with e1
      subst e1
      rw [hR.void.2.1] at hg; cases hg
    have e1' := e1
    injection e1 with e1 e3
    subst e1; subst e3
    obtain ⟨fs, k1, k2⟩ := Ext.freeze (H' := (H.kill b).bump (H.next + 1)) hR e2 hg rfl (fun c hc => by rw [get_bump, get_kill_ne hc]) (.inr (by rw [get_bump, Heap.get_kill, if_pos rfl]))
    refine ⟨_, k1, .cons ?_ .nil⟩
    have hk : (n = 0 ∧ n * es = 0) ∨ (0 < n ∧ 0 < n * es) := by
      rcases Nat.eq_zero_or_pos n with h | h
      · left; subst h; exact ⟨rfl, Nat.zero_mul _⟩
      · right; exact ⟨h, Nat.mul_pos h he⟩
    exact VRel.fz_of (k := n * es) h1 e2 hc hl k2 k1.le (Ren.add_self _ _ _) rfl rfl rfl hk⟩
theorem Hle.dead {b : Nat} {m : Nat} (h : Hle H0 H) (hb : H0.next ≤ b) (hm : H.next ≤ m) : Hle H0 ((H.kill b).bump m) := Hle.bump (Hle.kill h hb) (by rw [Heap.next_kill]; exact hm)
theorem Gh.vo {α : Type} {E : En α} {el : TypeId} {sl : Value} {l : List α} (h : VO P E el H0 H sl l) (hle : Hle H0 H) (he : 0 < E.es) : ∃ H', Gh P [sl] H [Vv E l] H' ∧ Hle H0 H' ∧ H.next ≤ H'.next := by
  unfold VO at h
  generalize hn : l.length = n at h
  generalize hcs : l.flatMap E.enc = cs at h
  cases h with
  | nil =>
    refine ⟨H, ⟨rfl, fun ρ w cs hR hv => ⟨ρ, Ext.refl hR, ?_⟩⟩, hle, Nat.le_refl _⟩
    cases hv with
    | cons h1 h2 =>
      cases h2
      have hl : l = [] := List.length_eq_zero_iff.1 hn
      subst hl
      exact .cons (Nz.rel .nil h1) .nil
  | @row b off n c rs hg hb0 hb hc hl =>
    refine ⟨_, ?_, Hle.dead hle hb0 (Nat.le_succ _), by rw [next_bump]; exact Nat.le_succ _⟩
    have := Gh.sliceO (P := P) (n := n) (c := c) (es := E.es) hg (hc.imp id fun h => h.1) he hl
    unfold Vv
    rw [hn, hcs]
    exact this
theorem ACalls.vo1 {α : Type} {E : En α} {el : TypeId} {sl : Value} {l : List α} {ps : List Value} (h : VO P E el H0 H sl l) (hle : Hle H0 H) (he : 0 < E.es) (k : ∀ H', Hle H0 H' → H.next ≤ H'.next → ACalls P g (Vv E l :: ps) H' K) : ACalls P g (sl :: ps) H K := by
  obtain ⟨H', h1, h2, h3⟩ := Gh.vo h hle he
  exact ACalls.gh (Gh.head h1) (k H' h2 h3)
theorem Gh.pre {v v' : Value} {H' : Heap} (h : Gh P [v] H [v'] H') : ∀ ps, Gh P (ps ++ [v]) H (ps ++ [v']) H'
  | [] => h
  | _ :: ps => Gh.tail (Gh.pre h ps)
theorem ACalls.vo {α : Type} {E : En α} {el : TypeId} {sl : Value} {l : List α} {ps : List Value} (h : VO P E el H0 H sl l) (hle : Hle H0 H) (he : 0 < E.es) (k : ∀ H', Hle H0 H' → H.next ≤ H'.next → ACalls P g (ps ++ [Vv E l]) H' K) : ACalls P g (ps ++ [sl]) H K := by
  obtain ⟨H', h1, h2, h3⟩ := Gh.vo h hle he
  exact ACalls.gh (Gh.pre h1 ps) (k H' h2 h3)
theorem ix_own {t e : TypeId} {b off n c : Nat} {k : IntKind} {i : Int} {s : Nat} (ht : P.underlying t = some (.slice e)) (hz : sized P e = true) (hs : szOf P e = s) (h0 : 0 ≤ i) (h1 : i < n) :
    aIndexAddr P t (.slice (some ⟨b, off, none⟩) n c) (.int k i) = some (.pointer (some ⟨b, off + i.toNat * s, none⟩)) := by
  simp only [aIndexAddr, ht]
  rw [if_pos ⟨h0, h1, hz⟩, hs]
theorem st_at {b off : Nat} {vs cs cs' : List Value} {el : TypeId} (hg : H.get b = some (.row true el cs)) (hl : off + vs.length ≤ cs.length) (hs : splice cs off vs = cs') : stRow H b off vs (H.get b) = some (H.set b (.row true el cs')) := by
  rw [hg, stRow_row, if_pos hl, hs]
theorem En.splice {α : Type} (E : En α) {l : List α} {i : Nat} {x : α} (hi : i < l.length) : splice (l.flatMap E.enc) (i * E.es) (E.enc x) = (l.set i x).flatMap E.enc := by
  have hm : i * E.es + E.es ≤ l.length * E.es := by rw [← Nat.succ_mul]; exact Nat.mul_le_mul_right _ hi
  rw [splice_eq _ _ _ (by rw [E.len, E.flat_length]; exact hm), E.flat_take, List.set_eq_take_append_cons_drop, if_pos hi, List.flatMap_append, List.flatMap_cons, E.len]
  rw [show i * E.es + E.es = (i + 1) * E.es by rw [Nat.succ_mul], E.flat_drop]
  simp
end
def eQo : En (Option RQ) := ⟨fun o => match o with | none => [.bool false, .slice none 0 0, .bool false, .slice none 0 0] | some a => eQ.enc a, 4, none, fun o => by cases o <;> rfl⟩
theorem eQo_none {n : Nat} : repC n [.bool false, .slice none 0 0, .bool false, .slice none 0 0] = (List.replicate n none).flatMap eQo.enc := by
  induction n with
  | zero => rfl
  | succ n ih => rw [List.replicate_succ, List.flatMap_cons, ← ih]; simp [repC, List.replicate_succ]; rfl
theorem eQo_some {l : List RQ} : (l.map some).flatMap eQo.enc = l.flatMap eQ.enc := by
  induction l with
  | nil => rfl
  | cons a l ih => rw [List.map_cons, List.flatMap_cons, List.flatMap_cons, ih]; rfl
def zl (n k : Nat) : List (Option RQ) := (List.replicate k (rq 0)).map some ++ List.replicate (n - k) none
theorem zl_len {n k : Nat} (h : k ≤ n) : (zl n k).length = n := by unfold zl; simp; omega
theorem zl_set {n k : Nat} (h : k < n) : (zl n k).set k (some (rq 0)) = zl n (k + 1) := by
  unfold zl
  rw [List.set_append_right _ _ (by simp), List.length_map, List.length_replicate, Nat.sub_self, show n - k = n - (k + 1) + 1 by omega, List.replicate_succ, List.set_cons_zero, List.replicate_succ']
  simp
theorem tab_const {n : Nat} : List.replicate n (rq 0) = tab n fun _ => 0 := by
  unfold tab
  rw [List.map_const', List.length_range]
end Go.Abs

/- Rows times tables. -/
set_option linter.unusedVariables false
set_option linter.unusedSimpArgs false
namespace Go.Abs
open Go Go.Proofs
set_option maxRecDepth 100000
set_option maxHeartbeats 4000000

def plV14_95_13 : Plan := ⟨[0, 1, 2, 3, 4, 5, 6, 7, 8], [(9, [], [10, 11, 12, 13])]⟩
def lefP (y : List RQ) (m : List (List RQ)) (n i : Nat) : List RQ := tab n fun k => sumI i fun j => ev y j * ev (rwi m j) k
def leftV (y : List RQ) (m : List (List RQ)) (n : Nat) : List RQ := lefP y m n m.length
theorem lefP_succ {y : List RQ} {m : List (List RQ)} {n i : Nat} : plusV (lefP y m n i) (ev y i) (rwi m i) = lefP y m n (i + 1) := by
  unfold plusV lefP
  rw [tab_len]
  exact tab_congr fun k hk => by rw [ev_tab hk]; rfl
theorem lefP_zero {y : List RQ} {m : List (List RQ)} {n : Nat} : lefP y m n 0 = tab n fun _ => 0 := rfl
theorem lefP_len {y : List RQ} {m : List (List RQ)} {n i : Nat} : (lefP y m n i).length = n := tab_len
theorem lefP_rw {y : List RQ} {m : List (List RQ)} {n i B : Nat} (hn : n ≤ 2 ^ 16) (h : ∀ j k, j < i → lq (ev y j * ev (rwi m j) k) ≤ B) (hB : i * (B + 1) + 1 ≤ 2 ^ 16) : Rw (lefP y m n i) :=
  Rw.tab hn fun k _ => Nat.le_trans (lq_sumI fun j hj => h j k hj) hB
def OV (H0 H : Heap) (v : Value) (l : List RQ) : Prop := QO H0 H v l ∨ v = Vv eQ l
theorem OV.fz {H0 H : Heap} {v : Value} {l : List RQ} {e : Int} (h : OV H0 H v l) : FzRel Try.prog H (.tuple ⟨[Vv eQ l, .int .i64 e]⟩) (.tuple ⟨[v, .int .i64 e]⟩) := by
  rcases h with h | rfl
  · exact h.done
  · exact .rfl
theorem OV.call {H0 H : Heap} {v : Value} {l : List RQ} {g : FuncId} {ps : List Value} {r : Value} {K : Value → Heap → Prop} (h : OV H0 H v l) (hle : Hle H0 H) (hp : PC Try.prog g (Vv eQ l :: ps) r) (k : ∀ H', Hle H0 H' → K r H') : ACalls Try.prog g (v :: ps) H K := by
  rcases h with h | rfl
  · exact ACalls.vo1 h hle (by decide) fun H' h1 h2 => PC.step hp fun m hm => k _ (Hle.bump h1 hm)
  · exact PC.step hp fun m hm => k _ (Hle.bump hle hm)
theorem OV.mono {H0 H H' : Heap} {v : Value} {l : List RQ} (h : OV H0 H v l) (hle : Hle H H') : OV H0 H' v l := h.imp (fun h => h.mono hle) id

theorem len_own {P : Program} {t : TypeId} {a : Option Addr} {n c : Nat} (ht : isSliceT P t = true) : aLen P t (.slice a n c) = some (.int .i64 n) := by
  simp only [aLen, ht, if_true]; rfl
def okL (y : List RQ) (m : List (List RQ)) (n : Int) : Prop := 0 ≤ n ∧ n ≤ 1000 ∧ y.length = m.length ∧ ∀ j, j < m.length → ((rwi m j).length : Int) = n
theorem c94 {H : Heap} {y : List RQ} {m : List (List RQ)} {n : Int} {B : Nat} (hn : -9223372036854775808 ≤ n ∧ n ≤ 9223372036854775807) (hy : Rw y) (hr : ∀ j, Rw (rwi m j)) (hB : ∀ j k, lq (ev y j * ev (rwi m j) k) ≤ B) (hm : m.length * (B + 1) + 1 ≤ 2 ^ 16) (hml : m.length ≤ 2 ^ 16) :
    ACalls Try.prog 36 [Vv eQ y, Vv eR m, .int .i64 n] H fun v H' => (okL y m n ∧ FzRel Try.prog H' (.tuple ⟨[Vv eQ (leftV y m n.toNat), .int .i64 0]⟩) v) ∨ (¬ okL y m n ∧ FzRel Try.prog H' (.tuple ⟨[Vv eQ [], .int .i64 1]⟩) v) := by
  have hyl := hy.1
  refine ACalls.of_code T.hm (n := 59) Try.func36 rfl rfl rfl rfl ?_; simp only [List.replicate_succ, List.replicate_zero, List.cons_append, List.nil_append]
  by_cases h1 : n < 0
  · simp (maxSteps := 1000000) (disch := first | exact sd | fail) only [go_sem, Nat.reduceAdd, Nat.reduceSub, Nat.reduceLeDiff, ↓reduceIte, decide_eq_true_eq, if_true, if_false, Bool.false_eq_true, Int.lt_irrefl, implies_true, true_and, and_true, eq_self, and_self, beq_self_eq_true, h1]
    exact .inr ⟨fun h => by have := h.1; omega, fz_nilt⟩
  by_cases h2 : 1000 < n
  · simp (maxSteps := 1000000) (disch := first | exact sd | fail) only [go_sem, Nat.reduceAdd, Nat.reduceSub, Nat.reduceLeDiff, ↓reduceIte, decide_eq_true_eq, if_true, if_false, Bool.false_eq_true, Int.lt_irrefl, implies_true, true_and, and_true, eq_self, and_self, beq_self_eq_true, h1, h2]
    exact .inr ⟨fun h => by have := h.2.1; omega, fz_nilt⟩
  by_cases h3 : (y.length : Int) = m.length
  rotate_left
  · simp (maxSteps := 1000000) (disch := first | exact sd | fail) only [go_sem, Nat.reduceAdd, Nat.reduceSub, Nat.reduceLeDiff, ↓reduceIte, decide_eq_true_eq, if_true, if_false, Bool.false_eq_true, Int.lt_irrefl, implies_true, true_and, and_true, eq_self, and_self, beq_self_eq_true, h1, h2, h3, ne_eq, not_false_eq_true]
    exact .inr ⟨fun h => by have := h.2.2.1; omega, fz_nilt⟩
  obtain ⟨w, rfl⟩ : ∃ w : Nat, n = (w : Int) := ⟨n.toNat, by omega⟩
  have hlen {a : Addr} : aLen Try.prog 45 (.slice (some a) w w) = some (.int .i64 w) := len_own T.i70
  simp (maxSteps := 1000000) (disch := first | exact sd | fail) only [go_sem, Nat.reduceAdd, Nat.reduceSub, Nat.reduceLeDiff, ↓reduceIte, decide_eq_true_eq, if_true, if_false, Bool.false_eq_true, Int.lt_irrefl, implies_true, true_and, and_true, eq_self, and_self, beq_self_eq_true, h1, h2, h3, ne_eq, not_true_eq_false, aMk_int, Int.toNat_natCast, hlen]
  rw [eQo_none]
  refine aw_loopJ (σ := Nat) (fun k J => [Vv eQ y, Vv eR m, .int .i64 w, J 3, J 4, J 5, .slice none 0 0, .int .i64 0, .slice (some ⟨H.next, 0, none⟩) w w, J 9, J 10, J 11, J 12, J 13, J 14, J 15, J 16, J 17, J 18, J 19, J 20, J 21, J 22, J 23, J 24, J 25, J 26, J 27, J 28, J 29, .int .i64 w, .int .i64 k, J 32, J 33, J 34, J 35, J 36, J 37, J 38, J 39, J 40, J 41, J 42, J 43, J 44, J 45, J 46, J 47, J 48, J 49, J 50, J 51, J 52, J 53, J 54, J 55, J 56, J 57, J 58, J 59, J 60, J 61]) (fun i k H1 => i = w - k ∧ k ≤ w ∧ Hle H H1 ∧ H.next < H1.next ∧ H1.get H.next = some (.row true 47 ((zl w k).flatMap eQo.enc))) w 0 rfl ⟨rfl, Nat.zero_le _, Hle.push0 _, by simp, by rw [get_push_self]; simp [zl]⟩ ?_
  rintro i k J H1 ⟨rfl, hk, hle, hlt, hg⟩
  by_cases h4 : (k : Int) < w
  · have ha : aIndexAddr Try.prog 45 (.slice (some ⟨H.next, 0, none⟩) w w) (.int .i64 k) = some (.pointer (some ⟨H.next, 0 + k * 4, none⟩)) := ix_own Try.underlying45 T.z55 T.s55 (by omega) h4
    simp (maxSteps := 1000000) (disch := first | exact sd | fail) only [go_sem, Nat.reduceAdd, Nat.reduceSub, Nat.reduceLeDiff, ↓reduceIte, decide_eq_true_eq, if_true, if_false, Bool.false_eq_true, Int.lt_irrefl, implies_true, true_and, and_true, eq_self, and_self, beq_self_eq_true, h4]
    refine PC.step (p76 (x := 0) (by omega)) fun m1 j1 => ?_
    try simp only [Heap.next_push, Heap.next_set, Heap.next_kill, next_bump, next_E0] at j1
    simp (maxSteps := 1000000) (disch := first | exact sd | fail) only [go_sem, Nat.reduceAdd, Nat.reduceSub, Nat.reduceLeDiff, ↓reduceIte, decide_eq_true_eq, if_true, if_false, Bool.false_eq_true, Int.lt_irrefl, implies_true, true_and, and_true, eq_self, and_self, beq_self_eq_true, ha]
    have hlen2 : ((zl w k).flatMap eQo.enc).length = w * 4 := by rw [eQo.flat_length, zl_len hk]; rfl
    have hs := st_at (H := H1.bump m1) (b := H.next) (off := 0 + k * 4) (vs := [.bool (sgn ((0 : Int) : Rat).num), Vv eU (lmb ((0 : Int) : Rat).num), .bool (sgn (((0 : Int) : Rat).den : Int)), Vv eU (lmb (((0 : Int) : Rat).den : Int))]) (cs' := (zl w (k + 1)).flatMap eQo.enc) hg (by rw [hlen2]; simp; omega) (by
      rw [Nat.zero_add, ← zl_set (by omega)]
      exact En.splice eQo (x := some (rq 0)) (by rw [zl_len hk]; omega))
    rw [get_bump] at hs
    simp (maxSteps := 1000000) (disch := first | exact sd | fail) only [go_sem, Nat.reduceAdd, Nat.reduceSub, Nat.reduceLeDiff, ↓reduceIte, decide_eq_true_eq, if_true, if_false, Bool.false_eq_true, Int.lt_irrefl, implies_true, true_and, and_true, eq_self, and_self, beq_self_eq_true, hs]
    exact IJ_intro (k := w - (k + 1)) (by omega) (k + 1) rfl ⟨rfl, by omega, Hle.set (Hle.bump hle j1) (Nat.le_refl _) _, by simp (maxSteps := 1000000) (disch := first | exact sd | fail) only [go_sem, Nat.reduceAdd, Nat.reduceSub, Nat.reduceLeDiff, ↓reduceIte, decide_eq_true_eq, if_true, if_false, Bool.false_eq_true, Int.lt_irrefl, implies_true, true_and, and_true, eq_self, and_self, beq_self_eq_true]; omega, by simp (maxSteps := 1000000) (disch := first | exact sd | fail) only [go_sem, Nat.reduceAdd, Nat.reduceSub, Nat.reduceLeDiff, ↓reduceIte, decide_eq_true_eq, if_true, if_false, Bool.false_eq_true, Int.lt_irrefl, implies_true, true_and, and_true, eq_self, and_self, beq_self_eq_true]⟩
  have e : k = w := by omega
  subst e
  have ho0 : OV H H1 (.slice (some ⟨H.next, 0, none⟩) k k) (lefP y m k 0) := by
    left
    have e2 : (zl k k).flatMap eQo.enc = (lefP y m k 0).flatMap eQ.enc := by
      unfold zl
      rw [Nat.sub_self, List.replicate_zero, List.append_nil, eQo_some, tab_const, lefP_zero]
    rw [e2] at hg
    have := Ow.row (P := Try.prog) (H0 := H) (H := H1) (es := 4) (el := 47) (b := H.next) (off := 0) (n := k) (c := k) hg (Nat.le_refl _) hlt (.inr ⟨Nat.le_refl _, by unfold unk; omega, by rw [eQ.flat_length, lefP_len]; show _ ≤ k * 4; omega⟩) (by rw [eQ.flat_length, lefP_len]; show _ ≤ k * 4; omega)
    rw [List.drop_zero, List.take_of_length_le (by rw [eQ.flat_length, lefP_len]; exact Nat.le_refl _)] at this
    unfold QO VO
    rw [lefP_len]
    exact this
  simp (maxSteps := 1000000) (disch := first | exact sd | fail) only [go_sem, Nat.reduceAdd, Nat.reduceSub, Nat.reduceLeDiff, ↓reduceIte, decide_eq_true_eq, if_true, if_false, Bool.false_eq_true, Int.lt_irrefl, implies_true, true_and, and_true, eq_self, and_self, beq_self_eq_true, h4]
  clear hg
  refine aw_loopJ (σ := Nat × Value) (fun s J => [Vv eQ y, Vv eR m, .int .i64 k, J 3, J 4, J 5, .slice none 0 0, .int .i64 0, s.2, J 9, J 10, J 11, J 12, J 13, J 14, J 15, J 16, J 17, J 18, J 19, J 20, J 21, J 22, J 23, J 24, J 25, J 26, J 27, J 28, J 29, J 30, J 31, J 32, J 33, J 34, J 35, J 36, J 37, J 38, Vv eR m, .int .i64 m.length, .int .i64 s.1, J 42, J 43, J 44, J 45, J 46, J 47, J 48, J 49, J 50, J 51, J 52, J 53, J 54, J 55, J 56, J 57, J 58, J 59, J 60, J 61]) (fun i s H1 => i = m.length - s.1 ∧ s.1 ≤ m.length ∧ Hle H H1 ∧ (∀ j, j < s.1 → (rwi m j).length = k) ∧ OV H H1 s.2 (lefP y m k s.1)) m.length (0, .slice (some ⟨H.next, 0, none⟩) k k) rfl ⟨rfl, Nat.zero_le _, hle, (fun j hj => by omega), ho0⟩ ?_
  clear hle hlt ho0
  rintro i ⟨l, ov⟩ J H1 ⟨rfl, hl, hle, hall, ho⟩
  simp only at hl hall ho
  by_cases h5 : (l : Int) < m.length
  · have h6 : (l : Int) < y.length := by omega
    have w1 : Rw (lefP y m k l) := lefP_rw (by omega) (fun j k' _ => hB j k') (Nat.le_trans (Nat.add_le_add_right (Nat.mul_le_mul_right _ hl) 1) hm)
    by_cases h7 : (rwi m l).length = k
    · have q := p87 w1 (hr l) (hy.getD l) (by rw [lefP_len, h7])
      change PC Try.prog 34 _ (.tuple ⟨[Vv eQ (plusV _ (ev y l) _), _]⟩) at q
      rw [lefP_succ] at q
      simp (maxSteps := 1000000) (disch := first | exact sd | fail) only [go_sem, Nat.reduceAdd, Nat.reduceSub, Nat.reduceLeDiff, ↓reduceIte, decide_eq_true_eq, if_true, if_false, Bool.false_eq_true, Int.lt_irrefl, implies_true, true_and, and_true, eq_self, and_self, beq_self_eq_true, h5, h6, Int.toNat_natCast, show m.getD l [] = rwi m l from rfl]
      refine ho.call hle q fun H2 hle2 => ?_
      simp (maxSteps := 1000000) (disch := first | exact sd | fail) only [go_sem, Nat.reduceAdd, Nat.reduceSub, Nat.reduceLeDiff, ↓reduceIte, decide_eq_true_eq, if_true, if_false, Bool.false_eq_true, Int.lt_irrefl, implies_true, true_and, and_true, eq_self, and_self, beq_self_eq_true, ne_eq, not_true_eq_false]
      refine IJ_intro (k := m.length - (l + 1)) (by omega) (l + 1, _) rfl ⟨rfl, by dsimp only; omega, hle2, fun j hj => ?_, .inr rfl⟩
      dsimp only at hj
      rcases Nat.lt_or_ge j l with h8 | h8
      · exact hall j h8
      · have : j = l := by omega
        subst this; exact h7
    · have q := p87x (a := lefP y m k l) (b := rwi m l) (pn := (y.getD l eQ.d).p.neg) (qn := (y.getD l eQ.d).q.neg) (pl := (y.getD l eQ.d).p.l) (ql := (y.getD l eQ.d).q.l) (by rw [lefP_len]; exact fun h => h7 h.symm)
      simp (maxSteps := 1000000) (disch := first | exact sd | fail) only [go_sem, Nat.reduceAdd, Nat.reduceSub, Nat.reduceLeDiff, ↓reduceIte, decide_eq_true_eq, if_true, if_false, Bool.false_eq_true, Int.lt_irrefl, implies_true, true_and, and_true, eq_self, and_self, beq_self_eq_true, h5, h6, Int.toNat_natCast, show m.getD l [] = rwi m l from rfl]
      refine ho.call hle q fun H2 hle2 => ?_
      simp (maxSteps := 1000000) (disch := first | exact sd | fail) only [go_sem, Nat.reduceAdd, Nat.reduceSub, Nat.reduceLeDiff, ↓reduceIte, decide_eq_true_eq, if_true, if_false, Bool.false_eq_true, Int.lt_irrefl, implies_true, true_and, and_true, eq_self, and_self, beq_self_eq_true, ne_eq, not_false_eq_true]
      exact .inr ⟨fun h => h7 (by have := h.2.2.2 l (by omega); omega), fz_nilt⟩
  · have e : l = m.length := by omega
    subst e
    simp (maxSteps := 1000000) (disch := first | exact sd | fail) only [go_sem, Nat.reduceAdd, Nat.reduceSub, Nat.reduceLeDiff, ↓reduceIte, decide_eq_true_eq, if_true, if_false, Bool.false_eq_true, Int.lt_irrefl, implies_true, true_and, and_true, eq_self, and_self, beq_self_eq_true, h5]
    exact .inl ⟨⟨by omega, by omega, by omega, fun j hj => by rw [hall j hj]⟩, ho.fz⟩
theorem p94 {y : List RQ} {m : List (List RQ)} {n : Int} {B : Nat} (hn : -9223372036854775808 ≤ n ∧ n ≤ 9223372036854775807) (hy : Rw y) (hr : ∀ j, Rw (rwi m j)) (hB : ∀ j k, lq (ev y j * ev (rwi m j) k) ≤ B) (hm : m.length * (B + 1) + 1 ≤ 2 ^ 16) (hml : m.length ≤ 2 ^ 16) (h : okL y m n) : PC Try.prog 36 [Vv eQ y, Vv eR m, .int .i64 n] (.tuple ⟨[Vv eQ (leftV y m n.toNat), .int .i64 0]⟩) :=
  PC.of (.cons pu_Qs (.cons pu_Rs (.cons (.ground rfl) .nil))) (pu_t pu_Qs) fun N hN => (c94 hn hy hr hB hm hml).mono fun v H' k => k.elim (fun k => k.2) fun k => absurd h k.1
end Go.Abs
