/- Joined: O18, O21, O24, O31. -/
import Derived.Test.YtboekagofficpaaGreatO10
import Derived.Test.YtboekagofficpaaGreatO2
import Derived.Test.YtboekagofficpaaGreatO4
import Derived.Test.YtboekagofficpaaGreatO9
/- Edges of numbers. -/
set_option linter.unusedVariables false
set_option linter.unusedSimpArgs false
namespace Go.Abs
open Go Go.Proofs
set_option maxRecDepth 100000
set_option maxHeartbeats 40000000
def plO18_141_6 : Plan := ⟨[0, 1, 2, 3, 4, 5, 6, 7, 8, 9, 10, 11, 12, 13, 14, 15, 16, 17, 18], [(19, [], [20]), (21, [], [])]⟩
theorem rows1_6 {z a b c d e f : Value} : rFill 6 z 1 [(0, .agg ⟨[a, b, c, d, e, f]⟩)] = some [a, b, c, d, e, f] := rFill1 rfl
attribute [go_sem] rows1_6
def mkE (p : Nat × Nat) : RE := ⟨p.1, p.2, 0, [], [], []⟩
/-- Edges as they are made. -/
def eEo : En (Nat × Nat) := ⟨fun p => [.int .i64 p.1, .int .i64 p.2, .int .i64 0, .slice none 0 0, .slice none 0 0, .slice none 0 0], 6, (0, 0), fun _ => rfl⟩
def edgP (kk : Nat) (ns : List Int) (j : Nat) : List (Nat × Nat) := (List.range j).map fun i => ((ns.getD (2 * i) 0).toNat % kk, (ns.getD (2 * i + 1) 0).toNat % kk)
theorem edgP_len {kk j : Nat} {ns : List Int} : (edgP kk ns j).length = j := by simp [edgP]
theorem edgP_succ {kk j : Nat} {ns : List Int} : edgP kk ns (j + 1) = edgP kk ns j ++ [((ns.getD (2 * j) 0).toNat % kk, (ns.getD (2 * j + 1) 0).toNat % kk)] := by
  unfold edgP
  rw [List.range_succ, List.map_append]; rfl
def jmx (ns : List Int) : Nat := min (ns.length / 2) 40
def kkN (n : Int) : Nat := (1 + n.tmod 12).toNat
def edgW (n : Int) (ns : List Int) : RW := ⟨List.replicate (kkN n) ⟨[], 0⟩, [], (edgP (kkN n) ns (jmx ns)).map mkE, []⟩
theorem tmod_nat {x : Int} {k : Nat} (h : 0 ≤ x) : x.tmod (k : Int) = ((x.toNat % k : Nat) : Int) := by
  obtain ⟨m, rfl⟩ : ∃ m : Nat, x = m := ⟨x.toNat, by omega⟩
  rfl
theorem EO.append1 {H0 H : Heap} {sl : Value} {l : List (Nat × Nat)} (h : VO Tryz.prog eEo 46 H0 H sl l) (hle : H0.next ≤ H.next) (f t : Nat) (hs : l.length ≤ 2 ^ 30) :
    ∃ v H', aAppend Tryz.prog (H.push (.row true 46 [.int .i64 f, .int .i64 t, .int .i64 0, .slice none 0 0, .slice none 0 0, .slice none 0 0])) #[24, 24] sl (.slice (some ⟨H.next, 0, none⟩) 1 1) = some (v, H') ∧ VO Tryz.prog eEo 46 H0 H' v (l ++ [(f, t)]) ∧ (∀ b, b < H.next → b ≠ sblk sl → H'.get b = H.get b) ∧ H.next + 1 ≤ H'.next ∧ (sblk v = sblk sl ∨ sblk v = H.next + 1) :=
  VO.appendFU h hle [(f, t)] rfl Tryz.underlying24 (info_of_type Tryz.type46) rfl rfl T.s145 (by decide) T.o128 (fun a _ => rfl) (by omega) (by show _ * 96 ≤ _; omega)
theorem fz_locs {P : Program} {H : Heap} : ∀ k : Nat, FzRels P H ((List.replicate k (⟨[], 0⟩ : RL)).flatMap eL.enc) (repC k [.slice none 0 0, .int .i64 0])
  | 0 => .nil
  | k + 1 => by
    rw [List.replicate_succ, List.flatMap_cons, repC, List.replicate_succ, List.flatten_cons]
    exact .cons (.nz .vnil) (.cons .rfl (fz_locs k))
theorem fz_edges {P : Program} {H : Heap} : ∀ l : List (Nat × Nat), FzRels P H ((l.map mkE).flatMap eE.enc) (l.flatMap eEo.enc)
  | [] => .nil
  | p :: l => by
    rw [List.map_cons, List.flatMap_cons, List.flatMap_cons]
    exact .cons .rfl (.cons .rfl (.cons .rfl (.cons (.nz .vnil) (.cons (.nz .vnil) (.cons (.nz .vnil) (fz_edges l))))))
theorem repC_lenU {n : Nat} {zs : List Value} : (repC n zs).length = n * zs.length := by simp [repC]
theorem fz_W {H0 G : Heap} {b kk : Nat} {es : Value} {l : List (Nat × Nat)} (gL : G.get b = some (.row true 163 (repC kk [.slice none 0 0, .int .i64 0]))) (hb : b < G.next) (hk : kk ≤ 100) (ho : VO Tryz.prog eEo 46 H0 G es l) :
    FzRel Tryz.prog G (Wv ⟨List.replicate kk ⟨[], 0⟩, [], l.map mkE, []⟩) (.agg ⟨[.slice (some ⟨b, 0, none⟩) kk kk, .slice none 0 0, es, .slice none 0 0]⟩) := by
  have hs := Sl.row (P := Tryz.prog) (H := G) (es := 2) (b := b) (off := 0) (n := kk) (c := kk) gL hb (.inr T.s193) (.inr ⟨Nat.le_refl _, by unfold unk; omega⟩) (by rw [repC_lenU]; show 0 + kk * 2 ≤ kk * 2; omega)
  rw [List.drop_zero, List.take_of_length_le (by rw [repC_lenU]; exact Nat.le_refl _)] at hs
  have h1 : FzRel Tryz.prog G (Vv eL (List.replicate kk (⟨[], 0⟩ : RL))) (.slice (some ⟨b, 0, none⟩) kk kk) := by
    unfold Vv
    rw [List.length_replicate]
    exact .sl (es := 2) (by decide) hs (fz_locs kk)
  have h2 : FzRel Tryz.prog G (Vv eE (l.map mkE)) es := by
    unfold Vv
    rw [List.length_map]
    exact .sl (es := 6) (by decide) (Ow.toSl ho T.s145) (fz_edges l)
  exact .agg (.cons h1 (.cons (.nz .vnil) (.cons h2 (.cons (.nz .vnil) .nil))))
theorem p141 {n : Int} {ns : List Int} (hn : 0 ≤ n ∧ n < 256) (hs : ∀ x ∈ ns, 0 ≤ x ∧ x < 256) (hl : ns.length ≤ 9223372036854775807) : PC Tryz.prog 16 [.int .u8 n, Vv eY ns] (Wv (edgW n ns)) := by
  have h12 := Int.tmod_nonneg 12 hn.1
  have h13 := Int.tmod_lt_of_pos n (show (0 : Int) < 12 by decide)
  have hY : Pu (Vv eY ns) := pu_flat1 fun _ => .cons (.ground rfl) .nil
  refine PC.of (.cons (.ground rfl) (.cons hY .nil)) pu_W fun N hN => ?_
  unfold edgW
  have hkk : 1 + n.tmod 12 = (kkN n : Int) := by unfold kkN; omega
  have hk1 : 1 ≤ kkN n ∧ kkN n ≤ 12 := by unfold kkN; omega
  generalize kkN n = kk at *
  have hj : jmx ns = min (ns.length / 2) 40 := rfl
  generalize jmx ns = jm at *
  refine ACalls.of_code T.hm (n := 46) Tryz.func16 rfl rfl rfl rfl ?_; simp only [List.replicate_succ, List.replicate_zero, List.cons_append, List.nil_append]
  simp (maxSteps := 1000000) (disch := first | exact sd | fail) only [go_sem, Nat.reduceAdd, Nat.reduceSub, Nat.reduceLeDiff, ↓reduceIte, decide_eq_true_eq, if_true, if_false, Bool.false_eq_true, Int.lt_irrefl, implies_true, true_and, and_true, eq_self, and_self, beq_self_eq_true, aw_plan (id := 6) plO18_141_6, plO18_141_6, hkk, aMk_int, Int.toNat_natCast]
  refine aw_loopJ (σ := (Nat × Int) × Value) (fun s J => [J 0, Vv eY ns, J 2, J 3, .pointer (some ⟨N, 0, none⟩), .int .i64 kk, .pointer (some ⟨N + 2, 0, none⟩), .int .i64 s.1.2, J 8, J 9, J 10, J 11, J 12, J 13, J 14, J 15, J 16, J 17, J 18, J 19, J 20, J 21, J 22, J 23, J 24, J 25, J 26, J 27, J 28, J 29, J 30, J 31, J 32, J 33, J 34, J 35, J 36, J 37, J 38, J 39, J 40, J 41, J 42, J 43, J 44, J 45, J 46, J 47]) (fun m s H1 => m = jm - s.1.1 ∧ s.1.1 ≤ jm ∧ s.1.2 = 2 * (s.1.1 : Int) ∧ N + 3 ≤ H1.next ∧ H1.get N = some (.row true 27 [.slice none 0 0, .slice none 0 0, .slice none 0 0, .slice none 0 0]) ∧ H1.get (N + 1) = some (.row true 163 (repC kk [.slice none 0 0, .int .i64 0])) ∧ H1.get (N + 2) = some (.row true 27 [.slice (some ⟨N + 1, 0, none⟩) kk kk, .slice none 0 0, s.2, .slice none 0 0]) ∧ VO Tryz.prog eEo 46 (E0 (N + 3)) H1 s.2 (edgP kk ns s.1.1)) jm ((0, 0), .slice none 0 0) rfl ⟨rfl, Nat.zero_le _, rfl, by simp only [next_push, next_set, next_E0]; omega, by simp (maxSteps := 1000000) (disch := first | exact sd | fail) only [go_sem, Nat.reduceAdd, Nat.reduceSub, Nat.reduceLeDiff, ↓reduceIte, decide_eq_true_eq, if_true, if_false, Bool.false_eq_true, Int.lt_irrefl, implies_true, true_and, and_true, eq_self, and_self, beq_self_eq_true, aw_plan (id := 6) plO18_141_6, plO18_141_6], by simp (maxSteps := 1000000) (disch := first | exact sd | fail) only [go_sem, Nat.reduceAdd, Nat.reduceSub, Nat.reduceLeDiff, ↓reduceIte, decide_eq_true_eq, if_true, if_false, Bool.false_eq_true, Int.lt_irrefl, implies_true, true_and, and_true, eq_self, and_self, beq_self_eq_true, aw_plan (id := 6) plO18_141_6, plO18_141_6], by simp (maxSteps := 1000000) (disch := first | exact sd | fail) only [go_sem, Nat.reduceAdd, Nat.reduceSub, Nat.reduceLeDiff, ↓reduceIte, decide_eq_true_eq, if_true, if_false, Bool.false_eq_true, Int.lt_irrefl, implies_true, true_and, and_true, eq_self, and_self, beq_self_eq_true, aw_plan (id := 6) plO18_141_6, plO18_141_6], VO.nil⟩ ?_
  rintro m ⟨⟨j, q⟩, es⟩ J H1 ⟨rfl, hjm, hq, nx, g0, g1, g2, ho⟩
  dsimp only at hjm hq g2 ho ⊢
  subst hq
  have ise := ho.isSl
  by_cases c1 : 2 * (j : Int) + 1 < ns.length
  · by_cases c2 : 2 * (j : Int) < 80
    · have h5 : (2 * (j : Int)).toNat = 2 * j := by omega
      have h6 : (2 * (j : Int) + 1).toNat = 2 * j + 1 := by omega
      have b1 : 0 ≤ ns.getD (2 * j) 0 ∧ ns.getD (2 * j) 0 < 256 := getDm (P := fun x : Int => 0 ≤ x ∧ x < 256) (by omega) hs
      have b2 : 0 ≤ ns.getD (2 * j + 1) 0 ∧ ns.getD (2 * j + 1) 0 < 256 := getDm (P := fun x : Int => 0 ≤ x ∧ x < 256) (by omega) hs
      have e1 := tmod_nat (k := kk) b1.1
      have e2 := tmod_nat (k := kk) b2.1
      have hsu := edgP_succ (kk := kk) (j := j) (ns := ns)
      have f1 : (ns.getD (2 * j) 0).toNat % kk < kk := Nat.mod_lt _ (by omega)
      have f2 : (ns.getD (2 * j + 1) 0).toNat % kk < kk := Nat.mod_lt _ (by omega)
      generalize (ns.getD (2 * j) 0).toNat % kk = f at *
      generalize (ns.getD (2 * j + 1) 0).toNat % kk = t at *
      generalize hx : ns.getD (2 * j) 0 = x at *
      generalize hy : ns.getD (2 * j + 1) 0 = y at *
      obtain ⟨v, H4, ea, oa, fr, nx4, bl⟩ := EO.append1 ho nx f t (by rw [edgP_len]; omega)
      have isv := oa.isSl
      have nb := ho.blkU
      have nb : sblk es = 0 ∨ N + 3 ≤ sblk es := nb
      have k0 := (fr N (by omega) (by omega)).trans g0
      have k1 := (fr (N + 1) (by omega) (by omega)).trans g1
      have k2 := (fr (N + 2) (by omega) (by omega)).trans g2
      rw [← hsu] at oa
      simp (maxSteps := 30000000) (disch := first | exact sd | fail) only [go_sem, Nat.reduceAdd, Nat.reduceSub, Nat.reduceLeDiff, ↓reduceIte, decide_eq_true_eq, if_true, if_false, Bool.false_eq_true, Int.lt_irrefl, implies_true, true_and, and_true, eq_self, and_self, beq_self_eq_true, aw_plan (id := 6) plO18_141_6, plO18_141_6, c1, c2, h5, h6, hx, hy, e1, e2, g2, k2, ea]
      exact IJ_intro (k := jm - (j + 1)) (by omega) ((j + 1, 2 * (j : Int) + 2), v) rfl ⟨rfl, by dsimp only; omega, by dsimp only; omega, by simp only [next_set]; omega, by rw [get_set_ne (by omega)]; exact k0, by rw [get_set_ne (by omega)]; exact k1, by rw [get_set_self], oa.setFU (by show N + 2 < N + 3; omega) _⟩
    · have e : j = jm := by omega
      subst e
      simp (maxSteps := 30000000) (disch := first | exact sd | fail) only [go_sem, Nat.reduceAdd, Nat.reduceSub, Nat.reduceLeDiff, ↓reduceIte, decide_eq_true_eq, if_true, if_false, Bool.false_eq_true, Int.lt_irrefl, implies_true, true_and, and_true, eq_self, and_self, beq_self_eq_true, aw_plan (id := 6) plO18_141_6, plO18_141_6, c1, c2, g2, g0]
      exact fz_W (by rw [get_set_ne (by omega)]; exact g1) (by simp only [next_set]; omega) (by omega) (ho.setFU (by show N < N + 3; omega) _)
  · have e : j = jm := by omega
    subst e
    simp (maxSteps := 30000000) (disch := first | exact sd | fail) only [go_sem, Nat.reduceAdd, Nat.reduceSub, Nat.reduceLeDiff, ↓reduceIte, decide_eq_true_eq, if_true, if_false, Bool.false_eq_true, Int.lt_irrefl, implies_true, true_and, and_true, eq_self, and_self, beq_self_eq_true, aw_plan (id := 6) plO18_141_6, plO18_141_6, c1, g2, g0]
    exact fz_W (by rw [get_set_ne (by omega)]; exact g1) (by simp only [next_set]; omega) (by omega) (ho.setFU (by show N < N + 3; omega) _)
end Go.Abs

/- The edges of numbers are right. -/
set_option linter.unusedVariables false
set_option linter.unusedSimpArgs false
namespace Go.Abs
open Go Go.Proofs
set_option maxRecDepth 100000
set_option maxHeartbeats 4000000
def moreU (l : RW) : RW := ⟨l.locs, l.slots, l.edges ++ [⟨0, 0, 0, [], [], []⟩], l.viols⟩
theorem edg_okU {n : Int} {ns : List Int} (hn : 0 ≤ n) : okW (edgW n ns) = true ∧ okW (moreU (edgW n ns)) = true ∧ LimW (edgW n ns) ∧ SmW (edgW n ns) ∧ LimW (moreU (edgW n ns)) ∧ SmW (moreU (edgW n ns)) ∧ (edgW n ns).edges.length ≤ 40 := by
  have hM : maxLen = 9223372036854775807 := rfl
  have h12 := Int.tmod_nonneg 12 hn
  have h13 := Int.tmod_lt_of_pos n (show (0 : Int) < 12 by decide)
  have hk1 : 1 ≤ kkN n ∧ kkN n ≤ 12 := by unfold kkN; omega
  have hj : jmx ns ≤ 40 := by unfold jmx; omega
  unfold moreU edgW
  generalize kkN n = kk at *
  generalize jmx ns = jm at *
  have hE : ∀ e ∈ (edgP kk ns jm).map mkE ++ [(⟨0, 0, 0, [], [], []⟩ : RE)], ((0 ≤ e.f ∧ e.f < kk) ∧ 0 ≤ e.t ∧ e.t < kk) ∧ e.m = 0 ∧ e.g = [] ∧ e.s = [] ∧ e.p = [] := by
    intro e he
    rcases List.mem_append.1 he with he | he
    · obtain ⟨p, hp, rfl⟩ := List.mem_map.1 he
      unfold edgP at hp
      obtain ⟨i, _, rfl⟩ := List.mem_map.1 hp
      have f1 := Nat.mod_lt (ns.getD (2 * i) 0).toNat (show 0 < kk by omega)
      have f2 := Nat.mod_lt (ns.getD (2 * i + 1) 0).toNat (show 0 < kk by omega)
      unfold mkE
      dsimp only
      exact ⟨by omega, rfl, rfl, rfl, rfl⟩
    · rw [List.mem_singleton.1 he]
      exact ⟨by dsimp only; omega, rfl, rfl, rfl, rfl⟩
  have hl : ((edgP kk ns jm).map mkE).length = jm := by rw [List.length_map, edgP_len]
  have ok (e : RE) (h : ((0 ≤ e.f ∧ e.f < kk) ∧ 0 ≤ e.t ∧ e.t < kk) ∧ e.m = 0 ∧ e.g = [] ∧ e.s = [] ∧ e.p = []) : okE kk 0 e = true := by
    obtain ⟨⟨h1, h2⟩, h3, h4, h5, h6⟩ := h
    refine okE_iff.2 ⟨h1, h2, by omega, by rw [h5]; rfl, by rw [h5]; rfl, by rw [h4]; rfl⟩
  have lm (e : RE) (h : ((0 ≤ e.f ∧ e.f < kk) ∧ 0 ≤ e.t ∧ e.t < kk) ∧ e.m = 0 ∧ e.g = [] ∧ e.s = [] ∧ e.p = []) : LimE e ∧ SmE e := by
    obtain ⟨⟨h1, h2⟩, h3, h4, h5, h6⟩ := h
    have hA : LimAs [] := ⟨Nat.zero_le _, fun a ha => by cases ha⟩
    unfold LimE SmE I64
    rw [h4, h5, h6]
    exact ⟨⟨by omega, by omega, by omega, hA, hA, Nat.zero_le _⟩, ⟨fun a ha => (by cases ha), fun a ha => (by cases ha)⟩⟩
  have hE1 : ∀ e ∈ (edgP kk ns jm).map mkE, _ := fun e he => hE e (List.mem_append.2 (.inl he))
  refine ⟨?_, ?_, ⟨by rw [List.length_replicate]; omega, Nat.zero_le _, ⟨by rw [hl]; omega, fun e he => (lm e (hE1 e he)).1⟩, Nat.zero_le _, fun e he => by cases he⟩, ⟨fun e he => (lm e (hE1 e he)).2, fun e he => by cases he⟩, ⟨by rw [List.length_replicate]; omega, Nat.zero_le _, ⟨by rw [List.length_append, hl, List.length_singleton]; omega, fun e he => (lm e (hE e he)).1⟩, Nat.zero_le _, fun e he => by cases he⟩, ⟨fun e he => (lm e (hE e he)).2, fun e he => by cases he⟩, by rw [hl]; omega⟩
  · unfold okW
    dsimp only
    simp only [List.length_nil]
    rw [List.length_replicate, hl, decide_eq_true (by simp; omega), List.all_eq_true.2 fun e he => ok e (hE1 e he)]
    rfl
  · unfold okW
    dsimp only
    simp only [List.length_nil]
    rw [List.length_replicate, List.length_append, hl, List.length_singleton, decide_eq_true (by simp; omega), List.all_eq_true.2 fun e he => ok e (hE e he)]
    rfl
end Go.Abs

/- Locations one behind the other. -/
set_option linter.unusedVariables false
set_option linter.unusedSimpArgs false
namespace Go.Abs
open Go Go.Proofs
set_option maxRecDepth 100000
set_option maxHeartbeats 4000000
def opn (k i : Nat) : List Int := List.replicate i 1 ++ List.replicate (k - i) 0
def cls (k i : Nat) : List Int := List.replicate i 1 ++ List.replicate (k - i) 2
theorem two_get {k i j : Nat} {x : Int} : (List.replicate i (1 : Int) ++ List.replicate (k - i) x).getD j 0 = if j < i then 1 else if j < k then x else 0 := by
  rw [List.getD_eq_getElem?_getD, List.getElem?_append, List.length_replicate]
  by_cases h : j < i
  · rw [if_pos h, if_pos h, List.getElem?_replicate, if_pos h]; rfl
  · rw [if_neg h, if_neg h, List.getElem?_replicate]
    by_cases h2 : j < k
    · rw [if_pos h2, if_pos (by omega)]; rfl
    · rw [if_neg h2, if_neg (by omega)]; rfl
theorem opn_set {k i : Nat} (h : i < k) : (opn k i).set i 1 = opn k (i + 1) := by
  unfold opn
  rw [List.set_append_right _ _ (by simp), List.length_replicate, Nat.sub_self, show k - i = (k - (i + 1)) + 1 by omega, List.replicate_succ, List.set_cons_zero, List.replicate_succ', List.append_assoc]
  rfl
theorem cls_set {k i : Nat} (h : i < k) : (cls k (i + 1)).set i 2 = cls k i := by
  unfold cls
  rw [List.replicate_succ', List.append_assoc, List.set_append_right _ _ (by simp), List.length_replicate, Nat.sub_self, show k - i = (k - (i + 1)) + 1 by omega, List.replicate_succ]
  rfl
theorem opn_all {k : Nat} : opn k k = cls k k := by unfold opn cls; rw [Nat.sub_self]; rfl
def dn : Nat → Nat → List Int
  | i, 0 => [(i : Int)]
  | i, j + 1 => dn (i + 1) j ++ [(i : Int)]
theorem dn_rev : ∀ j i : Nat, (dn i j).reverse = (List.range (j + 1)).map fun d => ((i + d : Nat) : Int)
  | 0, i => rfl
  | j + 1, i => by
    have e : List.range (j + 1 + 1) = 0 :: (List.range (j + 1)).map Nat.succ := List.range_succ_eq_map
    rw [dn, List.reverse_append, dn_rev j (i + 1), e, List.map_cons, List.map_map]
    show (i : Int) :: _ = ((i + 0 : Nat) : Int) :: _
    congr 1
    refine List.map_congr_left fun d _ => ?_
    show ((i + 1 + d : Nat) : Int) = ((i + (d + 1) : Nat) : Int)
    congr 1
    omega
theorem fold_mark {out : Nat → List Nat} {f k : Nat} : ∀ (l : List Nat) (hd : List Bool) (ls : List Int), (∀ t ∈ l, t < k) → l.foldl (stepO out f) ⟨opn k k, hd, ls⟩ = ⟨opn k k, l.foldl (fun h t => h.set t true) hd, ls⟩
  | [], hd, ls, _ => rfl
  | t :: l, hd, ls, h => by
    have e : (opn k k).getD t 0 = 1 := by unfold opn; rw [two_get, if_pos (h t (List.Mem.head _))]
    have e2 : stepO out f ⟨opn k k, hd, ls⟩ t = ⟨opn k k, hd.set t true, ls⟩ := by
      unfold stepO
      rw [if_neg (by rw [e]; decide), if_pos e]
      rfl
    rw [List.foldl_cons, List.foldl_cons, e2]
    exact fold_mark l _ _ fun u hu => h u (List.Mem.tail _ hu)
theorem row_visit {out : Nat → List Nat} {k : Nat} {bk : List Nat} (h1 : ∀ i, i + 1 < k → out i = [i + 1]) (h2 : out (k - 1) = bk) (hb : ∀ t ∈ bk, t < k) : ∀ (j i f : Nat) (hd : List Bool) (ls : List Int), i + j + 1 = k → j < f →
    visit out f i ⟨opn k i, hd, ls⟩ = ⟨cls k i, bk.foldl (fun h t => h.set t true) hd, ls ++ dn i j⟩
  | 0, i, f, hd, ls, hi, hf => by
    obtain ⟨g, rfl⟩ : ∃ g, f = g + 1 := ⟨f - 1, by omega⟩
    have e : i = k - 1 := by omega
    have ek : i + 1 = k := by omega
    rw [visit_succ, e, h2, ← e]
    show (bk.foldl (stepO out g) ⟨(opn k i).set i 1, hd, ls⟩).fin i = _
    rw [opn_set (by omega), ek, fold_mark bk hd ls hb]
    show OS.mk ((opn k k).set i 2) _ _ = _
    have e3 : (opn k k).set i 2 = cls k i := by
      have := cls_set (k := k) (i := i) (by omega)
      rwa [ek, ← opn_all] at this
    rw [e3]
    rfl
  | j + 1, i, f, hd, ls, hi, hf => by
    obtain ⟨g, rfl⟩ : ∃ g, f = g + 1 := ⟨f - 1, by omega⟩
    rw [visit_succ, h1 i (by omega)]
    show (stepO out g ⟨(opn k i).set i 1, hd, ls⟩ (i + 1)).fin i = _
    rw [opn_set (by omega)]
    have e : (opn k (i + 1)).getD (i + 1) 0 = 0 := by unfold opn; rw [two_get, if_neg (by omega), if_pos (by omega)]
    have e2 : stepO out g ⟨opn k (i + 1), hd, ls⟩ (i + 1) = visit out g (i + 1) ⟨opn k (i + 1), hd, ls⟩ := by
      unfold stepO
      rw [if_pos e]
    rw [e2, row_visit h1 h2 hb j (i + 1) g hd ls (by omega) (by omega)]
    show OS.mk ((cls k (i + 1)).set i 2) _ _ = _
    rw [cls_set (by omega), dn, List.append_assoc]
/-- The order of a row, with edges back from the last one. -/
theorem row_ord {E : List RE} {k : Nat} {bk : List Nat} (hk : 0 < k) (h1 : ∀ i, i + 1 < k → outE E i = [i + 1]) (h2 : outE E (k - 1) = bk) (hb : ∀ t ∈ bk, t < k) :
    ordO (ordS E k) k = (List.range k).map (fun d : Nat => (d : Int)) ∧ (ordS E k).head = bk.foldl (fun h t => h.set t true) (List.replicate k false) := by
  have e0 : os0 k = ⟨opn k 0, List.replicate k false, []⟩ := by unfold os0 opn; rfl
  have e := row_visit h1 h2 hb (k - 1) 0 k (List.replicate k false) [] (by omega) (by omega)
  have e1 : ordS E k = ⟨cls k 0, bk.foldl (fun h t => h.set t true) (List.replicate k false), dn 0 (k - 1)⟩ := by
    unfold ordS
    rw [e0, e]
    rfl
  rw [e1]
  refine ⟨?_, rfl⟩
  unfold ordO rest
  dsimp only
  have e2 : (List.range k).filter (fun i => decide ((cls k 0).getD i 0 = 0)) = [] := by
    rw [List.filter_eq_nil_iff]
    intro i hi
    have hi := List.mem_range.1 hi
    unfold cls
    rw [two_get, if_neg (by omega), if_pos hi]
    decide
  rw [e2, dn_rev, show k - 1 + 1 = k by omega]
  simp
end Go.Abs

/- Rows of locations: they are right; where their edges lead. -/
set_option linter.unusedVariables false
set_option linter.unusedSimpArgs false
namespace Go.Abs
open Go Go.Proofs
set_option maxRecDepth 100000
set_option maxHeartbeats 4000000
def prW (kk : Nat) (P : List (Nat × Nat)) : RW := ⟨List.replicate kk ⟨[], 0⟩, [], P.map mkE, []⟩
theorem prW_ok {kk : Nat} {P : List (Nat × Nat)} (hk : 1 ≤ kk ∧ kk ≤ 40) (hl : P.length ≤ 200) (hP : ∀ p ∈ P, p.1 < kk ∧ p.2 < kk) : okW (prW kk P) = true ∧ LimW (prW kk P) ∧ SmW (prW kk P) := by
  have hM : maxLen = 9223372036854775807 := rfl
  unfold prW
  have hE : ∀ e ∈ P.map mkE, ((0 ≤ e.f ∧ e.f < kk) ∧ 0 ≤ e.t ∧ e.t < kk) ∧ e.m = 0 ∧ e.g = [] ∧ e.s = [] ∧ e.p = [] := by
    intro e he
    obtain ⟨p, hp, rfl⟩ := List.mem_map.1 he
    have := hP p hp
    unfold mkE
    dsimp only
    exact ⟨by omega, rfl, rfl, rfl, rfl⟩
  have ok (e : RE) (h : ((0 ≤ e.f ∧ e.f < kk) ∧ 0 ≤ e.t ∧ e.t < kk) ∧ e.m = 0 ∧ e.g = [] ∧ e.s = [] ∧ e.p = []) : okE kk 0 e = true := by
    obtain ⟨⟨h1, h2⟩, h3, h4, h5, h6⟩ := h
    refine okE_iff.2 ⟨h1, h2, by omega, by rw [h5]; rfl, by rw [h5]; rfl, by rw [h4]; rfl⟩
  have lm (e : RE) (h : ((0 ≤ e.f ∧ e.f < kk) ∧ 0 ≤ e.t ∧ e.t < kk) ∧ e.m = 0 ∧ e.g = [] ∧ e.s = [] ∧ e.p = []) : LimE e ∧ SmE e := by
    obtain ⟨⟨h1, h2⟩, h3, h4, h5, h6⟩ := h
    have hA : LimAs [] := ⟨Nat.zero_le _, fun a ha => by cases ha⟩
    unfold LimE SmE I64
    rw [h4, h5, h6]
    exact ⟨⟨by omega, by omega, by omega, hA, hA, Nat.zero_le _⟩, ⟨fun a ha => (by cases ha), fun a ha => (by cases ha)⟩⟩
  refine ⟨?_, ⟨by rw [List.length_replicate]; omega, Nat.zero_le _, ⟨by rw [List.length_map]; omega, fun e he => (lm e (hE e he)).1⟩, Nat.zero_le _, fun e he => by cases he⟩, ⟨fun e he => (lm e (hE e he)).2, fun e he => by cases he⟩⟩
  unfold okW
  dsimp only
  simp only [List.length_nil]
  rw [List.length_replicate, List.length_map, decide_eq_true (by simp; omega), List.all_eq_true.2 fun e he => ok e (hE e he)]
  rfl
theorem outE_app {A B : List RE} {v : Nat} : outE (A ++ B) v = outE A v ++ outE B v := by
  unfold outE
  rw [List.filter_append, List.map_append]
theorem outE_one {a b v : Nat} : outE [mkE (a, b)] v = if a = v then [b] else [] := by
  unfold outE mkE
  by_cases h : a = v
  · subst h
    rw [List.filter_cons, if_pos (by simp), if_pos rfl]; rfl
  · rw [List.filter_cons, if_neg (by simp; omega), if_neg h]; rfl
def rowP (m : Nat) : List (Nat × Nat) := (List.range m).map fun j => (j, j + 1)
theorem rowP_succ {m : Nat} : rowP (m + 1) = rowP m ++ [(m, m + 1)] := by
  unfold rowP
  rw [List.range_succ, List.map_append]; rfl
theorem rowP_len {m : Nat} : (rowP m).length = m := by simp [rowP]
theorem rowP_in {m kk : Nat} (h : m + 1 ≤ kk) : ∀ p ∈ rowP m, p.1 < kk ∧ p.2 < kk := fun p hp => by
  unfold rowP at hp
  obtain ⟨j, hj, rfl⟩ := List.mem_map.1 hp
  have := List.mem_range.1 hj
  dsimp only
  omega
theorem outE_row {v : Nat} : ∀ m, outE ((rowP m).map mkE) v = if v < m then [v + 1] else []
  | 0 => by rw [if_neg (by omega)]; rfl
  | m + 1 => by
    rw [rowP_succ, List.map_append, outE_app, outE_row m]
    show _ ++ outE [mkE (m, m + 1)] v = _
    rw [outE_one]
    by_cases h1 : v < m
    · rw [if_pos h1, if_neg (by omega), if_pos (by omega)]; rfl
    · rw [if_neg h1]
      by_cases h2 : m = v
      · subst h2
        rw [if_pos rfl, if_pos (by omega)]; rfl
      · rw [if_neg h2, if_neg (by omega)]; rfl
/-- The order, the heads of a row; with an edge back. -/
theorem row_one {k : Nat} (hk : 0 < k) : ordO (ordS (prW k (rowP (k - 1))).edges k) k = (List.range k).map (fun d : Nat => (d : Int)) ∧ (ordS (prW k (rowP (k - 1))).edges k).head = List.replicate k false :=
  row_ord (bk := []) hk (fun i hi => by show outE ((rowP (k - 1)).map mkE) i = _; rw [outE_row, if_pos (by omega)]) (by show outE ((rowP (k - 1)).map mkE) _ = _; rw [outE_row, if_neg (by omega)]) fun t ht => nomatch ht
theorem row_two {k t : Nat} (hk : 0 < k) (ht : t < k) : ordO (ordS (prW k (rowP (k - 1) ++ [(k - 1, t)])).edges k) k = (List.range k).map (fun d : Nat => (d : Int)) ∧ (ordS (prW k (rowP (k - 1) ++ [(k - 1, t)])).edges k).head = (List.replicate k false).set t true := by
  have e : ∀ i, outE (prW k (rowP (k - 1) ++ [(k - 1, t)])).edges i = (if i < k - 1 then [i + 1] else []) ++ if k - 1 = i then [t] else [] := fun i => by
    show outE ((rowP (k - 1) ++ [(k - 1, t)]).map mkE) i = _
    rw [List.map_append, outE_app, outE_row]
    show _ ++ outE [mkE (k - 1, t)] i = _
    rw [outE_one]
  refine row_ord (bk := [t]) hk (fun i hi => ?_) ?_ fun u hu => by rw [List.mem_singleton.1 hu]; exact ht
  · rw [e, if_pos (by omega), if_neg (by omega)]; rfl
  · rw [e, if_neg (by omega), if_pos rfl]; rfl
end Go.Abs
