/- Edges of numbers. -/
import Derived.Test.YtboekagofficpaaGreatO10
import Derived.Test.YtboekagofficpaaGreatO2
set_option linter.unusedVariables false
set_option linter.unusedSimpArgs false
namespace Go.Abs
open Go Go.Proofs
set_option maxRecDepth 100000
set_option maxHeartbeats 40000000
def plO18_141_6 : Plan := ⟨[0, 1, 2, 3, 4, 5, 6, 7, 8, 9, 10, 11, 12, 13, 14, 15, 16, 17, 18], [(19, [], [20]), (21, [], [])]⟩
theorem rows1_6 {z a b c d e f : Value} : rFill 6 z 1 [(0, .agg ⟨[a, b, c, d, e, f]⟩)] = some [a, b, c, d, e, f] := rFill1 rfl
attribute [go_sem] rows1_6
def mkE (p : Nat × Nat) : RE := ⟨p.1, p.2, 0, [], [], []⟩
/-- Edges as they are made. -/
def eEo : En (Nat × Nat) := ⟨fun p => [.int .i64 p.1, .int .i64 p.2, .int .i64 0, .slice none 0 0, .slice none 0 0, .slice none 0 0], 6, (0, 0), fun _ => rfl⟩
def edgP (kk : Nat) (ns : List Int) (j : Nat) : List (Nat × Nat) := (List.range j).map fun i => ((ns.getD (2 * i) 0).toNat % kk, (ns.getD (2 * i + 1) 0).toNat % kk)
theorem edgP_len {kk j : Nat} {ns : List Int} : (edgP kk ns j).length = j := by simp [edgP]
theorem edgP_succ {kk j : Nat} {ns : List Int} : edgP kk ns (j + 1) = edgP kk ns j ++ [((ns.getD (2 * j) 0).toNat % kk, (ns.getD (2 * j + 1) 0).toNat % kk)] := by
  unfold edgP
  rw [List.range_succ, List.map_append]; rfl
def jmx (ns : List Int) : Nat := min (ns.length / 2) 40
def kkN (n : Int) : Nat := (1 + n.tmod 12).toNat
def edgW (n : Int) (ns : List Int) : RW := ⟨List.replicate (kkN n) ⟨[], 0⟩, [], (edgP (kkN n) ns (jmx ns)).map mkE, []⟩
theorem tmod_nat {x : Int} {k : Nat} (h : 0 ≤ x) : x.tmod (k : Int) = ((x.toNat % k : Nat) : Int) := by
  obtain ⟨m, rfl⟩ : ∃ m : Nat, x = m := ⟨x.toNat, by omega⟩
  rfl
theorem EO.append1 {H0 H : Heap} {sl : Value} {l : List (Nat × Nat)} (h : VO Tryz.prog eEo 46 H0 H sl l) (hle : H0.next ≤ H.next) (f t : Nat) (hs : l.length ≤ 2 ^ 30) :
    ∃ v H', aAppend Tryz.prog (H.push (.row true 46 [.int .i64 f, .int .i64 t, .int .i64 0, .slice none 0 0, .slice none 0 0, .slice none 0 0])) #[24, 24] sl (.slice (some ⟨H.next, 0, none⟩) 1 1) = some (v, H') ∧ VO Tryz.prog eEo 46 H0 H' v (l ++ [(f, t)]) ∧ (∀ b, b < H.next → b ≠ sblk sl → H'.get b = H.get b) ∧ H.next + 1 ≤ H'.next ∧ (sblk v = sblk sl ∨ sblk v = H.next + 1) :=
  VO.appendFU h hle [(f, t)] rfl Tryz.underlying24 (info_of_type Tryz.type46) rfl rfl T.s145 (by decide) T.o128 (fun a _ => rfl) (by omega) (by show _ * 96 ≤ _; omega)
theorem fz_locs {P : Program} {H : Heap} : ∀ k : Nat, FzRels P H ((List.replicate k (⟨[], 0⟩ : RL)).flatMap eL.enc) (repC k [.slice none 0 0, .int .i64 0])
  | 0 => .nil
  | k + 1 => by
    rw [List.replicate_succ, List.flatMap_cons, repC, List.replicate_succ, List.flatten_cons]
    exact .cons (.nz .vnil) (.cons .rfl (fz_locs k))
theorem fz_edges {P : Program} {H : Heap} : ∀ l : List (Nat × Nat), FzRels P H ((l.map mkE).flatMap eE.enc) (l.flatMap eEo.enc)
  | [] => .nil
  | p :: l => by
    rw [List.map_cons, List.flatMap_cons, List.flatMap_cons]
    exact .cons .rfl (.cons .rfl (.cons .rfl (.cons (.nz .vnil) (.cons (.nz .vnil) (.cons (.nz .vnil) (fz_edges l))))))
theorem repC_lenU {n : Nat} {zs : List Value} : (repC n zs).length = n * zs.length := by simp [repC]
theorem fz_W {H0 G : Heap} {b kk : Nat} {es : Value} {l : List (Nat × Nat)} (gL : G.get b = some (.row true 163 (repC kk [.slice none 0 0, .int .i64 0]))) (hb : b < G.next) (hk : kk ≤ 100) (ho : VO Tryz.prog eEo 46 H0 G es l) :
    FzRel Tryz.prog G (Wv ⟨List.replicate kk ⟨[], 0⟩, [], l.map mkE, []⟩) (.agg ⟨[.slice (some ⟨b, 0, none⟩) kk kk, .slice none 0 0, es, .slice none 0 0]⟩) := by
  have hs := Sl.row (P := Tryz.prog) (H := G) (es := 2) (b := b) (off := 0) (n := kk) (c := kk) gL hb (.inr T.s193) (.inr ⟨Nat.le_refl _, by unfold unk; omega⟩) (by rw [repC_lenU]; show 0 + kk * 2 ≤ kk * 2; omega)
  rw [List.drop_zero, List.take_of_length_le (by rw [repC_lenU]; exact Nat.le_refl _)] at hs
  have h1 : FzRel Tryz.prog G (Vv eL (List.replicate kk (⟨[], 0⟩ : RL))) (.slice (some ⟨b, 0, none⟩) kk kk) := by
    unfold Vv
    rw [List.length_replicate]
    exact .sl (es := 2) (by decide) hs (fz_locs kk)
  have h2 : FzRel Tryz.prog G (Vv eE (l.map mkE)) es := by
    unfold Vv
    rw [List.length_map]
    exact .sl (es := 6) (by decide) (Ow.toSl ho T.s145) (fz_edges l)
  exact .agg (.cons h1 (.cons (.nz .vnil) (.cons h2 (.cons (.nz .vnil) .nil))))
theorem p141 {n : Int} {ns : List Int} (hn : 0 ≤ n ∧ n < 256) (hs : ∀ x ∈ ns, 0 ≤ x ∧ x < 256) (hl : ns.length ≤ 9223372036854775807) : PC Tryz.prog 16 [.int .u8 n, Vv eY ns] (Wv (edgW n ns)) := by
  have h12 := Int.tmod_nonneg 12 hn.1
  have h13 := Int.tmod_lt_of_pos n (show (0 : Int) < 12 by decide)
  have hY : Pu (Vv eY ns) := pu_flat1 fun _ => .cons (.ground rfl) .nil
  refine PC.of (.cons (.ground rfl) (.cons hY .nil)) pu_W fun N hN => ?_
  unfold edgW
  have hkk : 1 + n.tmod 12 = (kkN n : Int) := by unfold kkN; omega
  have hk1 : 1 ≤ kkN n ∧ kkN n ≤ 12 := by unfold kkN; omega
  generalize kkN n = kk at *
  have hj : jmx ns = min (ns.length / 2) 40 := rfl
  generalize jmx ns = jm at *
  refine ACalls.of_code T.hm (n := 46) Tryz.func16 rfl rfl rfl rfl ?_; simp only [List.replicate_succ, List.replicate_zero, List.cons_append, List.nil_append]
  simp (maxSteps := 1000000) (disch := first | exact sd | fail) only [go_sem, Nat.reduceAdd, Nat.reduceSub, Nat.reduceLeDiff, ↓reduceIte, decide_eq_true_eq, if_true, if_false, Bool.false_eq_true, Int.lt_irrefl, implies_true, true_and, and_true, eq_self, and_self, beq_self_eq_true, aw_plan (id := 6) plO18_141_6, plO18_141_6, hkk, aMk_int, Int.toNat_natCast]
  refine aw_loopJ (σ := (Nat × Int) × Value) (fun s J => [J 0, Vv eY ns, J 2, J 3, .pointer (some ⟨N, 0, none⟩), .int .i64 kk, .pointer (some ⟨N + 2, 0, none⟩), .int .i64 s.1.2, J 8, J 9, J 10, J 11, J 12, J 13, J 14, J 15, J 16, J 17, J 18, J 19, J 20, J 21, J 22, J 23, J 24, J 25, J 26, J 27, J 28, J 29, J 30, J 31, J 32, J 33, J 34, J 35, J 36, J 37, J 38, J 39, J 40, J 41, J 42, J 43, J 44, J 45, J 46, J 47]) (fun m s H1 => m = jm - s.1.1 ∧ s.1.1 ≤ jm ∧ s.1.2 = 2 * (s.1.1 : Int) ∧ N + 3 ≤ H1.next ∧ H1.get N = some (.row true 27 [.slice none 0 0, .slice none 0 0, .slice none 0 0, .slice none 0 0]) ∧ H1.get (N + 1) = some (.row true 163 (repC kk [.slice none 0 0, .int .i64 0])) ∧ H1.get (N + 2) = some (.row true 27 [.slice (some ⟨N + 1, 0, none⟩) kk kk, .slice none 0 0, s.2, .slice none 0 0]) ∧ VO Tryz.prog eEo 46 (E0 (N + 3)) H1 s.2 (edgP kk ns s.1.1)) jm ((0, 0), .slice none 0 0) rfl ⟨rfl, Nat.zero_le _, rfl, by simp only [next_push, next_set, next_E0]; omega, by simp (maxSteps := 1000000) (disch := first | exact sd | fail) only [go_sem, Nat.reduceAdd, Nat.reduceSub, Nat.reduceLeDiff, ↓reduceIte, decide_eq_true_eq, if_true, if_false, Bool.false_eq_true, Int.lt_irrefl, implies_true, true_and, and_true, eq_self, and_self, beq_self_eq_true, aw_plan (id := 6) plO18_141_6, plO18_141_6], by simp (maxSteps := 1000000) (disch := first | exact sd | fail) only [go_sem, Nat.reduceAdd, Nat.reduceSub, Nat.reduceLeDiff, ↓reduceIte, decide_eq_true_eq, if_true, if_false, Bool.false_eq_true, Int.lt_irrefl, implies_true, true_and, and_true, eq_self, and_self, beq_self_eq_true, aw_plan (id := 6) plO18_141_6, plO18_141_6], by simp (maxSteps := 1000000) (disch := first | exact sd | fail) only [go_sem, Nat.reduceAdd, Nat.reduceSub, Nat.reduceLeDiff, ↓reduceIte, decide_eq_true_eq, if_true, if_false, Bool.false_eq_true, Int.lt_irrefl, implies_true, true_and, and_true, eq_self, and_self, beq_self_eq_true, aw_plan (id := 6) plO18_141_6, plO18_141_6], VO.nil⟩ ?_
  rintro m ⟨⟨j, q⟩, es⟩ J H1 ⟨rfl, hjm, hq, nx, g0, g1, g2, ho⟩
  dsimp only at hjm hq g2 ho ⊢
  subst hq
  have ise := ho.isSl
  by_cases c1 : 2 * (j : Int) + 1 < ns.length
  · by_cases c2 : 2 * (j : Int) < 80
    · have h5 : (2 * (j : Int)).toNat = 2 * j := by omega
      have h6 : (2 * (j : Int) + 1).toNat = 2 * j + 1 := by omega
      have b1 : 0 ≤ ns.getD (2 * j) 0 ∧ ns.getD (2 * j) 0 < 256 := getDm (P := fun x : Int => 0 ≤ x ∧ x < 256) (by omega) hs
      have b2 : 0 ≤ ns.getD (2 * j + 1) 0 ∧ ns.getD (2 * j + 1) 0 < 256 := getDm (P := fun x : Int => 0 ≤ x ∧ x < 256) (by omega) hs
      have e1 := tmod_nat (k := kk) b1.1
      have e2 := tmod_nat (k := kk) b2.1
      have hsu := edgP_succ (kk := kk) (j := j) (ns := ns)
      have f1 : (ns.getD (2 * j) 0).toNat % kk < kk := Nat.mod_lt _ (by omega)
      have f2 : (ns.getD (2 * j + 1) 0).toNat % kk < kk := Nat.mod_lt _ (by omega)
      generalize (ns.getD (2 * j) 0).toNat % kk = f at *
      generalize (ns.getD (2 * j + 1) 0).toNat % kk = t at *
      generalize hx : ns.getD (2 * j) 0 = x at *
      generalize hy : ns.getD (2 * j + 1) 0 = y at *
      obtain ⟨v, H4, ea, oa, fr, nx4, bl⟩ := EO.append1 ho nx f t (by rw [edgP_len]; omega)
      have isv := oa.isSl
      have nb := ho.blkU
      have nb : sblk es = 0 ∨ N + 3 ≤ sblk es := nb
      have k0 := (fr N (by omega) (by omega)).trans g0
      have k1 := (fr (N + 1) (by omega) (by omega)).trans g1
      have k2 := (fr (N + 2) (by omega) (by omega)).trans g2
      rw [← hsu] at oa
      simp (maxSteps := 30000000) (disch := first | exact sd | fail) only [go_sem, Nat.reduceAdd, Nat.reduceSub, Nat.reduceLeDiff, ↓reduceIte, decide_eq_true_eq, if_true, if_false, Bool.false_eq_true, Int.lt_irrefl, implies_true, true_and, and_true, eq_self, and_self, beq_self_eq_true, aw_plan (id := 6) plO18_141_6, plO18_141_6, c1, c2, h5, h6, hx, hy, e1, e2, g2, k2, ea]
      exact IJ_intro (k := jm - (j + 1)) (by omega) ((j + 1, 2 * (j : Int) + 2), v) rfl ⟨rfl, by dsimp only; omega, by dsimp only; omega, by simp only [next_set]; omega, by rw [get_set_ne (by omega)]; exact k0, by rw [get_set_ne (by omega)]; exact k1, by rw [get_set_self], oa.setFU (by show N + 2 < N + 3; omega) _⟩
    · have e : j = jm := by omega
      subst e
      simp (maxSteps := 30000000) (disch := first | exact sd | fail) only [go_sem, Nat.reduceAdd, Nat.reduceSub, Nat.reduceLeDiff, ↓reduceIte, decide_eq_true_eq, if_true, if_false, Bool.false_eq_true, Int.lt_irrefl, implies_true, true_and, and_true, eq_self, and_self, beq_self_eq_true, aw_plan (id := 6) plO18_141_6, plO18_141_6, c1, c2, g2, g0]
      exact fz_W (by rw [get_set_ne (by omega)]; exact g1) (by simp only [next_set]; omega) (by omega) (ho.setFU (by show N < N + 3; omega) _)
  · have e : j = jm := by omega
    subst e
    simp (maxSteps := 30000000) (disch := first | exact sd | fail) only [go_sem, Nat.reduceAdd, Nat.reduceSub, Nat.reduceLeDiff, ↓reduceIte, decide_eq_true_eq, if_true, if_false, Bool.false_eq_true, Int.lt_irrefl, implies_true, true_and, and_true, eq_self, and_self, beq_self_eq_true, aw_plan (id := 6) plO18_141_6, plO18_141_6, c1, g2, g0]
    exact fz_W (by rw [get_set_ne (by omega)]; exact g1) (by simp only [next_set]; omega) (by omega) (ho.setFU (by show N < N + 3; omega) _)
end Go.Abs
