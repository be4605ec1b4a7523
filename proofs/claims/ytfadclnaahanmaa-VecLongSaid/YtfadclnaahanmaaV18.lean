/- A look that is answered with nothing but nils; noughts made and appended; rows of unlike lengths are refused. -/
import Derived.Test.YtfadclnaahanmaaV17
set_option linter.unusedVariables false
set_option linter.unusedSimpArgs false
namespace Go.Abs
open Go Go.Proofs
set_option maxRecDepth 100000
set_option maxHeartbeats 4000000
/-! ### noughts, made and appended -/
theorem zeroCells_rep {z : Array Value} (h : 0 < z.size) : ∀ m, (Builtin.zeroCells z m).toList = (List.replicate m z.toList).flatten
  | 0 => by simp [Builtin.zeroCells]
  | m + 1 => by
    have ih := zeroCells_rep h m
    unfold Builtin.zeroCells at ih ⊢
    simp only [Array.toList_map, Array.toList_range] at ih ⊢
    rw [Nat.add_mul, Nat.one_mul, List.range_add, List.map_append, ih, List.replicate_succ', List.flatten_append]
    congr 1
    simp only [List.map_map, List.flatten_cons, List.flatten_nil, List.append_nil]
    refine List.ext_getElem (by simp) fun i h1 h2 => ?_
    simp only [List.length_map, List.length_range] at h1
    simp [Nat.mod_eq_of_lt h1, h1]
mutual
/-- A value without addresses, but for empty slices. -/
inductive Vd : Value → Prop
  | ground {v : Value} (h : ground v = true) : Vd v
  | nil : Vd (fzv 0 [])
  | agg {cs : List Value} (h : Vds cs) : Vd (.agg ⟨cs⟩)
  | tuple {cs : List Value} (h : Vds cs) : Vd (.tuple ⟨cs⟩)
inductive Vds : List Value → Prop
  | nil : Vds []
  | cons {v : Value} {vs : List Value} (h : Vd v) (hs : Vds vs) : Vds (v :: vs)
end
mutual
theorem Vd.rel {ρ ρ' : Ren} : ∀ {r v' : Value}, Vd r → VRel ρ r v' → VRel ρ' r v'
  | _, _, .ground h, k => by rw [k.ground_eq h]; exact .ground h
  | _, _, .nil, k => by
    rcases k.frozen with ⟨b, off, L, cs, c, h1, hf, hn, hb, hc, rfl⟩ | ⟨_, _, rfl⟩ | ⟨_, _, a, c, rfl⟩
    · exact .fzvoid
    · exact .fznil
    · exact .fzvoid
  | _, _, .agg h, k => by
    obtain ⟨xs', rfl, k2⟩ := k.aggr
    exact .agg (Vds.rel h k2)
  | _, _, .tuple h, k => by
    obtain ⟨xs', rfl, k2⟩ := k.tup
    exact .tuple (Vds.rel h k2)
theorem Vds.rel {ρ ρ' : Ren} : ∀ {r v' : List Value}, Vds r → VRels ρ r v' → VRels ρ' r v'
  | _, _, .nil, k => by cases k; exact .nil
  | _, _, .cons h hs, k => by cases k with | cons k ks => exact .cons (Vd.rel h k) (Vds.rel hs ks)
end
theorem PK.lookV {P : Program} {g : FuncId} {p us : List Value} {k : Value → Prop} (h : PK P g p k) (hr : ∀ r, k r → Vd r) {H : Heap} (ha : FzRels P H p us) : ACalls P g us H fun v H' => k v ∧ H' = H := by
  refine ⟨h.good, fun ρ w cargs hR hv => ?_⟩
  have hsome : ∀ b L, (fa ρ H w).fr b = some L → b < 2 * H.next := fun b L hb => by
    have := Ren.fr_le _ b L hb
    unfold fa at this
    split at this
    · omega
    · split at this
      · assumption
      · cases this
  have hf : ∀ b L cs, (fa ρ H w).fr b = some L → L.frz = some cs → L.own = false ∧ ∃ el fr, w.heap[L.blk]? = some (.cells ⟨cs⟩ el fr) := fun b L cs hb hcs => by
    have h1 := Ren.fr_le _ b L hb
    rcases Nat.lt_or_ge b H.next with hlt | hge
    · unfold fa at h1
      rw [if_pos hlt] at h1
      exact hR.frz b L cs h1 hcs
    · obtain ⟨c, L1, cs', el, fr, _, _, _, h3, rfl⟩ := fa_new hge h1
      injection hcs with hcs
      subst hcs
      exact ⟨rfl, el, fr, h3⟩
  have hpos := hR.void.2.2
  have hR0 : HRel P (fa ρ H w).fr (E0 (2 * H.next)) w := E0_rel (by omega) hsome (by
    cases hb : (fa ρ H w).fr 0 with
    | none => rfl
    | some L =>
      have := Ren.fr_le _ 0 L hb
      unfold fa at this
      rw [if_pos hpos, hR.void.1] at this; cases this) hf
  refine (h.core hR0 (fun b L hb => (Ren.fr_some hb).2) (h.1.rel (ha.rel hR hv))).mono ?_
  rintro e w' ⟨r, v', ρ2, m, rfl, hkr, hv, hm, h1, h2, h3, h4, h5, h6, h7, h8, h9⟩
  have hr := hr r hkr
  refine ⟨r, v', ρ, H, rfl, ⟨Ren.le.rfl, fun _ _ h => ⟨h, rfl⟩, Nat.le_refl _, h4, fun b L k1 k2 => .inl ⟨b, L, k1, k2, rfl⟩, fun i hi _ => h3 i hi, h5, h6, h7, ⟨hR.dom, ?_, ?_, hR.free, hR.void, hR.inj, ?_, hR.frinj⟩, fun b L k => .inl ⟨b, L, k, rfl⟩⟩, hr.rel hv, hkr, rfl⟩
  · intro b L own el cells hb hg
    obtain ⟨cs, fr, k1, k2⟩ := hR.rows b L own el cells hb hg
    exact ⟨cs, fr, by rw [h3 _ (lt_of_heap k1)]; exact k1, k2⟩
  · intro b L es cl hb hg
    obtain ⟨es', k1, k2⟩ := hR.maps b L es cl hb hg
    exact ⟨es', by rw [h3 _ (lt_of_heap k1)]; exact k1, k2⟩
  · intro b L cs hb hcs
    obtain ⟨q1, el, fr, q2⟩ := hR.frz b L cs hb hcs
    exact ⟨q1, el, fr, by rw [h3 _ (lt_of_heap q2)]; exact q2⟩
theorem PC.peekV {P : Program} {g : FuncId} {ps us : List Value} {r : Value} {H : Heap} {K : Value → Heap → Prop} (h : PC P g ps r) (hr : Vd r) (ha : FzRels P H ps us) (k : K r H) : ACalls P g us H K :=
  (PK.lookV h (fun x e => by rw [e]; exact hr) ha).mono (by rintro v H' ⟨rfl, rfl⟩; exact k)
theorem append_made {P : Program} {H : Heap} {t xT el : TypeId} {base : Option Addr} {n c m : Nat} {k k2 : IntKind} {i : TypeInfo} {z : Value} (ht : P.underlying t = some (.slice el)) (hx : P.underlying xT = some (.int k)) (hi : P.info? el = some i) (hz : i.zero = some z) (hzs : z.cells.size = i.size)
    (h0 : 0 < z.cells.size) (hg : z.cells.toList.all ground = true) (h1 : z.cells.toList.all (·.oneCell') = true) (ho : okSrc P t = true) (hs : szOf P el = i.size) (hm : m ≤ 9223372036854775807) (hb : m * i.bytes ≤ 281474976710656) :
    aAppend P H #[t, xT] (.slice base n c) (.int k2 m) = aAppend P H #[t, t] (.slice base n c) (fzv m (List.replicate m z.cells.toList).flatten) := by
  have e1 : lenV (fzv m (List.replicate m z.cells.toList).flatten) = some m := by simp only [lenV, fzv, fzParts_fz, Option.map_some]
  have hl : (List.replicate m z.cells.toList).flatten.length = m * i.size := by simp [hzs]
  have e2 : srcCells H (szOf P el) (fzv m (List.replicate m z.cells.toList).flatten) = some (List.replicate m z.cells.toList).flatten := by
    simp only [srcCells, fzv, fzParts_fz]
    rw [if_pos (by rw [hl, hs])]
  have hall : (List.replicate m z.cells.toList).flatten.all (·.oneCell') = true := by
    simp only [List.all_eq_true, List.mem_flatten, List.mem_replicate] at h1 ⊢
    rintro x ⟨l, ⟨_, rfl⟩, hx⟩
    exact h1 x hx
  have hz2 := zeroCells_rep h0 m
  have hok : okArgs P #[t, t] = true := by
    show (match (#[t, t] : Array TypeId)[1]? with | some t => okSrc P t | none => true) = true
    exact ho
  generalize hF : fzv m (List.replicate m z.cells.toList).flatten = F at *
  have L : aAppend P H #[t, xT] (.slice base n c) (.int k2 m) = aMade P H t #[t, xT] base n c (.int k2 m) := rfl
  have R : aAppend P H #[t, t] (.slice base n c) F = aApp P H el i.bytes (List.replicate m z.cells.toList).flatten m base n c := by
    simp only [aAppend, e1, List.getElem?_toArray, List.getElem?_cons_zero, ht, hi, hz, e2]
    rw [if_pos hok, if_pos ⟨hzs, hall⟩]
  rw [L, R]
  unfold aMade
  have e5 : (#[t, xT] : Array TypeId)[1]? = some xT := rfl
  rw [e5]
  dsimp only
  rw [hx, ht]
  dsimp only
  rw [hi]
  dsimp only
  rw [hz]
  dsimp only
  rw [if_pos ⟨hzs, by omega, by omega, by rw [← Int.natCast_mul]; generalize m * i.bytes = q at hb ⊢; omega, hg, h1⟩, Int.toNat_natCast, hz2]
theorem VO.made {H0 H : Heap} {sl : Value} {l : List (Option RQ)} {m : Nat} (h : VO Try.prog eQo 47 H0 H sl l) (hle : Hle H0 H) (hsm : l.length + m ≤ 2 ^ 32) :
    ∃ v H', aAppend Try.prog H #[45, 3] sl (.int .i64 m) = some (v, H') ∧ VO Try.prog eQo 47 H0 H' v (l ++ List.replicate m none) ∧ Hle H0 H' ∧ H.next ≤ H'.next := by
  obtain ⟨v, H', ea, oa, qa, na⟩ := VO.appendV (l2 := List.replicate m none) h hle Try.underlying45 (info_of_type Try.type47) rfl rfl T.s55 (by decide) T.o70 (fun a ha => by rw [List.eq_of_mem_replicate ha]; rfl) (by rw [List.length_replicate]; omega) (by rw [List.length_replicate]; show _ * 64 ≤ _; omega)
  refine ⟨v, H', ?_, oa, qa, na⟩
  rw [← ea]
  have e : Vv eQo (List.replicate m none) = fzv m (List.replicate m [Value.bool false, .slice none 0 0, .bool false, .slice none 0 0]).flatten := by
    unfold Vv
    rw [List.length_replicate, List.flatMap_def, List.map_replicate]
    rfl
  rw [e]
  rcases isSl_form h.isSl with ⟨b0, n0, c0, rfl⟩ | ⟨t0, u0, rfl⟩
  · exact append_made Try.underlying45 Try.underlying3 (info_of_type Try.type47) (z := Try.t47.zero.getD undef) rfl rfl (by decide) rfl rfl T.o70 T.s55 (by omega) (by show m * 64 ≤ _; omega)
  · unfold VO at h
    generalize l.length = n at h
    generalize l.flatMap eQo.enc = cs at h
    cases h
theorem VO.fzo {H0 H : Heap} {sl : Value} {l : List (Option RQ)} (h : VO Try.prog eQo 47 H0 H sl l) : FzRel Try.prog H (Vv eQ (l.map oq)) sl := by
  unfold Vv
  rw [List.length_map]
  exact .sl (es := 4) (by decide) (Ow.toSl h T.s55) (FzRels.nz (nz_oq l))
theorem VO.somes {H0 H : Heap} {sl : Value} {l : List RQ} (h : VO Try.prog eQ 47 H0 H sl l) : VO Try.prog eQo 47 H0 H sl (l.map some) := by
  unfold VO at h ⊢
  rw [List.length_map, eQo_some]
  exact h
theorem vd_t : Vd (.tuple ⟨[Vv eQ [], .int .i64 1]⟩) := .tuple (.cons .nil (.cons (.ground rfl) .nil))
theorem vd_r : Vd (.tuple ⟨[R4 false [] false [], .int .i64 1]⟩) := .tuple (.cons (.agg (.cons (.ground rfl) (.cons .nil (.cons (.ground rfl) (.cons .nil .nil))))) (.cons (.ground rfl) .nil))
/-! ### rows of unlike lengths -/
theorem p94z {y : List RQ} {m : List (List RQ)} {n : Int} (hn : 0 ≤ n ∧ n ≤ 1000) (h : y.length ≠ m.length) : PC Try.prog 36 [Vv eQ y, Vv eR m, .int .i64 n] (.tuple ⟨[Vv eQ [], .int .i64 1]⟩) := by
  refine PC.of (.cons pu_Qs (.cons pu_Rs (.cons (.ground rfl) .nil))) (pu_t pu_Qs) fun N hN => ?_
  refine ACalls.of_code T.hm (n := 59) Try.func36 rfl rfl rfl rfl ?_; simp only [List.replicate_succ, List.replicate_zero, List.cons_append, List.nil_append]
  have h1 : ¬ n < 0 := by omega
  have h2 : ¬ 1000 < n := by omega
  have h3 : ¬ (y.length : Int) = m.length := by omega
  simp (maxSteps := 1000000) (disch := first | exact sd | fail) only [go_sem, Nat.reduceAdd, Nat.reduceSub, Nat.reduceLeDiff, ↓reduceIte, decide_eq_true_eq, if_true, if_false, Bool.false_eq_true, Int.lt_irrefl, implies_true, true_and, and_true, eq_self, and_self, beq_self_eq_true, h1, h2, h3, ne_eq, not_false_eq_true]
  exact fz_nilt
/-- One row, as long as it should not be. -/
theorem p94y {t : RQ} {r : List RQ} {w : Nat} (hn : w ≤ 1000) (h : r.length ≠ w) : PC Try.prog 36 [Vv eQ [t], Vv eR [r], .int .i64 w] (.tuple ⟨[Vv eQ [], .int .i64 1]⟩) := by
  refine PC.of (.cons pu_Qs (.cons pu_Rs (.cons (.ground rfl) .nil))) (pu_t pu_Qs) fun N hN => ?_
  refine ACalls.of_code T.hm (n := 59) Try.func36 rfl rfl rfl rfl ?_; simp only [List.replicate_succ, List.replicate_zero, List.cons_append, List.nil_append]
  generalize E0 N = H
  have h1 : ¬ (w : Int) < 0 := by omega
  have h2 : ¬ 1000 < (w : Int) := by omega
  have h3 : (([t] : List RQ).length : Int) = ([r] : List (List RQ)).length := rfl
  have hlen {a : Addr} : aLen Try.prog 45 (.slice (some a) w w) = some (.int .i64 w) := len_own T.i70
  simp (maxSteps := 1000000) (disch := first | exact sd | fail) only [go_sem, Nat.reduceAdd, Nat.reduceSub, Nat.reduceLeDiff, ↓reduceIte, decide_eq_true_eq, if_true, if_false, Bool.false_eq_true, Int.lt_irrefl, implies_true, true_and, and_true, eq_self, and_self, beq_self_eq_true, h1, h2, h3, ne_eq, not_true_eq_false, aMk_int, Int.toNat_natCast, hlen]
  rw [eQo_none]
  refine aw_loopJ (σ := Nat) (fun k J => [Vv eQ [t], Vv eR [r], .int .i64 w, J 3, J 4, J 5, .slice none 0 0, .int .i64 0, .slice (some ⟨H.next, 0, none⟩) w w, J 9, J 10, J 11, J 12, J 13, J 14, J 15, J 16, J 17, J 18, J 19, J 20, J 21, J 22, J 23, J 24, J 25, J 26, J 27, J 28, J 29, .int .i64 w, .int .i64 k, J 32, J 33, J 34, J 35, J 36, J 37, J 38, J 39, J 40, J 41, J 42, J 43, J 44, J 45, J 46, J 47, J 48, J 49, J 50, J 51, J 52, J 53, J 54, J 55, J 56, J 57, J 58, J 59, J 60, J 61]) (fun i k H1 => i = w - k ∧ k ≤ w ∧ Hle H H1 ∧ H.next < H1.next ∧ H1.get H.next = some (.row true 47 ((zl w k).flatMap eQo.enc))) w 0 rfl ⟨rfl, Nat.zero_le _, Hle.push0 _, by simp, by rw [get_push_self]; simp [zl]⟩ ?_
  rintro i k J H1 ⟨rfl, hk, hle, hlt, hg⟩
  by_cases h4 : (k : Int) < w
  · have ha : aIndexAddr Try.prog 45 (.slice (some ⟨H.next, 0, none⟩) w w) (.int .i64 k) = some (.pointer (some ⟨H.next, 0 + k * 4, none⟩)) := ix_own Try.underlying45 T.z55 T.s55 (by omega) h4
    simp (maxSteps := 1000000) (disch := first | exact sd | fail) only [go_sem, Nat.reduceAdd, Nat.reduceSub, Nat.reduceLeDiff, ↓reduceIte, decide_eq_true_eq, if_true, if_false, Bool.false_eq_true, Int.lt_irrefl, implies_true, true_and, and_true, eq_self, and_self, beq_self_eq_true, h4]
    refine PC.step (p76 (x := 0) (by omega)) fun m1 j1 => ?_
    try simp only [Heap.next_push, Heap.next_set, Heap.next_kill, next_bump, next_E0] at j1
    simp (maxSteps := 1000000) (disch := first | exact sd | fail) only [go_sem, Nat.reduceAdd, Nat.reduceSub, Nat.reduceLeDiff, ↓reduceIte, decide_eq_true_eq, if_true, if_false, Bool.false_eq_true, Int.lt_irrefl, implies_true, true_and, and_true, eq_self, and_self, beq_self_eq_true, ha]
    have hlen2 : ((zl w k).flatMap eQo.enc).length = w * 4 := by rw [eQo.flat_length, zl_len hk]; rfl
    have hs := st_at (H := H1.bump m1) (b := H.next) (off := 0 + k * 4) (vs := [.bool (sgn ((0 : Int) : Rat).num), Vv eU (lmb ((0 : Int) : Rat).num), .bool (sgn (((0 : Int) : Rat).den : Int)), Vv eU (lmb (((0 : Int) : Rat).den : Int))]) (cs' := (zl w (k + 1)).flatMap eQo.enc) hg (by rw [hlen2]; simp; omega) (by
      rw [Nat.zero_add, ← zl_set (by omega)]
      exact En.splice eQo (x := some (rq 0)) (by rw [zl_len hk]; omega))
    rw [get_bump] at hs
    simp (maxSteps := 1000000) (disch := first | exact sd | fail) only [go_sem, Nat.reduceAdd, Nat.reduceSub, Nat.reduceLeDiff, ↓reduceIte, decide_eq_true_eq, if_true, if_false, Bool.false_eq_true, Int.lt_irrefl, implies_true, true_and, and_true, eq_self, and_self, beq_self_eq_true, hs]
    exact IJ_intro (k := w - (k + 1)) (by omega) (k + 1) rfl ⟨rfl, by omega, Hle.set (Hle.bump hle j1) (Nat.le_refl _) _, by simp (maxSteps := 1000000) (disch := first | exact sd | fail) only [go_sem, Nat.reduceAdd, Nat.reduceSub, Nat.reduceLeDiff, ↓reduceIte, decide_eq_true_eq, if_true, if_false, Bool.false_eq_true, Int.lt_irrefl, implies_true, true_and, and_true, eq_self, and_self, beq_self_eq_true]; omega, by simp (maxSteps := 1000000) (disch := first | exact sd | fail) only [go_sem, Nat.reduceAdd, Nat.reduceSub, Nat.reduceLeDiff, ↓reduceIte, decide_eq_true_eq, if_true, if_false, Bool.false_eq_true, Int.lt_irrefl, implies_true, true_and, and_true, eq_self, and_self, beq_self_eq_true]⟩
  have e : k = w := by omega
  subst e
  have ho0 : OV H H1 (.slice (some ⟨H.next, 0, none⟩) k k) ((zl k k).map oq) := by
    left
    have e2 : (zl k k).flatMap eQo.enc = ((zl k k).map oq).flatMap eQ.enc := by
      unfold zl
      rw [Nat.sub_self, List.replicate_zero, List.append_nil, List.map_replicate, List.flatMap_def, List.flatMap_def, List.map_replicate, List.map_replicate, List.map_replicate]
      try rfl
    rw [e2] at hg
    have hl : ((zl k k).map oq).length = k := by rw [List.length_map, zl_len (Nat.le_refl _)]
    have := Ow.row (P := Try.prog) (H0 := H) (H := H1) (es := 4) (el := 47) (b := H.next) (off := 0) (n := k) (c := k) hg (Nat.le_refl _) hlt (.inr ⟨Nat.le_refl _, by unfold unk; omega, by rw [eQ.flat_length, hl]; show _ ≤ k * 4; omega⟩) (by rw [eQ.flat_length, hl]; show _ ≤ k * 4; omega)
    rw [List.drop_zero, List.take_of_length_le (by rw [eQ.flat_length, hl]; show k * 4 ≤ _; omega)] at this
    unfold QO VO
    rw [hl]
    exact this
  have hl : ((zl k k).map oq).length = k := by rw [List.length_map, zl_len (Nat.le_refl _)]
  have q : PC Try.prog 34 [Vv eQ ((zl k k).map oq), .agg ⟨eQ.enc t⟩, Vv eQ r] (.tuple ⟨[Vv eQ [], .int .i64 1]⟩) := p87x (pn := t.p.neg) (pl := t.p.l) (qn := t.q.neg) (ql := t.q.l) (by rw [hl]; exact fun e => h e.symm)
  simp (maxSteps := 1000000) (disch := first | exact sd | fail) only [go_sem, Nat.reduceAdd, Nat.reduceSub, Nat.reduceLeDiff, ↓reduceIte, decide_eq_true_eq, if_true, if_false, Bool.false_eq_true, Int.lt_irrefl, implies_true, true_and, and_true, eq_self, and_self, beq_self_eq_true, h4]
  refine aw_loopJ (σ := Nat) (fun s J => [Vv eQ [t], Vv eR [r], .int .i64 k, J 3, J 4, J 5, .slice none 0 0, .int .i64 0, .slice (some ⟨H.next, 0, none⟩) k k, J 9, J 10, J 11, J 12, J 13, J 14, J 15, J 16, J 17, J 18, J 19, J 20, J 21, J 22, J 23, J 24, J 25, J 26, J 27, J 28, J 29, J 30, J 31, J 32, J 33, J 34, J 35, J 36, J 37, J 38, Vv eR [r], .int .i64 ([r] : List (List RQ)).length, .int .i64 s, J 42, J 43, J 44, J 45, J 46, J 47, J 48, J 49, J 50, J 51, J 52, J 53, J 54, J 55, J 56, J 57, J 58, J 59, J 60, J 61]) (fun i s H1 => s = 0 ∧ Hle H H1 ∧ OV H H1 (.slice (some ⟨H.next, 0, none⟩) k k) ((zl k k).map oq)) 1 0 rfl ⟨rfl, hle, ho0⟩ ?_
  rintro i s J H1 ⟨rfl, hle, ho⟩
  have h5 : ((0 : Nat) : Int) < ([r] : List (List RQ)).length := by simp
  simp (maxSteps := 1000000) (disch := first | exact sd | fail) only [go_sem, Nat.reduceAdd, Nat.reduceSub, Nat.reduceLeDiff, ↓reduceIte, decide_eq_true_eq, if_true, if_false, Bool.false_eq_true, Int.lt_irrefl, implies_true, true_and, and_true, eq_self, and_self, beq_self_eq_true, h5, Int.toNat_natCast]
  refine ho.call hle q fun H2 hle2 => ?_
  simp (maxSteps := 1000000) (disch := first | exact sd | fail) only [go_sem, Nat.reduceAdd, Nat.reduceSub, Nat.reduceLeDiff, ↓reduceIte, decide_eq_true_eq, if_true, if_false, Bool.false_eq_true, Int.lt_irrefl, implies_true, true_and, and_true, eq_self, and_self, beq_self_eq_true]
  exact fz_nilt
end Go.Abs
