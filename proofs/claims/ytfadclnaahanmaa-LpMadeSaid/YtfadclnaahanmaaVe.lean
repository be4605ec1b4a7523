/- Joined: V15, V16, V17, V18. -/
import Derived.Test.YtfadclnaahanmaaVd
import Derived.Test.YtfadclnaahanmaaB10
/- What laws on tables call beside. -/
set_option linter.unusedVariables false
set_option linter.unusedSimpArgs false
namespace Go.Abs
open Go Go.Proofs
set_option maxRecDepth 100000
set_option maxHeartbeats 4000000
/-! ### the lesser, the greater of more -/
section
variable {P : Program} {e : Env} {H : Heap} {K : Value → Heap → Prop} {d : Option Tmp} {ty : TypeId} {ps : String} {af : Array Edge} {gd : Option (Nat × Bool)}
def aMns (P : Program) (ats : Array TypeId) (ty : TypeId) (l : List Value) : Option Value := if l.all gr = true then scal P (Builtin.min_ ats ty ⟨l⟩) else none
def aMxs (P : Program) (ats : Array TypeId) (ty : TypeId) (l : List Value) : Option Value := if l.all gr = true then scal P (Builtin.max_ ats ty ⟨l⟩) else none
theorem s_min3 {x y z : Operand} {ats : Array TypeId} : aStep P e H ⟨d, .call ⟨.builtin .min, ⟨[x, y, z]⟩, ats⟩, ty, ps, af, gd⟩ K = ob (e x) fun a => ob (e y) fun b => ob (e z) fun c => ob (aMns P ats ty [a, b, c]) fun v => K v H := by
  show ob (aPure P e _) _ = _
  simp only [aPure, evs]
  cases e x <;> cases e y <;> cases e z <;> rfl
theorem s_min4 {x y z u : Operand} {ats : Array TypeId} : aStep P e H ⟨d, .call ⟨.builtin .min, ⟨[x, y, z, u]⟩, ats⟩, ty, ps, af, gd⟩ K = ob (e x) fun a => ob (e y) fun b => ob (e z) fun c => ob (e u) fun f => ob (aMns P ats ty [a, b, c, f]) fun v => K v H := by
  show ob (aPure P e _) _ = _
  simp only [aPure, evs]
  cases e x <;> cases e y <;> cases e z <;> cases e u <;> rfl
theorem s_max3 {x y z : Operand} {ats : Array TypeId} : aStep P e H ⟨d, .call ⟨.builtin .max, ⟨[x, y, z]⟩, ats⟩, ty, ps, af, gd⟩ K = ob (e x) fun a => ob (e y) fun b => ob (e z) fun c => ob (aMxs P ats ty [a, b, c]) fun v => K v H := by
  show ob (aPure P e _) _ = _
  simp only [aPure, evs]
  cases e x <;> cases e y <;> cases e z <;> rfl
theorem mn_if {a b : Int} : (if b < a then b else a) = min a b := by omega
theorem mx_if {a b : Int} : (if a < b then b else a) = max a b := by omega
theorem mn3 {ats : Array TypeId} {k k1 k2 : IntKind} {a b c : Int} : aMns P ats ty [.int k a, .int k1 b, .int k2 c] = some (.int k (min (min a b) c)) := by
  unfold aMns
  rw [if_pos (by simp [gr_int])]
  simp [scal, semPure, Builtin.min_, Builtin.min2, pure, gr, ground, bind, Sem.bind, mn_if]
theorem mn4 {ats : Array TypeId} {k k1 k2 k3 : IntKind} {a b c f : Int} : aMns P ats ty [.int k a, .int k1 b, .int k2 c, .int k3 f] = some (.int k (min (min (min a b) c) f)) := by
  unfold aMns
  rw [if_pos (by simp [gr_int])]
  simp [scal, semPure, Builtin.min_, Builtin.min2, pure, gr, ground, bind, Sem.bind, mn_if]
theorem mx3 {ats : Array TypeId} {k k1 k2 : IntKind} {a b c : Int} : aMxs P ats ty [.int k a, .int k1 b, .int k2 c] = some (.int k (max (max a b) c)) := by
  unfold aMxs
  rw [if_pos (by simp [gr_int])]
  simp [scal, semPure, Builtin.max_, Builtin.max2, pure, gr, ground, bind, Sem.bind, mx_if]
end
attribute [go_sem] s_min3 s_min4 s_max3 mn3 mn4 mx3
theorem Rg.nil : Rg [] := ⟨by decide, fun a ha => by cases ha⟩
theorem Rg.dot {a b : List RQ} (ha : Rg a) (hb : Rg b) : lq (dotV a b) ≤ 2601 := by
  have h1 := lq_sumI (n := a.length) (B := 12) (f := fun i => ev a i * ev b i) fun i _ => by
    have := lq_mul (ev a i) (ev b i); have := ha.le i; have := hb.le i; omega
  have := ha.1
  unfold dotV
  omega
theorem rwi_mem {m : List (List RQ)} {j : Nat} (h : j < m.length) : rwi m j ∈ m := by
  unfold rwi
  rw [getD_eq h]
  exact List.getElem_mem h
theorem rwi_ge {m : List (List RQ)} {j : Nat} (h : m.length ≤ j) : rwi m j = [] := by
  unfold rwi; rw [List.getD_eq_getElem?_getD, List.getElem?_eq_none h]; rfl
theorem Gd.rows {m : List (List RQ)} (h : Gd m) (k : ∀ r ∈ m, ∀ a ∈ r, LimQ a) (j : Nat) : Rg (rwi m j) := by
  rcases Nat.lt_or_ge j m.length with hj | hj
  · exact h.at hj rfl (k _ (rwi_mem hj))
  · rw [rwi_ge hj]; exact Rg.nil
theorem Rg.times {m : List (List RQ)} {x : List RQ} (hm : m.length ≤ 200) (h : ∀ j, Rg (rwi m j)) (hx : Rg x) : Rw (timesV m x) :=
  Rw.tab (by omega) fun i _ => by have := (h i).dot hx; omega
theorem Rg.prod {a b : List RQ} (ha : Rg a) (hb : Rg b) (i k : Nat) : lq (ev a i * ev b k) ≤ 12 := by
  have := lq_mul (ev a i) (ev b k); have := ha.le i; have := hb.le k; omega
theorem Rg.left {m : List (List RQ)} {y : List RQ} {n : Nat} (hn : n ≤ 1000) (hm : m.length ≤ 200) (h : ∀ j, Rg (rwi m j)) (hy : Rg y) : Rw (leftV y m n) ∧ ∀ i, i < n → lq (ev (leftV y m n) i) ≤ 2601 := by
  have hz (k : Nat) : lq (sumI m.length fun j => ev y j * ev (rwi m j) k) ≤ 2601 := by
    have := lq_sumI (n := m.length) (B := 12) (f := fun j => ev y j * ev (rwi m j) k) fun j _ => hy.prod (h j) j k
    omega
  exact ⟨Rw.tab (by omega) fun k _ => by have := hz k; omega, fun i hi => by
    unfold leftV lefP; rw [ev_tab hi]; exact hz i⟩
end Go.Abs

/- Rows cut to a length. -/
set_option linter.unusedVariables false
set_option linter.unusedSimpArgs false
namespace Go.Abs
open Go Go.Proofs
set_option maxRecDepth 100000
set_option maxHeartbeats 4000000
def plV16_96_5 : Plan := ⟨[0, 1, 2, 3, 4, 5, 6, 7, 8, 9, 10, 11, 12], [(13, [], [14])]⟩
theorem rows0 {es : Nat} {z : Value} : rFill es z 0 [] = some [] := rFill_all (vs := []) (by simp)
attribute [go_sem] rows0
def cutP (r : List RQ) (w j : Nat) : List RQ := r.take w ++ (List.range j).map fun i => rq (((w + i : Nat) : Int) : Rat)
def cutR (r : List RQ) (n : Nat) : List RQ := cutP r (min r.length n) (n - min r.length n)
def cutV (m : List (List RQ)) (n : Nat) : List (List RQ) := (List.range m.length).map fun i => cutR (rwi m i) n
theorem cutP_len {r : List RQ} {w j : Nat} (h : w ≤ r.length) : (cutP r w j).length = w + j := by unfold cutP; simp; omega
theorem cutR_len {r : List RQ} {n : Nat} : (cutR r n).length = n := by unfold cutR; rw [cutP_len (by omega)]; omega
end Go.Abs

/- Rows as made, handed on. -/
set_option linter.unusedVariables false
set_option linter.unusedSimpArgs false
namespace Go.Abs
open Go Go.Proofs
set_option maxRecDepth 100000
set_option maxHeartbeats 4000000
section
variable {P : Program} {H : Heap} {g : FuncId} {K : Value → Heap → Prop} {n : Nat} {ps vs xs : List Value}
theorem VRel.nzv {ρ : Ren} {v' : Value} (h : Nzs ps vs) (k : VRel ρ (fzv n vs) v') : VRel ρ (fzv n ps) v' := by
  have hl : ps.length = vs.length := by
    clear k
    induction vs generalizing ps with
    | nil => cases h; rfl
    | cons v vs ih => cases h with | cons h1 h2 => simp [ih h2]
  rcases k.frozen with ⟨b, off, L, cs, c, h1, hf, hn, hb, hc, rfl⟩ | ⟨rfl, rfl, rfl⟩ | ⟨rfl, rfl, a, c, rfl⟩
  · rw [← hl] at hb hc
    exact .fz h1 hf hn hb (h.rel hc)
  · have : ps = [] := List.length_eq_zero_iff.1 hl
    subst this
    exact .fznil
  · have : ps = [] := List.length_eq_zero_iff.1 hl
    subst this
    exact .fzvoid
theorem Gh.nzv (h : Nzs ps vs) : Gh P [fzv n vs] H [fzv n ps] H := ⟨rfl, fun ρ w cs hR hv => by
  cases hv with
  | cons h1 h2 =>
    cases h2
    exact ⟨ρ, Ext.refl hR, .cons (VRel.nzv h h1) .nil⟩⟩
end
def oq : Option RQ → RQ
  | none => eQ.d
  | some a => a
theorem nz_oq : ∀ l : List (Option RQ), Nzs ((l.map oq).flatMap eQ.enc) (l.flatMap eQo.enc)
  | [] => .nil
  | none :: l => by
    rw [List.map_cons, List.flatMap_cons, List.flatMap_cons]
    exact .cons .rfl (.cons .vnil (.cons .rfl (.cons .vnil (nz_oq l))))
  | some a :: l => by
    rw [List.map_cons, List.flatMap_cons, List.flatMap_cons]
    exact .cons .rfl (.cons .rfl (.cons .rfl (.cons .rfl (nz_oq l))))
variable {H : Heap} {g : FuncId} {K : Value → Heap → Prop} {b n c : Nat} {l : List (Option RQ)} {ps : List Value} {r : Value}
theorem Gh.made (hg : H.get b = some (.row true 47 (l.flatMap eQo.enc))) (hn : n = l.length) (hc : n ≤ c) : Gh Try.prog [.slice (some ⟨b, 0, none⟩) n c] H [Vv eQ (l.map oq)] ((H.kill b).bump (H.next + 1)) := by
  have h1 := Gh.sliceO (P := Try.prog) (off := 0) (es := 4) (n := n) (c := c) hg (.inr hc) (by decide) (by rw [eQo.flat_length, hn]; show 0 + _ ≤ l.length * 4; omega)
  rw [List.drop_zero, List.take_of_length_le (by rw [eQo.flat_length, hn]; exact Nat.le_refl _)] at h1
  refine h1.trans ?_
  unfold Vv
  rw [List.length_map, ← hn]
  exact Gh.nzv (nz_oq l)
def unitO (n k : Nat) : List (Option RQ) := (List.replicate n none).set k (some (rq ((1 : Int) : Rat)))
def unitV (n k : Nat) : List RQ := (unitO n k).map oq
end Go.Abs

/- A look that is answered with nothing but nils; noughts made and appended; rows of unlike lengths are refused. -/
set_option linter.unusedVariables false
set_option linter.unusedSimpArgs false
namespace Go.Abs
open Go Go.Proofs
set_option maxRecDepth 100000
set_option maxHeartbeats 4000000
/-! ### noughts, made and appended -/
theorem zeroCells_rep {z : Array Value} (h : 0 < z.size) : ∀ m, (Builtin.zeroCells z m).toList = (List.replicate m z.toList).flatten
  | 0 => by simp [Builtin.zeroCells]
  | m + 1 => by
    have ih := zeroCells_rep h m
    unfold Builtin.zeroCells at ih ⊢
    simp only [Array.toList_map, Array.toList_range] at ih ⊢
    rw [Nat.add_mul, Nat.one_mul, List.range_add, List.map_append, ih, List.replicate_succ', List.flatten_append]
    congr 1
    simp only [List.map_map, List.flatten_cons, List.flatten_nil, List.append_nil]
    refine List.ext_getElem (by simp) fun i h1 h2 => ?_
    simp only [List.length_map, List.length_range] at h1
    simp [Nat.mod_eq_of_lt h1, h1]
theorem append_made {P : Program} {H : Heap} {t xT el : TypeId} {base : Option Addr} {n c m : Nat} {k k2 : IntKind} {i : TypeInfo} {z : Value} (ht : P.underlying t = some (.slice el)) (hx : P.underlying xT = some (.int k)) (hi : P.info? el = some i) (hz : i.zero = some z) (hzs : z.cells.size = i.size)
    (h0 : 0 < z.cells.size) (hg : z.cells.toList.all ground = true) (h1 : z.cells.toList.all (·.oneCell') = true) (ho : okSrc P t = true) (hs : szOf P el = i.size) (hm : m ≤ 9223372036854775807) (hb : m * i.bytes ≤ 281474976710656) :
    aAppend P H #[t, xT] (.slice base n c) (.int k2 m) = aAppend P H #[t, t] (.slice base n c) (fzv m (List.replicate m z.cells.toList).flatten) := by
  have e1 : lenV (fzv m (List.replicate m z.cells.toList).flatten) = some m := by simp only [lenV, fzv, fzParts_fz, Option.map_some]
  have hl : (List.replicate m z.cells.toList).flatten.length = m * i.size := by simp [hzs]
  have e2 : srcCells H (szOf P el) (fzv m (List.replicate m z.cells.toList).flatten) = some (List.replicate m z.cells.toList).flatten := by
    simp only [srcCells, fzv, fzParts_fz]
    rw [if_pos (by rw [hl, hs])]
  have hall : (List.replicate m z.cells.toList).flatten.all (·.oneCell') = true := by
    simp only [List.all_eq_true, List.mem_flatten, List.mem_replicate] at h1 ⊢
    rintro x ⟨l, ⟨_, rfl⟩, hx⟩
    exact h1 x hx
  have hz2 := zeroCells_rep h0 m
  have hok : okArgs P #[t, t] = true := by
    show (match (#[t, t] : Array TypeId)[1]? with | some t => okSrc P t | none => true) = true
    exact ho
  generalize hF : fzv m (List.replicate m z.cells.toList).flatten = F at *
  have L : aAppend P H #[t, xT] (.slice base n c) (.int k2 m) = aMade P H t #[t, xT] base n c (.int k2 m) := rfl
  have R : aAppend P H #[t, t] (.slice base n c) F = aApp P H el i.bytes (List.replicate m z.cells.toList).flatten m base n c := by
    simp only [aAppend, e1, List.getElem?_toArray, List.getElem?_cons_zero, ht, hi, hz, e2]
    rw [if_pos hok, if_pos ⟨hzs, hall⟩]
  rw [L, R]
  unfold aMade
  have e5 : (#[t, xT] : Array TypeId)[1]? = some xT := rfl
  rw [e5]
  dsimp only
  rw [hx, ht]
  dsimp only
  rw [hi]
  dsimp only
  rw [hz]
  dsimp only
  rw [if_pos ⟨hzs, by omega, by omega, by rw [← Int.natCast_mul]; generalize m * i.bytes = q at hb ⊢; omega, hg, h1⟩, Int.toNat_natCast, hz2]
theorem VO.made {H0 H : Heap} {sl : Value} {l : List (Option RQ)} {m : Nat} (h : VO Try.prog eQo 47 H0 H sl l) (hle : Hle H0 H) (hsm : l.length + m ≤ 2 ^ 32) :
    ∃ v H', aAppend Try.prog H #[45, 3] sl (.int .i64 m) = some (v, H') ∧ VO Try.prog eQo 47 H0 H' v (l ++ List.replicate m none) ∧ Hle H0 H' ∧ H.next ≤ H'.next := by
  obtain ⟨v, H', ea, oa, qa, na⟩ := VO.appendV (l2 := List.replicate m none) h hle Try.underlying45 (info_of_type Try.type47) rfl rfl T.s55 (by decide) T.o70 (fun a ha => by rw [List.eq_of_mem_replicate ha]; rfl) (by rw [List.length_replicate]; omega) (by rw [List.length_replicate]; show _ * 64 ≤ _; omega)
  refine ⟨v, H', ?_, oa, qa, na⟩
  rw [← ea]
  have e : Vv eQo (List.replicate m none) = fzv m (List.replicate m [Value.bool false, .slice none 0 0, .bool false, .slice none 0 0]).flatten := by
    unfold Vv
    rw [List.length_replicate, List.flatMap_def, List.map_replicate]
    rfl
  rw [e]
  rcases isSl_form h.isSl with ⟨b0, n0, c0, rfl⟩ | ⟨t0, u0, rfl⟩
  · exact append_made Try.underlying45 Try.underlying3 (info_of_type Try.type47) (z := Try.t47.zero.getD undef) rfl rfl (by decide) rfl rfl T.o70 T.s55 (by omega) (by show m * 64 ≤ _; omega)
  · unfold VO at h
    generalize l.length = n at h
    generalize l.flatMap eQo.enc = cs at h
    cases h
/-! ### rows of unlike lengths -/
end Go.Abs
