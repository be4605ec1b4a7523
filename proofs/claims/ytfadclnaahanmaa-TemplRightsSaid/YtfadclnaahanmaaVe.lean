/- Joined: V15, V16, V17, V18. -/
import Derived.Test.YtfadclnaahanmaaVd
import Derived.Test.YtfadclnaahanmaaB10
/- What laws on tables call beside. -/
set_option linter.unusedVariables false
set_option linter.unusedSimpArgs false
namespace Go.Abs
open Go Go.Proofs
set_option maxRecDepth 100000
set_option maxHeartbeats 4000000
/-! ### the lesser, the greater of more -/
section
variable {P : Program} {e : Env} {H : Heap} {K : Value → Heap → Prop} {d : Option Tmp} {ty : TypeId} {ps : String} {af : Array Edge} {gd : Option (Nat × Bool)}
def aMns (P : Program) (ats : Array TypeId) (ty : TypeId) (l : List Value) : Option Value := if l.all gr = true then scal P (Builtin.min_ ats ty ⟨l⟩) else none
def aMxs (P : Program) (ats : Array TypeId) (ty : TypeId) (l : List Value) : Option Value := if l.all gr = true then scal P (Builtin.max_ ats ty ⟨l⟩) else none
theorem s_min3 {x y z : Operand} {ats : Array TypeId} : aStep P e H ⟨d, .call ⟨.builtin .min, ⟨[x, y, z]⟩, ats⟩, ty, ps, af, gd⟩ K = ob (e x) fun a => ob (e y) fun b => ob (e z) fun c => ob (aMns P ats ty [a, b, c]) fun v => K v H := by
  show ob (aPure P e _) _ = _
  simp only [aPure, evs]
  cases e x <;> cases e y <;> cases e z <;> rfl
theorem s_min4 {x y z u : Operand} {ats : Array TypeId} : aStep P e H ⟨d, .call ⟨.builtin .min, ⟨[x, y, z, u]⟩, ats⟩, ty, ps, af, gd⟩ K = ob (e x) fun a => ob (e y) fun b => ob (e z) fun c => ob (e u) fun f => ob (aMns P ats ty [a, b, c, f]) fun v => K v H := by
  show ob (aPure P e _) _ = _
  simp only [aPure, evs]
  cases e x <;> cases e y <;> cases e z <;> cases e u <;> rfl
theorem s_max3 {x y z : Operand} {ats : Array TypeId} : aStep P e H ⟨d, .call ⟨.builtin .max, ⟨[x, y, z]⟩, ats⟩, ty, ps, af, gd⟩ K = ob (e x) fun a => ob (e y) fun b => ob (e z) fun c => ob (aMxs P ats ty [a, b, c]) fun v => K v H := by
  show ob (aPure P e _) _ = _
  simp only [aPure, evs]
  cases e x <;> cases e y <;> cases e z <;> rfl
theorem mn_if {a b : Int} : (if b < a then b else a) = min a b := by omega
theorem mx_if {a b : Int} : (if a < b then b else a) = max a b := by omega
theorem mn3 {ats : Array TypeId} {k k1 k2 : IntKind} {a b c : Int} : aMns P ats ty [.int k a, .int k1 b, .int k2 c] = some (.int k (min (min a b) c)) := by
  unfold aMns
  rw [if_pos (by simp [gr_int])]
  simp [scal, semPure, Builtin.min_, Builtin.min2, pure, gr, ground, bind, Sem.bind, mn_if]
theorem mn4 {ats : Array TypeId} {k k1 k2 k3 : IntKind} {a b c f : Int} : aMns P ats ty [.int k a, .int k1 b, .int k2 c, .int k3 f] = some (.int k (min (min (min a b) c) f)) := by
  unfold aMns
  rw [if_pos (by simp [gr_int])]
  simp [scal, semPure, Builtin.min_, Builtin.min2, pure, gr, ground, bind, Sem.bind, mn_if]
theorem mx3 {ats : Array TypeId} {k k1 k2 : IntKind} {a b c : Int} : aMxs P ats ty [.int k a, .int k1 b, .int k2 c] = some (.int k (max (max a b) c)) := by
  unfold aMxs
  rw [if_pos (by simp [gr_int])]
  simp [scal, semPure, Builtin.max_, Builtin.max2, pure, gr, ground, bind, Sem.bind, mx_if]
end
attribute [go_sem] s_min3 s_min4 s_max3 mn3 mn4 mx3
theorem Rg.nil : Rg [] := ⟨by decide, fun a ha => by cases ha⟩
theorem Rg.dot {a b : List RQ} (ha : Rg a) (hb : Rg b) : lq (dotV a b) ≤ 2601 := by
  have h1 := lq_sumI (n := a.length) (B := 12) (f := fun i => ev a i * ev b i) fun i _ => by
    have := lq_mul (ev a i) (ev b i); have := ha.le i; have := hb.le i; omega
  have := ha.1
  unfold dotV
  omega
theorem rwi_mem {m : List (List RQ)} {j : Nat} (h : j < m.length) : rwi m j ∈ m := by
  unfold rwi
  rw [getD_eq h]
  exact List.getElem_mem h
theorem rwi_ge {m : List (List RQ)} {j : Nat} (h : m.length ≤ j) : rwi m j = [] := by
  unfold rwi; rw [List.getD_eq_getElem?_getD, List.getElem?_eq_none h]; rfl
theorem Gd.rows {m : List (List RQ)} (h : Gd m) (k : ∀ r ∈ m, ∀ a ∈ r, LimQ a) (j : Nat) : Rg (rwi m j) := by
  rcases Nat.lt_or_ge j m.length with hj | hj
  · exact h.at hj rfl (k _ (rwi_mem hj))
  · rw [rwi_ge hj]; exact Rg.nil
theorem Rg.times {m : List (List RQ)} {x : List RQ} (hm : m.length ≤ 200) (h : ∀ j, Rg (rwi m j)) (hx : Rg x) : Rw (timesV m x) :=
  Rw.tab (by omega) fun i _ => by have := (h i).dot hx; omega
theorem Rg.prod {a b : List RQ} (ha : Rg a) (hb : Rg b) (i k : Nat) : lq (ev a i * ev b k) ≤ 12 := by
  have := lq_mul (ev a i) (ev b k); have := ha.le i; have := hb.le k; omega
theorem Rg.left {m : List (List RQ)} {y : List RQ} {n : Nat} (hn : n ≤ 1000) (hm : m.length ≤ 200) (h : ∀ j, Rg (rwi m j)) (hy : Rg y) : Rw (leftV y m n) ∧ ∀ i, i < n → lq (ev (leftV y m n) i) ≤ 2601 := by
  have hz (k : Nat) : lq (sumI m.length fun j => ev y j * ev (rwi m j) k) ≤ 2601 := by
    have := lq_sumI (n := m.length) (B := 12) (f := fun j => ev y j * ev (rwi m j) k) fun j _ => hy.prod (h j) j k
    omega
  exact ⟨Rw.tab (by omega) fun k _ => by have := hz k; omega, fun i hi => by
    unfold leftV lefP; rw [ev_tab hi]; exact hz i⟩
theorem two_len {a b : List RQ} (ha : a.length ≤ maxLen) (hb : b.length ≤ maxLen) (j : Nat) : (rwi [a, b] j).length ≤ 9223372036854775807 := by
  have hM : maxLen = 9223372036854775807 := rfl
  match j with
  | 0 => show a.length ≤ _; omega
  | 1 => show b.length ≤ _; omega
  | j + 2 => show ([] : List RQ).length ≤ _; decide
theorem rows_len {m : List (List RQ)} (h : ∀ r ∈ m, r.length ≤ maxLen) (j : Nat) : (rwi m j).length ≤ 9223372036854775807 := by
  rcases Nat.lt_or_ge j m.length with hj | hj
  · exact h _ (rwi_mem hj)
  · rw [rwi_ge hj]; decide
end Go.Abs

/- Rows cut to a length. -/
set_option linter.unusedVariables false
set_option linter.unusedSimpArgs false
namespace Go.Abs
open Go Go.Proofs
set_option maxRecDepth 100000
set_option maxHeartbeats 4000000
def plV16_96_5 : Plan := ⟨[0, 1, 2, 3, 4, 5, 6, 7, 8, 9, 10, 11, 12], [(13, [], [14])]⟩
theorem rows0 {es : Nat} {z : Value} : rFill es z 0 [] = some [] := rFill_all (vs := []) (by simp)
attribute [go_sem] rows0
def cutP (r : List RQ) (w j : Nat) : List RQ := r.take w ++ (List.range j).map fun i => rq (((w + i : Nat) : Int) : Rat)
def cutR (r : List RQ) (n : Nat) : List RQ := cutP r (min r.length n) (n - min r.length n)
def cutV (m : List (List RQ)) (n : Nat) : List (List RQ) := (List.range m.length).map fun i => cutR (rwi m i) n
theorem cutP_len {r : List RQ} {w j : Nat} (h : w ≤ r.length) : (cutP r w j).length = w + j := by unfold cutP; simp; omega
theorem cutP_zero {r : List RQ} {w : Nat} : cutP r w 0 = r.take w := by unfold cutP; simp
theorem cutP_succ {r : List RQ} {w j : Nat} : cutP r w (j + 1) = cutP r w j ++ [rq (((w + j : Nat) : Int) : Rat)] := by unfold cutP; rw [List.range_succ, List.map_append, List.append_assoc]; rfl
theorem cutR_len {r : List RQ} {n : Nat} : (cutR r n).length = n := by unfold cutR; rw [cutP_len (by omega)]; omega
theorem cutV_len {m : List (List RQ)} {n : Nat} : (cutV m n).length = m.length := by simp [cutV]
theorem rwi_cutV {m : List (List RQ)} {n j : Nat} (h : j < m.length) : rwi (cutV m n) j = cutR (rwi m j) n := by
  unfold rwi
  rw [getD_eq (by rw [cutV_len]; exact h)]
  simp [cutV, rwi]
end Go.Abs

/- Rows as made, handed on. -/
set_option linter.unusedVariables false
set_option linter.unusedSimpArgs false
namespace Go.Abs
open Go Go.Proofs
set_option maxRecDepth 100000
set_option maxHeartbeats 4000000
section
variable {P : Program} {H : Heap} {g : FuncId} {K : Value → Heap → Prop} {n : Nat} {ps vs xs : List Value}
theorem VRel.nzv {ρ : Ren} {v' : Value} (h : Nzs ps vs) (k : VRel ρ (fzv n vs) v') : VRel ρ (fzv n ps) v' := by
  have hl : ps.length = vs.length := by
    clear k
    induction vs generalizing ps with
    | nil => cases h; rfl
    | cons v vs ih => cases h with | cons h1 h2 => simp [ih h2]
  rcases k.frozen with ⟨b, off, L, cs, c, h1, hf, hn, hb, hc, rfl⟩ | ⟨rfl, rfl, rfl⟩ | ⟨rfl, rfl, a, c, rfl⟩
  · rw [← hl] at hb hc
    exact .fz h1 hf hn hb (h.rel hc)
  · have : ps = [] := List.length_eq_zero_iff.1 hl
    subst this
    exact .fznil
  · have : ps = [] := List.length_eq_zero_iff.1 hl
    subst this
    exact .fzvoid
theorem Gh.nzv (h : Nzs ps vs) : Gh P [fzv n vs] H [fzv n ps] H := ⟨rfl, fun ρ w cs hR hv => by
  cases hv with
  | cons h1 h2 =>
    cases h2
    exact ⟨ρ, Ext.refl hR, .cons (VRel.nzv h h1) .nil⟩⟩
end
def oq : Option RQ → RQ
  | none => eQ.d
  | some a => a
theorem nz_oq : ∀ l : List (Option RQ), Nzs ((l.map oq).flatMap eQ.enc) (l.flatMap eQo.enc)
  | [] => .nil
  | none :: l => by
    rw [List.map_cons, List.flatMap_cons, List.flatMap_cons]
    exact .cons .rfl (.cons .vnil (.cons .rfl (.cons .vnil (nz_oq l))))
  | some a :: l => by
    rw [List.map_cons, List.flatMap_cons, List.flatMap_cons]
    exact .cons .rfl (.cons .rfl (.cons .rfl (.cons .rfl (nz_oq l))))
variable {H : Heap} {g : FuncId} {K : Value → Heap → Prop} {b n c : Nat} {l : List (Option RQ)} {ps : List Value} {r : Value}
theorem Gh.made (hg : H.get b = some (.row true 47 (l.flatMap eQo.enc))) (hn : n = l.length) (hc : n ≤ c) : Gh Try.prog [.slice (some ⟨b, 0, none⟩) n c] H [Vv eQ (l.map oq)] ((H.kill b).bump (H.next + 1)) := by
  have h1 := Gh.sliceO (P := Try.prog) (off := 0) (es := 4) (n := n) (c := c) hg (.inr hc) (by decide) (by rw [eQo.flat_length, hn]; show 0 + _ ≤ l.length * 4; omega)
  rw [List.drop_zero, List.take_of_length_le (by rw [eQo.flat_length, hn]; exact Nat.le_refl _)] at h1
  refine h1.trans ?_
  unfold Vv
  rw [List.length_map, ← hn]
  exact Gh.nzv (nz_oq l)
theorem made_last (hg : H.get b = some (.row true 47 (l.flatMap eQo.enc))) (hn : n = l.length) (hc : n ≤ c) (hp : PC Try.prog g (ps ++ [Vv eQ (l.map oq)]) r) (k : ∀ m, H.next + 1 ≤ m → K r ((H.kill b).bump m)) : ACalls Try.prog g (ps ++ [.slice (some ⟨b, 0, none⟩) n c]) H K :=
  ACalls.gh (Gh.pre (Gh.made hg hn hc) ps) (PC.step hp fun m hm => k m hm)
theorem made_head (hg : H.get b = some (.row true 47 (l.flatMap eQo.enc))) (hn : n = l.length) (hc : n ≤ c) (hp : PC Try.prog g (Vv eQ (l.map oq) :: ps) r) (k : ∀ m, H.next + 1 ≤ m → K r ((H.kill b).bump m)) : ACalls Try.prog g (.slice (some ⟨b, 0, none⟩) n c :: ps) H K :=
  ACalls.gh (Gh.head (Gh.made hg hn hc)) (PC.step hp fun m hm => k m hm)
/-- A one among noughts. -/
def unitO (n k : Nat) : List (Option RQ) := (List.replicate n none).set k (some (rq ((1 : Int) : Rat)))
def unitV (n k : Nat) : List RQ := (unitO n k).map oq
theorem unitV_len {n k : Nat} : (unitV n k).length = n := by simp [unitV, unitO]
theorem ev_unit {n k i : Nat} (hi : i < n) : ev (unitV n k) i = if i = k then 1 else 0 := by
  unfold ev unitV unitO
  rw [getD_eq (by simpa using hi)]
  simp only [List.getElem_map, List.getElem_set, List.getElem_replicate]
  by_cases h : k = i
  · rw [if_pos h, if_pos h.symm]
    exact vq_rq _
  · rw [if_neg h, if_neg (fun e => h e.symm)]
    exact vq_d
theorem Rg.unit {n k : Nat} (hn : n ≤ 200) : Rg (unitV n k) := by
  refine ⟨by rw [unitV_len]; exact hn, fun a ha => ?_⟩
  unfold unitV unitO at ha
  obtain ⟨o, ho, rfl⟩ := List.mem_map.1 ha
  rcases List.mem_or_eq_of_mem_set ho with ho | rfl
  · rw [List.eq_of_mem_replicate ho]
    exact ⟨⟨Lim.nil, Lim.nil⟩, rfl⟩
  · have h1 := lq_int 1
    rw [ln_one] at h1
    have h3 := lqn (x := ((1 : Int) : Rat)) (K := 1) (by omega)
    have h4 := lqd (x := ((1 : Int) : Rat)) (K := 1) (by omega)
    refine ⟨⟨lim_z _, lim_z _⟩, ?_⟩
    unfold gq
    simp only [Bool.or_eq_false_iff, decide_eq_false_iff_not]
    exact ⟨by show ¬ 6 < ln _; omega, by show ¬ 6 < ln _; omega⟩
theorem dot_unit {a : List RQ} {n k : Nat} (hl : a.length = n) (hk : k < n) : dotV a (unitV n k) = ev a k := by
  unfold dotV
  rw [hl, sumI_one (k := k) hk, ev_unit hk, if_pos rfl, Rat.mul_one]
  intro i hi hne
  rw [ev_unit hi, if_neg hne, Rat.mul_zero]
theorem left_unit {m : List (List RQ)} {n k c : Nat} (hk : k < m.length) (hc : c < n) : ev (leftV (unitV m.length k) m n) c = ev (rwi m k) c := by
  unfold leftV lefP
  rw [ev_tab hc, sumI_one (k := k) hk, ev_unit hk, if_pos rfl, Rat.one_mul]
  intro i hi hne
  rw [ev_unit hi, if_neg hne, Rat.zero_mul]
end Go.Abs

/- A look that is answered with nothing but nils; noughts made and appended; rows of unlike lengths are refused. -/
set_option linter.unusedVariables false
set_option linter.unusedSimpArgs false
namespace Go.Abs
open Go Go.Proofs
set_option maxRecDepth 100000
set_option maxHeartbeats 4000000
/-! ### noughts, made and appended -/
theorem zeroCells_rep {z : Array Value} (h : 0 < z.size) : ∀ m, (Builtin.zeroCells z m).toList = (List.replicate m z.toList).flatten
  | 0 => by simp [Builtin.zeroCells]
  | m + 1 => by
    have ih := zeroCells_rep h m
    unfold Builtin.zeroCells at ih ⊢
    simp only [Array.toList_map, Array.toList_range] at ih ⊢
    rw [Nat.add_mul, Nat.one_mul, List.range_add, List.map_append, ih, List.replicate_succ', List.flatten_append]
    congr 1
    simp only [List.map_map, List.flatten_cons, List.flatten_nil, List.append_nil]
    refine List.ext_getElem (by simp) fun i h1 h2 => ?_
    simp only [List.length_map, List.length_range] at h1
    simp [Nat.mod_eq_of_lt h1, h1]
theorem append_made {P : Program} {H : Heap} {t xT el : TypeId} {base : Option Addr} {n c m : Nat} {k k2 : IntKind} {i : TypeInfo} {z : Value} (ht : P.underlying t = some (.slice el)) (hx : P.underlying xT = some (.int k)) (hi : P.info? el = some i) (hz : i.zero = some z) (hzs : z.cells.size = i.size)
    (h0 : 0 < z.cells.size) (hg : z.cells.toList.all ground = true) (h1 : z.cells.toList.all (·.oneCell') = true) (ho : okSrc P t = true) (hs : szOf P el = i.size) (hm : m ≤ 9223372036854775807) (hb : m * i.bytes ≤ 281474976710656) :
    aAppend P H #[t, xT] (.slice base n c) (.int k2 m) = aAppend P H #[t, t] (.slice base n c) (fzv m (List.replicate m z.cells.toList).flatten) := by
  have e1 : lenV (fzv m (List.replicate m z.cells.toList).flatten) = some m := by simp only [lenV, fzv, fzParts_fz, Option.map_some]
  have hl : (List.replicate m z.cells.toList).flatten.length = m * i.size := by simp [hzs]
  have e2 : srcCells H (szOf P el) (fzv m (List.replicate m z.cells.toList).flatten) = some (List.replicate m z.cells.toList).flatten := by
    simp only [srcCells, fzv, fzParts_fz]
    rw [if_pos (by rw [hl, hs])]
  have hall : (List.replicate m z.cells.toList).flatten.all (·.oneCell') = true := by
    simp only [List.all_eq_true, List.mem_flatten, List.mem_replicate] at h1 ⊢
    rintro x ⟨l, ⟨_, rfl⟩, hx⟩
    exact h1 x hx
  have hz2 := zeroCells_rep h0 m
  have hok : okArgs P #[t, t] = true := by
    show (match (#[t, t] : Array TypeId)[1]? with | some t => okSrc P t | none => true) = true
    exact ho
  generalize hF : fzv m (List.replicate m z.cells.toList).flatten = F at *
  have L : aAppend P H #[t, xT] (.slice base n c) (.int k2 m) = aMade P H t #[t, xT] base n c (.int k2 m) := rfl
  have R : aAppend P H #[t, t] (.slice base n c) F = aApp P H el i.bytes (List.replicate m z.cells.toList).flatten m base n c := by
    simp only [aAppend, e1, List.getElem?_toArray, List.getElem?_cons_zero, ht, hi, hz, e2]
    rw [if_pos hok, if_pos ⟨hzs, hall⟩]
  rw [L, R]
  unfold aMade
  have e5 : (#[t, xT] : Array TypeId)[1]? = some xT := rfl
  rw [e5]
  dsimp only
  rw [hx, ht]
  dsimp only
  rw [hi]
  dsimp only
  rw [hz]
  dsimp only
  rw [if_pos ⟨hzs, by omega, by omega, by rw [← Int.natCast_mul]; generalize m * i.bytes = q at hb ⊢; omega, hg, h1⟩, Int.toNat_natCast, hz2]
theorem VO.made {H0 H : Heap} {sl : Value} {l : List (Option RQ)} {m : Nat} (h : VO Try.prog eQo 47 H0 H sl l) (hle : Hle H0 H) (hsm : l.length + m ≤ 2 ^ 32) :
    ∃ v H', aAppend Try.prog H #[45, 3] sl (.int .i64 m) = some (v, H') ∧ VO Try.prog eQo 47 H0 H' v (l ++ List.replicate m none) ∧ Hle H0 H' ∧ H.next ≤ H'.next := by
  obtain ⟨v, H', ea, oa, qa, na⟩ := VO.appendV (l2 := List.replicate m none) h hle Try.underlying45 (info_of_type Try.type47) rfl rfl T.s55 (by decide) T.o70 (fun a ha => by rw [List.eq_of_mem_replicate ha]; rfl) (by rw [List.length_replicate]; omega) (by rw [List.length_replicate]; show _ * 64 ≤ _; omega)
  refine ⟨v, H', ?_, oa, qa, na⟩
  rw [← ea]
  have e : Vv eQo (List.replicate m none) = fzv m (List.replicate m [Value.bool false, .slice none 0 0, .bool false, .slice none 0 0]).flatten := by
    unfold Vv
    rw [List.length_replicate, List.flatMap_def, List.map_replicate]
    rfl
  rw [e]
  rcases isSl_form h.isSl with ⟨b0, n0, c0, rfl⟩ | ⟨t0, u0, rfl⟩
  · exact append_made Try.underlying45 Try.underlying3 (info_of_type Try.type47) (z := Try.t47.zero.getD undef) rfl rfl (by decide) rfl rfl T.o70 T.s55 (by omega) (by show m * 64 ≤ _; omega)
  · unfold VO at h
    generalize l.length = n at h
    generalize l.flatMap eQo.enc = cs at h
    cases h
theorem VO.fzo {H0 H : Heap} {sl : Value} {l : List (Option RQ)} (h : VO Try.prog eQo 47 H0 H sl l) : FzRel Try.prog H (Vv eQ (l.map oq)) sl := by
  unfold Vv
  rw [List.length_map]
  exact .sl (es := 4) (by decide) (Ow.toSl h T.s55) (FzRels.nz (nz_oq l))
theorem VO.somes {H0 H : Heap} {sl : Value} {l : List RQ} (h : VO Try.prog eQ 47 H0 H sl l) : VO Try.prog eQo 47 H0 H sl (l.map some) := by
  unfold VO at h ⊢
  rw [List.length_map, eQo_some]
  exact h
theorem vd_t : Vd (.tuple ⟨[Vv eQ [], .int .i64 1]⟩) := .tuple (.cons .nil (.cons (.ground rfl) .nil))
theorem vd_r : Vd (.tuple ⟨[R4 false [] false [], .int .i64 1]⟩) := .tuple (.cons (.agg (.cons (.ground rfl) (.cons .nil (.cons (.ground rfl) (.cons .nil .nil))))) (.cons (.ground rfl) .nil))
/-! ### rows of unlike lengths -/
theorem p94z {y : List RQ} {m : List (List RQ)} {n : Int} (hn : 0 ≤ n ∧ n ≤ 1000) (h : y.length ≠ m.length) : PC Try.prog 36 [Vv eQ y, Vv eR m, .int .i64 n] (.tuple ⟨[Vv eQ [], .int .i64 1]⟩) := by
  refine PC.of (.cons pu_Qs (.cons pu_Rs (.cons (.ground rfl) .nil))) (pu_t pu_Qs) fun N hN => ?_
  refine ACalls.of_code T.hm (n := 59) Try.func36 rfl rfl rfl rfl ?_; simp only [List.replicate_succ, List.replicate_zero, List.cons_append, List.nil_append]
  have h1 : ¬ n < 0 := by omega
  have h2 : ¬ 1000 < n := by omega
  have h3 : ¬ (y.length : Int) = m.length := by omega
  simp (maxSteps := 1000000) (disch := first | exact sd | fail) only [go_sem, Nat.reduceAdd, Nat.reduceSub, Nat.reduceLeDiff, ↓reduceIte, decide_eq_true_eq, if_true, if_false, Bool.false_eq_true, Int.lt_irrefl, implies_true, true_and, and_true, eq_self, and_self, beq_self_eq_true, h1, h2, h3, ne_eq, not_false_eq_true]
  exact fz_nilt
/-- One row, as long as it should not be. -/
theorem p94y {t : RQ} {r : List RQ} {w : Nat} (hn : w ≤ 1000) (h : r.length ≠ w) : PC Try.prog 36 [Vv eQ [t], Vv eR [r], .int .i64 w] (.tuple ⟨[Vv eQ [], .int .i64 1]⟩) := by
  refine PC.of (.cons pu_Qs (.cons pu_Rs (.cons (.ground rfl) .nil))) (pu_t pu_Qs) fun N hN => ?_
  refine ACalls.of_code T.hm (n := 59) Try.func36 rfl rfl rfl rfl ?_; simp only [List.replicate_succ, List.replicate_zero, List.cons_append, List.nil_append]
  generalize E0 N = H
  have h1 : ¬ (w : Int) < 0 := by omega
  have h2 : ¬ 1000 < (w : Int) := by omega
  have h3 : (([t] : List RQ).length : Int) = ([r] : List (List RQ)).length := rfl
  have hlen {a : Addr} : aLen Try.prog 45 (.slice (some a) w w) = some (.int .i64 w) := len_own T.i70
  simp (maxSteps := 1000000) (disch := first | exact sd | fail) only [go_sem, Nat.reduceAdd, Nat.reduceSub, Nat.reduceLeDiff, ↓reduceIte, decide_eq_true_eq, if_true, if_false, Bool.false_eq_true, Int.lt_irrefl, implies_true, true_and, and_true, eq_self, and_self, beq_self_eq_true, h1, h2, h3, ne_eq, not_true_eq_false, aMk_int, Int.toNat_natCast, hlen]
  rw [eQo_none]
  refine aw_loopJ (σ := Nat) (fun k J => [Vv eQ [t], Vv eR [r], .int .i64 w, J 3, J 4, J 5, .slice none 0 0, .int .i64 0, .slice (some ⟨H.next, 0, none⟩) w w, J 9, J 10, J 11, J 12, J 13, J 14, J 15, J 16, J 17, J 18, J 19, J 20, J 21, J 22, J 23, J 24, J 25, J 26, J 27, J 28, J 29, .int .i64 w, .int .i64 k, J 32, J 33, J 34, J 35, J 36, J 37, J 38, J 39, J 40, J 41, J 42, J 43, J 44, J 45, J 46, J 47, J 48, J 49, J 50, J 51, J 52, J 53, J 54, J 55, J 56, J 57, J 58, J 59, J 60, J 61]) (fun i k H1 => i = w - k ∧ k ≤ w ∧ Hle H H1 ∧ H.next < H1.next ∧ H1.get H.next = some (.row true 47 ((zl w k).flatMap eQo.enc))) w 0 rfl ⟨rfl, Nat.zero_le _, Hle.push0 _, by simp, by rw [get_push_self]; simp [zl]⟩ ?_
  rintro i k J H1 ⟨rfl, hk, hle, hlt, hg⟩
  by_cases h4 : (k : Int) < w
  · have ha : aIndexAddr Try.prog 45 (.slice (some ⟨H.next, 0, none⟩) w w) (.int .i64 k) = some (.pointer (some ⟨H.next, 0 + k * 4, none⟩)) := ix_own Try.underlying45 T.z55 T.s55 (by omega) h4
    simp (maxSteps := 1000000) (disch := first | exact sd | fail) only [go_sem, Nat.reduceAdd, Nat.reduceSub, Nat.reduceLeDiff, ↓reduceIte, decide_eq_true_eq, if_true, if_false, Bool.false_eq_true, Int.lt_irrefl, implies_true, true_and, and_true, eq_self, and_self, beq_self_eq_true, h4]
    refine PC.step (p76 (x := 0) (by omega)) fun m1 j1 => ?_
    try simp only [Heap.next_push, Heap.next_set, Heap.next_kill, next_bump, next_E0] at j1
    simp (maxSteps := 1000000) (disch := first | exact sd | fail) only [go_sem, Nat.reduceAdd, Nat.reduceSub, Nat.reduceLeDiff, ↓reduceIte, decide_eq_true_eq, if_true, if_false, Bool.false_eq_true, Int.lt_irrefl, implies_true, true_and, and_true, eq_self, and_self, beq_self_eq_true, ha]
    have hlen2 : ((zl w k).flatMap eQo.enc).length = w * 4 := by rw [eQo.flat_length, zl_len hk]; rfl
    have hs := st_at (H := H1.bump m1) (b := H.next) (off := 0 + k * 4) (vs := [.bool (sgn ((0 : Int) : Rat).num), Vv eU (lmb ((0 : Int) : Rat).num), .bool (sgn (((0 : Int) : Rat).den : Int)), Vv eU (lmb (((0 : Int) : Rat).den : Int))]) (cs' := (zl w (k + 1)).flatMap eQo.enc) hg (by rw [hlen2]; simp; omega) (by
      rw [Nat.zero_add, ← zl_set (by omega)]
      exact En.splice eQo (x := some (rq 0)) (by rw [zl_len hk]; omega))
    rw [get_bump] at hs
    simp (maxSteps := 1000000) (disch := first | exact sd | fail) only [go_sem, Nat.reduceAdd, Nat.reduceSub, Nat.reduceLeDiff, ↓reduceIte, decide_eq_true_eq, if_true, if_false, Bool.false_eq_true, Int.lt_irrefl, implies_true, true_and, and_true, eq_self, and_self, beq_self_eq_true, hs]
    exact IJ_intro (k := w - (k + 1)) (by omega) (k + 1) rfl ⟨rfl, by omega, Hle.set (Hle.bump hle j1) (Nat.le_refl _) _, by simp (maxSteps := 1000000) (disch := first | exact sd | fail) only [go_sem, Nat.reduceAdd, Nat.reduceSub, Nat.reduceLeDiff, ↓reduceIte, decide_eq_true_eq, if_true, if_false, Bool.false_eq_true, Int.lt_irrefl, implies_true, true_and, and_true, eq_self, and_self, beq_self_eq_true]; omega, by simp (maxSteps := 1000000) (disch := first | exact sd | fail) only [go_sem, Nat.reduceAdd, Nat.reduceSub, Nat.reduceLeDiff, ↓reduceIte, decide_eq_true_eq, if_true, if_false, Bool.false_eq_true, Int.lt_irrefl, implies_true, true_and, and_true, eq_self, and_self, beq_self_eq_true]⟩
  have e : k = w := by omega
  subst e
  have ho0 : OV H H1 (.slice (some ⟨H.next, 0, none⟩) k k) ((zl k k).map oq) := by
    left
    have e2 : (zl k k).flatMap eQo.enc = ((zl k k).map oq).flatMap eQ.enc := by
      unfold zl
      rw [Nat.sub_self, List.replicate_zero, List.append_nil, List.map_replicate, List.flatMap_def, List.flatMap_def, List.map_replicate, List.map_replicate, List.map_replicate]
      try rfl
    rw [e2] at hg
    have hl : ((zl k k).map oq).length = k := by rw [List.length_map, zl_len (Nat.le_refl _)]
    have := Ow.row (P := Try.prog) (H0 := H) (H := H1) (es := 4) (el := 47) (b := H.next) (off := 0) (n := k) (c := k) hg (Nat.le_refl _) hlt (.inr ⟨Nat.le_refl _, by unfold unk; omega, by rw [eQ.flat_length, hl]; show _ ≤ k * 4; omega⟩) (by rw [eQ.flat_length, hl]; show _ ≤ k * 4; omega)
    rw [List.drop_zero, List.take_of_length_le (by rw [eQ.flat_length, hl]; show k * 4 ≤ _; omega)] at this
    unfold QO VO
    rw [hl]
    exact this
  have hl : ((zl k k).map oq).length = k := by rw [List.length_map, zl_len (Nat.le_refl _)]
  have q : PC Try.prog 34 [Vv eQ ((zl k k).map oq), .agg ⟨eQ.enc t⟩, Vv eQ r] (.tuple ⟨[Vv eQ [], .int .i64 1]⟩) := p87x (pn := t.p.neg) (pl := t.p.l) (qn := t.q.neg) (ql := t.q.l) (by rw [hl]; exact fun e => h e.symm)
  simp (maxSteps := 1000000) (disch := first | exact sd | fail) only [go_sem, Nat.reduceAdd, Nat.reduceSub, Nat.reduceLeDiff, ↓reduceIte, decide_eq_true_eq, if_true, if_false, Bool.false_eq_true, Int.lt_irrefl, implies_true, true_and, and_true, eq_self, and_self, beq_self_eq_true, h4]
  refine aw_loopJ (σ := Nat) (fun s J => [Vv eQ [t], Vv eR [r], .int .i64 k, J 3, J 4, J 5, .slice none 0 0, .int .i64 0, .slice (some ⟨H.next, 0, none⟩) k k, J 9, J 10, J 11, J 12, J 13, J 14, J 15, J 16, J 17, J 18, J 19, J 20, J 21, J 22, J 23, J 24, J 25, J 26, J 27, J 28, J 29, J 30, J 31, J 32, J 33, J 34, J 35, J 36, J 37, J 38, Vv eR [r], .int .i64 ([r] : List (List RQ)).length, .int .i64 s, J 42, J 43, J 44, J 45, J 46, J 47, J 48, J 49, J 50, J 51, J 52, J 53, J 54, J 55, J 56, J 57, J 58, J 59, J 60, J 61]) (fun i s H1 => s = 0 ∧ Hle H H1 ∧ OV H H1 (.slice (some ⟨H.next, 0, none⟩) k k) ((zl k k).map oq)) 1 0 rfl ⟨rfl, hle, ho0⟩ ?_
  rintro i s J H1 ⟨rfl, hle, ho⟩
  have h5 : ((0 : Nat) : Int) < ([r] : List (List RQ)).length := by simp
  simp (maxSteps := 1000000) (disch := first | exact sd | fail) only [go_sem, Nat.reduceAdd, Nat.reduceSub, Nat.reduceLeDiff, ↓reduceIte, decide_eq_true_eq, if_true, if_false, Bool.false_eq_true, Int.lt_irrefl, implies_true, true_and, and_true, eq_self, and_self, beq_self_eq_true, h5, Int.toNat_natCast]
  refine ho.call hle q fun H2 hle2 => ?_
  simp (maxSteps := 1000000) (disch := first | exact sd | fail) only [go_sem, Nat.reduceAdd, Nat.reduceSub, Nat.reduceLeDiff, ↓reduceIte, decide_eq_true_eq, if_true, if_false, Bool.false_eq_true, Int.lt_irrefl, implies_true, true_and, and_true, eq_self, and_self, beq_self_eq_true]
  exact fz_nilt
end Go.Abs
