/- Calls of values that are reckoned from one run. -/
import Derived.Test.YtboekagofficpaaGreatBg
set_option linter.unusedVariables false
set_option linter.unusedSimpArgs false
namespace Go.Abs
open Go
set_option maxRecDepth 100000
set_option maxHeartbeats 4000000
variable {P : Program} {g : FuncId}
mutual
/-- A value of so many frozen slices. -/
inductive Pn : Nat → Value → Prop
  | ground {v : Value} (h : ground v = true) : Pn 0 v
  | fz {k n : Nat} {cells : List Value} (h : Pns k cells) : Pn (k + 1) (.iface fzT (.agg ⟨.int .i64 n :: cells⟩))
  | agg {k : Nat} {cs : List Value} (h : Pns k cs) : Pn k (.agg ⟨cs⟩)
  | tuple {k : Nat} {cs : List Value} (h : Pns k cs) : Pn k (.tuple ⟨cs⟩)
inductive Pns : Nat → List Value → Prop
  | nil : Pns 0 []
  | cons {a b : Nat} {v : Value} {vs : List Value} (h : Pn a v) (hs : Pns b vs) : Pns (a + b) (v :: vs)
end
mutual
theorem Pn.pu : ∀ {k : Nat} {v : Value}, Pn k v → Pu v
  | _, _, .ground h => .ground h
  | _, _, .fz h => .fz h.pus
  | _, _, .agg h => .agg h.pus
  | _, _, .tuple h => .tuple h.pus
theorem Pns.pus : ∀ {k : Nat} {vs : List Value}, Pns k vs → Pus vs
  | _, _, .nil => .nil
  | _, _, .cons h hs => .cons h.pu hs.pus
end
mutual
/-- So many frozen slices are counted. -/
def pnc : Nat → Value → Option Nat
  | f + 1, .agg xs => pncs f xs.toList
  | f + 1, .tuple xs => pncs f xs.toList
  | f + 1, .iface t (.agg ⟨.int .i64 z :: cells⟩) => if t = fzT ∧ 0 ≤ z then (match pncs f cells with | some k => some (k + 1) | none => none) else none
  | _, v => if ground v = true then some 0 else none
def pncs : Nat → List Value → Option Nat
  | _, [] => some 0
  | f + 1, v :: vs => match pnc f v with
    | some a => match pncs f vs with
      | some b => some (a + b)
      | none => none
    | none => none
  | 0, _ :: _ => none
end
mutual
theorem pnc_ok : ∀ {f k : Nat} {v : Value}, pnc f v = some k → Pn k v
  | f, k, v, h => by
    unfold pnc at h
    split at h
    · rename_i xs
      obtain ⟨xs⟩ := xs
      exact .agg (pncs_ok h)
    · rename_i xs
      obtain ⟨xs⟩ := xs
      exact .tuple (pncs_ok h)
    · rename_i z cells
      split at h
      · rename_i hc
        split at h
        · rename_i j hj
          injection h with h
          subst h
          obtain ⟨n, rfl⟩ : ∃ n : Nat, z = n := ⟨z.toNat, by omega⟩
          rw [hc.1]
          exact .fz (pncs_ok hj)
        · cases h
      · cases h
    · split at h
      · rename_i hg
        injection h with h
        subst h
        exact .ground hg
      · cases h
theorem pncs_ok : ∀ {f k : Nat} {vs : List Value}, pncs f vs = some k → Pns k vs
  | f, k, vs, h => by
    unfold pncs at h
    split at h
    · injection h with h
      subst h
      exact .nil
    · split at h
      · rename_i ha
        split at h
        · rename_i hb
          injection h with h
          subst h
          exact .cons (pnc_ok ha) (pncs_ok hb)
        · cases h
      · cases h
    · cases h
end
def Nm (ρ : Ren) (ls : List Loc) : Prop := ∀ L ∈ ls, L.frz.isSome = true ∧ ∃ b, ρ b = some L
def Has (ρ : Ren) (ls : List Loc) : Prop := ∀ L ∈ ls, ∃ b, ρ b = some L
theorem Nm.nil {ρ : Ren} : Nm ρ [] := fun L hL => nomatch hL
theorem Nm.app {ρ : Ren} {l k : List Loc} (h : Nm ρ l) (h2 : Nm ρ k) : Nm ρ (l ++ k) := fun L hL => by
  rcases List.mem_append.1 hL with h' | h'
  · exact h L h'
  · exact h2 L h'
mutual
theorem Pn.names {ρ : Ren} : ∀ {k : Nat} {v v' : Value}, Pn k v → VRel ρ v v' → ∃ ls : List Loc, ls.length ≤ k ∧ Nm ρ ls ∧ ∀ ρ', Has ρ' ls → VRel ρ' v v'
  | _, _, _, .ground h, k => ⟨[], Nat.le_refl _, Nm.nil, fun ρ' _ => by rw [k.ground_eq h]; exact .ground h⟩
  | _, _, _, .fz (n := n) (cells := cells) h, k => by
    rcases k.frozen with ⟨b, off, L, cs, c, h1, hf, hn, hb, hc, rfl⟩ | ⟨rfl, rfl, rfl⟩ | ⟨rfl, rfl, a, c, rfl⟩
    · obtain ⟨ls, q1, q2, q3⟩ := Pns.names h hc
      refine ⟨L :: ls, by rw [List.length_cons]; omega, fun L' hL => ?_, fun ρ' h' => ?_⟩
      · rcases List.mem_cons.1 hL with rfl | hL
        · exact ⟨by rw [hf]; rfl, b, h1⟩
        · exact q2 L' hL
      · obtain ⟨b', hb'⟩ := h' L (List.mem_cons_self ..)
        exact .fz hb' hf hn hb (q3 ρ' fun L' hL => h' L' (List.mem_cons_of_mem _ hL))
    · exact ⟨[], Nat.zero_le _, Nm.nil, fun ρ' _ => .fznil⟩
    · exact ⟨[], Nat.zero_le _, Nm.nil, fun ρ' _ => .fzvoid⟩
  | _, _, _, .agg h, k => by
    obtain ⟨xs, rfl, h1⟩ := k.aggr
    obtain ⟨ls, q1, q2, q3⟩ := Pns.names h h1
    exact ⟨ls, q1, q2, fun ρ' h' => .agg (q3 ρ' h')⟩
  | _, _, _, .tuple h, k => by
    obtain ⟨xs, rfl, h1⟩ := k.tup
    obtain ⟨ls, q1, q2, q3⟩ := Pns.names h h1
    exact ⟨ls, q1, q2, fun ρ' h' => .tuple (q3 ρ' h')⟩
theorem Pns.names {ρ : Ren} : ∀ {k : Nat} {vs vs' : List Value}, Pns k vs → VRels ρ vs vs' → ∃ ls : List Loc, ls.length ≤ k ∧ Nm ρ ls ∧ ∀ ρ', Has ρ' ls → VRels ρ' vs vs'
  | _, _, _, .nil, k => by cases k; exact ⟨[], Nat.le_refl _, Nm.nil, fun ρ' _ => .nil⟩
  | _, _, _, .cons h hs, k => by
    cases k with
    | cons k ks =>
      obtain ⟨l1, p1, p2, p3⟩ := Pn.names h k
      obtain ⟨l2, q1, q2, q3⟩ := Pns.names hs ks
      exact ⟨l1 ++ l2, by rw [List.length_append]; omega, p2.app q2, fun ρ' h' => .cons (p3 ρ' fun L hL => h' L (List.mem_append.2 (.inl hL))) (q3 ρ' fun L hL => h' L (List.mem_append.2 (.inr hL)))⟩
end
mutual
/-- Under other names. -/
theorem Pu.ren {ρ ρ' : Ren} (hm : ∀ b L, ρ b = some L → L.frz.isSome = true → ∃ b', ρ' b' = some L) : ∀ {v v' : Value}, Pu v → VRel ρ v v' → VRel ρ' v v'
  | _, _, .ground h, k => by rw [k.ground_eq h]; exact .ground h
  | _, _, .fz (n := n) (cells := cells) h, k => by
    rcases k.frozen with ⟨b, off, L, cs, c, h1, hf, hn, hb, hc, rfl⟩ | ⟨rfl, rfl, rfl⟩ | ⟨rfl, rfl, a, c, rfl⟩
    · obtain ⟨b', hb'⟩ := hm b L h1 (by rw [hf]; rfl)
      exact .fz hb' hf hn hb (Pus.ren hm h hc)
    · exact .fznil
    · exact .fzvoid
  | _, _, .agg h, k => by
    obtain ⟨xs, rfl, h1⟩ := k.aggr
    exact .agg (Pus.ren hm h h1)
  | _, _, .tuple h, k => by
    obtain ⟨xs, rfl, h1⟩ := k.tup
    exact .tuple (Pus.ren hm h h1)
  | _, _, .fn h1 h2, k => by
    obtain ⟨xs, ys, rfl, k1, k2⟩ := k.func
    obtain ⟨xs⟩ := xs
    obtain ⟨ys⟩ := ys
    exact .fn (Pus.ren hm h1 k1) (Pus.ren hm h2 k2)
theorem Pus.ren {ρ ρ' : Ren} (hm : ∀ b L, ρ b = some L → L.frz.isSome = true → ∃ b', ρ' b' = some L) : ∀ {vs vs' : List Value}, Pus vs → VRels ρ vs vs' → VRels ρ' vs vs'
  | _, _, .nil, .nil => .nil
  | _, _, .cons h hs, .cons k ks => .cons (Pu.ren hm h k) (Pus.ren hm hs ks)
end
/-- As in PK.core, from one run. -/
theorem core1 {p : List Value} {k : Value → Prop} {n : Nat} (h : ACalls P g p (E0 n) fun v H' => ∃ r, FzRel P H' r v ∧ Pu r ∧ k r) {ρ0 : Ren} {w : World} (hR : HRel P ρ0 (E0 n) w) (h0 : ∀ b L, ρ0 b = some L → L.frz.isSome = true) {cargs : Array Value} (ha : VRels ρ0 p cargs.toList) :
    Calls P g cargs w fun e w' => ∃ r v' ρ2 m, e = .returned v' ∧ Pu r ∧ k r ∧ VRel ρ2 r v' ∧ n ≤ m ∧ (∀ b L, ρ2 b = some L → b < m ∧ L.frz.isSome = true ∧ L.own = false) ∧
      (∀ i, i < w.heap.size → w'.heap[i]? = w.heap[i]?) ∧ w.heap.size ≤ w'.heap.size ∧ w'.os = w.os ∧ w'.output = w.output ∧ w'.tape = w.tape ∧
      (∀ b L cs, ρ2 b = some L → L.frz = some cs → ∃ el fr, w'.heap[L.blk]? = some (.cells ⟨cs⟩ el fr)) ∧
      (∀ b L, ρ2 b = some L → (∃ b0 L0, ρ0 b0 = some L0 ∧ L0.blk = L.blk) ∨ w.heap.size ≤ L.blk) := by
  have hown : ∀ b L, ρ0 b = some L → L.own = false := fun b L hb => by
    have := h0 b L hb
    obtain ⟨cs, hcs⟩ := Option.isSome_iff_exists.1 this
    exact (hR.frz b L cs hb hcs).1
  refine ((h).2 ρ0 w cargs hR Pins.nil ha).mono ?_
  rintro e w' ⟨v, v', ρ1, H1, rfl, hE, _, hv, r, hf, hpu, hkr⟩
  have hn1 := hE.next
  rw [next_E0] at hn1
  have hv2 := hpu.rel (hf.rel hE.rel hv)
  refine ⟨r, v', (fa ρ1 H1 w').fr, 2 * H1.next, rfl, hpu, hkr, hv2, by omega, ?_, ?_, hE.size, hE.os, hE.output, hE.tape, ?_, ?_⟩
  · intro b L hb
    obtain ⟨h1, h2⟩ := Ren.fr_some hb
    refine ⟨?_, h2, ?_⟩
    · unfold fa at h1
      split at h1
      · omega
      · split at h1
        · assumption
        · cases h1
    · rcases Nat.lt_or_ge b H1.next with hlt | hge
      · unfold fa at h1
        rw [if_pos hlt] at h1
        obtain ⟨cs, hcs⟩ := Option.isSome_iff_exists.1 h2
        exact (hE.rel.frz b L cs h1 hcs).1
      · obtain ⟨c, L1, cs, el, fr, _, _, _, _, rfl⟩ := fa_new hge h1
        rfl
  · intro i hi
    exact hE.frame i hi (fun b L hb ho => by rw [hown b L hb] at ho; cases ho)
  · intro b L cs hb hcs
    obtain ⟨h1, h2⟩ := Ren.fr_some hb
    rcases Nat.lt_or_ge b H1.next with hlt | hge
    · unfold fa at h1
      rw [if_pos hlt] at h1
      exact (hE.rel.frz b L cs h1 hcs).2
    · obtain ⟨c, L1, cs', el, fr, _, _, _, h3, rfl⟩ := fa_new hge h1
      injection hcs with hcs
      subst hcs
      exact ⟨el, fr, h3⟩
  · intro b L hb
    obtain ⟨h1, h2⟩ := Ren.fr_some hb
    rcases Nat.lt_or_ge b H1.next with hlt | hge
    · unfold fa at h1
      rw [if_pos hlt] at h1
      exact hE.blks b L h1
    · obtain ⟨c, L1, cs', el, fr, _, h4, _, h3, rfl⟩ := fa_new hge h1
      exact hE.blks c L1 h4
/-- One run tells all. -/
theorem PK.at {ps : List Value} {q : Value → Prop} {k K : Nat} (hp : Pns k ps) (hk : k < K) (h : ACalls P g ps (E0 K) fun v H' => ∃ r, FzRel P H' r v ∧ Pu r ∧ q r) : PK P g ps q := by
  refine ⟨hp.pus, fun n hn => ⟨h.1, fun ρ w cargs hR hP ha => ?_⟩⟩
  obtain ⟨ls, l1, l2, l3⟩ := hp.names ha
  let ρ0 : Ren := fun b => if b = 0 then none else ls[b - 1]?
  have m0 : ∀ b L, ρ0 b = some L → L ∈ ls ∧ b < K := fun b L hb => by
    simp only [ρ0] at hb
    split at hb
    · cases hb
    · have := List.getElem?_eq_some_iff.1 hb
      obtain ⟨h1, h2⟩ := this
      exact ⟨h2 ▸ List.getElem_mem h1, by omega⟩
  have h00 : Has ρ0 ls := fun L hL => by
    obtain ⟨i, hi, rfl⟩ := List.getElem_of_mem hL
    exact ⟨i + 1, by simp only [ρ0]; rw [if_neg (by omega), Nat.add_sub_cancel, List.getElem?_eq_getElem hi]⟩
  have hR0 : HRel P ρ0 (E0 K) w := E0_rel (by omega) (fun b L hb => (m0 b L hb).2) (by simp [ρ0]) (fun b L cs hb hcs => by
    obtain ⟨_, b', hb'⟩ := l2 L (m0 b L hb).1
    exact hR.frz b' L cs hb' hcs) (fun b L hb => by
    obtain ⟨_, b', hb'⟩ := l2 L (m0 b L hb).1
    exact hR.bnd b' L hb')
  refine (core1 h hR0 (fun b L hb => (l2 L (m0 b L hb).1).1) (l3 ρ0 h00)).mono ?_
  rintro e w' ⟨r, v', ρ2, m, rfl, hpu, hkr, hv, hm, h2, h3, h4, h5, h6, h7, h8, h9⟩
  let ρ' : Ren := fun b => if b < n then ρ b else if b < n + m then ρ2 (b - n) else none
  have hle : Ren.le ρ ρ' := fun b L hb => by
    have hd : b < n := hR.dom b L hb
    simp only [ρ']; rw [if_pos hd]; exact hb
  have hsplit : ∀ b L, ρ' b = some L → (b < n ∧ ρ b = some L) ∨ (n ≤ b ∧ b < n + m ∧ ρ2 (b - n) = some L) := fun b L hb => by
    simp only [ρ'] at hb
    split at hb
    · exact .inl ⟨‹_›, hb⟩
    · split at hb
      · exact .inr ⟨by omega, ‹_›, hb⟩
      · cases hb
  have hv' : VRel ρ' r v' := Pu.ren (fun b L hb _ => ⟨b + n, by
    have := (h2 b L hb).1
    simp only [ρ']
    rw [if_neg (by omega), if_pos (by omega), Nat.add_sub_cancel]
    exact hb⟩) hpu hv
  refine ⟨r, v', ρ', E0 (n + m), rfl, ⟨hle, fun b hb hn' => ⟨by
    have hb : b < n := hb
    simp only [ρ']; rw [if_pos hb]; exact hn', by rw [get_E0, get_E0]⟩, by rw [next_E0, next_E0]; omega, h4, fun b L hb hw => ?_, fun i hi _ => h3 i hi, h5, h6, h7, ?_, fun b L hb => ?_⟩, rfl, hv', r, .rfl, hpu, hkr⟩
  · rcases hsplit b L hb with ⟨_, k1⟩ | ⟨_, _, k1⟩
    · exact .inl ⟨b, L, k1, hw, rfl⟩
    · rw [(h2 _ L k1).2.2] at hw; cases hw
  · refine E0_rel (by omega) (fun b L hb => ?_) (by simp only [ρ']; rw [if_pos hn]; exact hR.void.1) (fun b L cs hb hcs => ?_) (fun b L hb => ?_)
    · rcases hsplit b L hb with ⟨k0, k1⟩ | ⟨_, k0, k1⟩
      · omega
      · exact k0
    · rcases hsplit b L hb with ⟨k0, k1⟩ | ⟨_, k0, k1⟩
      · obtain ⟨q1, el, fr, q2⟩ := hR.frz b L cs k1 hcs
        exact ⟨q1, el, fr, by rw [h3 _ (lt_of_heap q2)]; exact q2⟩
      · exact ⟨(h2 _ L k1).2.2, h8 _ L cs k1 hcs⟩
    · rcases hsplit b L hb with ⟨k0, k1⟩ | ⟨_, k0, k1⟩
      · exact Nat.lt_of_lt_of_le (hR.bnd b L k1) h4
      · obtain ⟨cs, hcs⟩ := Option.isSome_iff_exists.1 (h2 _ L k1).2.1
        obtain ⟨el, fr, q⟩ := h8 _ L cs k1 hcs
        exact lt_of_heap q
  · rcases hsplit b L hb with ⟨k0, k1⟩ | ⟨_, k0, k1⟩
    · exact .inl ⟨b, L, k1, rfl⟩
    · rcases h9 _ L k1 with ⟨b0, L0, q1, q2⟩ | q
      · obtain ⟨_, b', hb'⟩ := l2 L0 (m0 b0 L0 q1).1
        exact .inl ⟨b', L0, hb', q2⟩
      · exact .inr q
/-! ### the evaluator, with frozen values seen again -/
mutual
/-- Are two one? -/
def deq : Nat → Value → Value → Bool
  | f + 1, .agg a, .agg b => deqs f a.toList b.toList
  | f + 1, .iface t a, .iface u b => decide (t = u) && deq f a b
  | _, a, b => feq a b
def deqs : Nat → List Value → List Value → Bool
  | _, [], [] => true
  | f + 1, a :: as, b :: bs => deq f a b && deqs f as bs
  | _, _, _ => false
end
mutual
theorem deq_eq : ∀ {f : Nat} {a b : Value}, deq f a b = true → a = b
  | f, a, b, h => by
    unfold deq at h
    split at h
    · rename_i x y
      obtain ⟨l⟩ := x; obtain ⟨l'⟩ := y
      rw [show l = l' from deqs_eq h]
    · rw [Bool.and_eq_true, decide_eq_true_eq] at h
      rw [h.1, deq_eq h.2]
    · exact feq_eq h
theorem deqs_eq : ∀ {f : Nat} {as bs : List Value}, deqs f as bs = true → as = bs
  | f, as, bs, h => by
    unfold deqs at h
    split at h
    · rfl
    · rw [Bool.and_eq_true] at h
      rw [deq_eq h.1, deqs_eq h.2]
    · cases h
end
def veqX (a b : Value) : Bool := deq 60 a b
theorem veqX_eq {a b : Value} (h : veqX a b = true) : a = b := deq_eq h
def xchkX (P : Program) (ops : Array Oper) (T : Tm) (H : Heap) (i : Nat) : Bool :=
  match ops[i]? with
  | none => false
  | some o =>
    match aWanted ops o T with
    | some true => match aRead P (env T) H o, o.dst with
      | some v, some d => match T[d]? with
        | some u => veqX v u
        | none => false
      | _, _ => false
    | some false => true
    | none => false

def xrestX (P : Program) (ops : Array Oper) (call : CallFn) : List (Nat × List Nat × List Nat) → Tm → Heap → Option (Tm × Heap)
  | [], T, H => some (T, H)
  | (E, chks, s) :: r, T, H =>
    match xseg P ops call [E] T H with
    | some (T1, H1) => if chks.all (xchkX P ops T1 H1) then match xseg P ops call s T1 H1 with
        | some (T2, H2) => xrestX P ops call r T2 H2
        | none => none
      else none
    | none => none

def xplanX (P : Program) (ops : Array Oper) (call : CallFn) (p : Plan) (T : Tm) (H : Heap) : Option (Tm × Heap) :=
  match xseg P ops call p.first T H with
  | some (T1, H1) => xrestX P ops call p.rest T1 H1
  | none => none

def xcodeX (P : Program) : Nat → Code → Tm → Heap → Option (Exit × Tm × Heap)
  | 0, _, _, _ => none
  | n + 1, c, T, H =>
    let call : CallFn := fun g args H =>
      match P.funcs[g]? with
      | some fn => match fn.body with
        | some b => if fn.name == "runtime.NumGoroutine" then none else xbody P fn (xcodeX P n b (args ++ List.replicate (fn.ntmps - args.length) undef) H)
        | none => none
      | none => none
    match c with
    | .skip | .label _ => some (.normal, T, H)
    | .region _ ops true => if planOk P ops (mkPlan P ops) then match xplanX P ops call (mkPlan P ops) T H with
        | some (T', H') => some (.normal, T', H')
        | none => none
      else none
    | .region _ ops false => match xops P ops call ops.toList T H with
      | some (T', H') => some (.normal, T', H')
      | none => none
    | .seq x y => match xcodeX P n x T H with
      | some (.normal, T', H') => xcodeX P n y T' H'
      | r => r
    | .cond q x y => match env T q with
      | some (.bool true) => xcodeX P n x T H
      | some (.bool false) => xcodeX P n y T H
      | _ => none
    | .block id b => match xcodeX P n b T H with
      | some (.exit id', T', H') => if id' = id then some (.normal, T', H') else some (.exit id', T', H')
      | r => r
    | .loop b => match xcodeX P n b T H with
      | some (.normal, T', H') => xcodeX P n (.loop b) T' H'
      | r => r
    | .exit id => some (.exit id, T, H)
    | .ret => some (.ret, T, H)
    | _ => none

def xcallX (P : Program) (n : Nat) : CallFn := fun g args H =>
  match P.funcs[g]? with
  | some fn => match fn.body with
    | some b => if fn.name == "runtime.NumGoroutine" then none else xbody P fn (xcodeX P n b (args ++ List.replicate (fn.ntmps - args.length) undef) H)
    | none => none
  | none => none

theorem xchk_aX {P : Program} {ops : Array Oper} {T : Tm} {H : Heap} {i : Nat} (h : xchkX P ops T H i = true) : aChk P ops T H i := by
  unfold xchkX at h
  unfold aChk
  cases ho : ops[i]? with
  | none => simp only [ho] at h; cases h
  | some o =>
    simp only [ho] at h ⊢
    cases hw : aWanted ops o T with
    | none => simp only [hw] at h; cases h
    | some b =>
      cases b with
      | false => simp only
      | true =>
        simp only [hw] at h ⊢
        cases hr : aRead P (env T) H o with
        | none => simp only [hr] at h; cases h
        | some v =>
          cases hd : o.dst with
          | none => simp only [hr, hd] at h; cases h
          | some d =>
            cases hu : T[d]? with
            | none => simp only [hr, hd, hu] at h; cases h
            | some u =>
              simp only [hr, hd, hu] at h
              refine ⟨v, rfl, fun d' hd' _ => ?_⟩
              injection hd' with hd'; subst hd'
              rw [hu, veqX_eq h]

theorem xrest_aX {P : Program} {ops : Array Oper} {call : CallFn} (hc : Serves P call) {K : Tm → Heap → Prop} : ∀ (r : List (Nat × List Nat × List Nat)) {T T' : Tm} {H H' : Heap}, xrestX P ops call r T H = some (T', H') → K T' H' → aRest P ops K r T H
  | [], T, T', H, H', h, hk => by
    simp only [xrestX, Option.some.injEq, Prod.mk.injEq] at h; obtain ⟨rfl, rfl⟩ := h; exact hk
  | (E, chks, s) :: r, T, T', H, H', h, hk => by
    simp only [xrestX] at h
    simp only [aRest]
    split at h
    · rename_i T1 H1 h1
      split at h
      · rename_i hch
        split at h
        · rename_i T2 H2 h2
          rw [List.all_eq_true] at hch
          exact xseg_a hc [E] h1 ⟨fun i hi => xchk_aX (hch i hi), xseg_a hc s h2 (xrest_aX hc r h hk)⟩
        · cases h
      · cases h
    · cases h

theorem xcode_aX {P : Program} (hm : P.follows .mixedOrders = true) : ∀ (n : Nat) (c : Code) {T T' : Tm} {H H' : Heap} {e : Exit}, xcodeX P n c T H = some (e, T', H') → ∀ {Q : Exit → Tm → Heap → Prop}, Q e T' H' → aw P c Q T H := by
  intro n
  induction n using Nat.strongRecOn with
  | _ n ih =>
    intro c T T' H H' e h Q hq
    cases n with
    | zero => simp [xcodeX] at h
    | succ n =>
      have hserve : Serves P (xcallX P n) := by
        intro g args H v H' hcall K hk
        unfold xcallX at hcall
        split at hcall
        · rename_i fn hf
          split at hcall
          · rename_i b hb
            split at hcall
            · cases hcall
            · rename_i hname
              obtain ⟨e, T, hx, hbq⟩ := xbody_some hcall hk
              exact ACalls.of_body hm hf hb (by simpa using hname) (ih n (Nat.lt_succ_self n) b hx hbq)
          · cases hcall
        · cases hcall
      have hcl : (fun g args H => match P.funcs[g]? with
          | some fn => match fn.body with
            | some b => if fn.name == "runtime.NumGoroutine" then none else xbody P fn (xcodeX P n b (args ++ List.replicate (fn.ntmps - args.length) undef) H)
            | none => none
          | none => none : CallFn) = xcallX P n := rfl
      cases c with
      | skip => simp only [xcodeX, Option.some.injEq, Prod.mk.injEq] at h; obtain ⟨rfl, rfl, rfl⟩ := h; exact hq
      | label l => simp only [xcodeX, Option.some.injEq, Prod.mk.injEq] at h; obtain ⟨rfl, rfl, rfl⟩ := h; exact hq
      | exit id => simp only [xcodeX, Option.some.injEq, Prod.mk.injEq] at h; obtain ⟨rfl, rfl, rfl⟩ := h; exact hq
      | ret => simp only [xcodeX, Option.some.injEq, Prod.mk.injEq] at h; obtain ⟨rfl, rfl, rfl⟩ := h; exact hq
      | region id ops draw =>
        cases draw with
        | true =>
          simp only [xcodeX, hcl] at h
          simp only [aw]
          split at h
          rotate_left
          · cases h
          rename_i hp
          refine ⟨hp, ?_⟩
          cases hx : xplanX P ops (xcallX P n) (mkPlan P ops) T H with
          | none => rw [hx] at h; cases h
          | some r =>
            obtain ⟨T1, H1⟩ := r
            rw [hx] at h
            simp only [Option.some.injEq, Prod.mk.injEq] at h; obtain ⟨rfl, rfl, rfl⟩ := h
            unfold xplanX at hx
            split at hx
            · rename_i T2 H2 h2
              exact xseg_a hserve _ h2 (xrest_aX hserve _ hx hq)
            · cases hx
        | false =>
          simp only [xcodeX, hcl] at h
          simp only [aw]
          cases hx : xops P ops (xcallX P n) ops.toList T H with
          | none => rw [hx] at h; cases h
          | some r =>
            obtain ⟨T1, H1⟩ := r
            rw [hx] at h
            simp only [Option.some.injEq, Prod.mk.injEq] at h; obtain ⟨rfl, rfl, rfl⟩ := h
            exact xops_a hserve _ hx hq
      | seq x y =>
        simp only [xcodeX] at h
        simp only [aw]
        split at h
        · rename_i T1 H1 h1
          exact ih n (Nat.lt_succ_self n) x h1 (ih n (Nat.lt_succ_self n) y h hq)
        · rename_i hne
          refine ih n (Nat.lt_succ_self n) x h ?_
          cases e <;> first | exact hq | (exact absurd h (hne _ _))
      | cond q x y =>
        simp only [xcodeX] at h
        simp only [aw]
        split at h
        · rename_i hc; simp only [hc, if_true]; exact ih n (Nat.lt_succ_self n) x h hq
        · rename_i hc; simp only [hc, Bool.false_eq_true, if_false]; exact ih n (Nat.lt_succ_self n) y h hq
        · cases h
      | block id b =>
        simp only [xcodeX] at h
        simp only [aw]
        split at h
        · rename_i id' T1 H1 h1
          refine ih n (Nat.lt_succ_self n) b h1 ?_
          simp only
          split at h
          · rename_i he
            simp only [Option.some.injEq, Prod.mk.injEq] at h; obtain ⟨rfl, rfl, rfl⟩ := h
            rw [if_pos he]; exact hq
          · rename_i he
            simp only [Option.some.injEq, Prod.mk.injEq] at h; obtain ⟨rfl, rfl, rfl⟩ := h
            rw [if_neg he]; exact hq
        · rename_i hne
          refine ih n (Nat.lt_succ_self n) b h ?_
          cases e <;> first | exact hq | (exact absurd h (hne _ _ _))
      | loop b =>
        simp only [aw]
        refine ⟨fun k T1 H1 => k ≤ n + 1 ∧ xcodeX P k (.loop b) T1 H1 = some (e, T', H'), n + 1, ⟨Nat.le_refl _, h⟩, ?_⟩
        rintro k T1 H1 ⟨hk, hx⟩
        cases k with
        | zero => simp [xcodeX] at hx
        | succ k =>
          simp only [xcodeX] at hx
          split at hx
          · rename_i T2 H2 h2
            exact ih k (by omega) b h2 ⟨k, Nat.lt_succ_self k, by omega, hx⟩
          · rename_i hne
            refine ih k (by omega) b hx ?_
            cases e <;> first | exact hq | (exact absurd hx (hne _ _))
      | _ => simp [xcodeX] at h

theorem xcall_aX {P : Program} (hm : P.follows .mixedOrders = true) (n : Nat) : Serves P (xcallX P n) := by
  intro g args H v H' hcall K hk
  unfold xcallX at hcall
  split at hcall
  · rename_i fn hf
    split at hcall
    · rename_i b hb
      split at hcall
      · cases hcall
      · rename_i hname
        obtain ⟨e, T, hx, hbq⟩ := xbody_some hcall hk
        exact ACalls.of_body hm hf hb (by simpa using hname) (xcode_aX hm n b hx hbq)
    · cases hcall
  · cases hcall

/-! ### reckoned -/
mutual
/-- Does a value of the heap stand for a frozen one? -/
def fzc (P : Program) (H : Heap) : Nat → Value → Value → Bool
  | 0, _, _ => false
  | f + 1, .agg ps, .agg vs => fzcs P H f ps.toList vs.toList
  | f + 1, .tuple ps, .tuple vs => fzcs P H f ps.toList vs.toList
  | f + 1, .iface t (.agg ⟨.int .i64 z :: cells⟩), .slice (some ⟨b, off, none⟩) n c =>
    match H.get b with
    | some (.row own el cs) => decide (t = fzT) && decide (z = (n : Int)) && decide (b < H.next) && decide (c = unk ∨ (n ≤ c ∧ c < unk)) && decide (off + n * szOf P el ≤ cs.length) && decide (0 < szOf P el) && fzcs P H f cells ((cs.drop off).take (n * szOf P el))
    | _ => false
  | _ + 1, .iface t (.agg ⟨[.int .i64 0]⟩), .slice none 0 0 => decide (t = fzT)
  | _ + 1, p, v => feq p v
def fzcs (P : Program) (H : Heap) : Nat → List Value → List Value → Bool
  | _, [], [] => true
  | 0, _, _ => false
  | f + 1, p :: ps, v :: vs => fzc P H f p v && fzcs P H f ps vs
  | _, _, _ => false
end
mutual
theorem fzc_ok {P : Program} {H : Heap} : ∀ {f : Nat} {p v : Value}, fzc P H f p v = true → FzRel P H p v
  | 0, p, v, h => by unfold fzc at h; cases h
  | f + 1, p, v, h => by
    unfold fzc at h
    split at h
    · cases h
    · rename_i ps vs
      obtain ⟨ps⟩ := ps
      obtain ⟨vs⟩ := vs
      exact .agg (fzcs_ok h)
    · rename_i ps vs
      obtain ⟨ps⟩ := ps
      obtain ⟨vs⟩ := vs
      exact .tuple (fzcs_ok h)
    · split at h
      · simp only [Bool.and_eq_true, decide_eq_true_eq] at h
        obtain ⟨⟨⟨⟨⟨⟨h1, h2⟩, h3⟩, h4⟩, h6⟩, h7⟩, h8⟩ := h
        subst h1; subst h2
        exact .sl h7 (Sl.row ‹_› h3 (.inr rfl) h4 h6) (fzcs_ok h8)
      · cases h
    · have h := of_decide_eq_true h
      subst h
      exact .sl (es := 1) (n := 0) Nat.one_pos .nil .nil
    · rw [feq_eq h]; exact .rfl
theorem fzcs_ok {P : Program} {H : Heap} : ∀ {f : Nat} {ps vs : List Value}, fzcs P H f ps vs = true → FzRels P H ps vs
  | _, [], [], _ => .nil
  | 0, p :: ps, vs, h => by unfold fzcs at h; cases vs <;> cases h
  | 0, [], v :: vs, h => by unfold fzcs at h; cases h
  | f + 1, p :: ps, v :: vs, h => by
    unfold fzcs at h
    rw [Bool.and_eq_true] at h
    exact .cons (fzc_ok h.1) (fzcs_ok h.2)
  | f + 1, p :: ps, [], h => by unfold fzcs at h; cases h
  | f + 1, [], v :: vs, h => by unfold fzcs at h; cases h
end
/-- A call of values, reckoned once. -/
def reckV (P : Program) (n K : Nat) (g : FuncId) (ps : List Value) (r : Value) : Bool :=
  match xcallX P n g ps (E0 K) with
  | some (v, H') => fzc P H' 100 r v
  | none => false
theorem PC.reck {n k K : Nat} {ps : List Value} {r : Value} (hm : P.follows .mixedOrders = true) (hp : Pns k ps) (hk : k < K) (hr : Pu r) (h : reckV P n K g ps r = true) : PC P g ps r := by
  refine PK.at hp hk ?_
  unfold reckV at h
  split at h
  · rename_i v H' hx
    exact xcall_aX hm n g ps (E0 K) v H' hx _ ⟨r, fzc_ok h, hr, rfl⟩
  · cases h
end Go.Abs
