/- Joined: A20 A21 A22 A23 A24 A25 A26 A27 A28 M1 M2. -/
import Derived.Test.YtboekagofficpaaGreatB2
set_option linter.unusedVariables false
set_option linter.unusedSimpArgs false
/- Stepping through code by rewriting: one rule for each kind of operation, and what the operations on numbers come to. -/
set_option linter.unusedVariables false
set_option linter.unusedSimpArgs false
namespace Go.Abs
open Go

/-! ### code -/
section
variable {P : Program}

/-- What goes on behind a piece of code. -/
def Kn (P : Program) (y : Code) (Q : Exit → Tm → Heap → Prop) : Exit → Tm → Heap → Prop := fun e T H => match e with | .normal => aw P y Q T H | e => Q e T H
def Kb (id : Nat) (Q : Exit → Tm → Heap → Prop) : Exit → Tm → Heap → Prop := fun e T H => match e with | .exit id' => if id' = id then Q .normal T H else Q (.exit id') T H | e => Q e T H
def Kl (n : Nat) (I : Nat → Tm → Heap → Prop) (Q : Exit → Tm → Heap → Prop) : Exit → Tm → Heap → Prop := fun e T H => match e with | .normal => ∃ k, k < n ∧ I k T H | e => Q e T H
def Ko (P : Program) (ops : Array Oper) (Q : Exit → Tm → Heap → Prop) (os : List Oper) (dst : Option Tmp) (T : Tm) : Value → Heap → Prop := fun v H => aOps P ops (Q .normal) os (aPut T dst v) H

theorem aw_seq {x y : Code} {Q : Exit → Tm → Heap → Prop} {T : Tm} {H : Heap} : aw P (.seq x y) Q T H = aw P x (Kn P y Q) T H := _root_.id rfl
theorem aw_block {id : Nat} {c : Code} {Q : Exit → Tm → Heap → Prop} {T : Tm} {H : Heap} : aw P (.block id c) Q T H = aw P c (Kb id Q) T H := _root_.id rfl
theorem aw_skip {Q : Exit → Tm → Heap → Prop} {T : Tm} {H : Heap} : aw P .skip Q T H = Q .normal T H := _root_.id rfl
theorem aw_exit {id : Nat} {Q : Exit → Tm → Heap → Prop} {T : Tm} {H : Heap} : aw P (.exit id) Q T H = Q (.exit id) T H := _root_.id rfl
theorem aw_ret {Q : Exit → Tm → Heap → Prop} {T : Tm} {H : Heap} : aw P .ret Q T H = Q .ret T H := _root_.id rfl
theorem aw_cond {c : Operand} {x y : Code} {Q : Exit → Tm → Heap → Prop} {T : Tm} {H : Heap} : aw P (.cond c x y) Q T H = ob ((env T c).bind fun v => match v with | .bool b => some b | _ => none) fun b => if b = true then aw P x Q T H else aw P y Q T H := by
  simp only [aw]
  cases env T c with
  | none => rfl
  | some v => cases v <;> rfl
theorem aw_region {id : Nat} {ops : List Oper} {Q : Exit → Tm → Heap → Prop} {T : Tm} {H : Heap} : aw P (.region id ⟨ops⟩ false) Q T H = aOps P ⟨ops⟩ (Q .normal) ops T H := _root_.id rfl
theorem aw_loop {c : Code} {Q : Exit → Tm → Heap → Prop} {T : Tm} {H : Heap} (I : Nat → Tm → Heap → Prop) (n : Nat) (h0 : I n T H) (h : ∀ n T H, I n T H → aw P c (Kl n I Q) T H) : aw P (.loop c) Q T H := ⟨I, n, h0, h⟩

theorem Kn_normal {y : Code} {Q : Exit → Tm → Heap → Prop} {T : Tm} {H : Heap} : Kn P y Q .normal T H = aw P y Q T H := _root_.id rfl
theorem Kn_ret {y : Code} {Q : Exit → Tm → Heap → Prop} {T : Tm} {H : Heap} : Kn P y Q .ret T H = Q .ret T H := _root_.id rfl
theorem Kn_exit {y : Code} {Q : Exit → Tm → Heap → Prop} {T : Tm} {H : Heap} {id : Nat} : Kn P y Q (.exit id) T H = Q (.exit id) T H := _root_.id rfl
theorem Kb_normal {id : Nat} {Q : Exit → Tm → Heap → Prop} {T : Tm} {H : Heap} : Kb id Q .normal T H = Q .normal T H := _root_.id rfl
theorem Kb_ret {id : Nat} {Q : Exit → Tm → Heap → Prop} {T : Tm} {H : Heap} : Kb id Q .ret T H = Q .ret T H := _root_.id rfl
theorem Kb_exit {id id' : Nat} {Q : Exit → Tm → Heap → Prop} {T : Tm} {H : Heap} : Kb id Q (.exit id') T H = if id' = id then Q .normal T H else Q (.exit id') T H := _root_.id rfl
theorem Kl_normal {n : Nat} {I : Nat → Tm → Heap → Prop} {Q : Exit → Tm → Heap → Prop} {T : Tm} {H : Heap} : Kl n I Q .normal T H = ∃ k, k < n ∧ I k T H := _root_.id rfl
theorem Kl_ret {n : Nat} {I : Nat → Tm → Heap → Prop} {Q : Exit → Tm → Heap → Prop} {T : Tm} {H : Heap} : Kl n I Q .ret T H = Q .ret T H := _root_.id rfl
theorem Kl_exit {n : Nat} {I : Nat → Tm → Heap → Prop} {Q : Exit → Tm → Heap → Prop} {T : Tm} {H : Heap} {id : Nat} : Kl n I Q (.exit id) T H = Q (.exit id) T H := _root_.id rfl
theorem bodyQ_normal {fn : Func} {K : Value → Heap → Prop} {T : Tm} {H : Heap} : bodyQ P fn K .normal T H = ob (aResults P fn T H) fun v => K v H := _root_.id rfl
theorem bodyQ_ret {fn : Func} {K : Value → Heap → Prop} {T : Tm} {H : Heap} : bodyQ P fn K .ret T H = ob (aResults P fn T H) fun v => K v H := _root_.id rfl

/-! ### operations -/
variable {e : Env} {H : Heap} {K : Value → Heap → Prop} {d : Option Tmp} {ty : TypeId} {ps : String} {af : Array Edge} {gd : Option (Nat × Bool)}

theorem ops_nil {ops : Array Oper} {Q : Tm → Heap → Prop} {T : Tm} : aOps P ops Q [] T H = Q T H := _root_.id rfl
theorem ops_cons {ops : Array Oper} {Q : Exit → Tm → Heap → Prop} {T : Tm} {op : Op} {os : List Oper} :
    aOps P ops (Q .normal) (⟨d, op, ty, ps, af, none⟩ :: os) T H = aStep P (env T) H ⟨d, op, ty, ps, af, none⟩ (Ko P ops Q os d T) := _root_.id rfl

def gsel (b : Bool) (A B : Prop) : Prop := if b = true then A else B
theorem gsel_true {A B : Prop} : gsel true A B = A := _root_.id rfl
theorem gsel_false {A B : Prop} : gsel false A B = B := _root_.id rfl

def gval (l : List Oper) (T : Tm) (j : Nat) : Option Bool := ((l[j]?).bind (·.dst)).bind fun d => (T[d]?).bind fun v => match v with | .bool b => some b | _ => none

theorem ops_guard {l : List Oper} {Q : Exit → Tm → Heap → Prop} {T : Tm} {op : Op} {os : List Oper} {j : Nat} {want b : Bool} (hb : gval l T j = some b) :
    aOps P ⟨l⟩ (Q .normal) (⟨d, op, ty, ps, af, some (j, want)⟩ :: os) T H = if (b == want) = true then aStep P (env T) H ⟨d, op, ty, ps, af, none⟩ (Ko P ⟨l⟩ Q os d T) else aOps P ⟨l⟩ (Q .normal) os (aPut T d undef) H := by
  simp only [aOps]
  have : aWanted ⟨l⟩ ⟨d, op, ty, ps, af, some (j, want)⟩ T = some (b == want) := by
    simp only [gval, Option.bind_eq_some_iff] at hb
    obtain ⟨d', ⟨o, h1, h1'⟩, v, h2, h3⟩ := hb
    have hv : v = .bool b := by cases v <;> simp at h3; rw [h3]
    subst hv
    simp only [aWanted, List.getElem?_toArray, h1, Option.bind_some, h1', h2]
  rw [this]
  cases hbw : (b == want)
  · simp
  · simp; rfl

theorem Ko_some {ops : Array Oper} {Q : Exit → Tm → Heap → Prop} {os : List Oper} {t : Tmp} {T : Tm} {v : Value} : Ko P ops Q os (some t) T v H = aOps P ops (Q .normal) os (T.set t v) H := _root_.id rfl
theorem Ko_none {ops : Array Oper} {Q : Exit → Tm → Heap → Prop} {os : List Oper} {T : Tm} {v : Value} : Ko P ops Q os none T v H = aOps P ops (Q .normal) os T H := _root_.id rfl
theorem aPut_some {t : Tmp} {T : Tm} {v : Value} : aPut T (some t) v = T.set t v := _root_.id rfl
theorem aPut_none {T : Tm} {v : Value} : aPut T none v = T := _root_.id rfl
theorem env_tmp {T : Tm} {t : Tmp} : env T (.tmp t) = T[t]? := _root_.id rfl
theorem env_int {T : Tm} {k : IntKind} {n : Int} : env T (.const (.int k n)) = some (.int k n) := _root_.id rfl
theorem env_bool {T : Tm} {b : Bool} : env T (.const (.bool b)) = some (.bool b) := _root_.id rfl
theorem env_str {T : Tm} {s : ByteArray} : env T (.const (.string s)) = some (.string s) := _root_.id rfl
theorem env_nil {T : Tm} {n c : Nat} : env T (.const (.slice none n c)) = some (.slice none n c) := _root_.id rfl
theorem env_pnil {T : Tm} : env T (.const (.pointer none)) = some (.pointer none) := _root_.id rfl

theorem s_move {x : Operand} : aStep P e H ⟨d, .move x, ty, ps, af, gd⟩ K = ob (e x) fun v => K v H := _root_.id rfl
theorem s_assign {x : Operand} : aStep P e H ⟨d, .assign x, ty, ps, af, gd⟩ K = ob (e x) fun v => K v H := _root_.id rfl
theorem s_pick {c x y : Operand} : aStep P e H ⟨d, .pick c x y, ty, ps, af, gd⟩ K = ob ((e c).bind fun v => match v with | .bool b => some b | _ => none) fun b => ob (if b = true then e x else e y) fun v => K v H := by
  show ob (aPure P e _) _ = _
  simp only [aPure]
  cases e c with
  | none => rfl
  | some v => cases v with
    | bool b => cases b <;> rfl
    | _ => rfl
theorem s_bin {op : BinOp} {t : TypeId} {x y : Operand} {z : TypeId} : aStep P e H ⟨d, .binOp op t x y z, ty, ps, af, gd⟩ K = ob (e x) fun a => ob (e y) fun b => ob (aBin P op t x y a b) fun v => K v H := by
  show ob (aPure P e _) _ = _
  simp only [aPure]
  cases e x <;> cases e y <;> rfl
def aUn (P : Program) (op : UnOp) (a : Value) : Option Value := if gr a then scal P (Op.unary op a) else none
theorem s_un {op : UnOp} {t : TypeId} {x : Operand} : aStep P e H ⟨d, .unOp op t x, ty, ps, af, gd⟩ K = ob (e x) fun a => ob (aUn P op a) fun v => K v H := by
  show ob (aPure P e _) _ = _
  simp only [aPure]
  cases e x <;> rfl
/-- A conversion. -/
def aConv (P : Program) (H : Heap) (src dst : TypeId) (a : Value) : Option Value :=
  if isSliceT P src = true then aBytes P H src dst a else if gr a then scal P (convert src dst a) else none
theorem s_conv {src dst : TypeId} {x : Operand} : aStep P e H ⟨d, .convert src dst x, ty, ps, af, gd⟩ K = ob (e x) fun a => ob (aConv P H src dst a) fun v => K v H := by
  unfold aStep aConv
  simp only [kindOf]
  cases hs : isSliceT P src with
  | true =>
    simp only [if_true, aRead]
    cases e x <;> rfl
  | false =>
    simp only [Bool.false_eq_true, if_false, aPure]
    cases e x <;> rfl
theorem s_faddr {s : TypeId} {x : Operand} {f : Nat} : aStep P e H ⟨d, .fieldAddr s x f, ty, ps, af, gd⟩ K = ob (e x) fun a => ob (aFieldAddr P s a f) fun v => K v H := by
  show ob (aPure P e _) _ = _
  simp only [aPure]
  cases e x <;> rfl
theorem s_field {s : TypeId} {x : Operand} {f : Nat} : aStep P e H ⟨d, .field s x f, ty, ps, af, gd⟩ K = ob (e x) fun a => ob (aField P s a f) fun v => K v H := by
  show ob (aPure P e _) _ = _
  simp only [aPure]
  cases e x <;> rfl
theorem s_iaddr {s : TypeId} {x y : Operand} : aStep P e H ⟨d, .indexAddr s x y, ty, ps, af, gd⟩ K = ob (e x) fun a => ob (e y) fun b => ob (aIndexAddr P s a b) fun v => K v H := by
  show ob (aPure P e _) _ = _
  simp only [aPure]
  cases e x <;> cases e y <;> rfl
theorem s_index {s : TypeId} {x y : Operand} : aStep P e H ⟨d, .index s x y, ty, ps, af, gd⟩ K = ob (e x) fun a => ob (e y) fun b => ob (aIndex P s a b) fun v => K v H := by
  show ob (aPure P e _) _ = _
  simp only [aPure]
  cases e x <;> cases e y <;> rfl
theorem s_extract {x : Operand} {i : Nat} : aStep P e H ⟨d, .extract x i, ty, ps, af, gd⟩ K = ob (e x) fun a => ob (aExtract a i) fun v => K v H := by
  show ob (aPure P e _) _ = _
  simp only [aPure]
  cases e x <;> rfl
def aBuild (P : Program) (t : TypeId) (ps : Option (List (Nat × Value))) : Option Value :=
  match ps with
  | some ps => if zeroOk P t then (P.built t ps).map .agg else none
  | none => none
theorem s_build {t : TypeId} {parts : List (Nat × Operand)} : aStep P e H ⟨d, .build t ⟨parts⟩, ty, ps, af, gd⟩ K = ob (aBuild P t (evps e parts)) fun v => K v H := _root_.id rfl
def aLen (P : Program) (t : TypeId) (v : Value) : Option Value :=
  match v with
  | .slice _ n _ => if isSliceT P t then some (goInt n) else none
  | .string s => match P.underlying t with
    | some .string => some (goInt s.size)
    | _ => none
  | .iface f (.agg l) => if isSliceT P t then (fzParts f l.toList).map fun p => goInt p.1 else none
  | _ => none
theorem s_len {x : Operand} {t : TypeId} : aStep P e H ⟨d, .call ⟨.builtin .len, ⟨[x]⟩, ⟨[t]⟩⟩, ty, ps, af, gd⟩ K = ob (e x) fun a => ob (aLen P t a) fun v => K v H := by
  show ob (aPure P e _) _ = _
  simp only [aPure, evs]
  cases e x with
  | none => rfl
  | some v => cases v with
    | iface f u => cases u <;> rfl
    | _ => rfl
theorem s_load {t : TypeId} {x : Operand} : aStep P e H ⟨d, .load t x, ty, ps, af, gd⟩ K = ob (e x) fun a => ob (aLoad P H t a) fun v => K v H := by
  show ob (aRead P e H _) _ = _
  simp only [aRead]
  cases e x <;> rfl
theorem s_slice {t : TypeId} {x : Operand} {lo hi : Option Operand} : aStep P e H ⟨d, .slice t x lo hi none, ty, ps, af, gd⟩ K = ob (e x) fun a => ob (lo.mapM e) fun l => ob (hi.mapM e) fun h => ob (aSlice P H t a l h none) fun v => K v H := by
  show ob (aRead P e H _) _ = _
  simp only [aRead]
  cases e x <;> cases lo.mapM e <;> cases hi.mapM e <;> rfl
theorem s_alloc {el : TypeId} {parts : List Value} (h : aNew P (fun _ => none) (.alloc el) = some (el, parts, fun b => .pointer (some ⟨b, 0, none⟩))) : aStep P e H ⟨d, .alloc el, ty, ps, af, gd⟩ K = K (.pointer (some ⟨H.next, 0, none⟩)) (H.push (.row true el parts)) := by
  show ob (aNew P e _) _ = _
  have : aNew P e (.alloc el) = aNew P (fun _ => none) (.alloc el) := _root_.id rfl
  rw [this, h]; rfl
theorem s_box {el : TypeId} {x : Operand} : aStep P e H ⟨d, .box el x, ty, ps, af, gd⟩ K = ob (e x) fun v => K (.pointer (some ⟨H.next, 0, none⟩)) (H.push (.row true el v.cells.toList)) := by
  show ob (aNew P e _) _ = _
  simp only [aNew]
  cases e x <;> rfl
theorem s_new {op : Op} (hk : kindOf P op = .new) : aStep P e H ⟨d, op, ty, ps, af, gd⟩ K = ob (aNew P e op) fun r => K (r.2.2 H.next) (H.push (.row true r.1 r.2.1)) := by
  unfold aStep
  rw [hk]
theorem s_store {t : TypeId} {x y : Operand} : aStep P e H ⟨d, .store t x y, ty, ps, af, gd⟩ K = ob (e x) fun a => ob (e y) fun b => ob (aStore P H t a b) fun H' => K undef H' := by
  show ob (aEff P e H _) _ = _
  simp only [aEff]
  cases e x with
  | none => rfl
  | some a =>
    cases e y with
    | none => rfl
    | some b => simp only [ob_some]; cases aStore P H t a b <;> rfl
theorem s_append {x y : Operand} {ats : Array TypeId} : aStep P e H ⟨d, .call ⟨.builtin .append, ⟨[x, y]⟩, ats⟩, ty, ps, af, gd⟩ K = ob (e x) fun a => ob (e y) fun b => ob (aAppend P H ats a b) fun r => K r.1 r.2 := by
  show ob (aEff P e H _) _ = _
  simp only [aEff, evs]
  cases e x with
  | none => rfl
  | some a =>
    cases e y with
    | none => rfl
    | some b => rfl
theorem s_call {T : Tm} {g : FuncId} {args : List Operand} {ats : Array TypeId} : aStep P (env T) H ⟨d, .call ⟨.value (.func g), ⟨args⟩, ats⟩, ty, ps, af, gd⟩ K = ob (evs (env T) args) fun vs => ACalls P g vs H K := by
  unfold aStep
  simp only [kindOf, env]
  cases evs (env T) args with
  | none => rfl
  | some vs => simp
/-- Maps. -/
theorem s_makeMap {t : TypeId} : aStep P e H ⟨d, .makeMap t none, ty, ps, af, gd⟩ K = K (.map (some H.next)) (H.push (.map [] 0)) := by
  simp [aStep, kindOf, aEff]
theorem s_lookup {t : TypeId} {x y : Operand} {ok : Bool} : aStep P e H ⟨d, .lookup t x y ok, ty, ps, af, gd⟩ K = ob (e x) fun a => ob (e y) fun b => ob (aMapGet P H t a b ok) fun v => K v H := by
  unfold aStep
  simp only [kindOf, aRead]
  cases e x with
  | none => rfl
  | some a => cases e y with
    | none => rfl
    | some b => rfl
theorem s_insert {t : TypeId} {m k x : Operand} : aStep P e H ⟨d, .insert t m k x, ty, ps, af, gd⟩ K = ob (e m) fun a => ob (e k) fun b => ob (e x) fun c => ob (aMapSet P H t a b c) fun H' => K undef H' := by
  unfold aStep
  simp only [kindOf, aEff]
  cases e m with
  | none => rfl
  | some a => cases e k with
    | none => rfl
    | some b => cases e x with
      | none => rfl
      | some c => simp only [ob_some]; cases aMapSet P H t a b c <;> rfl
theorem s_mapUpdate {t : TypeId} {m k x : Operand} : aStep P e H ⟨d, .mapUpdate t m k x, ty, ps, af, gd⟩ K = ob (e m) fun a => ob (e k) fun b => ob (e x) fun c => ob (aMapSet P H t a b c) fun H' => K undef H' := by
  unfold aStep
  simp only [kindOf, aEff]
  cases e m with
  | none => rfl
  | some a => cases e k with
    | none => rfl
    | some b => cases e x with
      | none => rfl
      | some c => simp only [ob_some]; cases aMapSet P H t a b c <;> rfl
end
end Go.Abs

/- What operations on numbers, truths and texts come to; heaps under pushes; lists that are written out. -/
namespace Go.Abs
open Go

theorem ground_int (k : IntKind) (n : Int) : ground (.int k n) = true := _root_.id rfl
theorem ground_bool (b : Bool) : ground (.bool b) = true := _root_.id rfl
theorem ground_str (s : ByteArray) : ground (.string s) = true := _root_.id rfl
theorem gr_int (k : IntKind) (n : Int) : gr (.int k n) = true := _root_.id rfl
theorem gr_bool (b : Bool) : gr (.bool b) = true := _root_.id rfl
theorem gr_str (s : ByteArray) : gr (.string s) = true := _root_.id rfl

section
variable {P : Program} {t : TypeId} {x y : Operand}

theorem bin_int {op : BinOp} {k : IntKind} {a b : Int} {v : Value} (hg : gr v = true) (h : semPure P (binOp op t (.int k a) (.int k b)) = some v) : aBin P op t x y (.int k a) (.int k b) = some v := by
  unfold aBin
  rw [gr_int, gr_int]
  simp only [Bool.and_self, if_true, scal]
  have : semPure P (do eqGuard op t x y (.int k a) (.int k b); binOp op t (.int k a) (.int k b)) = semPure P (binOp op t (.int k a) (.int k b)) := by
    unfold eqGuard
    cases op <;> rfl
  rw [this, h]
  simp [hg]

theorem bin_add {k : IntKind} {a b : Int} : aBin P .add t x y (.int k a) (.int k b) = some (.int k (k.wrap (a + b))) := bin_int rfl (by simp [binOp, Op.intArith, semPure, pure])
theorem bin_sub {k : IntKind} {a b : Int} : aBin P .sub t x y (.int k a) (.int k b) = some (.int k (k.wrap (a - b))) := bin_int rfl (by simp [binOp, Op.intArith, semPure, pure])
theorem bin_mul {k : IntKind} {a b : Int} : aBin P .mul t x y (.int k a) (.int k b) = some (.int k (k.wrap (a * b))) := bin_int rfl (by simp [binOp, Op.intArith, semPure, pure])
theorem bin_quo {k : IntKind} {a b : Int} (h : b ≠ 0) : aBin P .quo t x y (.int k a) (.int k b) = some (.int k (k.wrap (a.tdiv b))) := bin_int rfl (by simp [binOp, Op.intDiv, semPure, pure, h])
theorem bin_rem {k : IntKind} {a b : Int} (h : b ≠ 0) : aBin P .rem t x y (.int k a) (.int k b) = some (.int k (a.tmod b)) := bin_int rfl (by simp [binOp, Op.intDiv, semPure, pure, h])
theorem bin_lss {k : IntKind} {a b : Int} : aBin P .lss t x y (.int k a) (.int k b) = some (.bool (decide (a < b))) := bin_int rfl (by simp [binOp, Op.intCmp, semPure, pure])
theorem bin_leq {k : IntKind} {a b : Int} : aBin P .leq t x y (.int k a) (.int k b) = some (.bool (decide (a ≤ b))) := bin_int rfl (by simp [binOp, Op.intCmp, semPure, pure])
theorem bin_gtr {k : IntKind} {a b : Int} : aBin P .gtr t x y (.int k a) (.int k b) = some (.bool (decide (b < a))) := bin_int rfl (by simp [binOp, Op.intCmp, semPure, pure])
theorem bin_geq {k : IntKind} {a b : Int} : aBin P .geq t x y (.int k a) (.int k b) = some (.bool (decide (b ≤ a))) := bin_int rfl (by simp [binOp, Op.intCmp, semPure, pure])
theorem bin_eql {k : IntKind} {a b : Int} : aBin P .eql t x y (.int k a) (.int k b) = some (.bool (decide (a = b))) := bin_int rfl (by simp [binOp, Op.intCmp, semPure, pure, BEq.beq])
theorem bin_neq {k : IntKind} {a b : Int} : aBin P .neq t x y (.int k a) (.int k b) = some (.bool (decide (a ≠ b))) := bin_int rfl (by simp [binOp, Op.intCmp, semPure, pure, bne, BEq.beq])
/-- The bits of two numbers. -/
def aBits (op : BinOp) (k : IntKind) (a b : Int) : Int :=
  let x := BitVec.ofInt k.bits a
  let y := BitVec.ofInt k.bits b
  k.wrap (match op with | .and => (x &&& y).toNat | .or => (x ||| y).toNat | .xor => (x ^^^ y).toNat | _ => (x &&& ~~~y).toNat)
theorem bin_and {k : IntKind} {a b : Int} : aBin P .and t x y (.int k a) (.int k b) = some (.int k (aBits .and k a b)) := bin_int rfl (by simp [binOp, Op.intBits, semPure, pure, aBits])
theorem bin_or {k : IntKind} {a b : Int} : aBin P .or t x y (.int k a) (.int k b) = some (.int k (aBits .or k a b)) := bin_int rfl (by simp [binOp, Op.intBits, semPure, pure, aBits])
theorem bin_xor {k : IntKind} {a b : Int} : aBin P .xor t x y (.int k a) (.int k b) = some (.int k (aBits .xor k a b)) := bin_int rfl (by simp [binOp, Op.intBits, semPure, pure, aBits])

theorem bin_int2 {op : BinOp} {k k' : IntKind} {a b : Int} {v : Value} (hn : (op matches .eql | .neq) = false) (hg : gr v = true) (h : semPure P (binOp op t (.int k a) (.int k' b)) = some v) : aBin P op t x y (.int k a) (.int k' b) = some v := by
  unfold aBin
  rw [gr_int, gr_int]
  simp only [Bool.and_self, if_true, scal]
  have : semPure P (do eqGuard op t x y (.int k a) (.int k' b); binOp op t (.int k a) (.int k' b)) = semPure P (binOp op t (.int k a) (.int k' b)) := by
    unfold eqGuard
    cases op <;> first | rfl | (simp at hn)
  rw [this, h]
  simp [hg]

theorem bin_shl {k k' : IntKind} {a b : Int} (h : 0 ≤ b) : aBin P .shl t x y (.int k a) (.int k' b) = some (.int k (k.wrap (a * 2 ^ (min b.toNat k.bits)))) :=
  bin_int2 rfl rfl (by simp [binOp, Op.shift, semPure, pure, show ¬ b < 0 by omega])
theorem bin_shr {k k' : IntKind} {a b : Int} (h : 0 ≤ b) : aBin P .shr t x y (.int k a) (.int k' b) = some (.int k (a.fdiv (2 ^ (min b.toNat k.bits)))) :=
  bin_int2 rfl rfl (by simp [binOp, Op.shift, semPure, pure, show ¬ b < 0 by omega])

theorem un_not {b : Bool} : aUn P .not (.bool b) = some (.bool (!b)) := _root_.id rfl
theorem un_neg {k : IntKind} {n : Int} : aUn P .neg (.int k n) = some (.int k (k.wrap (-n))) := by
  simp [aUn, gr_int, Op.unary, Op.intArith, scal, semPure, pure]
theorem un_xor_u {k : IntKind} {n : Int} (h : k.signed = false) : aUn P .xor (.int k n) = some (.int k (aBits .xor k k.max n)) := by
  simp [aUn, gr_int, Op.unary, Op.intBits, scal, semPure, pure, aBits, h]

theorem bin_bool {op : BinOp} {a b : Bool} {v : Value} (hg : gr v = true) (h : semPure P (binOp op t (.bool a) (.bool b)) = some v) : aBin P op t x y (.bool a) (.bool b) = some v := by
  unfold aBin
  rw [gr_bool, gr_bool]
  simp only [Bool.and_self, if_true, scal]
  have : semPure P (do eqGuard op t x y (.bool a) (.bool b); binOp op t (.bool a) (.bool b)) = semPure P (binOp op t (.bool a) (.bool b)) := by
    unfold eqGuard
    cases op <;> rfl
  rw [this, h]
  simp [hg]
theorem equalIn_bool {n : Nat} {a b : Bool} (hu : P.underlying t = some .bool) : semPure P (Op.equalIn (n + 1) t (.bool a) (.bool b)) = some (a == b) := by
  unfold Op.equalIn
  simp only [underlying, program, bind, Sem.bind, semPure, hu, pure]
theorem equal_bool {a b : Bool} (hu : P.underlying t = some .bool) : semPure P (Op.equal t (.bool a) (.bool b)) = some (a == b) := by
  unfold Op.equal
  exact equalIn_bool (n := 9999) hu
theorem semPure_bind {α β : Type} : ∀ (s : Sem α) (f : α → Sem β) {a : α}, semPure P s = some a → semPure P (s >>= f) = semPure P (f a)
  | .pure b, f, a, h => by simp [semPure] at h; subst h; rfl
  | .program k, f, a, h => by simp only [semPure] at h; exact semPure_bind (k P) f h
  | .mark m k, f, a, h => by simp only [semPure] at h; exact semPure_bind k f h
  | .load .., _, a, h | .store .., _, a, h | .new .., _, a, h | .shape .., _, a, h | .freeze .., _, a, h | .frozen .., _, a, h
  | .getObj .., _, a, h | .setObj .., _, a, h | .choose .., _, a, h | .sys .., _, a, h | .halt .., _, a, h => by simp [semPure] at h
theorem bin_beql {a b : Bool} (hu : P.underlying t = some .bool) : aBin P .eql t x y (.bool a) (.bool b) = some (.bool (a == b)) :=
  bin_bool rfl ((semPure_bind _ _ (equal_bool hu)).trans rfl)
theorem bin_bneq {a b : Bool} (hu : P.underlying t = some .bool) : aBin P .neq t x y (.bool a) (.bool b) = some (.bool (a != b)) :=
  bin_bool rfl ((semPure_bind _ _ (equal_bool hu)).trans rfl)

theorem bin_str {op : BinOp} {a b : ByteArray} {v : Value} (hg : gr v = true) (h : semPure P (Op.stringOp op a b) = some v) : aBin P op t x y (.string a) (.string b) = some v := by
  unfold aBin
  rw [gr_str, gr_str]
  simp only [Bool.and_self, if_true, scal]
  have : semPure P (do eqGuard op t x y (.string a) (.string b); binOp op t (.string a) (.string b)) = semPure P (Op.stringOp op a b) := by
    unfold eqGuard
    cases op <;> rfl
  rw [this, h]
  simp [hg]
theorem bin_seql {a b : ByteArray} : aBin P .eql t x y (.string a) (.string b) = some (.bool (a.toList == b.toList)) := bin_str rfl (by simp [Op.stringOp, semPure, pure])
theorem bin_sneq {a b : ByteArray} : aBin P .neq t x y (.string a) (.string b) = some (.bool !(a.toList == b.toList)) := bin_str rfl (by simp [Op.stringOp, semPure, pure])
theorem bin_sadd {a b : ByteArray} (h : a.size + b.size ≤ 9223372036854775807) : aBin P .add t x y (.string a) (.string b) = some (.string (a ++ b)) := bin_str rfl (by
  have : ¬ ((a.size + b.size : Nat) : Int) > IntKind.i64.max := by
    show ¬ _ > (9223372036854775807 : Int)
    omega
  simp only [Op.stringOp]
  rw [if_neg this]
  rfl)

theorem conv_int {H : Heap} {src dst : TypeId} {k k' : IntKind} {n : Int} {d : TypeDesc} (hs : isSliceT P src = false) (hu : P.underlying src = some d) (hd : P.underlying dst = some (.int k)) : aConv P H src dst (.int k' n) = some (.int k (k.wrap n)) := by
  unfold aConv
  rw [hs]
  simp only [Bool.false_eq_true, if_false, gr_int, if_true]
  simp [scal, semPure, convert, underlying, program, hu, hd, Conv.intToInt, bind, Sem.bind, pure, gr, ground]
end

/-! ### what numbers are, kept within their kind -/
theorem wrap_i64 {z : Int} (h1 : -9223372036854775808 ≤ z) (h2 : z ≤ 9223372036854775807) : IntKind.i64.wrap z = z := by
  show (let m := z % (2 ^ 64 : Int); if (true && decide (m ≥ (2 ^ 63 : Int))) = true then m - (2 ^ 64 : Int) else m) = z
  simp only [Bool.true_and, decide_eq_true_eq]
  split <;> omega
theorem wrap_u64 {z : Int} : IntKind.u64.wrap z = z % 18446744073709551616 := _root_.id rfl
theorem wrap_u32 {z : Int} : IntKind.u32.wrap z = z % 4294967296 := _root_.id rfl
theorem wrap_u8 {z : Int} : IntKind.u8.wrap z = z % 256 := _root_.id rfl
theorem wrap_u64' {z : Int} (h1 : 0 ≤ z) (h2 : z < 18446744073709551616) : IntKind.u64.wrap z = z := by rw [wrap_u64]; omega
theorem wrap_u32' {z : Int} (h1 : 0 ≤ z) (h2 : z < 4294967296) : IntKind.u32.wrap z = z := by rw [wrap_u32]; omega
theorem wrap_u8' {z : Int} (h1 : 0 ≤ z) (h2 : z < 256) : IntKind.u8.wrap z = z := by rw [wrap_u8]; omega

/-! ### the heap -/
theorem get_push_self (H : Heap) (o : AObj) : (H.push o).get H.next = some o := by rw [Heap.get_push, if_pos rfl]
theorem get_push_eq {H : Heap} {o : AObj} {b : Nat} (h : b = H.next) : (H.push o).get b = some o := by rw [Heap.get_push, if_pos h]
theorem get_push_ne {H : Heap} {o : AObj} {b : Nat} (h : b ≠ H.next) : (H.push o).get b = H.get b := by rw [Heap.get_push, if_neg h]
theorem get_set_self (H : Heap) (o : AObj) (b : Nat) : (H.set b o).get b = some o := by rw [Heap.get_set, if_pos rfl]
theorem get_set_ne {H : Heap} {o : AObj} {b c : Nat} (h : b ≠ c) : (H.set c o).get b = H.get b := by rw [Heap.get_set, if_neg h]
theorem get_kill_ne {H : Heap} {b c : Nat} (h : b ≠ c) : (H.kill c).get b = H.get b := by rw [Heap.get_kill, if_neg h]

/-- Old memory stands. -/
structure Hle (H H' : Heap) : Prop where
  next : H.next ≤ H'.next
  get : ∀ b, b < H.next → H'.get b = H.get b

theorem Hle.rfl {H : Heap} : Hle H H := ⟨Nat.le_refl _, fun _ _ => Eq.refl _⟩
theorem Hle.trans {H H1 H2 : Heap} (h : Hle H H1) (k : Hle H1 H2) : Hle H H2 := ⟨Nat.le_trans h.next k.next, fun b hb => (k.get b (Nat.lt_of_lt_of_le hb h.next)).trans (h.get b hb)⟩
theorem Hle.push {H H1 : Heap} (h : Hle H H1) (o : AObj) : Hle H (H1.push o) := ⟨by have := h.next; simp; omega, fun b hb => by have := h.next; rw [get_push_ne (by omega)]; exact h.get b hb⟩
theorem Hle.set {H H1 : Heap} (h : Hle H H1) {c : Nat} (hc : H.next ≤ c) (o : AObj) : Hle H (H1.set c o) := ⟨h.next, fun b hb => by rw [get_set_ne (by omega)]; exact h.get b hb⟩
theorem Hle.kill {H H1 : Heap} (h : Hle H H1) {c : Nat} (hc : H.next ≤ c) : Hle H (H1.kill c) := ⟨h.next, fun b hb => by rw [get_kill_ne (by omega)]; exact h.get b hb⟩
theorem Hle.push0 {H : Heap} (o : AObj) : Hle H (H.push o) := Hle.rfl.push o

theorem size_mk (l : List Value) : (Array.mk l).size = l.length := _root_.id rfl
end Go.Abs

/- Slices: what a slice holds, reading, writing, cutting, lengthening. -/
namespace Go.Abs
open Go

/-- A slice of so many elements of so many cells each, and its cells. -/
inductive Sl (P : Program) (H : Heap) (es : Nat) : Value → Nat → List Value → Prop
  | nil : Sl P H es (.slice none 0 0) 0 []
  | void : Sl P H es (.slice (some ⟨0, 0, none⟩) 0 unk) 0 []
  | row {b off n c : Nat} {own : Bool} {el : TypeId} {cs : List Value} (hg : H.get b = some (.row own el cs)) (hb : b < H.next) (he : own = false ∨ szOf P el = es) (hc : c = unk ∨ (n ≤ c ∧ c < unk)) (hl : off + n * es ≤ cs.length) :
      Sl P H es (.slice (some ⟨b, off, none⟩) n c) n ((cs.drop off).take (n * es))

def sblk : Value → Nat
  | .slice (some a) _ _ => a.block
  | _ => 0
def soff : Value → Nat
  | .slice (some a) _ _ => a.off
  | _ => 0
def sadr (v : Value) (o : Nat) : Addr := ⟨sblk v, soff v + o, none⟩

variable {P : Program} {H H' H0 : Heap} {es n : Nat} {sl : Value} {cells : List Value}

theorem Sl.length (h : Sl P H es sl n cells) : cells.length = n * es := by
  cases h with
  | nil => simp
  | void => simp
  | row hg hb he hc hl => simp; omega

theorem Sl.mono (h : Sl P H es sl n cells) (hle : Hle H H') : Sl P H' es sl n cells := by
  cases h with
  | nil => exact .nil
  | void => exact .void
  | row hg hb he hc hl => exact .row (by rw [hle.get _ hb]; exact hg) (Nat.lt_of_lt_of_le hb hle.next) he hc hl

theorem Sl.len (h : Sl P H es sl n cells) {t : TypeId} (ht : isSliceT P t = true) : aLen P t sl = some (.int .i64 n) := by
  cases h <;> simp [aLen, ht, goInt]

theorem Sl.lenV (h : Sl P H es sl n cells) : lenV sl = some n := by
  cases h <;> rfl

theorem Sl.addr (h : Sl P H es sl n cells) {t e : TypeId} (ht : P.underlying t = some (.slice e)) (hs : szOf P e = es) (hz : sized P e = true) {k : IntKind} {i : Int} (h0 : 0 ≤ i) (h1 : i < n) :
    aIndexAddr P t sl (.int k i) = some (.pointer (some (sadr sl (i.toNat * es)))) := by
  cases h with
  | nil => omega
  | void => omega
  | row hg hb he hc hl => simp [aIndexAddr, ht, h0, h1, hz, hs, sadr, sblk, soff]

theorem getElem?_part {cs : List Value} {off m o : Nat} (h : o < m) : ((cs.drop off).take m)[o]? = cs[off + o]? := by
  rw [List.getElem?_take, if_pos h, List.getElem?_drop]

theorem Sl.load (h : Sl P H es sl n cells) {t : TypeId} (ht : isRowT P t = some false) {o : Nat} (ho : o < cells.length) : aLoad P H t (.pointer (some (sadr sl o))) = cells[o]? := by
  have hlen := h.length
  cases h with
  | nil => simp at ho
  | void => simp at ho
  | row hg hb he hc hl =>
    simp only [aLoad, ht, aCell, sadr, sblk, soff, hg]
    rw [getElem?_part (by omega)]

theorem Sl.loads (h : Sl P H es sl n cells) {t : TypeId} (ht : isRowT P t = some true) (hz : sized P t = true) (hp : 0 < szOf P t) {o : Nat} (ho : o + szOf P t ≤ cells.length) : aLoad P H t (.pointer (some (sadr sl o))) = some (.agg ⟨(cells.drop o).take (szOf P t)⟩) := by
  have hlen := h.length
  cases h with
  | nil => simp at ho; omega
  | void => simp at ho; omega
  | @row b off n c own el cs hg hb he hc hl =>
    have h1 : aCells H (sadr (.slice (some ⟨b, off, none⟩) n c) o) (szOf P t) = some ((cs.drop (off + o)).take (szOf P t)) := by
      unfold aCells
      have : (sadr (.slice (some ⟨b, off, none⟩) n c) o) = ⟨b, off + o, none⟩ := _root_.id rfl
      rw [this]
      simp only [hg]
      exact if_pos (by omega)
    simp only [aLoad, ht, hz, if_true, h1]
    simp only [Option.map_some, Option.some.injEq, Value.agg.injEq, Array.mk.injEq]
    rw [List.drop_take, List.drop_drop, List.take_take]
    congr 1
    omega

theorem Sl.upto (h : Sl P H es sl n cells) {t e : TypeId} (ht : P.underlying t = some (.slice e)) (hz : sized P e = true) {k : IntKind} {i : Int} (h0 : 0 ≤ i) (h1 : i ≤ n) :
    ∃ sl', aSlice P H t sl none (some (.int k i)) none = some sl' ∧ Sl P H es sl' i.toNat (cells.take (i.toNat * es)) := by
  cases h with
  | nil =>
    have : i = 0 := by omega
    subst this
    exact ⟨.slice none 0 0, by simp [aSlice, ht, hz, aBound, unk], by simpa using Sl.nil⟩
  | void =>
    have : i = 0 := by omega
    subst this
    exact ⟨.slice (some ⟨0, 0, none⟩) 0 unk, by simp [aSlice, ht, hz, aBound], by simpa using Sl.void⟩
  | @row b off n c own el cs hg hb he hc hl =>
    refine ⟨.slice (some ⟨b, off, none⟩) i.toNat c, ?_, ?_⟩
    · rcases hc with rfl | ⟨hc, hc'⟩
      · simp [aSlice, ht, hz, aBound, h0, h1]
      · simp only [aSlice, ht, hz, if_true, aBound]
        rw [if_neg (by omega), if_pos hc', if_pos ⟨h0, by omega⟩]
        simp
    · rw [List.take_take]
      have hm : i.toNat * es ≤ n * es := Nat.mul_le_mul_right _ (by omega)
      rw [Nat.min_eq_left hm]
      exact .row hg hb he (by rcases hc with rfl | ⟨hc, hc'⟩; exact .inl rfl; exact .inr ⟨by omega, hc'⟩) (by omega)

theorem Sl.src (h : Sl P H es sl n cells) : srcCells H es sl = some cells := by
  cases h with
  | nil => simp [srcCells]
  | void => simp [srcCells]
  | row hg hb he hc hl =>
    simp only [srcCells]
    split
    · rename_i h0; subst h0; simp
    · simp only [aCells, hg]; rw [if_pos hl]

/-! ### slices of one's own -/
/-- A slice in memory that is newer than a heap, for writing. -/
inductive Ow (P : Program) (H0 H : Heap) (es : Nat) (el : TypeId) : Value → Nat → List Value → Prop
  | nil : Ow P H0 H es el (.slice none 0 0) 0 []
  | row {b off n c : Nat} {cs : List Value} (hg : H.get b = some (.row true el cs)) (hb0 : H0.next ≤ b) (hb : b < H.next) (hc : c = unk ∨ (n ≤ c ∧ c < unk ∧ off + c * es ≤ cs.length)) (hl : off + n * es ≤ cs.length) :
      Ow P H0 H es el (.slice (some ⟨b, off, none⟩) n c) n ((cs.drop off).take (n * es))

variable {el : TypeId}

theorem Ow.toSl (h : Ow P H0 H es el sl n cells) (he : szOf P el = es) : Sl P H es sl n cells := by
  cases h with
  | nil => exact .nil
  | row hg hb0 hb hc hl => exact .row hg hb (.inr he) (by rcases hc with h | h; exact .inl h; exact .inr ⟨h.1, h.2.1⟩) hl

theorem Ow.mono (h : Ow P H0 H es el sl n cells) (hle : Hle H H') : Ow P H0 H' es el sl n cells := by
  cases h with
  | nil => exact .nil
  | row hg hb0 hb hc hl => exact .row (by rw [hle.get _ hb]; exact hg) hb0 (Nat.lt_of_lt_of_le hb hle.next) hc hl

/-- It stands where its block stands. -/
theorem Ow.keep (h : Ow P H0 H es el sl n cells) (hg' : ∀ b, b = sblk sl → H0.next ≤ b → b < H.next → H'.get b = H.get b) (hn : H.next ≤ H'.next) : Ow P H0 H' es el sl n cells := by
  cases h with
  | nil => exact .nil
  | row hg hb0 hb hc hl => exact .row ((hg' _ rfl hb0 hb).trans hg) hb0 (Nat.lt_of_lt_of_le hb hn) hc hl

theorem Ow.older {H1 : Heap} (h : Ow P H1 H es el sl n cells) (hle : H0.next ≤ H1.next) : Ow P H0 H es el sl n cells := by
  cases h with
  | nil => exact .nil
  | row hg hb0 hb hc hl => exact .row hg (by omega) hb hc hl

/-- The heap once a cell of a slice is written. -/
def wr (H : Heap) (sl : Value) (o : Nat) (v : Value) : Heap :=
  match H.get (sblk sl) with
  | some (.row own el cs) => H.set (sblk sl) (.row own el (cs.set (soff sl + o) v))
  | _ => H

theorem wr_next (H : Heap) (sl : Value) (o : Nat) (v : Value) : (wr H sl o v).next = H.next := by
  unfold wr; split <;> rfl

theorem wr_ne {H : Heap} {sl : Value} {o : Nat} {v : Value} {b : Nat} (h : b ≠ sblk sl) : (wr H sl o v).get b = H.get b := by
  unfold wr; split
  · rw [get_set_ne h]
  · rfl

theorem Ow.blk (h : Ow P H0 H es el sl n cells) (hn : 0 < n) : H0.next ≤ sblk sl ∧ sblk sl < H.next := by
  cases h with
  | nil => omega
  | row hg hb0 hb hc hl => exact ⟨hb0, hb⟩

theorem cells_one {v : Value} (h : ∀ cs, v ≠ .agg cs) : v.cells = #[v] := by
  cases v <;> first | rfl | exact absurd rfl (h _)

theorem Ow.store (h : Ow P H0 H es el sl n cells) {t : TypeId} (hz : sized P t = true) (hs : szOf P t = 1) {v : Value} (hv : v.cells = #[v]) (h1 : v.oneCell' = true) {o : Nat} (ho : o < cells.length) :
    aStore P H t (.pointer (some (sadr sl o))) v = some (wr H sl o v) := by
  cases h with
  | nil => simp at ho
  | @row b off n c cs hg hb0 hb hc hl =>
    simp at ho
    have e : sadr (.slice (some ⟨b, off, none⟩) n c) o = ⟨b, off + o, none⟩ := _root_.id rfl
    rw [e]
    simp only [aStore, hg]
    rw [if_pos ⟨hz, by rw [hv, hs]; rfl, by rw [hv]; simp; omega, by rw [hv]; simp [h1]⟩]
    simp [wr, sblk, soff, hg, hv, splice]

theorem Ow.wr (h : Ow P H0 H es el sl n cells) {v : Value} {o : Nat} (ho : o < cells.length) : Ow P H0 (wr H sl o v) es el sl n (cells.set o v) := by
  cases h with
  | nil => simp at ho
  | @row b off n c cs hg hb0 hb hc hl =>
    simp at ho
    have : (((cs.drop off).take (n * es)).set o v) = ((cs.set (off + o) v).drop off).take (n * es) := by
      rw [List.drop_set, if_neg (by omega), List.take_set]
      simp
    rw [this]
    refine .row (b := b) ?_ hb0 (by rw [wr_next]; exact hb) (by simpa using hc) (by simpa using hl)
    simp only [Abs.wr, sblk, soff, hg]
    rw [get_set_self]

theorem Hle.wr {H H1 : Heap} (h : Hle H H1) {sl : Value} (hb : H.next ≤ sblk sl) (o : Nat) (v : Value) : Hle H (wr H1 sl o v) := by
  unfold Abs.wr; split
  · exact h.set hb _
  · exact h

/-- What append leaves. -/
def apV (P : Program) (H : Heap) (ats : Array TypeId) (s x : Value) : Value := ((aAppend P H ats s x).map (·.1)).getD undef
def apH (P : Program) (H : Heap) (ats : Array TypeId) (s x : Value) : Heap := ((aAppend P H ats s x).map (·.2)).getD H

theorem splice_eq : ∀ (vs cs : List Value) (off : Nat), off + vs.length ≤ cs.length → splice cs off vs = cs.take off ++ vs ++ cs.drop (off + vs.length)
  | [], cs, off, h => by simp [splice]
  | v :: vs, cs, off, h => by
    simp only [List.length_cons] at h
    rw [splice, splice_eq vs _ _ (by simp; omega)]
    rw [List.take_set, List.drop_set_of_lt (by omega)]
    rw [show (List.take (off + 1) cs).set off v = cs.take off ++ [v] from ?_]
    · simp [Nat.add_assoc, Nat.add_comm 1]
    · rw [List.take_add_one, List.set_append_right _ _ (by rw [List.length_take]; exact Nat.min_le_left _ _)]
      rw [show cs[off]? = some (cs[off]'(by omega)) from List.getElem?_eq_getElem _]
      simp [Nat.min_eq_left (show off ≤ cs.length by omega)]

theorem Ow.append (h : Ow P H0 H es el sl n cells) (hle : Hle H0 H) {t t2 : TypeId} {i : TypeInfo} {z : Value} (ht : P.underlying t = some (.slice el)) (hi : P.info? el = some i) (hz : i.zero = some z) (hzs : z.cells.size = i.size) (hs : szOf P el = es) (he0 : 0 < es)
    (ho2 : okSrc P t2 = true) {x : Value} {m : Nat} {news : List Value} (hm : Abs.lenV x = some m) (hx : srcCells H es x = some news) (hml : news.length = m * es) (h1 : news.all (·.oneCell') = true)
    (hsmall : n + m ≤ 9223372036854775807) (hbytes : (2 * (n + m) + 200) * i.bytes ≤ 281474976710656) :
    aAppend P H #[t, t2] sl x = some (apV P H #[t, t2] sl x, apH P H #[t, t2] sl x) ∧ Ow P H0 (apH P H #[t, t2] sl x) es el (apV P H #[t, t2] sl x) (n + m) (cells ++ news) ∧ Hle H0 (apH P H #[t, t2] sl x) ∧
      (∀ b, b < H.next → b ≠ sblk sl → (apH P H #[t, t2] sl x).get b = H.get b) ∧ H.next ≤ (apH P H #[t, t2] sl x).next := by
  suffices hh : ∃ v H', aAppend P H #[t, t2] sl x = some (v, H') ∧ Ow P H0 H' es el v (n + m) (cells ++ news) ∧ Hle H0 H' ∧ (∀ b, b < H.next → b ≠ sblk sl → H'.get b = H.get b) ∧ H.next ≤ H'.next by
    obtain ⟨v, H', h1, h2⟩ := hh
    simp only [apV, apH, h1, Option.map_some, Option.getD_some]
    exact ⟨trivial, h2⟩
  have hb : ∀ base c, sl = .slice base n c → aAppend P H #[t, t2] sl x = aApp P H el i.bytes news m base n c := by
    rintro base c rfl
    simp only [aAppend, hm, List.getElem?_toArray, List.getElem?_cons_zero, ht, hi, hz]
    rw [if_pos (by simp [okArgs, ho2]), hs, hx]
    simp only
    rw [if_pos ⟨hzs, h1⟩]
  cases h with
  | nil =>
    rw [hb none 0 rfl]
    simp only [aApp, and_self, if_true]
    by_cases h0 : m = 0
    · subst h0
      have : news = [] := List.length_eq_zero_iff.1 (by omega)
      subst this
      exact ⟨.slice none 0 0, H, by simp, .nil, hle, fun _ _ _ => rfl, Nat.le_refl _⟩
    · rw [if_neg h0, if_pos ⟨by omega, by simpa using hbytes⟩]
      refine ⟨_, _, rfl, ?_, hle.push _, fun b hb _ => get_push_ne (by omega), by simp⟩
      have hl0 : 0 + (0 + m) * es ≤ news.length := by rw [hml]; simp
      have h2 := Ow.row (P := P) (H0 := H0) (H := H.push (.row true el news)) (es := es) (el := el) (b := H.next) (off := 0) (n := 0 + m) (c := unk) (get_push_self _ _) hle.next (by simp) (.inl rfl) hl0
      rw [Nat.zero_add] at h2 ⊢
      simpa [← hml] using h2
  | @row b off n c cs hg hb0 hbn hc hl =>
    have hlen0 : ((cs.drop off).take (n * es)).length = n * es := by rw [List.length_take, List.length_drop]; omega
    have hlen : ((cs.drop off).take (n * es) ++ news).length = (n + m) * es := by rw [List.length_append, hlen0, hml, Nat.add_mul]
    rw [hb (some ⟨b, off, none⟩) c rfl]
    simp only [aApp]
    by_cases h0 : m = 0
    · subst h0
      have : news = [] := List.length_eq_zero_iff.1 (by omega)
      subst this
      rw [if_pos rfl, if_pos (by rcases hc with h | h; exact .inl h; exact .inr h.1)]
      exact ⟨_, _, rfl, by simpa using Ow.row hg hb0 hbn hc hl, hle, fun _ _ _ => rfl, Nat.le_refl _⟩
    · rw [if_neg h0]
      by_cases hcu : c = unk
      · subst hcu
        rw [if_pos rfl]
        simp only [hg]
        rw [if_pos ⟨trivial, by rw [hs]; exact hl, by omega, hbytes⟩]
        refine ⟨_, _, rfl, ?_, (hle.kill hb0).push _, fun b' hb' hne => ?_, by simp⟩
        · have hl0 : 0 + (n + m) * es ≤ ((cs.drop off).take (n * es) ++ news).length := by omega
          have h2 := Ow.row (P := P) (H0 := H0) (H := (H.kill b).push (.row true el ((cs.drop off).take (n * es) ++ news))) (es := es) (el := el) (b := H.next) (off := 0) (n := n + m) (c := unk) (get_push_self (H.kill b) _) hle.next (by simp) (.inl rfl) hl0
          rw [hs]
          rw [List.drop_zero, List.take_of_length_le (show ((cs.drop off).take (n * es) ++ news).length ≤ (n + m) * es by omega)] at h2
          exact h2
        · rw [get_push_ne (by simp; omega), get_kill_ne (show b' ≠ b from hne)]
      · rw [if_neg hcu]
        have hc' : n ≤ c ∧ c < unk ∧ off + c * es ≤ cs.length := by rcases hc with h | h; exact absurd h hcu; exact h
        by_cases hfit : n + m ≤ c
        · rw [if_pos hfit]
          simp only [hg]
          have hmul : (n + m) * es ≤ c * es := Nat.mul_le_mul_right _ hfit
          rw [Nat.add_mul] at hmul
          rw [hs, if_pos (by omega)]
          refine ⟨_, _, rfl, ?_, hle.set hb0 _, fun b' hb' hne => get_set_ne hne, by simp⟩
          have h2 := Ow.row (P := P) (H0 := H0) (H := H.set b (.row true el (splice cs (off + n * es) news))) (es := es) (el := el) (b := b) (off := off) (n := n + m) (c := c) (get_set_self _ _ _) hb0 hbn (.inr ⟨hfit, hc'.2.1, by simpa using hc'.2.2⟩) (by simp [Nat.add_mul]; omega)
          rw [splice_eq _ _ _ (by omega)] at h2 ⊢
          have : ((cs.take (off + n * es) ++ news ++ cs.drop (off + n * es + news.length)).drop off).take ((n + m) * es) = (cs.drop off).take (n * es) ++ news := by
            rw [List.append_assoc, List.drop_append_of_le_length (by simp; omega), List.drop_take]
            rw [show off + n * es - off = n * es by omega]
            rw [← List.append_assoc, List.take_append_of_le_length (by simp [Nat.add_mul]; omega), List.take_of_length_le (by simp [Nat.add_mul]; omega)]
          rw [this] at h2
          exact h2
        · rw [if_neg hfit]
          have hcells : aCells H ⟨b, off, none⟩ (n * szOf P el) = some ((cs.drop off).take (n * es)) := by
            simp only [aCells, hg, hs]; rw [if_pos hl]
          simp only [hcells]
          rw [if_pos ⟨by omega, hbytes⟩]
          refine ⟨_, _, rfl, ?_, hle.push _, fun b' hb' _ => get_push_ne (by omega), by simp⟩
          have h2 := Ow.row (P := P) (H0 := H0) (H := H.push (.row true el ((cs.drop off).take (n * es) ++ news))) (es := es) (el := el) (b := H.next) (off := 0) (n := n + m) (c := unk) (get_push_self _ _) hle.next (by simp) (.inl rfl) (by omega)
          rw [List.drop_zero, List.take_of_length_le (show ((cs.drop off).take (n * es) ++ news).length ≤ (n + m) * es by omega)] at h2
          exact h2
end Go.Abs

/- The rules for stepping as one set; slices of limbs. -/
namespace Go.Abs
open Go

theorem next_push (H : Heap) (o : AObj) : (H.push o).next = H.next + 1 := _root_.id rfl
theorem next_set (H : Heap) (c : Nat) (o : AObj) : (H.set c o).next = H.next := _root_.id rfl
theorem next_kill (H : Heap) (c : Nat) : (H.kill c).next = H.next := _root_.id rfl
attribute [go_sem] aw_seq aw_block aw_skip aw_exit aw_ret aw_cond aw_region Kn_normal Kn_ret Kn_exit Kb_normal Kb_ret Kb_exit Kl_normal Kl_ret Kl_exit bodyQ_normal bodyQ_ret
attribute [go_sem] ops_nil ops_cons gsel_true gsel_false Ko_some Ko_none aPut_some aPut_none env_tmp env_int env_bool env_str env_nil env_pnil
attribute [go_sem] s_move s_assign s_pick s_bin s_un s_conv s_faddr s_field s_iaddr s_index s_extract s_build s_len s_load s_slice s_box s_store s_append s_call s_makeMap s_lookup s_insert s_mapUpdate
theorem ob_one {α : Type} {a : α} {k : α → Prop} : ob (some a) k = k a := _root_.id rfl
theorem ob_zero {α : Type} {k : α → Prop} : ob none k = False := _root_.id rfl
attribute [go_sem] ob_one ob_zero bin_add bin_sub bin_mul bin_quo bin_rem bin_lss bin_leq bin_gtr bin_geq bin_eql bin_neq bin_and bin_or bin_xor un_not un_neg bin_seql bin_sneq
attribute [go_sem] wrap_i64 get_push_self get_push_eq get_push_ne get_set_self get_set_ne get_kill_ne next_push next_set next_kill wr_next
section
variable {α β : Type} {a : α} {l : List α} {i : Nat} {v : α} {f : α → Option β} {g : α → β}
theorem L.get0 : (a :: l)[0]? = some a := _root_.id rfl
theorem L.get1 : (a :: l)[i + 1]? = l[i]? := _root_.id rfl
theorem L.set0 : (a :: l).set 0 v = v :: l := _root_.id rfl
theorem L.set1 : (a :: l).set (i + 1) v = a :: l.set i v := _root_.id rfl
theorem L.bind : (some a).bind f = f a := _root_.id rfl
theorem L.bindn : (none : Option α).bind f = none := _root_.id rfl
theorem L.map : (some a).map g = some (g a) := _root_.id rfl
theorem L.mapn : (none : Option α).map g = none := _root_.id rfl
theorem L.len1 : (a :: l).length = l.length + 1 := _root_.id rfl
theorem L.len0 : ([] : List α).length = 0 := _root_.id rfl
theorem L.drop0 : l.drop 0 = l := _root_.id rfl
theorem L.drop1 : (a :: l).drop (i + 1) = l.drop i := _root_.id rfl
theorem L.take0 : l.take 0 = [] := List.take_zero
theorem L.take1 : (a :: l).take (i + 1) = a :: l.take i := _root_.id rfl
end
attribute [go_sem] L.get0 L.get1 L.set0 L.set1 L.bind L.bindn L.map L.mapn L.len1 L.len0 L.drop0 L.drop1 L.take0 L.take1 List.length_append

theorem aw_region' {P : Program} {id : Nat} {ops : List Oper} {Q : Exit → Tm → Heap → Prop} {T : Tm} {H : Heap} : aw P (.region id ops.toArray false) Q T H = aOps P ⟨ops⟩ (Q .normal) ops T H := _root_.id rfl
attribute [go_sem] aw_region'

theorem evs_nil {e : Env} : evs e [] = some [] := _root_.id rfl
theorem evs_cons {e : Env} {x : Operand} {xs : List Operand} : evs e (x :: xs) = (e x).bind fun v => (evs e xs).bind fun vs => some (v :: vs) := by
  simp only [evs]
  cases e x with
  | none => rfl
  | some v => cases evs e xs <;> rfl
theorem evps_nil {e : Env} : evps e [] = some [] := _root_.id rfl
theorem evps_cons {e : Env} {i : Nat} {x : Operand} {xs : List (Nat × Operand)} : evps e ((i, x) :: xs) = (e x).bind fun v => (evps e xs).bind fun vs => some ((i, v) :: vs) := by
  simp only [evps]
  cases e x with
  | none => rfl
  | some v => cases evps e xs <;> rfl
attribute [go_sem] evs_nil evs_cons evps_nil evps_cons

/-! ### cells of rows that are written out -/
def rowAt : Option AObj → Nat → Option Value
  | some (.row _ _ cs), off => cs[off]?
  | _, _ => none
def rowsAt : Option AObj → Nat → Nat → Option (List Value)
  | some (.row _ _ cs), off, n => if off + n ≤ cs.length then some ((cs.drop off).take n) else none
  | _, _, _ => none
theorem rowAt_row {o : Bool} {el : TypeId} {cs : List Value} {off : Nat} : rowAt (some (.row o el cs)) off = cs[off]? := _root_.id rfl
theorem rowsAt_row {o : Bool} {el : TypeId} {cs : List Value} {off n : Nat} : rowsAt (some (.row o el cs)) off n = if off + n ≤ cs.length then some ((cs.drop off).take n) else none := _root_.id rfl
theorem load_one {P : Program} {H : Heap} {t : TypeId} (ht : isRowT P t = some false) {b off : Nat} : aLoad P H t (.pointer (some ⟨b, off, none⟩)) = rowAt (H.get b) off := by
  simp only [aLoad, ht, aCell]
  unfold rowAt
  cases H.get b with
  | none => rfl
  | some o => cases o <;> rfl
theorem load_row {P : Program} {H : Heap} {t : TypeId} (ht : isRowT P t = some true) (hz : sized P t = true) {b off : Nat} : aLoad P H t (.pointer (some ⟨b, off, none⟩)) = (rowsAt (H.get b) off (szOf P t)).map fun l => .agg ⟨l⟩ := by
  simp only [aLoad, ht, hz, if_true, aCells]
  unfold rowsAt
  cases H.get b with
  | none => rfl
  | some o => cases o <;> rfl
theorem cells_agg {l : List Value} : (Value.agg ⟨l⟩).cells.toList = l := _root_.id rfl
theorem cells_int {k : IntKind} {n : Int} : (Value.int k n).cells.toList = [.int k n] := _root_.id rfl
theorem cells_bool {b : Bool} : (Value.bool b).cells.toList = [.bool b] := _root_.id rfl
theorem cells_str {s : ByteArray} : (Value.string s).cells.toList = [.string s] := _root_.id rfl
attribute [go_sem] rowAt_row rowsAt_row cells_agg cells_int cells_bool cells_str

/-- What a function's results come to. -/
def bodyR (P : Program) (rs : List ResultVar) (K : Value → Heap → Prop) : Exit → Tm → Heap → Prop
  | .normal, T, H | .ret, T, H => ob (rs.mapM (aRes P T H)) fun vs => K (match vs with | [v] => v | vs => .tuple ⟨vs⟩) H
  | _, _, _ => False
theorem bodyR_normal1 {P : Program} {r : ResultVar} {K : Value → Heap → Prop} {T : Tm} {H : Heap} : bodyR P [r] K .normal T H = ob (aRes P T H r) fun v => K v H := by
  simp only [bodyR, List.mapM_cons, List.mapM_nil, Option.bind_eq_bind, Option.pure_def]
  cases aRes P T H r <;> rfl
theorem bodyR_ret1 {P : Program} {r : ResultVar} {K : Value → Heap → Prop} {T : Tm} {H : Heap} : bodyR P [r] K .ret T H = ob (aRes P T H r) fun v => K v H := by
  simp only [bodyR, List.mapM_cons, List.mapM_nil, Option.bind_eq_bind, Option.pure_def]
  cases aRes P T H r <;> rfl
theorem bodyR_ret2 {P : Program} {r s : ResultVar} {K : Value → Heap → Prop} {T : Tm} {H : Heap} : bodyR P [r, s] K .ret T H = ob (aRes P T H r) fun v => ob (aRes P T H s) fun u => K (.tuple ⟨[v, u]⟩) H := by
  simp only [bodyR, List.mapM_cons, List.mapM_nil, Option.bind_eq_bind, Option.pure_def]
  cases aRes P T H r <;> cases aRes P T H s <;> rfl
theorem bodyR_ret3 {P : Program} {r s t : ResultVar} {K : Value → Heap → Prop} {T : Tm} {H : Heap} : bodyR P [r, s, t] K .ret T H = ob (aRes P T H r) fun v => ob (aRes P T H s) fun u => ob (aRes P T H t) fun z => K (.tuple ⟨[v, u, z]⟩) H := by
  simp only [bodyR, List.mapM_cons, List.mapM_nil, Option.bind_eq_bind, Option.pure_def]
  cases aRes P T H r <;> cases aRes P T H s <;> cases aRes P T H t <;> rfl
theorem bodyR_normal0 {P : Program} {K : Value → Heap → Prop} {T : Tm} {H : Heap} : bodyR P [] K .normal T H = K (.tuple ⟨[]⟩) H := _root_.id rfl
theorem bodyR_ret0 {P : Program} {K : Value → Heap → Prop} {T : Tm} {H : Heap} : bodyR P [] K .ret T H = K (.tuple ⟨[]⟩) H := _root_.id rfl
theorem aRes_tmp {P : Program} {T : Tm} {H : Heap} {t : Tmp} : aRes P T H (.tmp t) = T[t]? := _root_.id rfl
theorem aRes_cell {P : Program} {T : Tm} {H : Heap} {t : Tmp} {ty : TypeId} : aRes P T H (.cell t ty) = (T[t]?).bind fun x => aLoad P H ty x := _root_.id rfl
attribute [go_sem] bodyR_normal1 bodyR_ret1 bodyR_ret2 bodyR_ret3 bodyR_normal0 bodyR_ret0 aRes_tmp aRes_cell

/-- A call is what its body comes to. -/
theorem ACalls.of_code {P : Program} (hm : P.follows .mixedOrders = true) {g : FuncId} {fn : Func} {c : Code} {rs : List ResultVar} {n : Nat} (hf : P.funcs[g]? = some fn) (hb : fn.body = some c) (hname : (fn.name == "runtime.NumGoroutine") = false) (hr : fn.results = ⟨rs⟩)
    {args : List Value} {H : Heap} {K : Value → Heap → Prop} (hn : fn.ntmps - args.length = n) (h : aw P c (bodyR P rs K) (args ++ List.replicate n undef) H) : ACalls P g args H K := by
  subst hn
  refine ACalls.of_body hm hf hb hname ?_
  have e : bodyQ P fn K = bodyR P rs K := by
    funext x T H
    have : ob (aResults P fn T H) (fun v => K v H) = ob (rs.mapM (aRes P T H)) fun vs => K (match vs with | [v] => v | vs => .tuple ⟨vs⟩) H := by
      unfold aResults
      rw [hr]
      simp only
      cases rs.mapM (aRes P T H) with
      | none => rfl
      | some vs => rcases vs with _ | ⟨v, _ | ⟨u, vs⟩⟩ <;> rfl
    cases x <;> first | exact this | rfl
  rw [e]; exact h

/-- A slice of limbs. -/
def U (P : Program) (H : Heap) (sl : Value) (l : List Int) : Prop := Sl P H 1 sl l.length (l.map (.int .u32))
def Lim (l : List Int) : Prop := ∀ x ∈ l, 0 ≤ x ∧ x < 4294967296

variable {P : Program} {H H' H0 : Heap} {sl : Value} {l : List Int}

theorem U.mono (h : U P H sl l) (hle : Hle H H') : U P H' sl l := Sl.mono h hle
theorem U.len (h : U P H sl l) {t : TypeId} (ht : isSliceT P t = true) : aLen P t sl = some (.int .i64 l.length) := Sl.len h ht
theorem U.addr (h : U P H sl l) {t e : TypeId} (ht : P.underlying t = some (.slice e)) (hs : szOf P e = 1) (hz : sized P e = true) {k : IntKind} {i : Int} (h0 : 0 ≤ i) (h1 : i < l.length) :
    aIndexAddr P t sl (.int k i) = some (.pointer (some (sadr sl i.toNat))) := by
  have := Sl.addr h ht hs hz (k := k) h0 h1
  rwa [Nat.mul_one] at this
theorem U.load (h : U P H sl l) {t : TypeId} (ht : isRowT P t = some false) {o : Nat} (ho : o < l.length) : aLoad P H t (.pointer (some (sadr sl o))) = some (.int .u32 (l.getD o 0)) := by
  rw [Sl.load h ht (by simpa using ho)]
  rw [List.getElem?_map, List.getElem?_eq_getElem ho]
  simp [List.getD_eq_getElem?_getD, List.getElem?_eq_getElem ho]
theorem U.loadh (h : U P H sl l) {t : TypeId} (ht : isRowT P t = some false) {o : Nat} (hle : Hle H H') (ho : o < l.length) : aLoad P H' t (.pointer (some (sadr sl o))) = some (.int .u32 (l.getD o 0)) := (h.mono hle).load ht ho
theorem U.upto (h : U P H sl l) {t e : TypeId} (ht : P.underlying t = some (.slice e)) (hz : sized P e = true) {k : IntKind} {i : Int} (h0 : 0 ≤ i) (h1 : i ≤ l.length) :
    ∃ sl', aSlice P H t sl none (some (.int k i)) none = some sl' ∧ U P H sl' (l.take i.toNat) := by
  obtain ⟨sl', h2, h3⟩ := Sl.upto h ht hz (k := k) h0 h1
  refine ⟨sl', h2, ?_⟩
  unfold U
  rw [List.length_take, Nat.min_eq_left (by omega), List.map_take]
  rwa [Nat.mul_one] at h3

/-- A number: its sign, its limbs. -/
def IA (P : Program) (H : Heap) (v : Value) (ng : Bool) (l : List Int) : Prop := ∃ sl, v = .agg ⟨[.bool ng, sl]⟩ ∧ U P H sl l ∧ Lim l
theorem IA.mono {v : Value} {ng : Bool} (h : IA P H v ng l) (hle : Hle H H') : IA P H' v ng l := by
  obtain ⟨sl, h1, h2, h3⟩ := h
  exact ⟨sl, h1, h2.mono hle, h3⟩
end Go.Abs

/- Loops: the temporaries by their shape; what stands in the others does not matter. -/
namespace Go.Abs
open Go

variable {P : Program} {σ : Type}

/-- A state of a loop, by the temporaries' shape. -/
def IJ (sh : σ → (Nat → Value) → Tm) (I : Nat → σ → Heap → Prop) : Nat → Tm → Heap → Prop := fun k T H => ∃ s, sh s (fun i => T.getD i undef) = T ∧ I k s H

theorem aw_loopJ {c : Code} {Q : Exit → Tm → Heap → Prop} {T : Tm} {H : Heap} (sh : σ → (Nat → Value) → Tm) (I : Nat → σ → Heap → Prop) (n : Nat) (s0 : σ) (hs : sh s0 (fun i => T.getD i undef) = T) (h0 : I n s0 H)
    (h : ∀ n s J H, I n s H → aw P c (Kl n (IJ sh I) Q) (sh s J) H) : aw P (.loop c) Q T H :=
  aw_loop (IJ sh I) n ⟨s0, hs, h0⟩ (by rintro n T H ⟨s, hs, hi⟩; rw [← hs]; exact h n s _ H hi)

theorem IJ_intro {sh : σ → (Nat → Value) → Tm} {I : Nat → σ → Heap → Prop} {n k : Nat} {T : Tm} {H : Heap} (hk : k < n) (s : σ) (hs : sh s (fun i => T.getD i undef) = T) (hi : I k s H) : ∃ k, k < n ∧ IJ sh I k T H := ⟨k, hk, s, hs, hi⟩

theorem get8 {α : Type} {a0 a1 a2 a3 a4 a5 a6 a7 : α} {l : List α} {i : Nat} : (a0 :: a1 :: a2 :: a3 :: a4 :: a5 :: a6 :: a7 :: l)[i + 8]? = l[i]? := _root_.id rfl
theorem set8 {α : Type} {a0 a1 a2 a3 a4 a5 a6 a7 v : α} {l : List α} {i : Nat} : (a0 :: a1 :: a2 :: a3 :: a4 :: a5 :: a6 :: a7 :: l).set (i + 8) v = a0 :: a1 :: a2 :: a3 :: a4 :: a5 :: a6 :: a7 :: l.set i v := _root_.id rfl
attribute [go_sem] get8 set8

/-! ### guards -/
def Kg (P : Program) (l : List Oper) (Q : Exit → Tm → Heap → Prop) (os : List Oper) (d : Option Tmp) (op : Op) (ty : TypeId) (ps : String) (af : Array Edge) (T : Tm) (H : Heap) : Option Bool → Prop
  | some true => aStep P (env T) H ⟨d, op, ty, ps, af, none⟩ (Ko P ⟨l⟩ Q os d T)
  | some false => aOps P ⟨l⟩ (Q .normal) os (aPut T d undef) H
  | none => False
def gdst (l : List Oper) (j : Nat) : Option Tmp := (l[j]?).bind (·.dst)
def gw (T : Tm) (want : Bool) : Option Tmp → Option Bool
  | none => some false
  | some d => match T[d]? with
    | some (.bool b) => some (b == want)
    | some (.tuple _) => some false
    | none => some false
    | some _ => none
def gv (want : Bool) : Option Value → Option Bool
  | some (.bool b) => some (b == want)
  | some (.tuple _) => some false
  | none => some false
  | some _ => none
theorem gv_undef {want : Bool} : gv want (some undef) = some false := _root_.id rfl
theorem gw_some {T : Tm} {want : Bool} {d : Tmp} : gw T want (some d) = gv want (T[d]?) := by
  simp only [gw]
  cases T[d]? with
  | none => rfl
  | some v => cases v <;> rfl
theorem gv_true {b : Bool} : gv true (some (.bool b)) = some b := by cases b <;> rfl
theorem gv_false {b : Bool} : gv false (some (.bool b)) = some (!b) := by cases b <;> rfl
theorem ops_guarded {l : List Oper} {Q : Exit → Tm → Heap → Prop} {T : Tm} {H : Heap} {d : Option Tmp} {op : Op} {ty : TypeId} {ps : String} {af : Array Edge} {os : List Oper} {j : Nat} {want : Bool} :
    aOps P ⟨l⟩ (Q .normal) (⟨d, op, ty, ps, af, some (j, want)⟩ :: os) T H = Kg P l Q os d op ty ps af T H (gw T want (gdst l j)) := by
  simp only [aOps]
  have : aWanted ⟨l⟩ ⟨d, op, ty, ps, af, some (j, want)⟩ T = gw T want (gdst l j) := by
    simp only [aWanted, gdst, List.getElem?_toArray]
    unfold gw
    cases (l[j]?).bind fun x => x.dst with
    | none => rfl
    | some d =>
      simp only
      cases T[d]? with
      | none => rfl
      | some v => cases v <;> rfl
  rw [this]
  cases gw T want (gdst l j) with
  | none => rfl
  | some b => cases b <;> rfl
theorem Kg_true {l : List Oper} {Q : Exit → Tm → Heap → Prop} {T : Tm} {H : Heap} {d : Option Tmp} {op : Op} {ty : TypeId} {ps : String} {af : Array Edge} {os : List Oper} :
    Kg P l Q os d op ty ps af T H (some true) = aStep P (env T) H ⟨d, op, ty, ps, af, none⟩ (Ko P ⟨l⟩ Q os d T) := _root_.id rfl
theorem Kg_false {l : List Oper} {Q : Exit → Tm → Heap → Prop} {T : Tm} {H : Heap} {d : Option Tmp} {op : Op} {ty : TypeId} {ps : String} {af : Array Edge} {os : List Oper} :
    Kg P l Q os d op ty ps af T H (some false) = aOps P ⟨l⟩ (Q .normal) os (aPut T d undef) H := _root_.id rfl
theorem gdst_zero {o : Oper} {l : List Oper} : gdst (o :: l) 0 = o.dst := _root_.id rfl
theorem gdst_succ {o : Oper} {l : List Oper} {j : Nat} : gdst (o :: l) (j + 1) = gdst l j := by simp [gdst]
attribute [go_sem] ops_guarded Kg_true Kg_false gdst_zero gdst_succ gw_some gv_undef gv_true gv_false decide_true decide_false Bool.not_true Bool.not_false

theorem aOps_mono {ops : Array Oper} {Q Q' : Tm → Heap → Prop} (hq : ∀ T H, Q T H → Q' T H) : ∀ (os : List Oper) {T : Tm} {H : Heap}, aOps P ops Q os T H → aOps P ops Q' os T H
  | [], _, _, h => hq _ _ h
  | o :: os, T, H, h => by
    simp only [aOps] at h ⊢
    split at h
    · exact h.mono fun v H' h => aOps_mono hq os h
    · exact aOps_mono hq os h
    · exact h
theorem aSeg_mono {ops : Array Oper} {Q Q' : Tm → Heap → Prop} (hq : ∀ T H, Q T H → Q' T H) : ∀ (os : List Nat) {T : Tm} {H : Heap}, aSeg P ops Q os T H → aSeg P ops Q' os T H
  | [], _, _, h => hq _ _ h
  | i :: os, T, H, h => by
    simp only [aSeg] at h ⊢
    split at h
    · exact h
    · split at h
      · exact h.mono fun v H' h => aSeg_mono hq os h
      · exact aSeg_mono hq os h
      · exact h
theorem aRest_mono {ops : Array Oper} {Q Q' : Tm → Heap → Prop} (hq : ∀ T H, Q T H → Q' T H) : ∀ (r : List (Nat × List Nat × List Nat)) {T : Tm} {H : Heap}, aRest P ops Q r T H → aRest P ops Q' r T H
  | [], _, _, h => hq _ _ h
  | (E, chks, s) :: r, T, H, h => by
    simp only [aRest] at h ⊢
    exact aSeg_mono (fun T H h => ⟨h.1, aSeg_mono (fun T H h => aRest_mono hq r h) s h.2⟩) [E] h

theorem aw_mono : ∀ (c : Code) {Q Q' : Exit → Tm → Heap → Prop} {T : Tm} {H : Heap}, (∀ e T H, Q e T H → Q' e T H) → aw P c Q T H → aw P c Q' T H
  | .skip, _, _, _, _, hq, h => hq _ _ _ h
  | .label _, _, _, _, _, hq, h => hq _ _ _ h
  | .exit _, _, _, _, _, hq, h => hq _ _ _ h
  | .ret, _, _, _, _, hq, h => hq _ _ _ h
  | .seq x y, Q, Q', T, H, hq, h => by
    simp only [aw] at h ⊢
    refine aw_mono x (fun e T H h => ?_) h
    cases e with
    | normal => exact aw_mono y hq h
    | _ => exact hq _ _ _ h
  | .block id c, Q, Q', T, H, hq, h => by
    simp only [aw] at h ⊢
    refine aw_mono c (fun e T H h => ?_) h
    cases e with
    | exit id' =>
      simp only at h ⊢
      split at h
      · rename_i e; rw [if_pos e]; exact hq _ _ _ h
      · rename_i e; rw [if_neg e]; exact hq _ _ _ h
    | _ => exact hq _ _ _ h
  | .cond c x y, Q, Q', T, H, hq, h => by
    simp only [aw] at h ⊢
    split at h
    · split at h
      · rename_i hb; rw [if_pos hb]; exact aw_mono x hq h
      · rename_i hb; rw [if_neg hb]; exact aw_mono y hq h
    · exact h
  | .loop c, Q, Q', T, H, hq, h => by
    simp only [aw] at h ⊢
    obtain ⟨I, n, h0, h1⟩ := h
    refine ⟨I, n, h0, fun n T H hI => aw_mono c (fun e T H h => ?_) (h1 n T H hI)⟩
    cases e with
    | normal => exact h
    | _ => exact hq _ _ _ h
  | .region _ ops false, Q, Q', T, H, hq, h => by
    simp only [aw] at h ⊢
    exact aOps_mono (fun T H => hq _ T H) ops.toList h
  | .region _ ops true, Q, Q', T, H, hq, h => by
    simp only [aw] at h ⊢
    exact ⟨h.1, aSeg_mono (fun T H h => aRest_mono (fun T H => hq _ T H) _ h) _ h.2⟩
  | .rangeFunc f ps asg body, Q, Q', T, H, hq, h => by
    simp only [aw] at h ⊢
    split at h
    · exact ⟨h.1, fun l r h1 h2 h3 h4 h5 => (h.2 l r h1 h2 h3 h4 h5).mono fun v H' k => hq _ _ _ k⟩
    · exact h.elim
end Go.Abs

/- Making slices; nil slices; copies. -/
namespace Go.Abs
open Go

def isSl : Value → Bool
  | .slice .. | .iface .. => true
  | _ => false
def isSlc : Value → Bool
  | .slice .. => true
  | _ => false
theorem isSl_slice {b : Option Addr} {n c : Nat} : isSl (.slice b n c) = true := rfl
theorem isSl_fz {n : Nat} {cells : List Value} : isSl (fzv n cells) = true := rfl
theorem isSlc_form {v : Value} (h : isSlc v = true) : ∃ base n c, v = .slice base n c := by
  cases v <;> first | (exact ⟨_, _, _, rfl⟩) | cases h
theorem isSl_form {v : Value} (h : isSl v = true) : (∃ base n c, v = .slice base n c) ∨ ∃ t u, v = .iface t u := by
  cases v <;> first | (exact .inl ⟨_, _, _, rfl⟩) | (exact .inr ⟨_, _, rfl⟩) | cases h
theorem isSl_cells {v : Value} (h : isSl v = true) : v.cells.toList = [v] := by
  rcases isSl_form h with ⟨_, _, _, rfl⟩ | ⟨_, _, rfl⟩ <;> rfl

variable {P : Program} {H H' H0 : Heap} {es n : Nat} {sl : Value} {cells : List Value} {el : TypeId}

theorem Sl.isSl (h : Sl P H es sl n cells) : isSl sl = true := by cases h <;> rfl
theorem Ow.isSl (h : Ow P H0 H es el sl n cells) : Abs.isSl sl = true := by cases h <;> rfl
theorem U.isSl {l : List Int} (h : U P H sl l) : Abs.isSl sl = true := Sl.isSl h
theorem Sl.isSlc (h : Sl P H es sl n cells) : isSlc sl = true := by cases h <;> rfl
theorem U.isSlc {l : List Int} (h : U P H sl l) : Abs.isSlc sl = true := Sl.isSlc h

theorem equalIn_nilslice {t e : TypeId} (hu : P.underlying t = some (.slice e)) {k n c n' c' : Nat} : semPure P (Op.equalIn (k + 1) t (.slice none n c) (.slice none n' c')) = some true := by
  unfold Op.equalIn
  simp only [underlying, program, bind, Sem.bind, semPure, hu, pure]
  rfl

theorem bin_nil {t e : TypeId} (hu : P.underlying t = some (.slice e)) {x y : Operand} {n c n' c' : Nat} : aBin P .eql t x y (.slice none n c) (.slice none n' c') = some (.bool true) := by
  have h1 : semPure P (Op.equal t (.slice none n c) (.slice none n' c')) = some true := equalIn_nilslice hu (k := 9999)
  have h2 : semPure P (binOp .eql t (.slice none n c) (.slice none n' c')) = some (.bool true) := (semPure_bind _ _ h1).trans rfl
  have h3 : semPure P (do eqGuard .eql t x y (.slice none n c) (.slice none n' c'); binOp .eql t (.slice none n c) (.slice none n' c')) = some (.bool true) := by
    rw [← h2]; rfl
  unfold aBin
  rw [if_pos (by rfl)]
  simp only [scal, h3]
  rfl

theorem bin_notnil {t e : TypeId} (hu : P.underlying t = some (.slice e)) {x y : Operand} {a : Addr} {n c n' c' : Nat} : aBin P .eql t x y (.slice (some a) n c) (.slice none n' c') = some (.bool false) := by
  unfold aBin
  rw [if_neg (by simp [gr, ground])]
  simp only [nilTest, hu]

/-- Is it nil? -/
def isNil : Value → Bool
  | .slice none _ _ => true
  | _ => false
theorem bin_isNil {t e : TypeId} (hu : P.underlying t = some (.slice e)) {x y : Operand} {v : Value} (h : isSlc v = true) {n c : Nat} : aBin P .eql t x y v (.slice none n c) = some (.bool (isNil v)) := by
  obtain ⟨base, m, d, rfl⟩ := isSlc_form h
  cases base with
  | none => exact bin_nil hu
  | some a => exact bin_notnil hu
theorem Sl.isNil (h : Sl P H es sl n cells) (hn : isNil sl = true) : n = 0 ∧ cells = [] := by
  cases h with
  | nil => exact ⟨rfl, rfl⟩
  | void => cases hn
  | row => cases hn

theorem info_of_type {t : TypeId} {i : TypeInfo} (h : P.types[t]? = some i) : P.info? t = some i := by
  have hlt : t < P.types.size := by
    rcases Nat.lt_or_ge t P.types.size with h' | h'
    · exact h'
    · rw [Array.getElem?_eq_none h'] at h; cases h
  unfold Tables.info?
  rw [if_pos hlt]; exact h

/-! ### writing variables -/
theorem om_none {f : Operand → Option Value} : Option.mapM f none = some none := _root_.id rfl
theorem om_some {f : Operand → Option Value} {x : Operand} : Option.mapM f (some x) = (f x).map some := by
  show (some <$> f x) = _
  rfl
def stRow (H : Heap) (b off : Nat) (vs : List Value) : Option AObj → Option Heap
  | some (.row true el cs) => if off + vs.length ≤ cs.length then some (H.set b (.row true el (splice cs off vs))) else none
  | _ => none
theorem stRow_row {H : Heap} {b off : Nat} {vs : List Value} {el : TypeId} {cs : List Value} : stRow H b off vs (some (.row true el cs)) = if off + vs.length ≤ cs.length then some (H.set b (.row true el (splice cs off vs))) else none := _root_.id rfl
theorem store_row {t : TypeId} {k : Nat} {v : Value} {vs : List Value} (hz : sized P t = true) (hs : szOf P t = k) (hv : v.cells.toList = vs) (hl : vs.length = k) (h1 : vs.all (·.oneCell') = true) {b off : Nat} : aStore P H t (.pointer (some ⟨b, off, none⟩)) v = stRow H b off vs (H.get b) := by
  have hsz : v.cells.size = vs.length := by rw [← hv]; simp
  simp only [aStore]
  unfold stRow
  cases H.get b with
  | none => rfl
  | some o =>
    cases o with
    | map => rfl
    | row own el cs =>
      cases own with
      | false => rfl
      | true =>
        simp only
        by_cases hc : off + vs.length ≤ cs.length
        · rw [if_pos ⟨hz, by omega, by omega, by rw [hv]; exact h1⟩, if_pos hc, hv]
        · rw [if_neg (fun h => hc (by omega)), if_neg hc]
theorem splice_nil {cs : List Value} {off : Nat} : splice cs off [] = cs := _root_.id rfl
theorem splice_cons {cs vs : List Value} {off : Nat} {v : Value} : splice cs off (v :: vs) = splice (cs.set off v) (off + 1) vs := _root_.id rfl
theorem isSl_one {v : Value} (h : isSl v = true) : v.oneCell' = true := by
  rcases isSl_form h with ⟨_, _, _, rfl⟩ | ⟨_, _, rfl⟩ <;> rfl
attribute [go_sem] om_none om_some stRow_row splice_nil splice_cons

/-! ### making -/
theorem fill_one {place : Nat → Option (Nat × Nat)} {cells : Array Value} {i off : Nat} {v : Value} {rest : List (Nat × Value)} (hp : place i = some (off, 1)) (hv : v.cells = #[v]) (ho : off + 1 ≤ cells.size) :
    Instr.fill place cells ((i, v) :: rest) = Instr.fill place (cells.setIfInBounds off v) rest := by
  rw [Instr.fill]
  simp only [hp, hv]
  rw [if_neg (by simp; omega)]
  simp

/-- Elements of one cell, one behind the other. -/
def partsFrom : Nat → List Value → List (Nat × Value)
  | _, [] => []
  | i, v :: vs => (i, v) :: partsFrom (i + 1) vs

theorem fill_list : ∀ (vs : List Value) (i : Nat) (cells : List Value), (∀ v ∈ vs, v.cells = #[v]) → i + vs.length ≤ cells.length →
    Instr.fill (fun j => some (j * 1, 1)) ⟨cells⟩ (partsFrom i vs) = some ⟨splice cells i vs⟩
  | [], i, cells, _, _ => rfl
  | v :: vs, i, cells, hv, hl => by
    simp only [List.length_cons] at hl
    simp only [partsFrom, splice]
    rw [fill_one (off := i) (by simp) (hv v (by simp)) (by simp; omega)]
    have := fill_list vs (i + 1) (cells.set i v) (fun v h => hv v (by simp [h])) (by simp; omega)
    simpa using this

theorem madeCells_one (z : Value) (n : Nat) : madeCells #[z] n = ⟨List.replicate n z⟩ := by
  apply Array.ext
  · simp [madeCells]
  · intro i h1 h2
    simp [madeCells, Nat.mod_one]

theorem splice_full (vs cells : List Value) (h : vs.length = cells.length) : splice cells 0 vs = vs := by
  rw [splice_eq _ _ _ (by omega)]
  simp [h]

section
variable {ty : TypeId} {d : Option Tmp} {ps : String} {af : Array Edge} {gd : Option (Nat × Bool)} {K : Value → Heap → Prop} {e : Env}
def pFill (z : Value) (len : Nat) (vs : List (Nat × Value)) : Option (List Value) := (Instr.fill (fun j => some (j * 1, 1)) ⟨List.replicate len z⟩ vs).map (·.toList)
/-- A slice of elements of one cell that are written out. -/
theorem s_parts {t : TypeId} {i : TypeInfo} {z : Value} (ht : P.underlying t = some (.slice el)) (hi : P.info? el = some i) (hz : i.zero = some z) (hzc : z.cells = #[z]) (hzg : ground z = true) (his : i.size = 1) {len : Nat} {parts : List (Nat × Operand)} (hlen : len ≤ 2 ^ 24) :
    aStep P e H ⟨d, .buildSlice t len ⟨parts⟩, ty, ps, af, gd⟩ K = ob (evps e parts) fun vs => ob (pFill z len vs) fun cs => K (.slice (some ⟨H.next, 0, none⟩) len len) (H.push (.row true el cs)) := by
  rw [s_new rfl]
  unfold pFill
  simp only [aNew, ht, hi, hz]
  cases evps e parts with
  | none => rfl
  | some vs =>
    simp only [ob_some, hz]
    rw [if_pos ⟨by rw [his]; omega, by unfold unk; omega, by rw [hzc]; simp [hzg], by rw [hzc, his]; rfl⟩]
    rw [hzc, madeCells_one, his, Nat.mul_one]
    cases Instr.fill (fun j => some (j * 1, 1)) ⟨List.replicate len z⟩ vs with
    | none => rfl
    | some cs => rfl

/-- How many elements, how much room. -/
def aMk (bytes : Nat) (a b : Value) : Option (Nat × Nat) := match a, b with
  | .int _ n, .int _ m => if 0 ≤ n ∧ n ≤ m ∧ m ≤ 9223372036854775807 ∧ (bytes : Int) * m ≤ 281474976710656 then some (n.toNat, m.toNat) else none
  | _, _ => none
theorem aMk_int {bytes : Nat} {k k' : IntKind} {n m : Int} (h0 : 0 ≤ n) (h1 : n ≤ m) (h2 : m ≤ 9223372036854775807) (h3 : (bytes : Int) * m ≤ 281474976710656) : aMk bytes (.int k n) (.int k' m) = some (n.toNat, m.toNat) := if_pos ⟨h0, h1, h2, h3⟩
theorem s_make {t : TypeId} {i : TypeInfo} {z : Value} (ht : P.underlying t = some (.slice el)) (hi : P.info? el = some i) (hz : i.zero = some z) (hzc : z.cells = #[z]) (hzg : ground z = true) (his : i.size = 1) {x y : Operand} :
    aStep P e H ⟨d, .makeSlice t x y, ty, ps, af, gd⟩ K = ob (e x) fun a => ob (e y) fun b => ob (aMk i.bytes a b) fun p => K (.slice (some ⟨H.next, 0, none⟩) p.1 p.2) (H.push (.row true el (List.replicate p.2 z))) := by
  rw [s_new rfl]
  simp only [aNew, ht]
  cases e x with
  | none => simp
  | some a =>
    cases e y with
    | none => cases a <;> rfl
    | some b =>
      cases a with
      | int k n =>
        cases b with
        | int k' m =>
          simp only [ob_some, hi, hz, aMk]
          by_cases hc : 0 ≤ n ∧ n ≤ m ∧ m ≤ 9223372036854775807 ∧ (i.bytes : Int) * m ≤ 281474976710656
          · rw [if_pos ⟨hc.1, hc.2.1, hc.2.2.1, hc.2.2.2, by rw [hzc]; simp [hzg], by rw [hzc, his]; rfl⟩, if_pos hc]
            simp only [ob_some]
            rw [hzc, madeCells_one, his, Nat.mul_one]
          · rw [if_neg (fun h => hc ⟨h.1, h.2.1, h.2.2.1, h.2.2.2.1⟩), if_neg hc]; rfl
        | _ => rfl
      | _ => rfl
end
end Go.Abs

/- Regions whose order is drawn, where nothing in them writes: as if in their order. -/
namespace Go.Abs
open Go

variable {P : Program}

theorem aSeg_range {l : List Oper} {K : Tm → Heap → Prop} : ∀ (m k : Nat) (T : Tm) (H : Heap), k + m = l.length → aSeg P ⟨l⟩ K (List.range' k m) T H = aOps P ⟨l⟩ K (l.drop k) T H
  | 0, k, T, H, h => by
    rw [List.drop_of_length_le (by omega)]
    rfl
  | m + 1, k, T, H, h => by
    have hk : k < l.length := by omega
    rw [List.drop_eq_getElem_cons hk, List.range'_succ]
    simp only [aSeg, aOps, List.getElem?_toArray, List.getElem?_eq_getElem hk]
    cases aWanted ⟨l⟩ l[k] T with
    | none => rfl
    | some b =>
      cases b with
      | true =>
        simp only
        congr 1
        funext v H'
        exact aSeg_range m (k + 1) _ _ (by omega)
      | false => simp only; exact aSeg_range m (k + 1) _ _ (by omega)

/-- Nothing in it writes or calls. -/
def drawFree (P : Program) (ops : List Oper) : Bool :=
  let p := mkPlan P ⟨ops⟩
  planOk P ⟨ops⟩ p && p.first == List.range' 0 ops.length && p.rest.isEmpty

theorem aw_drawn {id : Nat} {ops : List Oper} {Q : Exit → Tm → Heap → Prop} {T : Tm} {H : Heap} (h : drawFree P ops = true) : aw P (.region id ⟨ops⟩ true) Q T H = aOps P ⟨ops⟩ (Q .normal) ops T H := by
  simp only [drawFree, Bool.and_eq_true, beq_iff_eq, List.isEmpty_iff] at h
  obtain ⟨⟨h1, h2⟩, h3⟩ := h
  simp only [aw, h1, true_and, aPlan, h2, h3]
  rw [aSeg_range _ _ _ _ (by simp)]
  simp only [List.drop_zero]
  rfl
theorem aw_drawn' {id : Nat} {ops : List Oper} {Q : Exit → Tm → Heap → Prop} {T : Tm} {H : Heap} (h : drawFree P ops = true) : aw P (.region id ops.toArray true) Q T H = aOps P ⟨ops⟩ (Q .normal) ops T H := aw_drawn h
theorem drawn_ok {ops : List Oper} (h : drawFree P ops = true) : drawFree P ops = true := h

/-! ### shifts by a number that is written out -/
theorem fdiv_pow (a : Int) (n : Nat) : a.fdiv (2 ^ n) = a / 2 ^ n := by
  rw [Int.fdiv_eq_ediv_of_nonneg]
  exact Int.le_of_lt (Int.pow_pos (by decide))
theorem bin_shr32 {t : TypeId} {x y : Operand} {k' : IntKind} {a : Int} : aBin P .shr t x y (.int .u64 a) (.int k' 32) = some (.int .u64 (a / 4294967296)) := by
  rw [bin_shr (by decide), fdiv_pow]; rfl
theorem bin_shl32 {t : TypeId} {x y : Operand} {k' : IntKind} {a : Int} : aBin P .shl t x y (.int .u64 a) (.int k' 32) = some (.int .u64 (a * 4294967296 % 18446744073709551616)) := by
  rw [bin_shl (by decide)]; rfl
theorem bin_shr63 {t : TypeId} {x y : Operand} {k' : IntKind} {a : Int} : aBin P .shr t x y (.int .u64 a) (.int k' 63) = some (.int .u64 (a / 9223372036854775808)) := by
  rw [bin_shr (by decide), fdiv_pow]; rfl
theorem bin_shr31 {t : TypeId} {x y : Operand} {k' : IntKind} {a : Int} : aBin P .shr t x y (.int .u32 a) (.int k' 31) = some (.int .u32 (a / 2147483648)) := by
  rw [bin_shr (by decide), fdiv_pow]; rfl
theorem bin_shl1 {t : TypeId} {x y : Operand} {k' : IntKind} {a : Int} : aBin P .shl t x y (.int .u32 a) (.int k' 1) = some (.int .u32 (a * 2 % 4294967296)) := by
  rw [bin_shl (by decide)]; rfl
attribute [go_sem] bin_shr32 bin_shl32 bin_shr63 bin_shr31 bin_shl1

/-! ### parts of a slice that is made -/
theorem fill2 {z a b : Value} (ha : a.cells = #[a]) (hb : b.cells = #[b]) : Instr.fill (fun j => some (j * 1, 1)) ⟨List.replicate 2 z⟩ [(0, a), (1, b)] = some ⟨[a, b]⟩ := by
  have := fill_list [a, b] 0 [z, z] (by simp [ha, hb]) (by simp)
  simpa [partsFrom, splice] using this
theorem fill1 {z a : Value} (ha : a.cells = #[a]) : Instr.fill (fun j => some (j * 1, 1)) ⟨List.replicate 1 z⟩ [(0, a)] = some ⟨[a]⟩ := by
  have := fill_list [a] 0 [z] (by simp [ha]) (by simp)
  simpa [partsFrom, splice] using this
theorem fill0 {z : Value} : pFill z 0 [] = some [] := _root_.id rfl
theorem fill1i {z : Value} {k : IntKind} {n : Int} : pFill z 1 [(0, .int k n)] = some [.int k n] := by
  unfold pFill; rw [fill1 rfl]; rfl
theorem fill2i {z : Value} {k k' : IntKind} {n m : Int} : pFill z 2 [(0, .int k n), (1, .int k' m)] = some [.int k n, .int k' m] := by
  unfold pFill; rw [fill2 rfl rfl]; rfl
theorem L.rep0 {α : Type} {a : α} : List.replicate 0 a = [] := _root_.id rfl
attribute [go_sem] L.rep0 fill1i fill2i fill0
end Go.Abs

/- Slices of structs that are written out. -/
namespace Go.Abs
open Go

theorem foldl_splice : ∀ (l : List Value) (k off : Nat) (cells : Array Value), (l.zipIdx k).foldl (fun cs p => cs.setIfInBounds (off + p.2) p.1) cells = ⟨splice cells.toList (off + k) l⟩
  | [], k, off, cells => by simp [splice]
  | v :: l, k, off, cells => by
    simp only [List.zipIdx_cons, List.foldl_cons, splice]
    rw [foldl_splice l (k + 1) off _]
    simp [Nat.add_assoc]

theorem fill_step {place : Nat → Option (Nat × Nat)} {cells : List Value} {i off size : Nat} {v : Value} {rest : List (Nat × Value)} (hp : place i = some (off, size)) (hv : v.cells.toList.length = size) (ho : off + size ≤ cells.length) :
    Instr.fill place ⟨cells⟩ ((i, v) :: rest) = Instr.fill place ⟨splice cells off v.cells.toList⟩ rest := by
  rw [Instr.fill]
  simp only [hp]
  have hs : v.cells.size = size := by rw [← hv]; simp
  rw [if_neg (by simp [hs]; omega)]
  congr 1
  have := foldl_splice v.cells.toList 0 off ⟨cells⟩
  simp only [Nat.add_zero] at this
  rw [← this, ← Array.foldl_toList]
  simp

theorem fill_rows {es : Nat} : ∀ (vs : List Value) (i : Nat) (cells : List Value), (∀ v ∈ vs, v.cells.toList.length = es) → (i + vs.length) * es ≤ cells.length →
    Instr.fill (fun j => some (j * es, es)) ⟨cells⟩ (partsFrom i vs) = some ⟨splice cells (i * es) (vs.flatMap fun v => v.cells.toList)⟩
  | [], i, cells, _, _ => by simp [partsFrom, splice, Instr.fill]
  | v :: vs, i, cells, hv, hl => by
    simp only [List.length_cons] at hl
    have h1 : (i + 1 + vs.length) * es ≤ cells.length := by rw [show i + 1 + vs.length = i + (vs.length + 1) by omega]; exact hl
    have h2 : (i + 1) * es ≤ (i + 1 + vs.length) * es := Nat.mul_le_mul_right _ (by omega)
    have h3 : (i + 1) * es = i * es + es := by rw [Nat.add_mul]; simp
    simp only [partsFrom]
    rw [fill_step (off := i * es) (size := es) rfl (hv v (by simp)) (by omega)]
    rw [fill_rows vs (i + 1) _ (fun v h => hv v (by simp [h])) (by simpa using h1)]
    congr 2
    simp only [List.flatMap_cons]
    have hs : ∀ (xs ys cs : List Value) (o : Nat), splice (splice cs o xs) (o + xs.length) ys = splice cs o (xs ++ ys) := by
      intro xs
      induction xs with
      | nil => intro ys cs o; simp [splice]
      | cons x xs ih =>
        intro ys cs o
        simp only [splice, List.cons_append, List.length_cons]
        rw [show o + (xs.length + 1) = o + 1 + xs.length by omega]
        exact ih ys _ _
    rw [h3]
    have := hs v.cells.toList (vs.flatMap fun v => v.cells.toList) cells (i * es)
    rw [hv v (by simp)] at this
    exact this

section
variable {P : Program} {H : Heap} {el : TypeId} {ty : TypeId} {d : Option Tmp} {ps : String} {af : Array Edge} {gd : Option (Nat × Bool)} {K : Value → Heap → Prop} {e : Env}
def rFill (es : Nat) (z : Value) (len : Nat) (vs : List (Nat × Value)) : Option (List Value) := (Instr.fill (fun j => some (j * es, es)) (madeCells z.cells (len * es)) vs).map (·.toList)
/-- A slice of structs that are written out. -/
theorem s_rows {t : TypeId} {i : TypeInfo} {z : Value} {es : Nat} (ht : P.underlying t = some (.slice el)) (hi : P.info? el = some i) (hz : i.zero = some z) (hzg : z.cells.toList.all ground = true) (hzs : z.cells.size = es) (his : i.size = es) {len : Nat} {parts : List (Nat × Operand)} (hlen : len * es ≤ 2 ^ 24) (hl : len ≤ 2 ^ 24) :
    aStep P e H ⟨d, .buildSlice t len ⟨parts⟩, ty, ps, af, gd⟩ K = ob (evps e parts) fun vs => ob (rFill es z len vs) fun cs => K (.slice (some ⟨H.next, 0, none⟩) len len) (H.push (.row true el cs)) := by
  rw [s_new rfl]
  unfold rFill
  simp only [aNew, ht, hi]
  cases evps e parts with
  | none => rfl
  | some vs =>
    simp only [ob_some, hz]
    rw [if_pos ⟨by rw [his]; omega, by unfold unk; omega, hzg, by rw [hzs, his]⟩]
    rw [his]
    cases Instr.fill (fun j => some (j * es, es)) (madeCells z.cells (len * es)) vs with
    | none => rfl
    | some cs => rfl

theorem rFill_all {es : Nat} {z : Value} {vs : List Value} (hv : ∀ v ∈ vs, v.cells.toList.length = es) : rFill es z vs.length (partsFrom 0 vs) = some (vs.flatMap fun v => v.cells.toList) := by
  unfold rFill
  have hm : madeCells z.cells (vs.length * es) = ⟨(madeCells z.cells (vs.length * es)).toList⟩ := rfl
  have hsz : (madeCells z.cells (vs.length * es)).toList.length = vs.length * es := by simp [madeCells]
  rw [hm, fill_rows vs 0 _ hv (by rw [hsz]; simp)]
  have hfl : ∀ us : List Value, (∀ v ∈ us, v.cells.toList.length = es) → (us.flatMap fun v => v.cells.toList).length = us.length * es := by
    intro us
    induction us with
    | nil => simp
    | cons u us ih =>
      intro h
      rw [List.flatMap_cons, List.length_append, ih (fun v hv => h v (by simp [hv])), h u (by simp), List.length_cons, Nat.add_mul]
      omega
  simp only [Option.map_some, Nat.zero_mul]
  rw [splice_full _ _ (by rw [hfl vs hv, hsz])]
theorem rFill1 {es : Nat} {z a : Value} (ha : a.cells.toList.length = es) : rFill es z 1 [(0, a)] = some a.cells.toList := by
  have := rFill_all (z := z) (vs := [a]) (es := es) (by simpa using ha)
  simpa [partsFrom] using this
theorem rFill2 {es : Nat} {z a b : Value} (ha : a.cells.toList.length = es) (hb : b.cells.toList.length = es) : rFill es z 2 [(0, a), (1, b)] = some (a.cells.toList ++ b.cells.toList) := by
  have := rFill_all (z := z) (vs := [a, b]) (es := es) (by simpa using ⟨ha, hb⟩)
  simpa [partsFrom] using this
theorem rFill3 {es : Nat} {z a b c : Value} (ha : a.cells.toList.length = es) (hb : b.cells.toList.length = es) (hc : c.cells.toList.length = es) : rFill es z 3 [(0, a), (1, b), (2, c)] = some (a.cells.toList ++ (b.cells.toList ++ c.cells.toList)) := by
  have := rFill_all (z := z) (vs := [a, b, c]) (es := es) (by simpa using ⟨ha, hb, hc⟩)
  simpa [partsFrom] using this
end
end Go.Abs

/- Regions whose order is drawn, with calls in them: by their plan, written out. -/
namespace Go.Abs
open Go

variable {P : Program}

/-- Is this the region's plan, and is it good? -/
def planIs (P : Program) (ops : List Oper) (p : Plan) : Bool :=
  planOk P ⟨ops⟩ (mkPlan P ⟨ops⟩) && (mkPlan P ⟨ops⟩).first == p.first && (mkPlan P ⟨ops⟩).rest == p.rest
theorem plan_ok {ops : List Oper} {p : Plan} (h : planIs P ops p = true) : planIs P ops p = true := h

def Ks (P : Program) (l : List Oper) (K : Tm → Heap → Prop) (s : List Nat) (T : Tm) (H : Heap) : Option Oper → Prop
  | none => False
  | some o => match aWanted ⟨l⟩ o T with
    | some true => aStep P (env T) H o fun v H' => aSeg P ⟨l⟩ K s (aPut T o.dst v) H'
    | some false => aSeg P ⟨l⟩ K s (aPut T o.dst undef) H
    | none => False
def Kt (P : Program) (l : List Oper) (K : Tm → Heap → Prop) (s : List Nat) (d : Option Tmp) (T : Tm) : Value → Heap → Prop := fun v H' => aSeg P ⟨l⟩ K s (aPut T d v) H'
def Kh (P : Program) (l : List Oper) (K : Tm → Heap → Prop) (s : List Nat) (d : Option Tmp) (op : Op) (ty : TypeId) (ps : String) (af : Array Edge) (T : Tm) (H : Heap) : Option Bool → Prop
  | some true => aStep P (env T) H ⟨d, op, ty, ps, af, none⟩ (Kt P l K s d T)
  | some false => aSeg P ⟨l⟩ K s (aPut T d undef) H
  | none => False
def Kr (P : Program) (l : List Oper) (K : Tm → Heap → Prop) (chks s : List Nat) (r : List (Nat × List Nat × List Nat)) : Tm → Heap → Prop := fun T H => (∀ i ∈ chks, aChk P ⟨l⟩ T H i) ∧ aSeg P ⟨l⟩ (aRest P ⟨l⟩ K r) s T H

section
variable {l : List Oper} {K : Tm → Heap → Prop} {s : List Nat} {T : Tm} {H : Heap} {d : Option Tmp} {op : Op} {ty : TypeId} {ps : String} {af : Array Edge} {i j : Nat} {want : Bool} {v : Value}
theorem aw_plan {id : Nat} {Q : Exit → Tm → Heap → Prop} (p : Plan) (h : planIs P l p = true) : aw P (.region id ⟨l⟩ true) Q T H = aSeg P ⟨l⟩ (aRest P ⟨l⟩ (Q .normal) p.rest) p.first T H := by
  simp only [planIs, Bool.and_eq_true, beq_iff_eq] at h
  obtain ⟨⟨h1, h2⟩, h3⟩ := h
  simp only [aw, h1, true_and, aPlan, h2, h3]
theorem seg_nil : aSeg P ⟨l⟩ K [] T H = K T H := _root_.id rfl
theorem seg_cons : aSeg P ⟨l⟩ K (i :: s) T H = Ks P l K s T H (l[i]?) := by
  simp only [aSeg, List.getElem?_toArray]
  cases l[i]? with
  | none => rfl
  | some o => rfl
theorem Ks_free : Ks P l K s T H (some ⟨d, op, ty, ps, af, none⟩) = aStep P (env T) H ⟨d, op, ty, ps, af, none⟩ (Kt P l K s d T) := _root_.id rfl
theorem Ks_guard : Ks P l K s T H (some ⟨d, op, ty, ps, af, some (j, want)⟩) = Kh P l K s d op ty ps af T H (gw T want (gdst l j)) := by
  simp only [Ks]
  have : aWanted ⟨l⟩ ⟨d, op, ty, ps, af, some (j, want)⟩ T = gw T want (gdst l j) := by
    simp only [aWanted, gdst, List.getElem?_toArray]
    unfold gw
    cases (l[j]?).bind fun x => x.dst with
    | none => rfl
    | some d =>
      simp only
      cases T[d]? with
      | none => rfl
      | some v => cases v <;> rfl
  rw [this]
  cases gw T want (gdst l j) with
  | none => rfl
  | some b => cases b <;> rfl
theorem Kh_true : Kh P l K s d op ty ps af T H (some true) = aStep P (env T) H ⟨d, op, ty, ps, af, none⟩ (Kt P l K s d T) := _root_.id rfl
theorem Kh_false : Kh P l K s d op ty ps af T H (some false) = aSeg P ⟨l⟩ K s (aPut T d undef) H := _root_.id rfl
theorem Kt_some {t : Tmp} : Kt P l K s (some t) T v H = aSeg P ⟨l⟩ K s (T.set t v) H := _root_.id rfl
theorem Kt_none : Kt P l K s none T v H = aSeg P ⟨l⟩ K s T H := _root_.id rfl
theorem rest_nil : aRest P ⟨l⟩ K [] T H = K T H := _root_.id rfl
theorem rest_cons {chks : List Nat} {r : List (Nat × List Nat × List Nat)} {E : Nat} : aRest P ⟨l⟩ K ((E, chks, s) :: r) T H = aSeg P ⟨l⟩ (Kr P l K chks s r) [E] T H := _root_.id rfl
/-- What a read would read now. -/
def Kc (P : Program) (l : List Oper) (T : Tm) (H : Heap) : Option Oper → Prop
  | none => False
  | some o => match aWanted ⟨l⟩ o T with
    | some true => ∃ v, aRead P (env T) H o = some v ∧ ∀ d, o.dst = some d → d < T.length → T[d]? = some v
    | some false => True
    | none => False
theorem Kr_nil {r : List (Nat × List Nat × List Nat)} : Kr P l K [] s r T H = aSeg P ⟨l⟩ (aRest P ⟨l⟩ K r) s T H := by
  simp [Kr]
theorem Kr_cons {r : List (Nat × List Nat × List Nat)} {chks : List Nat} : Kr P l K (i :: chks) s r T H = (Kc P l T H (l[i]?) ∧ Kr P l K chks s r T H) := by
  have : aChk P ⟨l⟩ T H i = Kc P l T H (l[i]?) := by
    simp only [aChk, List.getElem?_toArray]
    cases l[i]? with
    | none => rfl
    | some o => rfl
  simp only [Kr, List.forall_mem_cons, this, and_assoc]
def Kv (d : Option Tmp) (T : Tm) (r : Option Value) : Prop := ob r fun v => ∀ t, d = some t → t < T.length → T[t]? = some v
def Kw (P : Program) (d : Option Tmp) (op : Op) (ty : TypeId) (ps : String) (af : Array Edge) (T : Tm) (H : Heap) : Option Bool → Prop
  | some true => Kv d T (aRead P (env T) H ⟨d, op, ty, ps, af, none⟩)
  | some false => True
  | none => False
theorem Kv_iff {r : Option Value} : Kv d T r = ∃ v, r = some v ∧ ∀ t, d = some t → t < T.length → T[t]? = some v := by
  unfold Kv
  rw [propext ob_iff]
theorem Kc_free : Kc P l T H (some ⟨d, op, ty, ps, af, none⟩) = Kv d T (aRead P (env T) H ⟨d, op, ty, ps, af, none⟩) := by
  rw [Kv_iff]
  rfl
theorem Kc_guard : Kc P l T H (some ⟨d, op, ty, ps, af, some (j, want)⟩) = Kw P d op ty ps af T H (gw T want (gdst l j)) := by
  simp only [Kc]
  have : aWanted ⟨l⟩ ⟨d, op, ty, ps, af, some (j, want)⟩ T = gw T want (gdst l j) := by
    simp only [aWanted, gdst, List.getElem?_toArray]
    unfold gw
    cases (l[j]?).bind fun x => x.dst with
    | none => rfl
    | some d =>
      simp only
      cases T[d]? with
      | none => rfl
      | some v => cases v <;> rfl
  rw [this]
  cases gw T want (gdst l j) with
  | none => rfl
  | some b =>
    cases b with
    | true => simp only [Kw]; rw [Kv_iff]; rfl
    | false => rfl
theorem Kw_true : Kw P d op ty ps af T H (some true) = Kv d T (aRead P (env T) H ⟨d, op, ty, ps, af, none⟩) := _root_.id rfl
theorem Kw_false : Kw P d op ty ps af T H (some false) = True := _root_.id rfl
theorem Kv_some {t : Tmp} : Kv (some t) T (some v) = (t < T.length → T[t]? = some v) := by
  unfold Kv
  simp only [ob_some, Option.some.injEq, forall_eq', eq_iff_iff]
theorem read_load {e : Env} {t : TypeId} {x : Operand} {gd : Option (Nat × Bool)} : aRead P e H ⟨d, .load t x, ty, ps, af, gd⟩ = (e x).bind fun a => aLoad P H t a := _root_.id rfl
theorem ext_tuple {vs : List Value} : aExtract (.tuple ⟨vs⟩) i = vs[i]? := by
  simp [aExtract]
attribute [go_sem] seg_nil seg_cons Ks_free Ks_guard Kh_true Kh_false Kt_some Kt_none rest_nil rest_cons Kr_nil Kr_cons Kc_free Kc_guard Kw_true Kw_false Kv_some read_load ext_tuple
end
end Go.Abs

/- Limbs as numbers: what they come to, the shortest that come to the same. -/
namespace Go.Abs

def val : List Int → Int
  | [] => 0
  | x :: l => x + 4294967296 * val l

/-- Without noughts on top. -/
def trimL : List Int → List Int
  | [] => []
  | x :: l => if trimL l = [] ∧ x = 0 then [] else x :: trimL l

theorem Lim.tail {x : Int} {l : List Int} (h : Lim (x :: l)) : Lim l := fun y hy => h y (List.mem_cons_of_mem _ hy)
theorem Lim.head {x : Int} {l : List Int} (h : Lim (x :: l)) : 0 ≤ x ∧ x < 4294967296 := h x List.mem_cons_self
theorem Lim.nil : Lim [] := fun x hx => by cases hx
theorem Lim.cons {x : Int} {l : List Int} (h : 0 ≤ x ∧ x < 4294967296) (hl : Lim l) : Lim (x :: l) := fun y hy => by
  rcases List.mem_cons.1 hy with rfl | hy
  · exact h
  · exact hl y hy
theorem Lim.append {l m : List Int} (hl : Lim l) (hm : Lim m) : Lim (l ++ m) := fun y hy => by
  rcases List.mem_append.1 hy with h | h
  · exact hl y h
  · exact hm y h
theorem Lim.take {l : List Int} (h : Lim l) (n : Nat) : Lim (l.take n) := fun y hy => h y (List.mem_of_mem_take hy)
theorem Lim.drop {l : List Int} (h : Lim l) (n : Nat) : Lim (l.drop n) := fun y hy => h y (List.mem_of_mem_drop hy)
theorem Lim.set {l : List Int} (h : Lim l) (n : Nat) {x : Int} (hx : 0 ≤ x ∧ x < 4294967296) : Lim (l.set n x) := fun y hy => by
  rcases List.mem_or_eq_of_mem_set hy with h' | h'
  · exact h y h'
  · exact h' ▸ hx
theorem Lim.getD {l : List Int} (h : Lim l) (i : Nat) : 0 ≤ l.getD i 0 ∧ l.getD i 0 < 4294967296 := by
  rw [List.getD_eq_getElem?_getD]
  cases hi : l[i]? with
  | none => simp
  | some x => exact h x (List.mem_of_getElem? hi)
theorem Lim.trimL : ∀ {l : List Int}, Lim l → Lim (trimL l)
  | [], _ => Lim.nil
  | x :: l, h => by
    unfold Abs.trimL
    split
    · exact Lim.nil
    · exact Lim.cons h.head h.tail.trimL

theorem val_nonneg : ∀ {l : List Int}, Lim l → 0 ≤ val l
  | [], _ => by simp [val]
  | x :: l, h => by
    have := val_nonneg h.tail
    have := h.head
    simp only [val]; omega

theorem val_trimL : ∀ (l : List Int), val (trimL l) = val l
  | [] => rfl
  | x :: l => by
    have ih := val_trimL l
    unfold trimL
    split
    · rename_i h
      rw [h.1] at ih
      simp only [val] at ih ⊢
      omega
    · simp only [val, ih]

/-- No nought on top. -/
def Top (l : List Int) : Prop := l.length = 0 ∨ l.getD (l.length - 1) 0 ≠ 0

theorem Top.cons_iff {x : Int} {l : List Int} : Top (x :: l) ↔ Top l ∧ (l = [] → x ≠ 0) := by
  cases l with
  | nil => simp [Top]
  | cons y l => simp [Top]

theorem top_trimL : ∀ (l : List Int), Top (trimL l)
  | [] => .inl rfl
  | x :: l => by
    unfold trimL
    split
    · exact .inl rfl
    · rename_i h
      rw [Top.cons_iff]
      exact ⟨top_trimL l, fun h0 hx => h ⟨h0, hx⟩⟩

theorem trimL_of_top : ∀ {l : List Int}, Top l → trimL l = l
  | [], _ => rfl
  | x :: l, h => by
    rw [Top.cons_iff] at h
    unfold trimL
    rw [trimL_of_top h.1, if_neg (fun h' => h.2 h'.1 h'.2)]

theorem val_pos : ∀ {l : List Int}, Lim l → Top l → l ≠ [] → 0 < val l
  | [], _, _, h => absurd rfl h
  | x :: l, hl, ht, _ => by
    rw [Top.cons_iff] at ht
    have h1 := hl.head
    have h2 := val_nonneg hl.tail
    simp only [val]
    by_cases h : l = []
    · have := ht.2 h; omega
    · have := val_pos hl.tail ht.1 h; omega

theorem val_inj : ∀ {l m : List Int}, Lim l → Lim m → Top l → Top m → val l = val m → l = m
  | [], [], _, _, _, _, _ => rfl
  | [], y :: m, _, hm, _, tm, h => by
    have := val_pos hm tm (by simp)
    simp only [val] at h this; omega
  | x :: l, [], hl, _, tl, _, h => by
    have := val_pos hl tl (by simp)
    simp only [val] at h this; omega
  | x :: l, y :: m, hl, hm, tl, tm, h => by
    rw [Top.cons_iff] at tl tm
    simp only [val] at h
    have h1 := hl.head
    have h2 := hm.head
    have hx : x = y ∧ val l = val m := by omega
    rw [hx.1, val_inj hl.tail hm.tail tl.1 tm.1 hx.2]

theorem length_trimL : ∀ (l : List Int), (trimL l).length ≤ l.length
  | [] => Nat.le_refl _
  | x :: l => by
    have := length_trimL l
    unfold trimL
    split <;> simp <;> omega

theorem trimL_eq_take : ∀ (l : List Int), trimL l = l.take (trimL l).length
  | [] => rfl
  | x :: l => by
    unfold trimL
    split
    · rfl
    · simp only [List.length_cons, List.take_succ_cons]
      rw [← trimL_eq_take l]

/-- The noughts on top are left out one by one. -/
theorem trimL_snoc (l : List Int) : trimL (l ++ [0]) = trimL l := by
  induction l with
  | nil => simp [trimL]
  | cons x l ih => simp only [List.cons_append, trimL, ih]
end Go.Abs

/- Bits as sums. -/
namespace Go.Abs
open Go

theorem aBits_or_nat {a b : Nat} (ha : a < 2 ^ 64) (hb : b < 2 ^ 64) : aBits .or .u64 a b = ((a ||| b : Nat) : Int) := by
  have h1 : (BitVec.ofInt 64 (a : Int)).toNat = a := by
    rw [BitVec.toNat_ofInt]; omega
  have h2 : (BitVec.ofInt 64 (b : Int)).toNat = b := by
    rw [BitVec.toNat_ofInt]; omega
  have h3 : a ||| b < 2 ^ 64 := Nat.or_lt_two_pow ha hb
  show IntKind.u64.wrap (((BitVec.ofInt 64 (a : Int)) ||| (BitVec.ofInt 64 (b : Int))).toNat : Int) = _
  rw [BitVec.toNat_or, h1, h2, wrap_u64]
  omega

theorem or_disjoint {a b : Nat} (n : Nat) (ha : a < 2 ^ n) : a ||| b * 2 ^ n = a + b * 2 ^ n := by
  rw [Nat.or_comm, Nat.add_comm, ← Nat.shiftLeft_eq]
  exact (Nat.shiftLeft_add_eq_or_of_lt ha b).symm

/-- What is beneath, and what is shifted above it. -/
theorem or_add32 {u x : Int} (hu : 0 ≤ u ∧ u < 4294967296) (hx : 0 ≤ x ∧ x < 4294967296) : aBits .or .u64 u (x * 4294967296) = u + x * 4294967296 := by
  obtain ⟨a, rfl⟩ := Int.eq_ofNat_of_zero_le hu.1
  obtain ⟨b, rfl⟩ := Int.eq_ofNat_of_zero_le hx.1
  have h := or_disjoint (a := a) (b := b) 32 (by omega)
  have := aBits_or_nat (a := a) (b := b * 2 ^ 32) (by omega) (by omega)
  rw [h] at this
  have e : ((b * 2 ^ 32 : Nat) : Int) = (b : Int) * 4294967296 := by omega
  have e2 : ((a + b * 2 ^ 32 : Nat) : Int) = (a : Int) + b * 4294967296 := by omega
  rw [e, e2] at this
  exact this
theorem or_add32' {u x : Int} (hu : 0 ≤ u ∧ u < 4294967296) (hx : 0 ≤ x ∧ x < 4294967296) : aBits .or .u64 (x * 4294967296) u = u + x * 4294967296 := by
  have h : ∀ a b : Int, aBits .or .u64 a b = aBits .or .u64 b a := by
    intro a b
    simp only [aBits]
    rw [BitVec.or_comm]
  rw [h]
  exact or_add32 hu hx
theorem or_zero {x : Int} (hx : 0 ≤ x ∧ x < 18446744073709551616) : aBits .or .u64 0 x = x := by
  obtain ⟨b, rfl⟩ := Int.eq_ofNat_of_zero_le hx.1
  have := aBits_or_nat (a := 0) (b := b) (by omega) (by omega)
  rw [Nat.zero_or] at this
  exact this
end Go.Abs
