/- Own slices within own slices. -/
import Derived.Test.YtfadclnaahanmaaVd
import Derived.Test.YtfadclnaahanmaaNf
set_option linter.unusedVariables false
set_option linter.unusedSimpArgs false
namespace Go.Abs
open Go Go.Proofs
set_option maxRecDepth 100000
variable {P : Program} {H0 H H1 : Heap} {B b b1 es n : Nat} {el t : TypeId} {out : Value} {ps qs vs us : List Value} {p v : Value}

def Fx (P : Program) (B : Nat) (H : Heap) (b : Nat) (p v : Value) : Prop := ∀ H', H.next ≤ H'.next → (∀ c, B ≤ c → c < H.next → c ≠ b → H'.get c = H.get c) → FzRel P H' p v
inductive Fxs (P : Program) (B : Nat) (H : Heap) (b : Nat) : List Value → List Value → Prop
  | nil : Fxs P B H b [] []
  | cons {p v : Value} {ps vs : List Value} (h : Fx P B H b p v) (hs : Fxs P B H b ps vs) : Fxs P B H b (p :: ps) (v :: vs)
theorem Fx.rfl : Fx P B H b v v := fun _ _ _ => .rfl
theorem Fx.nz (h : Nz p v) : Fx P B H b p v := fun _ _ _ => .nz h
theorem Fx.fz (h : Fx P B H b p v) : FzRel P H p v := h H (Nat.le_refl _) fun _ _ _ _ => Eq.refl _
theorem Fxs.fz : ∀ {ps vs : List Value}, Fxs P B H b ps vs → FzRels P H ps vs
  | _, _, .nil => .nil
  | _, _, .cons h hs => .cons h.fz hs.fz
theorem Fxs.length : ∀ {ps vs : List Value}, Fxs P B H b ps vs → ps.length = vs.length
  | _, _, .nil => Eq.refl _
  | _, _, .cons _ hs => by simp [hs.length]
theorem Fxs.append : ∀ {ps vs qs us : List Value}, Fxs P B H b ps vs → Fxs P B H b qs us → Fxs P B H b (ps ++ qs) (vs ++ us)
  | _, _, _, _, .nil, k => k
  | _, _, _, _, .cons h hs, k => .cons h (hs.append k)
theorem Fx.step (h : Fx P B H b p v) (hn : H.next ≤ H1.next) (hf : ∀ c, B ≤ c → c < H.next → c ≠ b → H1.get c = H.get c) (hb : b1 = b ∨ H.next ≤ b1) : Fx P B H1 b1 p v := fun H' k1 k2 =>
  h H' (by omega) fun c c1 c2 c3 => by rw [k2 c c1 (by omega) (by rcases hb with e | e <;> omega), hf c c1 c2 c3]
theorem Fxs.step : ∀ {ps vs : List Value}, Fxs P B H b ps vs → H.next ≤ H1.next → (∀ c, B ≤ c → c < H.next → c ≠ b → H1.get c = H.get c) → (b1 = b ∨ H.next ≤ b1) → Fxs P B H1 b1 ps vs
  | _, _, .nil, _, _, _ => .nil
  | _, _, .cons h hs, h1, h2, h3 => .cons (h.step h1 h2 h3) (hs.step h1 h2 h3)
theorem Fx.row {α : Type} {E : En α} {Hi : Heap} {sl : Value} {l : List α} (h : VO P E el Hi H sl l) (he : szOf P el = E.es) (h0 : 0 < E.es) (hB : B ≤ Hi.next) (hb : b < Hi.next) : Fx P B H b (Vv E l) sl := fun H' k1 k2 =>
  VO.fz (E := E) (H0 := Hi) (Ow.keep h (fun c _ c1 c2 => k2 c (by omega) c2 (by omega)) k1) he h0

def LO (P : Program) (H0 H : Heap) (es : Nat) (el : TypeId) (out : Value) (n : Nat) (ps : List Value) : Prop := ∃ vs, Ow P H0 H es el out n vs ∧ Fxs P H0.next H (sblk out) ps vs
theorem LO.nil : LO P H0 H es el (.slice none 0 0) 0 [] := ⟨[], .nil, .nil⟩
theorem LO.mono (h : LO P H0 H es el out n ps) (hle : Hle H H1) : LO P H0 H1 es el out n ps := by
  obtain ⟨vs, h1, h2⟩ := h
  exact ⟨vs, h1.mono hle, h2.step hle.next (fun c _ c2 _ => hle.get c c2) (.inl (Eq.refl _))⟩
theorem LO.bump (h : LO P H0 H es el out n ps) {m : Nat} (hm : H.next ≤ m) : LO P H0 (H.bump m) es el out n ps := h.mono (Hle.bump Hle.rfl hm)
theorem LO.len (h : LO P H0 H es el out n ps) (he : szOf P el = es) (ht : isSliceT P t = true) : aLen P t out = some (.int .i64 n) := by
  obtain ⟨vs, h1, _⟩ := h
  exact Sl.len (Ow.toSl h1 he) ht
theorem LO.isSl (h : LO P H0 H es el out n ps) : isSl out = true := by
  obtain ⟨vs, h1, _⟩ := h
  exact Ow.isSl h1
theorem LO.fz (h : LO P H0 H es el out n ps) (he : szOf P el = es) (h0 : 0 < es) : FzRel P H (fzv n ps) out := by
  obtain ⟨vs, h1, h2⟩ := h
  exact .sl h0 (Ow.toSl h1 he) h2.fz
theorem LO.append1 (h : LO P H0 H es el out n ps) (hle : Hle H0 H) (ht : P.underlying t = some (.slice el)) {i : TypeInfo} {z : Value} (hi : P.info? el = some i) (hz : i.zero = some z) (hzs : z.cells.size = i.size) (hs : szOf P el = es) (h0 : 0 < es) (ho : okSrc P t = true)
    (hu : Fxs P H0.next H (sblk out) qs us) (hl : us.length = es) (h1 : us.all (·.oneCell') = true) (hsm : n + 1 ≤ 9223372036854775807) (hb : (2 * (n + 1) + 200) * i.bytes ≤ 281474976710656) :
    ∃ v H', aAppend P (H.push (.row true el us)) #[t, t] out (.slice (some ⟨H.next, 0, none⟩) 1 1) = some (v, H') ∧ LO P H0 H' es el v (n + 1) (ps ++ qs) ∧ Hle H0 H' ∧ H.next ≤ H'.next := by
  obtain ⟨vs, k1, k2⟩ := h
  have hx := Sl.row (P := P) (H := H.push (.row true el us)) (es := es) (b := H.next) (off := 0) (n := 1) (c := 1) (get_push_self _ _) (by simp) (.inr hs) (.inr ⟨Nat.le_refl _, by unfold unk; omega⟩) (by omega)
  have e1 : (us.drop 0).take (1 * es) = us := by rw [List.drop_zero, Nat.one_mul, List.take_of_length_le (by omega)]
  rw [e1] at hx
  have h2 : Ow P H0 (H.push (.row true el us)) es el out n vs := Ow.mono k1 (Hle.push0 _)
  obtain ⟨a1, a2, a3, a4, a5⟩ := Ow.append h2 (hle.push _) ht hi hz hzs hs h0 ho (Sl.lenV hx) (Sl.src hx) (by omega) h1 hsm hb
  have ab := append_blk a1
  rw [Heap.next_push] at ab a4 a5
  refine ⟨_, _, a1, ⟨_, a2, ?_⟩, a3, by omega⟩
  refine (k2.append hu).step (by omega) (fun c _ c2 c3 => ?_) (ab.imp id fun e => by omega)
  rw [a4 c (by omega) c3, get_push_ne (by omega)]

/-! ### a frozen slice appended -/
theorem VO.appendV {α : Type} {E : En α} {sl : Value} {l l2 : List α} (h : VO P E el H0 H sl l) (hle : Hle H0 H) (ht : P.underlying t = some (.slice el)) {i : TypeInfo} {z : Value} (hi : P.info? el = some i) (hz : i.zero = some z) (hzs : z.cells.size = i.size) (hs : szOf P el = E.es) (h0 : 0 < E.es) (ho : okSrc P t = true)
    (h1 : ∀ a ∈ l2, (E.enc a).all (·.oneCell') = true) (hsm : l.length + l2.length ≤ 9223372036854775807) (hb : (2 * (l.length + l2.length) + 200) * i.bytes ≤ 281474976710656) :
    ∃ v H', aAppend P H #[t, t] sl (Vv E l2) = some (v, H') ∧ VO P E el H0 H' v (l ++ l2) ∧ Hle H0 H' ∧ H.next ≤ H'.next := by
  obtain ⟨a1, a2, a3, a4, a5⟩ := Ow.append h hle ht hi hz hzs hs h0 ho (lenV_Vv (E := E) (l := l2)) (src_Vv H) (E.flat_length l2) (by
    simp only [List.all_eq_true, List.mem_flatMap] at h1 ⊢
    rintro x ⟨a, ha, hx⟩
    exact h1 a ha x hx) hsm hb
  refine ⟨_, _, a1, ?_, a3, a5⟩
  unfold VO
  rw [List.length_append, List.flatMap_append]
  exact a2
end Go.Abs
