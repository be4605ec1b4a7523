/- Lowered programs: values, arguments. -/
import Derived.Test.YtboekagofficpaaGreatA31
import Derived.Test.YtboekagofficpaaGreatO0
import Derived.Test.YtboekagofficpaaGreatQc
set_option linter.unusedVariables false
set_option linter.unusedSimpArgs false
namespace Go.Abs
open Go Go.Proofs
set_option maxRecDepth 100000
set_option maxHeartbeats 4000000
/-- A location, a line of numbers, an edge, a way that a site may fail. -/
structure RL where
  path : List Int
  pt : Int
structure RA where
  x : List RI
  w : List RI
  k : RI
structure RE where
  f : Int
  t : Int
  m : Int
  g : List RA
  s : List RA
  p : List Bool
structure RV where
  l : Int
  s : Int
  m : Int
  g : List RA
def eL : En RL := ⟨fun a => [Vv eN a.path, .int .i64 a.pt], 2, ⟨[], 0⟩, fun _ => rfl⟩
def eA : En RA := ⟨fun a => [Vv eI a.x, Vv eI a.w, .bool a.k.neg, Vv eU a.k.l], 4, ⟨[], [], ⟨false, []⟩⟩, fun _ => rfl⟩
def eE : En RE := ⟨fun a => [.int .i64 a.f, .int .i64 a.t, .int .i64 a.m, Vv eA a.g, Vv eA a.s, Vv eB a.p], 6, ⟨0, 0, 0, [], [], []⟩, fun _ => rfl⟩
def eV : En RV := ⟨fun a => [.int .i64 a.l, .int .i64 a.s, .int .i64 a.m, Vv eA a.g], 4, ⟨0, 0, 0, []⟩, fun _ => rfl⟩
theorem eL_enc {a : RL} : eL.enc a = [Vv eN a.path, .int .i64 a.pt] := _root_.id rfl
theorem eA_enc {a : RA} : eA.enc a = [Vv eI a.x, Vv eI a.w, .bool a.k.neg, Vv eU a.k.l] := _root_.id rfl
theorem eE_enc {a : RE} : eE.enc a = [.int .i64 a.f, .int .i64 a.t, .int .i64 a.m, Vv eA a.g, Vv eA a.s, Vv eB a.p] := _root_.id rfl
theorem eV_enc {a : RV} : eV.enc a = [.int .i64 a.l, .int .i64 a.s, .int .i64 a.m, Vv eA a.g] := _root_.id rfl
attribute [go_sem] eL_enc eA_enc eE_enc eV_enc
theorem T.iv142 {l : List RA} {k : IntKind} {i : Int} (h0 : 0 ≤ i) (h1 : i < l.length) : aIndexAddr Tryz.prog 44 (Vv eA l) (.int k i) = some (fpv (eA.enc (l.getD i.toNat eA.d))) := idx_Vv Tryz.underlying44 T.s216 T.z216 rfl h0 h1
theorem T.iv128 {l : List RE} {k : IntKind} {i : Int} (h0 : 0 ≤ i) (h1 : i < l.length) : aIndexAddr Tryz.prog 24 (Vv eE l) (.int k i) = some (fpv (eE.enc (l.getD i.toNat eE.d))) := idx_Vv Tryz.underlying24 T.s145 T.z145 rfl h0 h1
theorem T.iv129 {l : List RV} {k : IntKind} {i : Int} (h0 : 0 ≤ i) (h1 : i < l.length) : aIndexAddr Tryz.prog 25 (Vv eV l) (.int k i) = some (fpv (eV.enc (l.getD i.toNat eV.d))) := idx_Vv Tryz.underlying25 T.s190 T.z190 rfl h0 h1
attribute [go_sem] T.iv142 T.iv128 T.iv129
structure RW where
  locs : List RL
  slots : List ByteArray
  edges : List RE
  viols : List RV
def Wv (l : RW) : Value := .agg ⟨[Vv eL l.locs, Vv eS l.slots, Vv eE l.edges, Vv eV l.viols]⟩
theorem pu_flat1 {α : Type} {E : En α} {l : List α} (h : ∀ a, Pus (E.enc a)) : Pu (Vv E l) := .fz (Pus.flat fun a _ => h a)
theorem pu_Bs {l : List Bool} : Pu (Vv eB l) := pu_flat1 fun _ => .cons (.ground rfl) .nil
theorem pu_Ns {l : List Int} : Pu (Vv eN l) := pu_flat1 fun _ => .cons (.ground rfl) .nil
theorem pu_Ss {l : List ByteArray} : Pu (Vv eS l) := pu_flat1 fun _ => .cons (.ground rfl) .nil
theorem pu_Ls {l : List RL} : Pu (Vv eL l) := pu_flat1 fun _ => .cons pu_Ns (.cons (.ground rfl) .nil)
theorem pu_As {l : List RA} : Pu (Vv eA l) := pu_flat1 fun _ => .cons pu_Is (.cons pu_Is (.cons (.ground rfl) (.cons pu_U .nil)))
theorem pu_Es {l : List RE} : Pu (Vv eE l) := pu_flat1 fun _ => .cons (.ground rfl) (.cons (.ground rfl) (.cons (.ground rfl) (.cons pu_As (.cons pu_As (.cons pu_Bs .nil)))))
theorem pu_Vs {l : List RV} : Pu (Vv eV l) := pu_flat1 fun _ => .cons (.ground rfl) (.cons (.ground rfl) (.cons (.ground rfl) (.cons pu_As .nil)))
theorem pu_W {l : RW} : Pu (Wv l) := .agg (.cons pu_Ls (.cons pu_Ss (.cons pu_Es (.cons pu_Vs .nil))))
/-! ### arguments -/
def LimI (a : RI) : Prop := Lim a.l ∧ a.l.length ≤ maxLen
def LimIs (l : List RI) : Prop := l.length ≤ maxLen ∧ ∀ a ∈ l, LimI a
def LimA (a : RA) : Prop := LimIs a.x ∧ LimIs a.w ∧ LimI a.k
def LimAs (l : List RA) : Prop := l.length ≤ maxLen ∧ ∀ a ∈ l, LimA a
def I64 (n : Int) : Prop := -9223372036854775808 ≤ n ∧ n ≤ 9223372036854775807
def LimE (e : RE) : Prop := I64 e.f ∧ I64 e.t ∧ I64 e.m ∧ LimAs e.g ∧ LimAs e.s ∧ e.p.length ≤ maxLen
def LimV (e : RV) : Prop := I64 e.l ∧ I64 e.s ∧ I64 e.m ∧ LimAs e.g
def LimW (l : RW) : Prop := l.locs.length ≤ maxLen ∧ l.slots.length ≤ maxLen ∧ (l.edges.length ≤ maxLen ∧ ∀ e ∈ l.edges, LimE e) ∧ (l.viols.length ≤ maxLen ∧ ∀ e ∈ l.viols, LimV e)
theorem fgood_i64 {n : Nat} {cs : List Value} (h : FGood Tryz.prog (n + 1) 3 cs) : ∃ m, cs = [.int .i64 m] ∧ I64 m := by
  obtain ⟨m, q1, q2⟩ := h.int Tryz.underlying3
  exact ⟨m, q1, wf_i64 q2⟩
theorem fgood_ints {n : Nat} {cs : List Value} (h : FGood Tryz.prog (n + 2) 30 cs) : ∃ l, cs = [Vv eN l] ∧ l.length ≤ maxLen ∧ ∀ a ∈ l, I64 a := by
  obtain ⟨len, cells, rfl, h1, h2, h3⟩ := h.slice Tryz.underlying30
  rw [T.s3] at h2 h3
  obtain ⟨l, k1, k2, k3⟩ := row_of eN I64 (cells := cells) (k := len) h2 (by decide) (fun i hi => fgood_i64 (h3 i hi))
  subst k1
  exact ⟨l, by rw [k2]; rfl, h1, k3⟩
theorem fgood_bools {n : Nat} {cs : List Value} (h : FGood Tryz.prog (n + 2) 31 cs) : ∃ l, cs = [Vv eB l] ∧ l.length ≤ maxLen := by
  obtain ⟨len, cells, rfl, h1, h2, h3⟩ := h.slice Tryz.underlying31
  rw [T.s4] at h2 h3
  obtain ⟨l, k1, k2, k3⟩ := row_of eB (fun _ => True) (cells := cells) (k := len) h2 (by decide) (fun i hi => by
    obtain ⟨b, q⟩ := (h3 i hi).bool Tryz.underlying4
    exact ⟨b, q, trivial⟩)
  subst k1
  exact ⟨l, by rw [k2]; rfl, h1⟩
theorem fgood_strings {n : Nat} {cs : List Value} (h : FGood Tryz.prog (n + 2) 23 cs) : ∃ l, cs = [Vv eS l] ∧ l.length ≤ maxLen := by
  obtain ⟨len, cells, rfl, h1, h2, h3⟩ := h.slice Tryz.underlying23
  rw [T.s9] at h2 h3
  obtain ⟨l, k1, k2, k3⟩ := row_of eS (fun _ => True) (cells := cells) (k := len) h2 (by decide) (fun i hi => by
    have := h3 i hi
    unfold FGood at this
    simp only [Tryz.underlying9] at this
    obtain ⟨b, q, _⟩ := this
    exact ⟨b, q, trivial⟩)
  subst k1
  exact ⟨l, by rw [k2]; rfl, h1⟩
theorem fgood_nums {n : Nat} {cs : List Value} (h : FGood Tryz.prog (n + 4) 69 cs) : ∃ l, cs = [Vv eI l] ∧ LimIs l := by
  obtain ⟨len, cells, rfl, h1, h2, h3⟩ := h.slice Tryz.underlying69
  rw [T.s24] at h2 h3
  obtain ⟨l, k1, k2, k3⟩ := row_of eI LimI (cells := cells) (k := len) h2 (by decide) (fun i hi => by
    obtain ⟨g, l, q1, q2, q3⟩ := fgood_int (n := n) (h3 i hi)
    exact ⟨⟨g, l⟩, q1, q2, q3⟩)
  subst k1
  exact ⟨l, by rw [k2]; rfl, h1, k3⟩
theorem fgood_aff {n : Nat} {cs : List Value} (h : FGood Tryz.prog (n + 5) 74 cs) : ∃ a : RA, cs = eA.enc a ∧ LimA a := by
  obtain ⟨h1, h2⟩ := h.struct Tryz.underlying74
  rw [T.s216] at h1
  have a1 := h2 _ (List.Mem.head _)
  have a2 := h2 _ (List.Mem.tail _ (List.Mem.head _))
  have a3 := h2 _ (List.Mem.tail _ (List.Mem.tail _ (List.Mem.head _)))
  simp only [T.s147, T.s24, List.drop_zero] at a1 a2 a3
  obtain ⟨x, e1, k1⟩ := fgood_nums (n := n) a1
  obtain ⟨w, e2, k2⟩ := fgood_nums (n := n) a2
  obtain ⟨g, l, e3, k3, k4⟩ := fgood_int (n := n + 1) a3
  refine ⟨⟨x, w, ⟨g, l⟩⟩, ?_, k1, k2, k3, k4⟩
  match cs, h1 with
  | [x0, x1, x2, x3], _ =>
    simp at e1 e2 e3
    rw [e1, e2, e3.1, e3.2]
    rfl
theorem fgood_affs {n : Nat} {cs : List Value} (h : FGood Tryz.prog (n + 6) 44 cs) : ∃ l, cs = [Vv eA l] ∧ LimAs l := by
  obtain ⟨len, cells, rfl, h1, h2, h3⟩ := h.slice Tryz.underlying44
  rw [T.s216] at h2 h3
  obtain ⟨l, k1, k2, k3⟩ := row_of eA LimA (cells := cells) (k := len) h2 (by decide) (fun i hi => fgood_aff (n := n) (h3 i hi))
  subst k1
  exact ⟨l, by rw [k2]; rfl, h1, k3⟩
theorem fgood_loc {n : Nat} {cs : List Value} (h : FGood Tryz.prog (n + 3) 163 cs) : ∃ a : RL, cs = eL.enc a := by
  obtain ⟨h1, h2⟩ := h.struct Tryz.underlying163
  rw [T.s193] at h1
  have a1 := h2 _ (List.Mem.head _)
  have a2 := h2 _ (List.Mem.tail _ (List.Mem.head _))
  simp only [T.s191, T.s3, List.drop_zero] at a1 a2
  obtain ⟨x, e1, k1⟩ := fgood_ints (n := n) a1
  obtain ⟨p, e2, k2⟩ := fgood_i64 (n := n + 1) a2
  refine ⟨⟨x, p⟩, ?_⟩
  match cs, h1 with
  | [x0, x1], _ =>
    simp at e1 e2
    rw [e1, e2]
    rfl
theorem fgood_edge {n : Nat} {cs : List Value} (h : FGood Tryz.prog (n + 7) 46 cs) : ∃ a : RE, cs = eE.enc a ∧ LimE a := by
  obtain ⟨h1, h2⟩ := h.struct Tryz.underlying46
  rw [T.s145] at h1
  have a1 := h2 _ (List.Mem.head _)
  have a2 := h2 _ (List.Mem.tail _ (List.Mem.head _))
  have a3 := h2 _ (List.Mem.tail _ (List.Mem.tail _ (List.Mem.head _)))
  have a4 := h2 _ (List.Mem.tail _ (List.Mem.tail _ (List.Mem.tail _ (List.Mem.head _))))
  have a5 := h2 _ (List.Mem.tail _ (List.Mem.tail _ (List.Mem.tail _ (List.Mem.tail _ (List.Mem.head _)))))
  have a6 := h2 _ (List.Mem.tail _ (List.Mem.tail _ (List.Mem.tail _ (List.Mem.tail _ (List.Mem.tail _ (List.Mem.head _))))))
  simp only [T.s3, T.s142, T.s143, List.drop_zero] at a1 a2 a3 a4 a5 a6
  obtain ⟨f, e1, k1⟩ := fgood_i64 (n := n + 5) a1
  obtain ⟨t, e2, k2⟩ := fgood_i64 (n := n + 5) a2
  obtain ⟨m, e3, k3⟩ := fgood_i64 (n := n + 5) a3
  obtain ⟨g, e4, k4⟩ := fgood_affs (n := n) a4
  obtain ⟨s, e5, k5⟩ := fgood_affs (n := n) a5
  obtain ⟨p, e6, k6⟩ := fgood_bools (n := n + 4) a6
  refine ⟨⟨f, t, m, g, s, p⟩, ?_, k1, k2, k3, k4, k5, k6⟩
  match cs, h1 with
  | [x0, x1, x2, x3, x4, x5], _ =>
    simp at e1 e2 e3 e4 e5 e6
    rw [e1, e2, e3, e4, e5, e6]
    rfl
theorem fgood_viol {n : Nat} {cs : List Value} (h : FGood Tryz.prog (n + 7) 51 cs) : ∃ a : RV, cs = eV.enc a ∧ LimV a := by
  obtain ⟨h1, h2⟩ := h.struct Tryz.underlying51
  rw [T.s190] at h1
  have a1 := h2 _ (List.Mem.head _)
  have a2 := h2 _ (List.Mem.tail _ (List.Mem.head _))
  have a3 := h2 _ (List.Mem.tail _ (List.Mem.tail _ (List.Mem.head _)))
  have a4 := h2 _ (List.Mem.tail _ (List.Mem.tail _ (List.Mem.tail _ (List.Mem.head _))))
  simp only [T.s3, T.s142, List.drop_zero] at a1 a2 a3 a4
  obtain ⟨f, e1, k1⟩ := fgood_i64 (n := n + 5) a1
  obtain ⟨t, e2, k2⟩ := fgood_i64 (n := n + 5) a2
  obtain ⟨m, e3, k3⟩ := fgood_i64 (n := n + 5) a3
  obtain ⟨g, e4, k4⟩ := fgood_affs (n := n) a4
  refine ⟨⟨f, t, m, g⟩, ?_, k1, k2, k3, k4⟩
  match cs, h1 with
  | [x0, x1, x2, x3], _ =>
    simp at e1 e2 e3 e4
    rw [e1, e2, e3, e4]
    rfl
theorem FArg.low {n : Nat} {p : Value} (h : FArg Tryz.prog (n + 9) 27 p) : ∃ l : RW, p = Wv l ∧ LimW l := by
  obtain ⟨cs, rfl, h1⟩ := h.struct Tryz.underlying27
  obtain ⟨h1, h2⟩ := h1.struct Tryz.underlying27
  rw [T.s131] at h1
  have a1 := h2 _ (List.Mem.head _)
  have a2 := h2 _ (List.Mem.tail _ (List.Mem.head _))
  have a3 := h2 _ (List.Mem.tail _ (List.Mem.tail _ (List.Mem.head _)))
  have a4 := h2 _ (List.Mem.tail _ (List.Mem.tail _ (List.Mem.tail _ (List.Mem.head _))))
  simp only [T.s126, T.s127, T.s128, T.s129, List.drop_zero] at a1 a2 a3 a4
  obtain ⟨len1, c1, e1, l1, m1, o1⟩ := FGood.slice (n := n + 7) a1 Tryz.underlying22
  rw [T.s193] at m1 o1
  obtain ⟨ls, k1, k2, _⟩ := row_of eL (fun _ => True) (cells := c1) (k := len1) m1 (by decide) (fun i hi => by
    obtain ⟨a, q⟩ := fgood_loc (n := n + 4) (o1 i hi)
    exact ⟨a, q, trivial⟩)
  obtain ⟨ss, e2, l2⟩ := fgood_strings (n := n + 6) a2
  obtain ⟨len3, c3, e3, l3, m3, o3⟩ := FGood.slice (n := n + 7) a3 Tryz.underlying24
  rw [T.s145] at m3 o3
  obtain ⟨es, k3, k4, k5⟩ := row_of eE LimE (cells := c3) (k := len3) m3 (by decide) (fun i hi => fgood_edge (n := n) (o3 i hi))
  obtain ⟨len4, cz, e4, l4, m4, o4⟩ := FGood.slice (n := n + 7) a4 Tryz.underlying25
  rw [T.s190] at m4 o4
  obtain ⟨vs, k6, k7, k8⟩ := row_of eV LimV (cells := cz) (k := len4) m4 (by decide) (fun i hi => fgood_viol (n := n) (o4 i hi))
  subst k1 k3 k6
  refine ⟨⟨ls, ss, es, vs⟩, ?_, l1, l2, ⟨l3, k5⟩, ⟨l4, k8⟩⟩
  rw [k2] at e1
  rw [k4] at e3
  rw [k7] at e4
  match cs, h1 with
  | [x0, x1, x2, x3], _ =>
    simp at e1 e2 e3 e4
    rw [e1, e2, e3, e4]
    rfl
end Go.Abs
