/- What the program says of its types. -/
import Derived.Test.YtfadclnaahanmaaGreatBf
import Derived.Test.YtfadclnaahanmaaGreatProg
import Derived.KernelRfl
set_option linter.unusedVariables false
set_option linter.unusedSimpArgs false
namespace Go.Abs
open Go Go.Proofs

theorem T.hm : Tryz.prog.follows .mixedOrders = true := by kernel_rfl
theorem T.z2 : sized Tryz.prog 2 = true := by kernel_rfl
theorem T.s2 : szOf Tryz.prog 2 = 1 := by kernel_rfl
theorem T.r2 : isRowT Tryz.prog 2 = some false := by kernel_rfl
theorem T.i2 : isSliceT Tryz.prog 2 = false := by kernel_rfl
theorem T.z3 : sized Tryz.prog 3 = true := by kernel_rfl
theorem T.s3 : szOf Tryz.prog 3 = 1 := by kernel_rfl
theorem T.r3 : isRowT Tryz.prog 3 = some false := by kernel_rfl
theorem T.i3 : isSliceT Tryz.prog 3 = false := by kernel_rfl
theorem T.z4 : sized Tryz.prog 4 = true := by kernel_rfl
theorem T.s4 : szOf Tryz.prog 4 = 1 := by kernel_rfl
theorem T.r4 : isRowT Tryz.prog 4 = some false := by kernel_rfl
theorem T.z22 : sized Tryz.prog 26 = true := by kernel_rfl
theorem T.s22 : szOf Tryz.prog 26 = 1 := by kernel_rfl
theorem T.r22 : isRowT Tryz.prog 26 = some false := by kernel_rfl
theorem T.i22 : isSliceT Tryz.prog 26 = true := by kernel_rfl
theorem T.o22 : okSrc Tryz.prog 26 = true := by kernel_rfl
theorem T.z24 : sized Tryz.prog 28 = true := by kernel_rfl
theorem T.s24 : szOf Tryz.prog 28 = 2 := by kernel_rfl
theorem T.r24 : isRowT Tryz.prog 28 = some true := by kernel_rfl
theorem T.z27 : sized Tryz.prog 55 = true := by kernel_rfl
theorem T.s27 : szOf Tryz.prog 55 = 1 := by kernel_rfl
theorem T.r27 : isRowT Tryz.prog 55 = some false := by kernel_rfl
theorem T.i27 : isSliceT Tryz.prog 55 = false := by kernel_rfl
theorem T.z50 : sized Tryz.prog 70 = true := by kernel_rfl
theorem T.s50 : szOf Tryz.prog 70 = 1 := by kernel_rfl
theorem T.r50 : isRowT Tryz.prog 70 = some false := by kernel_rfl
theorem T.i50 : isSliceT Tryz.prog 70 = false := by kernel_rfl
theorem T.z55 : sized Tryz.prog 30 = true := by kernel_rfl
theorem T.s55 : szOf Tryz.prog 30 = 4 := by kernel_rfl
theorem T.r55 : isRowT Tryz.prog 30 = some true := by kernel_rfl
theorem T.z70 : sized Tryz.prog 23 = true := by kernel_rfl
theorem T.s70 : szOf Tryz.prog 23 = 1 := by kernel_rfl
theorem T.r70 : isRowT Tryz.prog 23 = some false := by kernel_rfl
theorem T.i70 : isSliceT Tryz.prog 23 = true := by kernel_rfl
theorem T.o70 : okSrc Tryz.prog 23 = true := by kernel_rfl
theorem T.z72 : sized Tryz.prog 22 = true := by kernel_rfl
theorem T.s72 : szOf Tryz.prog 22 = 1 := by kernel_rfl
theorem T.r72 : isRowT Tryz.prog 22 = some false := by kernel_rfl
theorem T.i72 : isSliceT Tryz.prog 22 = true := by kernel_rfl
theorem T.z107 : sized Tryz.prog 25 = true := by kernel_rfl
theorem T.s107 : szOf Tryz.prog 25 = 4 := by kernel_rfl
theorem T.r107 : isRowT Tryz.prog 25 = some true := by kernel_rfl
theorem T.z110 : sized Tryz.prog 32 = true := by kernel_rfl
theorem T.s110 : szOf Tryz.prog 32 = 8 := by kernel_rfl
theorem T.r110 : isRowT Tryz.prog 32 = some true := by kernel_rfl
theorem T.z116 : sized Tryz.prog 51 = true := by kernel_rfl
theorem T.s116 : szOf Tryz.prog 51 = 1 := by kernel_rfl
theorem T.r116 : isRowT Tryz.prog 51 = some false := by kernel_rfl
theorem T.i116 : isSliceT Tryz.prog 51 = true := by kernel_rfl
theorem T.z147 : sized Tryz.prog 99 = true := by kernel_rfl
theorem T.s147 : szOf Tryz.prog 99 = 1 := by kernel_rfl
theorem T.r147 : isRowT Tryz.prog 99 = some false := by kernel_rfl
theorem T.i147 : isSliceT Tryz.prog 99 = true := by kernel_rfl
theorem T.z155 : sized Tryz.prog 68 = true := by kernel_rfl
theorem T.s155 : szOf Tryz.prog 68 = 1 := by kernel_rfl
theorem T.r155 : isRowT Tryz.prog 68 = some false := by kernel_rfl
theorem T.i155 : isSliceT Tryz.prog 68 = false := by kernel_rfl
theorem T.z156 : sized Tryz.prog 71 = true := by kernel_rfl
theorem T.s156 : szOf Tryz.prog 71 = 1 := by kernel_rfl
theorem T.r156 : isRowT Tryz.prog 71 = some false := by kernel_rfl
theorem T.i156 : isSliceT Tryz.prog 71 = false := by kernel_rfl
theorem T.l2 {H : Heap} {b off : Nat} : aLoad Tryz.prog H 2 (.pointer (some ⟨b, off, none⟩)) = rowAt (H.get b) off := load_one T.r2
theorem T.lp2 {H : Heap} {v : Value} : aLoad Tryz.prog H 2 (fpv [v]) = some v := load_fz_one T.r2
theorem T.w2 {H : Heap} {b off : Nat} {x : Int}  : aStore Tryz.prog H 2 (.pointer (some ⟨b, off, none⟩)) (.int .i64 x) = stRow H b off [.int .i64 x] (H.get b) := store_row (vs := [.int .i64 x]) T.z2 T.s2 (rfl) rfl (rfl)
theorem T.new2 : aNew Tryz.prog (fun _ => none) (.alloc 2) = some (2, [.int .i64 0], fun b => .pointer (some ⟨b, 0, none⟩)) := by kernel_rfl
theorem T.alloc2 {H : Heap} {e : Env} {K : Value → Heap → Prop} {d : Option Tmp} {ty : TypeId} {ps : String} {af : Array Edge} {gd : Option (Nat × Bool)} : aStep Tryz.prog e H ⟨d, .alloc 2, ty, ps, af, gd⟩ K = K (.pointer (some ⟨H.next, 0, none⟩)) (H.push (.row true 2 [.int .i64 0])) := s_alloc T.new2
theorem T.l3 {H : Heap} {b off : Nat} : aLoad Tryz.prog H 3 (.pointer (some ⟨b, off, none⟩)) = rowAt (H.get b) off := load_one T.r3
theorem T.lp3 {H : Heap} {v : Value} : aLoad Tryz.prog H 3 (fpv [v]) = some v := load_fz_one T.r3
theorem T.w3 {H : Heap} {b off : Nat} {x : Int}  : aStore Tryz.prog H 3 (.pointer (some ⟨b, off, none⟩)) (.int .i64 x) = stRow H b off [.int .i64 x] (H.get b) := store_row (vs := [.int .i64 x]) T.z3 T.s3 (rfl) rfl (rfl)
theorem T.new3 : aNew Tryz.prog (fun _ => none) (.alloc 3) = some (3, [.int .i64 0], fun b => .pointer (some ⟨b, 0, none⟩)) := by kernel_rfl
theorem T.alloc3 {H : Heap} {e : Env} {K : Value → Heap → Prop} {d : Option Tmp} {ty : TypeId} {ps : String} {af : Array Edge} {gd : Option (Nat × Bool)} : aStep Tryz.prog e H ⟨d, .alloc 3, ty, ps, af, gd⟩ K = K (.pointer (some ⟨H.next, 0, none⟩)) (H.push (.row true 3 [.int .i64 0])) := s_alloc T.new3
theorem T.l4 {H : Heap} {b off : Nat} : aLoad Tryz.prog H 4 (.pointer (some ⟨b, off, none⟩)) = rowAt (H.get b) off := load_one T.r4
theorem T.lp4 {H : Heap} {v : Value} : aLoad Tryz.prog H 4 (fpv [v]) = some v := load_fz_one T.r4
theorem T.w4 {H : Heap} {b off : Nat} {x : Bool}  : aStore Tryz.prog H 4 (.pointer (some ⟨b, off, none⟩)) (.bool x) = stRow H b off [.bool x] (H.get b) := store_row (vs := [.bool x]) T.z4 T.s4 (rfl) rfl (rfl)
theorem T.new4 : aNew Tryz.prog (fun _ => none) (.alloc 4) = some (4, [.bool false], fun b => .pointer (some ⟨b, 0, none⟩)) := by kernel_rfl
theorem T.alloc4 {H : Heap} {e : Env} {K : Value → Heap → Prop} {d : Option Tmp} {ty : TypeId} {ps : String} {af : Array Edge} {gd : Option (Nat × Bool)} : aStep Tryz.prog e H ⟨d, .alloc 4, ty, ps, af, gd⟩ K = K (.pointer (some ⟨H.next, 0, none⟩)) (H.push (.row true 4 [.bool false])) := s_alloc T.new4
theorem T.l22 {H : Heap} {b off : Nat} : aLoad Tryz.prog H 26 (.pointer (some ⟨b, off, none⟩)) = rowAt (H.get b) off := load_one T.r22
theorem T.lp22 {H : Heap} {v : Value} : aLoad Tryz.prog H 26 (fpv [v]) = some v := load_fz_one T.r22
theorem T.w22 {H : Heap} {b off : Nat} {x : Value} (hx : isSl x = true) : aStore Tryz.prog H 26 (.pointer (some ⟨b, off, none⟩)) (x) = stRow H b off [x] (H.get b) := store_row (vs := [x]) T.z22 T.s22 (isSl_cells hx) rfl (by simp only [List.all_cons, List.all_nil, isSl_one hx, Bool.and_true])
theorem T.new22 : aNew Tryz.prog (fun _ => none) (.alloc 26) = some (26, [.slice none 0 0], fun b => .pointer (some ⟨b, 0, none⟩)) := by kernel_rfl
theorem T.alloc22 {H : Heap} {e : Env} {K : Value → Heap → Prop} {d : Option Tmp} {ty : TypeId} {ps : String} {af : Array Edge} {gd : Option (Nat × Bool)} : aStep Tryz.prog e H ⟨d, .alloc 26, ty, ps, af, gd⟩ K = K (.pointer (some ⟨H.next, 0, none⟩)) (H.push (.row true 26 [.slice none 0 0])) := s_alloc T.new22
theorem T.f24_0 {b o : Nat} : aFieldAddr Tryz.prog 28 (.pointer (some ⟨b, o, none⟩)) 0 = some (.pointer (some ⟨b, o + 0, none⟩)) := faddr_own Tryz.underlying28 (by rfl) T.z4 T.s4 (by decide)
theorem T.fs24_0 {v : Value} {o : Nat} : aFieldAddr Tryz.prog 28 (.pointer (some (sadr v o))) 0 = some (.pointer (some (sadr v (o + 0)))) := T.f24_0
theorem T.fp24_0 {v0 v1 : Value} : aFieldAddr Tryz.prog 28 (fpv [v0, v1]) 0 = some (fpv [v0]) := faddr_fz (cells := [v0, v1]) (f := 0) (off := 0) (k := 1) Tryz.underlying28 (by rfl) T.z4 T.s4 (by decide) (by simp)
theorem T.fd24_0 {v0 v1 : Value} : aField Tryz.prog 28 (.agg ⟨[v0, v1]⟩) 0 = some v0 := field_one (cells := [v0, v1]) (f := 0) (off := 0) Tryz.underlying28 (by rfl) T.r4 rfl
theorem T.f24_1 {b o : Nat} : aFieldAddr Tryz.prog 28 (.pointer (some ⟨b, o, none⟩)) 1 = some (.pointer (some ⟨b, o + 1, none⟩)) := faddr_own Tryz.underlying28 (by rfl) T.z22 T.s22 (by decide)
theorem T.fs24_1 {v : Value} {o : Nat} : aFieldAddr Tryz.prog 28 (.pointer (some (sadr v o))) 1 = some (.pointer (some (sadr v (o + 1)))) := T.f24_1
theorem T.fp24_1 {v0 v1 : Value} : aFieldAddr Tryz.prog 28 (fpv [v0, v1]) 1 = some (fpv [v1]) := faddr_fz (cells := [v0, v1]) (f := 1) (off := 1) (k := 1) Tryz.underlying28 (by rfl) T.z22 T.s22 (by decide) (by simp)
theorem T.fd24_1 {v0 v1 : Value} : aField Tryz.prog 28 (.agg ⟨[v0, v1]⟩) 1 = some v1 := field_one (cells := [v0, v1]) (f := 1) (off := 1) Tryz.underlying28 (by rfl) T.r22 rfl
theorem T.l24 {H : Heap} {b off : Nat} : aLoad Tryz.prog H 28 (.pointer (some ⟨b, off, none⟩)) = (rowsAt (H.get b) off 2).map fun l => .agg ⟨l⟩ := by rw [load_row T.r24 T.z24, T.s24]
theorem T.lp24 {H : Heap} {v0 v1 : Value} : aLoad Tryz.prog H 28 (fpv [v0, v1]) = some (.agg ⟨[v0, v1]⟩) := load_fz_row T.r24 T.z24 T.s24 rfl
theorem T.w24 {H : Heap} {b off : Nat} {x0 : Bool} {x1 : Value} (hx1 : isSl x1 = true) : aStore Tryz.prog H 28 (.pointer (some ⟨b, off, none⟩)) (.agg ⟨[.bool x0, x1]⟩) = stRow H b off [.bool x0, x1] (H.get b) := store_row (vs := [.bool x0, x1]) T.z24 T.s24 rfl rfl (by simp only [List.all_cons, List.all_nil, isSl_one hx1, Bool.and_true] <;> rfl)
theorem T.new24 : aNew Tryz.prog (fun _ => none) (.alloc 28) = some (28, [.bool false, .slice none 0 0], fun b => .pointer (some ⟨b, 0, none⟩)) := by kernel_rfl
theorem T.alloc24 {H : Heap} {e : Env} {K : Value → Heap → Prop} {d : Option Tmp} {ty : TypeId} {ps : String} {af : Array Edge} {gd : Option (Nat × Bool)} : aStep Tryz.prog e H ⟨d, .alloc 28, ty, ps, af, gd⟩ K = K (.pointer (some ⟨H.next, 0, none⟩)) (H.push (.row true 28 [.bool false, .slice none 0 0])) := s_alloc T.new24
theorem T.l27 {H : Heap} {b off : Nat} : aLoad Tryz.prog H 55 (.pointer (some ⟨b, off, none⟩)) = rowAt (H.get b) off := load_one T.r27
theorem T.lp27 {H : Heap} {v : Value} : aLoad Tryz.prog H 55 (fpv [v]) = some v := load_fz_one T.r27
theorem T.w27 {H : Heap} {b off : Nat} {x : Int}  : aStore Tryz.prog H 55 (.pointer (some ⟨b, off, none⟩)) (.int .i64 x) = stRow H b off [.int .i64 x] (H.get b) := store_row (vs := [.int .i64 x]) T.z27 T.s27 (rfl) rfl (rfl)
theorem T.new27 : aNew Tryz.prog (fun _ => none) (.alloc 55) = some (55, [.int .i64 0], fun b => .pointer (some ⟨b, 0, none⟩)) := by kernel_rfl
theorem T.alloc27 {H : Heap} {e : Env} {K : Value → Heap → Prop} {d : Option Tmp} {ty : TypeId} {ps : String} {af : Array Edge} {gd : Option (Nat × Bool)} : aStep Tryz.prog e H ⟨d, .alloc 55, ty, ps, af, gd⟩ K = K (.pointer (some ⟨H.next, 0, none⟩)) (H.push (.row true 55 [.int .i64 0])) := s_alloc T.new27
theorem T.l50 {H : Heap} {b off : Nat} : aLoad Tryz.prog H 70 (.pointer (some ⟨b, off, none⟩)) = rowAt (H.get b) off := load_one T.r50
theorem T.lp50 {H : Heap} {v : Value} : aLoad Tryz.prog H 70 (fpv [v]) = some v := load_fz_one T.r50
theorem T.w50 {H : Heap} {b off : Nat} {x : Int}  : aStore Tryz.prog H 70 (.pointer (some ⟨b, off, none⟩)) (.int .u32 x) = stRow H b off [.int .u32 x] (H.get b) := store_row (vs := [.int .u32 x]) T.z50 T.s50 (rfl) rfl (rfl)
theorem T.new50 : aNew Tryz.prog (fun _ => none) (.alloc 70) = some (70, [.int .u32 0], fun b => .pointer (some ⟨b, 0, none⟩)) := by kernel_rfl
theorem T.alloc50 {H : Heap} {e : Env} {K : Value → Heap → Prop} {d : Option Tmp} {ty : TypeId} {ps : String} {af : Array Edge} {gd : Option (Nat × Bool)} : aStep Tryz.prog e H ⟨d, .alloc 70, ty, ps, af, gd⟩ K = K (.pointer (some ⟨H.next, 0, none⟩)) (H.push (.row true 70 [.int .u32 0])) := s_alloc T.new50
theorem T.f55_0 {b o : Nat} : aFieldAddr Tryz.prog 30 (.pointer (some ⟨b, o, none⟩)) 0 = some (.pointer (some ⟨b, o + 0, none⟩)) := faddr_own Tryz.underlying30 (by rfl) T.z24 T.s24 (by decide)
theorem T.fs55_0 {v : Value} {o : Nat} : aFieldAddr Tryz.prog 30 (.pointer (some (sadr v o))) 0 = some (.pointer (some (sadr v (o + 0)))) := T.f55_0
theorem T.fp55_0 {v0 v1 v2 v3 : Value} : aFieldAddr Tryz.prog 30 (fpv [v0, v1, v2, v3]) 0 = some (fpv [v0, v1]) := faddr_fz (cells := [v0, v1, v2, v3]) (f := 0) (off := 0) (k := 2) Tryz.underlying30 (by rfl) T.z24 T.s24 (by decide) (by simp)
theorem T.fd55_0 {v0 v1 v2 v3 : Value} : aField Tryz.prog 30 (.agg ⟨[v0, v1, v2, v3]⟩) 0 = some (.agg ⟨[v0, v1]⟩) := field_row (cells := [v0, v1, v2, v3]) (f := 0) (off := 0) (k := 2) Tryz.underlying30 (by rfl) T.r24 T.z24 T.s24
theorem T.f55_1 {b o : Nat} : aFieldAddr Tryz.prog 30 (.pointer (some ⟨b, o, none⟩)) 1 = some (.pointer (some ⟨b, o + 2, none⟩)) := faddr_own Tryz.underlying30 (by rfl) T.z24 T.s24 (by decide)
theorem T.fs55_1 {v : Value} {o : Nat} : aFieldAddr Tryz.prog 30 (.pointer (some (sadr v o))) 1 = some (.pointer (some (sadr v (o + 2)))) := T.f55_1
theorem T.fp55_1 {v0 v1 v2 v3 : Value} : aFieldAddr Tryz.prog 30 (fpv [v0, v1, v2, v3]) 1 = some (fpv [v2, v3]) := faddr_fz (cells := [v0, v1, v2, v3]) (f := 1) (off := 2) (k := 2) Tryz.underlying30 (by rfl) T.z24 T.s24 (by decide) (by simp)
theorem T.fd55_1 {v0 v1 v2 v3 : Value} : aField Tryz.prog 30 (.agg ⟨[v0, v1, v2, v3]⟩) 1 = some (.agg ⟨[v2, v3]⟩) := field_row (cells := [v0, v1, v2, v3]) (f := 1) (off := 2) (k := 2) Tryz.underlying30 (by rfl) T.r24 T.z24 T.s24
theorem T.l55 {H : Heap} {b off : Nat} : aLoad Tryz.prog H 30 (.pointer (some ⟨b, off, none⟩)) = (rowsAt (H.get b) off 4).map fun l => .agg ⟨l⟩ := by rw [load_row T.r55 T.z55, T.s55]
theorem T.lp55 {H : Heap} {v0 v1 v2 v3 : Value} : aLoad Tryz.prog H 30 (fpv [v0, v1, v2, v3]) = some (.agg ⟨[v0, v1, v2, v3]⟩) := load_fz_row T.r55 T.z55 T.s55 rfl
theorem T.w55 {H : Heap} {b off : Nat} {x00 : Bool} {x01 : Value} {x10 : Bool} {x11 : Value} (hx01 : isSl x01 = true) (hx11 : isSl x11 = true) : aStore Tryz.prog H 30 (.pointer (some ⟨b, off, none⟩)) (.agg ⟨[.bool x00, x01, .bool x10, x11]⟩) = stRow H b off [.bool x00, x01, .bool x10, x11] (H.get b) := store_row (vs := [.bool x00, x01, .bool x10, x11]) T.z55 T.s55 rfl rfl (by simp only [List.all_cons, List.all_nil, isSl_one hx01, isSl_one hx11, Bool.and_true] <;> rfl)
theorem T.new55 : aNew Tryz.prog (fun _ => none) (.alloc 30) = some (30, [.bool false, .slice none 0 0, .bool false, .slice none 0 0], fun b => .pointer (some ⟨b, 0, none⟩)) := by kernel_rfl
theorem T.alloc55 {H : Heap} {e : Env} {K : Value → Heap → Prop} {d : Option Tmp} {ty : TypeId} {ps : String} {af : Array Edge} {gd : Option (Nat × Bool)} : aStep Tryz.prog e H ⟨d, .alloc 30, ty, ps, af, gd⟩ K = K (.pointer (some ⟨H.next, 0, none⟩)) (H.push (.row true 30 [.bool false, .slice none 0 0, .bool false, .slice none 0 0])) := s_alloc T.new55
theorem T.l70 {H : Heap} {b off : Nat} : aLoad Tryz.prog H 23 (.pointer (some ⟨b, off, none⟩)) = rowAt (H.get b) off := load_one T.r70
theorem T.lp70 {H : Heap} {v : Value} : aLoad Tryz.prog H 23 (fpv [v]) = some v := load_fz_one T.r70
theorem T.w70 {H : Heap} {b off : Nat} {x : Value} (hx : isSl x = true) : aStore Tryz.prog H 23 (.pointer (some ⟨b, off, none⟩)) (x) = stRow H b off [x] (H.get b) := store_row (vs := [x]) T.z70 T.s70 (isSl_cells hx) rfl (by simp only [List.all_cons, List.all_nil, isSl_one hx, Bool.and_true])
theorem T.new70 : aNew Tryz.prog (fun _ => none) (.alloc 23) = some (23, [.slice none 0 0], fun b => .pointer (some ⟨b, 0, none⟩)) := by kernel_rfl
theorem T.alloc70 {H : Heap} {e : Env} {K : Value → Heap → Prop} {d : Option Tmp} {ty : TypeId} {ps : String} {af : Array Edge} {gd : Option (Nat × Bool)} : aStep Tryz.prog e H ⟨d, .alloc 23, ty, ps, af, gd⟩ K = K (.pointer (some ⟨H.next, 0, none⟩)) (H.push (.row true 23 [.slice none 0 0])) := s_alloc T.new70
theorem T.l72 {H : Heap} {b off : Nat} : aLoad Tryz.prog H 22 (.pointer (some ⟨b, off, none⟩)) = rowAt (H.get b) off := load_one T.r72
theorem T.lp72 {H : Heap} {v : Value} : aLoad Tryz.prog H 22 (fpv [v]) = some v := load_fz_one T.r72
theorem T.w72 {H : Heap} {b off : Nat} {x : Value} (hx : isSl x = true) : aStore Tryz.prog H 22 (.pointer (some ⟨b, off, none⟩)) (x) = stRow H b off [x] (H.get b) := store_row (vs := [x]) T.z72 T.s72 (isSl_cells hx) rfl (by simp only [List.all_cons, List.all_nil, isSl_one hx, Bool.and_true])
theorem T.new72 : aNew Tryz.prog (fun _ => none) (.alloc 22) = some (22, [.slice none 0 0], fun b => .pointer (some ⟨b, 0, none⟩)) := by kernel_rfl
theorem T.alloc72 {H : Heap} {e : Env} {K : Value → Heap → Prop} {d : Option Tmp} {ty : TypeId} {ps : String} {af : Array Edge} {gd : Option (Nat × Bool)} : aStep Tryz.prog e H ⟨d, .alloc 22, ty, ps, af, gd⟩ K = K (.pointer (some ⟨H.next, 0, none⟩)) (H.push (.row true 22 [.slice none 0 0])) := s_alloc T.new72
theorem T.f107_0 {b o : Nat} : aFieldAddr Tryz.prog 25 (.pointer (some ⟨b, o, none⟩)) 0 = some (.pointer (some ⟨b, o + 0, none⟩)) := faddr_own Tryz.underlying25 (by rfl) T.z3 T.s3 (by decide)
theorem T.fs107_0 {v : Value} {o : Nat} : aFieldAddr Tryz.prog 25 (.pointer (some (sadr v o))) 0 = some (.pointer (some (sadr v (o + 0)))) := T.f107_0
theorem T.fp107_0 {v0 v1 v2 v3 : Value} : aFieldAddr Tryz.prog 25 (fpv [v0, v1, v2, v3]) 0 = some (fpv [v0]) := faddr_fz (cells := [v0, v1, v2, v3]) (f := 0) (off := 0) (k := 1) Tryz.underlying25 (by rfl) T.z3 T.s3 (by decide) (by simp)
theorem T.fd107_0 {v0 v1 v2 v3 : Value} : aField Tryz.prog 25 (.agg ⟨[v0, v1, v2, v3]⟩) 0 = some v0 := field_one (cells := [v0, v1, v2, v3]) (f := 0) (off := 0) Tryz.underlying25 (by rfl) T.r3 rfl
theorem T.f107_1 {b o : Nat} : aFieldAddr Tryz.prog 25 (.pointer (some ⟨b, o, none⟩)) 1 = some (.pointer (some ⟨b, o + 1, none⟩)) := faddr_own Tryz.underlying25 (by rfl) T.z72 T.s72 (by decide)
theorem T.fs107_1 {v : Value} {o : Nat} : aFieldAddr Tryz.prog 25 (.pointer (some (sadr v o))) 1 = some (.pointer (some (sadr v (o + 1)))) := T.f107_1
theorem T.fp107_1 {v0 v1 v2 v3 : Value} : aFieldAddr Tryz.prog 25 (fpv [v0, v1, v2, v3]) 1 = some (fpv [v1]) := faddr_fz (cells := [v0, v1, v2, v3]) (f := 1) (off := 1) (k := 1) Tryz.underlying25 (by rfl) T.z72 T.s72 (by decide) (by simp)
theorem T.fd107_1 {v0 v1 v2 v3 : Value} : aField Tryz.prog 25 (.agg ⟨[v0, v1, v2, v3]⟩) 1 = some v1 := field_one (cells := [v0, v1, v2, v3]) (f := 1) (off := 1) Tryz.underlying25 (by rfl) T.r72 rfl
theorem T.f107_2 {b o : Nat} : aFieldAddr Tryz.prog 25 (.pointer (some ⟨b, o, none⟩)) 2 = some (.pointer (some ⟨b, o + 2, none⟩)) := faddr_own Tryz.underlying25 (by rfl) T.z70 T.s70 (by decide)
theorem T.fs107_2 {v : Value} {o : Nat} : aFieldAddr Tryz.prog 25 (.pointer (some (sadr v o))) 2 = some (.pointer (some (sadr v (o + 2)))) := T.f107_2
theorem T.fp107_2 {v0 v1 v2 v3 : Value} : aFieldAddr Tryz.prog 25 (fpv [v0, v1, v2, v3]) 2 = some (fpv [v2]) := faddr_fz (cells := [v0, v1, v2, v3]) (f := 2) (off := 2) (k := 1) Tryz.underlying25 (by rfl) T.z70 T.s70 (by decide) (by simp)
theorem T.fd107_2 {v0 v1 v2 v3 : Value} : aField Tryz.prog 25 (.agg ⟨[v0, v1, v2, v3]⟩) 2 = some v2 := field_one (cells := [v0, v1, v2, v3]) (f := 2) (off := 2) Tryz.underlying25 (by rfl) T.r70 rfl
theorem T.f107_3 {b o : Nat} : aFieldAddr Tryz.prog 25 (.pointer (some ⟨b, o, none⟩)) 3 = some (.pointer (some ⟨b, o + 3, none⟩)) := faddr_own Tryz.underlying25 (by rfl) T.z70 T.s70 (by decide)
theorem T.fs107_3 {v : Value} {o : Nat} : aFieldAddr Tryz.prog 25 (.pointer (some (sadr v o))) 3 = some (.pointer (some (sadr v (o + 3)))) := T.f107_3
theorem T.fp107_3 {v0 v1 v2 v3 : Value} : aFieldAddr Tryz.prog 25 (fpv [v0, v1, v2, v3]) 3 = some (fpv [v3]) := faddr_fz (cells := [v0, v1, v2, v3]) (f := 3) (off := 3) (k := 1) Tryz.underlying25 (by rfl) T.z70 T.s70 (by decide) (by simp)
theorem T.fd107_3 {v0 v1 v2 v3 : Value} : aField Tryz.prog 25 (.agg ⟨[v0, v1, v2, v3]⟩) 3 = some v3 := field_one (cells := [v0, v1, v2, v3]) (f := 3) (off := 3) Tryz.underlying25 (by rfl) T.r70 rfl
theorem T.l107 {H : Heap} {b off : Nat} : aLoad Tryz.prog H 25 (.pointer (some ⟨b, off, none⟩)) = (rowsAt (H.get b) off 4).map fun l => .agg ⟨l⟩ := by rw [load_row T.r107 T.z107, T.s107]
theorem T.lp107 {H : Heap} {v0 v1 v2 v3 : Value} : aLoad Tryz.prog H 25 (fpv [v0, v1, v2, v3]) = some (.agg ⟨[v0, v1, v2, v3]⟩) := load_fz_row T.r107 T.z107 T.s107 rfl
theorem T.w107 {H : Heap} {b off : Nat} {x0 : Int} {x1 : Value} {x2 : Value} {x3 : Value} (hx1 : isSl x1 = true) (hx2 : isSl x2 = true) (hx3 : isSl x3 = true) : aStore Tryz.prog H 25 (.pointer (some ⟨b, off, none⟩)) (.agg ⟨[.int .i64 x0, x1, x2, x3]⟩) = stRow H b off [.int .i64 x0, x1, x2, x3] (H.get b) := store_row (vs := [.int .i64 x0, x1, x2, x3]) T.z107 T.s107 rfl rfl (by simp only [List.all_cons, List.all_nil, isSl_one hx1, isSl_one hx2, isSl_one hx3, Bool.and_true] <;> rfl)
theorem T.new107 : aNew Tryz.prog (fun _ => none) (.alloc 25) = some (25, [.int .i64 0, .slice none 0 0, .slice none 0 0, .slice none 0 0], fun b => .pointer (some ⟨b, 0, none⟩)) := by kernel_rfl
theorem T.alloc107 {H : Heap} {e : Env} {K : Value → Heap → Prop} {d : Option Tmp} {ty : TypeId} {ps : String} {af : Array Edge} {gd : Option (Nat × Bool)} : aStep Tryz.prog e H ⟨d, .alloc 25, ty, ps, af, gd⟩ K = K (.pointer (some ⟨H.next, 0, none⟩)) (H.push (.row true 25 [.int .i64 0, .slice none 0 0, .slice none 0 0, .slice none 0 0])) := s_alloc T.new107
theorem T.f110_0 {b o : Nat} : aFieldAddr Tryz.prog 32 (.pointer (some ⟨b, o, none⟩)) 0 = some (.pointer (some ⟨b, o + 0, none⟩)) := faddr_own Tryz.underlying32 (by rfl) T.z3 T.s3 (by decide)
theorem T.fs110_0 {v : Value} {o : Nat} : aFieldAddr Tryz.prog 32 (.pointer (some (sadr v o))) 0 = some (.pointer (some (sadr v (o + 0)))) := T.f110_0
theorem T.fp110_0 {v0 v1 v2 v3 v4 v5 v6 v7 : Value} : aFieldAddr Tryz.prog 32 (fpv [v0, v1, v2, v3, v4, v5, v6, v7]) 0 = some (fpv [v0]) := faddr_fz (cells := [v0, v1, v2, v3, v4, v5, v6, v7]) (f := 0) (off := 0) (k := 1) Tryz.underlying32 (by rfl) T.z3 T.s3 (by decide) (by simp)
theorem T.fd110_0 {v0 v1 v2 v3 v4 v5 v6 v7 : Value} : aField Tryz.prog 32 (.agg ⟨[v0, v1, v2, v3, v4, v5, v6, v7]⟩) 0 = some v0 := field_one (cells := [v0, v1, v2, v3, v4, v5, v6, v7]) (f := 0) (off := 0) Tryz.underlying32 (by rfl) T.r3 rfl
theorem T.f110_1 {b o : Nat} : aFieldAddr Tryz.prog 32 (.pointer (some ⟨b, o, none⟩)) 1 = some (.pointer (some ⟨b, o + 1, none⟩)) := faddr_own Tryz.underlying32 (by rfl) T.z55 T.s55 (by decide)
theorem T.fs110_1 {v : Value} {o : Nat} : aFieldAddr Tryz.prog 32 (.pointer (some (sadr v o))) 1 = some (.pointer (some (sadr v (o + 1)))) := T.f110_1
theorem T.fp110_1 {v0 v1 v2 v3 v4 v5 v6 v7 : Value} : aFieldAddr Tryz.prog 32 (fpv [v0, v1, v2, v3, v4, v5, v6, v7]) 1 = some (fpv [v1, v2, v3, v4]) := faddr_fz (cells := [v0, v1, v2, v3, v4, v5, v6, v7]) (f := 1) (off := 1) (k := 4) Tryz.underlying32 (by rfl) T.z55 T.s55 (by decide) (by simp)
theorem T.fd110_1 {v0 v1 v2 v3 v4 v5 v6 v7 : Value} : aField Tryz.prog 32 (.agg ⟨[v0, v1, v2, v3, v4, v5, v6, v7]⟩) 1 = some (.agg ⟨[v1, v2, v3, v4]⟩) := field_row (cells := [v0, v1, v2, v3, v4, v5, v6, v7]) (f := 1) (off := 1) (k := 4) Tryz.underlying32 (by rfl) T.r55 T.z55 T.s55
theorem T.f110_2 {b o : Nat} : aFieldAddr Tryz.prog 32 (.pointer (some ⟨b, o, none⟩)) 2 = some (.pointer (some ⟨b, o + 5, none⟩)) := faddr_own Tryz.underlying32 (by rfl) T.z70 T.s70 (by decide)
theorem T.fs110_2 {v : Value} {o : Nat} : aFieldAddr Tryz.prog 32 (.pointer (some (sadr v o))) 2 = some (.pointer (some (sadr v (o + 5)))) := T.f110_2
theorem T.fp110_2 {v0 v1 v2 v3 v4 v5 v6 v7 : Value} : aFieldAddr Tryz.prog 32 (fpv [v0, v1, v2, v3, v4, v5, v6, v7]) 2 = some (fpv [v5]) := faddr_fz (cells := [v0, v1, v2, v3, v4, v5, v6, v7]) (f := 2) (off := 5) (k := 1) Tryz.underlying32 (by rfl) T.z70 T.s70 (by decide) (by simp)
theorem T.fd110_2 {v0 v1 v2 v3 v4 v5 v6 v7 : Value} : aField Tryz.prog 32 (.agg ⟨[v0, v1, v2, v3, v4, v5, v6, v7]⟩) 2 = some v5 := field_one (cells := [v0, v1, v2, v3, v4, v5, v6, v7]) (f := 2) (off := 5) Tryz.underlying32 (by rfl) T.r70 rfl
theorem T.f110_3 {b o : Nat} : aFieldAddr Tryz.prog 32 (.pointer (some ⟨b, o, none⟩)) 3 = some (.pointer (some ⟨b, o + 6, none⟩)) := faddr_own Tryz.underlying32 (by rfl) T.z70 T.s70 (by decide)
theorem T.fs110_3 {v : Value} {o : Nat} : aFieldAddr Tryz.prog 32 (.pointer (some (sadr v o))) 3 = some (.pointer (some (sadr v (o + 6)))) := T.f110_3
theorem T.fp110_3 {v0 v1 v2 v3 v4 v5 v6 v7 : Value} : aFieldAddr Tryz.prog 32 (fpv [v0, v1, v2, v3, v4, v5, v6, v7]) 3 = some (fpv [v6]) := faddr_fz (cells := [v0, v1, v2, v3, v4, v5, v6, v7]) (f := 3) (off := 6) (k := 1) Tryz.underlying32 (by rfl) T.z70 T.s70 (by decide) (by simp)
theorem T.fd110_3 {v0 v1 v2 v3 v4 v5 v6 v7 : Value} : aField Tryz.prog 32 (.agg ⟨[v0, v1, v2, v3, v4, v5, v6, v7]⟩) 3 = some v6 := field_one (cells := [v0, v1, v2, v3, v4, v5, v6, v7]) (f := 3) (off := 6) Tryz.underlying32 (by rfl) T.r70 rfl
theorem T.f110_4 {b o : Nat} : aFieldAddr Tryz.prog 32 (.pointer (some ⟨b, o, none⟩)) 4 = some (.pointer (some ⟨b, o + 7, none⟩)) := faddr_own Tryz.underlying32 (by rfl) T.z70 T.s70 (by decide)
theorem T.fs110_4 {v : Value} {o : Nat} : aFieldAddr Tryz.prog 32 (.pointer (some (sadr v o))) 4 = some (.pointer (some (sadr v (o + 7)))) := T.f110_4
theorem T.fp110_4 {v0 v1 v2 v3 v4 v5 v6 v7 : Value} : aFieldAddr Tryz.prog 32 (fpv [v0, v1, v2, v3, v4, v5, v6, v7]) 4 = some (fpv [v7]) := faddr_fz (cells := [v0, v1, v2, v3, v4, v5, v6, v7]) (f := 4) (off := 7) (k := 1) Tryz.underlying32 (by rfl) T.z70 T.s70 (by decide) (by simp)
theorem T.fd110_4 {v0 v1 v2 v3 v4 v5 v6 v7 : Value} : aField Tryz.prog 32 (.agg ⟨[v0, v1, v2, v3, v4, v5, v6, v7]⟩) 4 = some v7 := field_one (cells := [v0, v1, v2, v3, v4, v5, v6, v7]) (f := 4) (off := 7) Tryz.underlying32 (by rfl) T.r70 rfl
theorem T.l110 {H : Heap} {b off : Nat} : aLoad Tryz.prog H 32 (.pointer (some ⟨b, off, none⟩)) = (rowsAt (H.get b) off 8).map fun l => .agg ⟨l⟩ := by rw [load_row T.r110 T.z110, T.s110]
theorem T.lp110 {H : Heap} {v0 v1 v2 v3 v4 v5 v6 v7 : Value} : aLoad Tryz.prog H 32 (fpv [v0, v1, v2, v3, v4, v5, v6, v7]) = some (.agg ⟨[v0, v1, v2, v3, v4, v5, v6, v7]⟩) := load_fz_row T.r110 T.z110 T.s110 rfl
theorem T.w110 {H : Heap} {b off : Nat} {x0 : Int} {x100 : Bool} {x101 : Value} {x110 : Bool} {x111 : Value} {x2 : Value} {x3 : Value} {x4 : Value} (hx101 : isSl x101 = true) (hx111 : isSl x111 = true) (hx2 : isSl x2 = true) (hx3 : isSl x3 = true) (hx4 : isSl x4 = true) : aStore Tryz.prog H 32 (.pointer (some ⟨b, off, none⟩)) (.agg ⟨[.int .i64 x0, .bool x100, x101, .bool x110, x111, x2, x3, x4]⟩) = stRow H b off [.int .i64 x0, .bool x100, x101, .bool x110, x111, x2, x3, x4] (H.get b) := store_row (vs := [.int .i64 x0, .bool x100, x101, .bool x110, x111, x2, x3, x4]) T.z110 T.s110 rfl rfl (by simp only [List.all_cons, List.all_nil, isSl_one hx101, isSl_one hx111, isSl_one hx2, isSl_one hx3, isSl_one hx4, Bool.and_true] <;> rfl)
theorem T.new110 : aNew Tryz.prog (fun _ => none) (.alloc 32) = some (32, [.int .i64 0, .bool false, .slice none 0 0, .bool false, .slice none 0 0, .slice none 0 0, .slice none 0 0, .slice none 0 0], fun b => .pointer (some ⟨b, 0, none⟩)) := by kernel_rfl
theorem T.alloc110 {H : Heap} {e : Env} {K : Value → Heap → Prop} {d : Option Tmp} {ty : TypeId} {ps : String} {af : Array Edge} {gd : Option (Nat × Bool)} : aStep Tryz.prog e H ⟨d, .alloc 32, ty, ps, af, gd⟩ K = K (.pointer (some ⟨H.next, 0, none⟩)) (H.push (.row true 32 [.int .i64 0, .bool false, .slice none 0 0, .bool false, .slice none 0 0, .slice none 0 0, .slice none 0 0, .slice none 0 0])) := s_alloc T.new110
theorem T.l116 {H : Heap} {b off : Nat} : aLoad Tryz.prog H 51 (.pointer (some ⟨b, off, none⟩)) = rowAt (H.get b) off := load_one T.r116
theorem T.lp116 {H : Heap} {v : Value} : aLoad Tryz.prog H 51 (fpv [v]) = some v := load_fz_one T.r116
theorem T.w116 {H : Heap} {b off : Nat} {x : Value} (hx : isSl x = true) : aStore Tryz.prog H 51 (.pointer (some ⟨b, off, none⟩)) (x) = stRow H b off [x] (H.get b) := store_row (vs := [x]) T.z116 T.s116 (isSl_cells hx) rfl (by simp only [List.all_cons, List.all_nil, isSl_one hx, Bool.and_true])
theorem T.new116 : aNew Tryz.prog (fun _ => none) (.alloc 51) = some (51, [.slice none 0 0], fun b => .pointer (some ⟨b, 0, none⟩)) := by kernel_rfl
theorem T.alloc116 {H : Heap} {e : Env} {K : Value → Heap → Prop} {d : Option Tmp} {ty : TypeId} {ps : String} {af : Array Edge} {gd : Option (Nat × Bool)} : aStep Tryz.prog e H ⟨d, .alloc 51, ty, ps, af, gd⟩ K = K (.pointer (some ⟨H.next, 0, none⟩)) (H.push (.row true 51 [.slice none 0 0])) := s_alloc T.new116
theorem T.l147 {H : Heap} {b off : Nat} : aLoad Tryz.prog H 99 (.pointer (some ⟨b, off, none⟩)) = rowAt (H.get b) off := load_one T.r147
theorem T.lp147 {H : Heap} {v : Value} : aLoad Tryz.prog H 99 (fpv [v]) = some v := load_fz_one T.r147
theorem T.w147 {H : Heap} {b off : Nat} {x : Value} (hx : isSl x = true) : aStore Tryz.prog H 99 (.pointer (some ⟨b, off, none⟩)) (x) = stRow H b off [x] (H.get b) := store_row (vs := [x]) T.z147 T.s147 (isSl_cells hx) rfl (by simp only [List.all_cons, List.all_nil, isSl_one hx, Bool.and_true])
theorem T.new147 : aNew Tryz.prog (fun _ => none) (.alloc 99) = some (99, [.slice none 0 0], fun b => .pointer (some ⟨b, 0, none⟩)) := by kernel_rfl
theorem T.alloc147 {H : Heap} {e : Env} {K : Value → Heap → Prop} {d : Option Tmp} {ty : TypeId} {ps : String} {af : Array Edge} {gd : Option (Nat × Bool)} : aStep Tryz.prog e H ⟨d, .alloc 99, ty, ps, af, gd⟩ K = K (.pointer (some ⟨H.next, 0, none⟩)) (H.push (.row true 99 [.slice none 0 0])) := s_alloc T.new147
theorem T.l155 {H : Heap} {b off : Nat} : aLoad Tryz.prog H 68 (.pointer (some ⟨b, off, none⟩)) = rowAt (H.get b) off := load_one T.r155
theorem T.lp155 {H : Heap} {v : Value} : aLoad Tryz.prog H 68 (fpv [v]) = some v := load_fz_one T.r155
theorem T.w155 {H : Heap} {b off : Nat} {x : Int}  : aStore Tryz.prog H 68 (.pointer (some ⟨b, off, none⟩)) (.int .u64 x) = stRow H b off [.int .u64 x] (H.get b) := store_row (vs := [.int .u64 x]) T.z155 T.s155 (rfl) rfl (rfl)
theorem T.new155 : aNew Tryz.prog (fun _ => none) (.alloc 68) = some (68, [.int .u64 0], fun b => .pointer (some ⟨b, 0, none⟩)) := by kernel_rfl
theorem T.alloc155 {H : Heap} {e : Env} {K : Value → Heap → Prop} {d : Option Tmp} {ty : TypeId} {ps : String} {af : Array Edge} {gd : Option (Nat × Bool)} : aStep Tryz.prog e H ⟨d, .alloc 68, ty, ps, af, gd⟩ K = K (.pointer (some ⟨H.next, 0, none⟩)) (H.push (.row true 68 [.int .u64 0])) := s_alloc T.new155
theorem T.l156 {H : Heap} {b off : Nat} : aLoad Tryz.prog H 71 (.pointer (some ⟨b, off, none⟩)) = rowAt (H.get b) off := load_one T.r156
theorem T.lp156 {H : Heap} {v : Value} : aLoad Tryz.prog H 71 (fpv [v]) = some v := load_fz_one T.r156
theorem T.w156 {H : Heap} {b off : Nat} {x : Int}  : aStore Tryz.prog H 71 (.pointer (some ⟨b, off, none⟩)) (.int .u64 x) = stRow H b off [.int .u64 x] (H.get b) := store_row (vs := [.int .u64 x]) T.z156 T.s156 (rfl) rfl (rfl)
theorem T.new156 : aNew Tryz.prog (fun _ => none) (.alloc 71) = some (71, [.int .u64 0], fun b => .pointer (some ⟨b, 0, none⟩)) := by kernel_rfl
theorem T.alloc156 {H : Heap} {e : Env} {K : Value → Heap → Prop} {d : Option Tmp} {ty : TypeId} {ps : String} {af : Array Edge} {gd : Option (Nat × Bool)} : aStep Tryz.prog e H ⟨d, .alloc 71, ty, ps, af, gd⟩ K = K (.pointer (some ⟨H.next, 0, none⟩)) (H.push (.row true 71 [.int .u64 0])) := s_alloc T.new156
theorem T.e4 {x y : Operand} {a b : Bool} : aBin Tryz.prog .eql 4 x y (.bool a) (.bool b) = some (.bool (a == b)) := bin_beql Tryz.underlying4
theorem T.n4 {x y : Operand} {a b : Bool} : aBin Tryz.prog .neq 4 x y (.bool a) (.bool b) = some (.bool (a != b)) := bin_bneq Tryz.underlying4
theorem T.c2_2 {H : Heap} {k : IntKind} {n : Int} : aConv Tryz.prog H 2 2 (.int k n) = some (.int .i64 (IntKind.i64.wrap n)) := conv_int T.i2 Tryz.underlying2 Tryz.underlying2
theorem T.c2_3 {H : Heap} {k : IntKind} {n : Int} : aConv Tryz.prog H 2 3 (.int k n) = some (.int .i64 (IntKind.i64.wrap n)) := conv_int T.i2 Tryz.underlying2 Tryz.underlying3
theorem T.c2_27 {H : Heap} {k : IntKind} {n : Int} : aConv Tryz.prog H 2 55 (.int k n) = some (.int .i64 (IntKind.i64.wrap n)) := conv_int T.i2 Tryz.underlying2 Tryz.underlying55
theorem T.c2_50 {H : Heap} {k : IntKind} {n : Int} : aConv Tryz.prog H 2 70 (.int k n) = some (.int .u32 (IntKind.u32.wrap n)) := conv_int T.i2 Tryz.underlying2 Tryz.underlying70
theorem T.c2_155 {H : Heap} {k : IntKind} {n : Int} : aConv Tryz.prog H 2 68 (.int k n) = some (.int .u64 (IntKind.u64.wrap n)) := conv_int T.i2 Tryz.underlying2 Tryz.underlying68
theorem T.c2_156 {H : Heap} {k : IntKind} {n : Int} : aConv Tryz.prog H 2 71 (.int k n) = some (.int .u64 (IntKind.u64.wrap n)) := conv_int T.i2 Tryz.underlying2 Tryz.underlying71
theorem T.c3_2 {H : Heap} {k : IntKind} {n : Int} : aConv Tryz.prog H 3 2 (.int k n) = some (.int .i64 (IntKind.i64.wrap n)) := conv_int T.i3 Tryz.underlying3 Tryz.underlying2
theorem T.c3_3 {H : Heap} {k : IntKind} {n : Int} : aConv Tryz.prog H 3 3 (.int k n) = some (.int .i64 (IntKind.i64.wrap n)) := conv_int T.i3 Tryz.underlying3 Tryz.underlying3
theorem T.c3_27 {H : Heap} {k : IntKind} {n : Int} : aConv Tryz.prog H 3 55 (.int k n) = some (.int .i64 (IntKind.i64.wrap n)) := conv_int T.i3 Tryz.underlying3 Tryz.underlying55
theorem T.c3_50 {H : Heap} {k : IntKind} {n : Int} : aConv Tryz.prog H 3 70 (.int k n) = some (.int .u32 (IntKind.u32.wrap n)) := conv_int T.i3 Tryz.underlying3 Tryz.underlying70
theorem T.c3_155 {H : Heap} {k : IntKind} {n : Int} : aConv Tryz.prog H 3 68 (.int k n) = some (.int .u64 (IntKind.u64.wrap n)) := conv_int T.i3 Tryz.underlying3 Tryz.underlying68
theorem T.c3_156 {H : Heap} {k : IntKind} {n : Int} : aConv Tryz.prog H 3 71 (.int k n) = some (.int .u64 (IntKind.u64.wrap n)) := conv_int T.i3 Tryz.underlying3 Tryz.underlying71
theorem T.c27_2 {H : Heap} {k : IntKind} {n : Int} : aConv Tryz.prog H 55 2 (.int k n) = some (.int .i64 (IntKind.i64.wrap n)) := conv_int T.i27 Tryz.underlying55 Tryz.underlying2
theorem T.c27_3 {H : Heap} {k : IntKind} {n : Int} : aConv Tryz.prog H 55 3 (.int k n) = some (.int .i64 (IntKind.i64.wrap n)) := conv_int T.i27 Tryz.underlying55 Tryz.underlying3
theorem T.c27_27 {H : Heap} {k : IntKind} {n : Int} : aConv Tryz.prog H 55 55 (.int k n) = some (.int .i64 (IntKind.i64.wrap n)) := conv_int T.i27 Tryz.underlying55 Tryz.underlying55
theorem T.c27_50 {H : Heap} {k : IntKind} {n : Int} : aConv Tryz.prog H 55 70 (.int k n) = some (.int .u32 (IntKind.u32.wrap n)) := conv_int T.i27 Tryz.underlying55 Tryz.underlying70
theorem T.c27_155 {H : Heap} {k : IntKind} {n : Int} : aConv Tryz.prog H 55 68 (.int k n) = some (.int .u64 (IntKind.u64.wrap n)) := conv_int T.i27 Tryz.underlying55 Tryz.underlying68
theorem T.c27_156 {H : Heap} {k : IntKind} {n : Int} : aConv Tryz.prog H 55 71 (.int k n) = some (.int .u64 (IntKind.u64.wrap n)) := conv_int T.i27 Tryz.underlying55 Tryz.underlying71
theorem T.c50_2 {H : Heap} {k : IntKind} {n : Int} : aConv Tryz.prog H 70 2 (.int k n) = some (.int .i64 (IntKind.i64.wrap n)) := conv_int T.i50 Tryz.underlying70 Tryz.underlying2
theorem T.c50_3 {H : Heap} {k : IntKind} {n : Int} : aConv Tryz.prog H 70 3 (.int k n) = some (.int .i64 (IntKind.i64.wrap n)) := conv_int T.i50 Tryz.underlying70 Tryz.underlying3
theorem T.c50_27 {H : Heap} {k : IntKind} {n : Int} : aConv Tryz.prog H 70 55 (.int k n) = some (.int .i64 (IntKind.i64.wrap n)) := conv_int T.i50 Tryz.underlying70 Tryz.underlying55
theorem T.c50_50 {H : Heap} {k : IntKind} {n : Int} : aConv Tryz.prog H 70 70 (.int k n) = some (.int .u32 (IntKind.u32.wrap n)) := conv_int T.i50 Tryz.underlying70 Tryz.underlying70
theorem T.c50_155 {H : Heap} {k : IntKind} {n : Int} : aConv Tryz.prog H 70 68 (.int k n) = some (.int .u64 (IntKind.u64.wrap n)) := conv_int T.i50 Tryz.underlying70 Tryz.underlying68
theorem T.c50_156 {H : Heap} {k : IntKind} {n : Int} : aConv Tryz.prog H 70 71 (.int k n) = some (.int .u64 (IntKind.u64.wrap n)) := conv_int T.i50 Tryz.underlying70 Tryz.underlying71
theorem T.c155_2 {H : Heap} {k : IntKind} {n : Int} : aConv Tryz.prog H 68 2 (.int k n) = some (.int .i64 (IntKind.i64.wrap n)) := conv_int T.i155 Tryz.underlying68 Tryz.underlying2
theorem T.c155_3 {H : Heap} {k : IntKind} {n : Int} : aConv Tryz.prog H 68 3 (.int k n) = some (.int .i64 (IntKind.i64.wrap n)) := conv_int T.i155 Tryz.underlying68 Tryz.underlying3
theorem T.c155_27 {H : Heap} {k : IntKind} {n : Int} : aConv Tryz.prog H 68 55 (.int k n) = some (.int .i64 (IntKind.i64.wrap n)) := conv_int T.i155 Tryz.underlying68 Tryz.underlying55
theorem T.c155_50 {H : Heap} {k : IntKind} {n : Int} : aConv Tryz.prog H 68 70 (.int k n) = some (.int .u32 (IntKind.u32.wrap n)) := conv_int T.i155 Tryz.underlying68 Tryz.underlying70
theorem T.c155_155 {H : Heap} {k : IntKind} {n : Int} : aConv Tryz.prog H 68 68 (.int k n) = some (.int .u64 (IntKind.u64.wrap n)) := conv_int T.i155 Tryz.underlying68 Tryz.underlying68
theorem T.c155_156 {H : Heap} {k : IntKind} {n : Int} : aConv Tryz.prog H 68 71 (.int k n) = some (.int .u64 (IntKind.u64.wrap n)) := conv_int T.i155 Tryz.underlying68 Tryz.underlying71
theorem T.c156_2 {H : Heap} {k : IntKind} {n : Int} : aConv Tryz.prog H 71 2 (.int k n) = some (.int .i64 (IntKind.i64.wrap n)) := conv_int T.i156 Tryz.underlying71 Tryz.underlying2
theorem T.c156_3 {H : Heap} {k : IntKind} {n : Int} : aConv Tryz.prog H 71 3 (.int k n) = some (.int .i64 (IntKind.i64.wrap n)) := conv_int T.i156 Tryz.underlying71 Tryz.underlying3
theorem T.c156_27 {H : Heap} {k : IntKind} {n : Int} : aConv Tryz.prog H 71 55 (.int k n) = some (.int .i64 (IntKind.i64.wrap n)) := conv_int T.i156 Tryz.underlying71 Tryz.underlying55
theorem T.c156_50 {H : Heap} {k : IntKind} {n : Int} : aConv Tryz.prog H 71 70 (.int k n) = some (.int .u32 (IntKind.u32.wrap n)) := conv_int T.i156 Tryz.underlying71 Tryz.underlying70
theorem T.c156_155 {H : Heap} {k : IntKind} {n : Int} : aConv Tryz.prog H 71 68 (.int k n) = some (.int .u64 (IntKind.u64.wrap n)) := conv_int T.i156 Tryz.underlying71 Tryz.underlying68
theorem T.c156_156 {H : Heap} {k : IntKind} {n : Int} : aConv Tryz.prog H 71 71 (.int k n) = some (.int .u64 (IntKind.u64.wrap n)) := conv_int T.i156 Tryz.underlying71 Tryz.underlying71
theorem T.parts22 {H : Heap} {e : Env} {K : Value → Heap → Prop} {d : Option Tmp} {ty : TypeId} {ps : String} {af : Array Edge} {gd : Option (Nat × Bool)} {parts : List (Nat × Operand)} {len : Nat} (hlen : len ≤ 2 ^ 24) : aStep Tryz.prog e H ⟨d, .buildSlice 26 len ⟨parts⟩, ty, ps, af, gd⟩ K = ob (evps e parts) fun vs => ob (pFill (.int .u32 0) len vs) fun cs => K (.slice (some ⟨H.next, 0, none⟩) len len) (H.push (.row true 70 cs)) :=
  s_parts Tryz.underlying26 (info_of_type Tryz.type70) (z := .int .u32 0) rfl rfl rfl rfl hlen
theorem T.make22 {H : Heap} {e : Env} {K : Value → Heap → Prop} {d : Option Tmp} {ty : TypeId} {ps : String} {af : Array Edge} {gd : Option (Nat × Bool)} {x y : Operand} : aStep Tryz.prog e H ⟨d, .makeSlice 26 x y, ty, ps, af, gd⟩ K = ob (e x) fun a => ob (e y) fun b => ob (aMk 4 a b) fun p => K (.slice (some ⟨H.next, 0, none⟩) p.1 p.2) (H.push (.row true 70 (List.replicate p.2 (.int .u32 0)))) :=
  s_make Tryz.underlying26 (info_of_type Tryz.type70) (z := .int .u32 0) rfl rfl rfl rfl
theorem T.nil22 {x y : Operand} {v : Value} (h : isSlc v = true) {n c : Nat} : aBin Tryz.prog .eql 26 x y v (.slice none n c) = some (.bool (isNil v)) := bin_isNil Tryz.underlying26 h
theorem T.lz22 {n : Nat} {cells : List Value} : aLen Tryz.prog 26 (fzv n cells) = some (.int .i64 n) := len_fz T.i22
theorem T.lv22 {α : Type} {e : En α} {l : List α} : aLen Tryz.prog 26 (Vv e l) = some (.int .i64 l.length) := len_fz T.i22
theorem T.iv22 {l : List _} {k : IntKind} {i : Int} (h0 : 0 ≤ i) (h1 : i < l.length) : aIndexAddr Tryz.prog 26 (Vv eU l) (.int k i) = some (fpv (eU.enc (l.getD i.toNat eU.d))) := idx_Vv Tryz.underlying26 T.s50 T.z50 rfl h0 h1
theorem T.up22 {H : Heap} {l : List _} {k : IntKind} {i : Int} (h0 : 0 ≤ i) (h1 : i ≤ l.length) : aSlice Tryz.prog H 26 (Vv eU l) none (some (.int k i)) none = some (Vv eU (l.take i.toNat)) := upto_Vv Tryz.underlying26 T.s50 T.z50 rfl h0 h1
theorem T.fr22 {H : Heap} {l : List _} {k : IntKind} {i : Int} (h0 : 0 ≤ i) (h1 : i ≤ l.length) : aSlice Tryz.prog H 26 (Vv eU l) (some (.int k i)) none none = some (Vv eU (l.drop i.toNat)) := from_Vv Tryz.underlying26 T.s50 T.z50 rfl h0 h1
theorem T.ln22 : aLen Tryz.prog 26 (.slice none 0 0) = some (.int .i64 0) := len_nil T.i22
theorem T.rows70 {H : Heap} {e : Env} {K : Value → Heap → Prop} {d : Option Tmp} {ty : TypeId} {ps : String} {af : Array Edge} {gd : Option (Nat × Bool)} {parts : List (Nat × Operand)} {len : Nat} (hlen : len ≤ 2 ^ 20) : aStep Tryz.prog e H ⟨d, .buildSlice 23 len ⟨parts⟩, ty, ps, af, gd⟩ K = ob (evps e parts) fun vs => ob (rFill 4 (Tryz.t30.zero.getD undef) len vs) fun cs => K (.slice (some ⟨H.next, 0, none⟩) len len) (H.push (.row true 30 cs)) :=
  s_rows (es := 4) Tryz.underlying23 (info_of_type Tryz.type30) (z := Tryz.t30.zero.getD undef) rfl rfl rfl rfl (by omega) (by omega)
theorem T.makes70 {H : Heap} {e : Env} {K : Value → Heap → Prop} {d : Option Tmp} {ty : TypeId} {ps : String} {af : Array Edge} {gd : Option (Nat × Bool)} {x y : Operand} : aStep Tryz.prog e H ⟨d, .makeSlice 23 x y, ty, ps, af, gd⟩ K = ob (e x) fun a => ob (e y) fun b => ob (aMk 64 a b) fun p => K (.slice (some ⟨H.next, 0, none⟩) p.1 p.2) (H.push (.row true 30 (repC p.2 [.bool false, .slice none 0 0, .bool false, .slice none 0 0]))) :=
  s_makes (info_of_type Tryz.type30) Tryz.underlying23 rfl ⟨rfl, rfl, by decide⟩ rfl
theorem T.nil70 {x y : Operand} {v : Value} (h : isSlc v = true) {n c : Nat} : aBin Tryz.prog .eql 23 x y v (.slice none n c) = some (.bool (isNil v)) := bin_isNil Tryz.underlying23 h
theorem T.lz70 {n : Nat} {cells : List Value} : aLen Tryz.prog 23 (fzv n cells) = some (.int .i64 n) := len_fz T.i70
theorem T.lv70 {α : Type} {e : En α} {l : List α} : aLen Tryz.prog 23 (Vv e l) = some (.int .i64 l.length) := len_fz T.i70
theorem T.iv70 {l : List _} {k : IntKind} {i : Int} (h0 : 0 ≤ i) (h1 : i < l.length) : aIndexAddr Tryz.prog 23 (Vv eQ l) (.int k i) = some (fpv (eQ.enc (l.getD i.toNat eQ.d))) := idx_Vv Tryz.underlying23 T.s55 T.z55 rfl h0 h1
theorem T.up70 {H : Heap} {l : List _} {k : IntKind} {i : Int} (h0 : 0 ≤ i) (h1 : i ≤ l.length) : aSlice Tryz.prog H 23 (Vv eQ l) none (some (.int k i)) none = some (Vv eQ (l.take i.toNat)) := upto_Vv Tryz.underlying23 T.s55 T.z55 rfl h0 h1
theorem T.fr70 {H : Heap} {l : List _} {k : IntKind} {i : Int} (h0 : 0 ≤ i) (h1 : i ≤ l.length) : aSlice Tryz.prog H 23 (Vv eQ l) (some (.int k i)) none none = some (Vv eQ (l.drop i.toNat)) := from_Vv Tryz.underlying23 T.s55 T.z55 rfl h0 h1
theorem T.ln70 : aLen Tryz.prog 23 (.slice none 0 0) = some (.int .i64 0) := len_nil T.i70
theorem T.parts72 {H : Heap} {e : Env} {K : Value → Heap → Prop} {d : Option Tmp} {ty : TypeId} {ps : String} {af : Array Edge} {gd : Option (Nat × Bool)} {parts : List (Nat × Operand)} {len : Nat} (hlen : len ≤ 2 ^ 24) : aStep Tryz.prog e H ⟨d, .buildSlice 22 len ⟨parts⟩, ty, ps, af, gd⟩ K = ob (evps e parts) fun vs => ob (pFill (.slice none 0 0) len vs) fun cs => K (.slice (some ⟨H.next, 0, none⟩) len len) (H.push (.row true 23 cs)) :=
  s_parts Tryz.underlying22 (info_of_type Tryz.type23) (z := .slice none 0 0) rfl rfl rfl rfl hlen
theorem T.make72 {H : Heap} {e : Env} {K : Value → Heap → Prop} {d : Option Tmp} {ty : TypeId} {ps : String} {af : Array Edge} {gd : Option (Nat × Bool)} {x y : Operand} : aStep Tryz.prog e H ⟨d, .makeSlice 22 x y, ty, ps, af, gd⟩ K = ob (e x) fun a => ob (e y) fun b => ob (aMk 24 a b) fun p => K (.slice (some ⟨H.next, 0, none⟩) p.1 p.2) (H.push (.row true 23 (List.replicate p.2 (.slice none 0 0)))) :=
  s_make Tryz.underlying22 (info_of_type Tryz.type23) (z := .slice none 0 0) rfl rfl rfl rfl
theorem T.nil72 {x y : Operand} {v : Value} (h : isSlc v = true) {n c : Nat} : aBin Tryz.prog .eql 22 x y v (.slice none n c) = some (.bool (isNil v)) := bin_isNil Tryz.underlying22 h
theorem T.lz72 {n : Nat} {cells : List Value} : aLen Tryz.prog 22 (fzv n cells) = some (.int .i64 n) := len_fz T.i72
theorem T.lv72 {α : Type} {e : En α} {l : List α} : aLen Tryz.prog 22 (Vv e l) = some (.int .i64 l.length) := len_fz T.i72
theorem T.iv72 {l : List _} {k : IntKind} {i : Int} (h0 : 0 ≤ i) (h1 : i < l.length) : aIndexAddr Tryz.prog 22 (Vv eR l) (.int k i) = some (fpv (eR.enc (l.getD i.toNat eR.d))) := idx_Vv Tryz.underlying22 T.s70 T.z70 rfl h0 h1
theorem T.up72 {H : Heap} {l : List _} {k : IntKind} {i : Int} (h0 : 0 ≤ i) (h1 : i ≤ l.length) : aSlice Tryz.prog H 22 (Vv eR l) none (some (.int k i)) none = some (Vv eR (l.take i.toNat)) := upto_Vv Tryz.underlying22 T.s70 T.z70 rfl h0 h1
theorem T.fr72 {H : Heap} {l : List _} {k : IntKind} {i : Int} (h0 : 0 ≤ i) (h1 : i ≤ l.length) : aSlice Tryz.prog H 22 (Vv eR l) (some (.int k i)) none none = some (Vv eR (l.drop i.toNat)) := from_Vv Tryz.underlying22 T.s70 T.z70 rfl h0 h1
theorem T.ln72 : aLen Tryz.prog 22 (.slice none 0 0) = some (.int .i64 0) := len_nil T.i72
theorem T.parts116 {H : Heap} {e : Env} {K : Value → Heap → Prop} {d : Option Tmp} {ty : TypeId} {ps : String} {af : Array Edge} {gd : Option (Nat × Bool)} {parts : List (Nat × Operand)} {len : Nat} (hlen : len ≤ 2 ^ 24) : aStep Tryz.prog e H ⟨d, .buildSlice 51 len ⟨parts⟩, ty, ps, af, gd⟩ K = ob (evps e parts) fun vs => ob (pFill (.int .i64 0) len vs) fun cs => K (.slice (some ⟨H.next, 0, none⟩) len len) (H.push (.row true 2 cs)) :=
  s_parts Tryz.underlying51 (info_of_type Tryz.type2) (z := .int .i64 0) rfl rfl rfl rfl hlen
theorem T.make116 {H : Heap} {e : Env} {K : Value → Heap → Prop} {d : Option Tmp} {ty : TypeId} {ps : String} {af : Array Edge} {gd : Option (Nat × Bool)} {x y : Operand} : aStep Tryz.prog e H ⟨d, .makeSlice 51 x y, ty, ps, af, gd⟩ K = ob (e x) fun a => ob (e y) fun b => ob (aMk 8 a b) fun p => K (.slice (some ⟨H.next, 0, none⟩) p.1 p.2) (H.push (.row true 2 (List.replicate p.2 (.int .i64 0)))) :=
  s_make Tryz.underlying51 (info_of_type Tryz.type2) (z := .int .i64 0) rfl rfl rfl rfl
theorem T.nil116 {x y : Operand} {v : Value} (h : isSlc v = true) {n c : Nat} : aBin Tryz.prog .eql 51 x y v (.slice none n c) = some (.bool (isNil v)) := bin_isNil Tryz.underlying51 h
theorem T.lz116 {n : Nat} {cells : List Value} : aLen Tryz.prog 51 (fzv n cells) = some (.int .i64 n) := len_fz T.i116
theorem T.lv116 {α : Type} {e : En α} {l : List α} : aLen Tryz.prog 51 (Vv e l) = some (.int .i64 l.length) := len_fz T.i116
theorem T.iv116 {l : List _} {k : IntKind} {i : Int} (h0 : 0 ≤ i) (h1 : i < l.length) : aIndexAddr Tryz.prog 51 (Vv eN l) (.int k i) = some (fpv (eN.enc (l.getD i.toNat eN.d))) := idx_Vv Tryz.underlying51 T.s2 T.z2 rfl h0 h1
theorem T.up116 {H : Heap} {l : List _} {k : IntKind} {i : Int} (h0 : 0 ≤ i) (h1 : i ≤ l.length) : aSlice Tryz.prog H 51 (Vv eN l) none (some (.int k i)) none = some (Vv eN (l.take i.toNat)) := upto_Vv Tryz.underlying51 T.s2 T.z2 rfl h0 h1
theorem T.fr116 {H : Heap} {l : List _} {k : IntKind} {i : Int} (h0 : 0 ≤ i) (h1 : i ≤ l.length) : aSlice Tryz.prog H 51 (Vv eN l) (some (.int k i)) none none = some (Vv eN (l.drop i.toNat)) := from_Vv Tryz.underlying51 T.s2 T.z2 rfl h0 h1
theorem T.ln116 : aLen Tryz.prog 51 (.slice none 0 0) = some (.int .i64 0) := len_nil T.i116
theorem T.rows147 {H : Heap} {e : Env} {K : Value → Heap → Prop} {d : Option Tmp} {ty : TypeId} {ps : String} {af : Array Edge} {gd : Option (Nat × Bool)} {parts : List (Nat × Operand)} {len : Nat} (hlen : len ≤ 2 ^ 20) : aStep Tryz.prog e H ⟨d, .buildSlice 99 len ⟨parts⟩, ty, ps, af, gd⟩ K = ob (evps e parts) fun vs => ob (rFill 2 (Tryz.t28.zero.getD undef) len vs) fun cs => K (.slice (some ⟨H.next, 0, none⟩) len len) (H.push (.row true 28 cs)) :=
  s_rows (es := 2) Tryz.underlying99 (info_of_type Tryz.type28) (z := Tryz.t28.zero.getD undef) rfl rfl rfl rfl (by omega) (by omega)
theorem T.makes147 {H : Heap} {e : Env} {K : Value → Heap → Prop} {d : Option Tmp} {ty : TypeId} {ps : String} {af : Array Edge} {gd : Option (Nat × Bool)} {x y : Operand} : aStep Tryz.prog e H ⟨d, .makeSlice 99 x y, ty, ps, af, gd⟩ K = ob (e x) fun a => ob (e y) fun b => ob (aMk 32 a b) fun p => K (.slice (some ⟨H.next, 0, none⟩) p.1 p.2) (H.push (.row true 28 (repC p.2 [.bool false, .slice none 0 0]))) :=
  s_makes (info_of_type Tryz.type28) Tryz.underlying99 rfl ⟨rfl, rfl, by decide⟩ rfl
theorem T.nil147 {x y : Operand} {v : Value} (h : isSlc v = true) {n c : Nat} : aBin Tryz.prog .eql 99 x y v (.slice none n c) = some (.bool (isNil v)) := bin_isNil Tryz.underlying99 h
theorem T.lz147 {n : Nat} {cells : List Value} : aLen Tryz.prog 99 (fzv n cells) = some (.int .i64 n) := len_fz T.i147
theorem T.lv147 {α : Type} {e : En α} {l : List α} : aLen Tryz.prog 99 (Vv e l) = some (.int .i64 l.length) := len_fz T.i147
theorem T.iv147 {l : List _} {k : IntKind} {i : Int} (h0 : 0 ≤ i) (h1 : i < l.length) : aIndexAddr Tryz.prog 99 (Vv eI l) (.int k i) = some (fpv (eI.enc (l.getD i.toNat eI.d))) := idx_Vv Tryz.underlying99 T.s24 T.z24 rfl h0 h1
theorem T.up147 {H : Heap} {l : List _} {k : IntKind} {i : Int} (h0 : 0 ≤ i) (h1 : i ≤ l.length) : aSlice Tryz.prog H 99 (Vv eI l) none (some (.int k i)) none = some (Vv eI (l.take i.toNat)) := upto_Vv Tryz.underlying99 T.s24 T.z24 rfl h0 h1
theorem T.fr147 {H : Heap} {l : List _} {k : IntKind} {i : Int} (h0 : 0 ≤ i) (h1 : i ≤ l.length) : aSlice Tryz.prog H 99 (Vv eI l) (some (.int k i)) none none = some (Vv eI (l.drop i.toNat)) := from_Vv Tryz.underlying99 T.s24 T.z24 rfl h0 h1
theorem T.ln147 : aLen Tryz.prog 99 (.slice none 0 0) = some (.int .i64 0) := len_nil T.i147
theorem T.b24_   : aBuild Tryz.prog 28 (some []) = some (.agg ⟨[.bool false, .slice none 0 0]⟩) := by  kernel_rfl
theorem T.b24_0_1 {x : Bool} {y : Value} (hy : isSl y = true) : aBuild Tryz.prog 28 (some [(0, .bool x), (1, y)]) = some (.agg ⟨[.bool x, y]⟩) := by rcases isSl_form hy with ⟨_, _, _, rfl⟩ | ⟨_, _, rfl⟩ <;> kernel_rfl
theorem T.b55_   : aBuild Tryz.prog 30 (some []) = some (.agg ⟨[.bool false, .slice none 0 0, .bool false, .slice none 0 0]⟩) := by  kernel_rfl
theorem T.b55_0_1 {x0 : Bool} {x1 : Value} {y0 : Bool} {y1 : Value} (hx1 : isSl x1 = true) (hy1 : isSl y1 = true) : aBuild Tryz.prog 30 (some [(0, .agg ⟨[.bool x0, x1]⟩), (1, .agg ⟨[.bool y0, y1]⟩)]) = some (.agg ⟨[.bool x0, x1, .bool y0, y1]⟩) := by rcases isSl_form hx1 with ⟨_, _, _, rfl⟩ | ⟨_, _, rfl⟩ <;> rcases isSl_form hy1 with ⟨_, _, _, rfl⟩ | ⟨_, _, rfl⟩ <;> kernel_rfl
theorem T.b55_1 {y0 : Bool} {y1 : Value} (hy1 : isSl y1 = true) : aBuild Tryz.prog 30 (some [(1, .agg ⟨[.bool y0, y1]⟩)]) = some (.agg ⟨[.bool false, .slice none 0 0, .bool y0, y1]⟩) := by rcases isSl_form hy1 with ⟨_, _, _, rfl⟩ | ⟨_, _, rfl⟩ <;> kernel_rfl
theorem T.b107_0_1_2_3 {x : Int} {y : Value} {z : Value} {u : Value} (hy : isSl y = true) (hz : isSl z = true) (hu : isSl u = true) : aBuild Tryz.prog 25 (some [(0, .int .i64 x), (1, y), (2, z), (3, u)]) = some (.agg ⟨[.int .i64 x, y, z, u]⟩) := by rcases isSl_form hy with ⟨_, _, _, rfl⟩ | ⟨_, _, rfl⟩ <;> rcases isSl_form hz with ⟨_, _, _, rfl⟩ | ⟨_, _, rfl⟩ <;> rcases isSl_form hu with ⟨_, _, _, rfl⟩ | ⟨_, _, rfl⟩ <;> kernel_rfl
theorem T.b110_0_1_2_3 {x : Int} {y00 : Bool} {y01 : Value} {y10 : Bool} {y11 : Value} {z : Value} {u : Value} (hy01 : isSl y01 = true) (hy11 : isSl y11 = true) (hz : isSl z = true) (hu : isSl u = true) : aBuild Tryz.prog 32 (some [(0, .int .i64 x), (1, .agg ⟨[.bool y00, y01, .bool y10, y11]⟩), (2, z), (3, u)]) = some (.agg ⟨[.int .i64 x, .bool y00, y01, .bool y10, y11, z, u, .slice none 0 0]⟩) := by rcases isSl_form hy01 with ⟨_, _, _, rfl⟩ | ⟨_, _, rfl⟩ <;> rcases isSl_form hy11 with ⟨_, _, _, rfl⟩ | ⟨_, _, rfl⟩ <;> rcases isSl_form hz with ⟨_, _, _, rfl⟩ | ⟨_, _, rfl⟩ <;> rcases isSl_form hu with ⟨_, _, _, rfl⟩ | ⟨_, _, rfl⟩ <;> kernel_rfl
attribute [go_sem] T.l2 T.lp2 T.w2 T.alloc2 T.l3 T.lp3 T.w3 T.alloc3 T.l4 T.lp4 T.w4 T.alloc4
attribute [go_sem] T.l22 T.lp22 T.w22 T.alloc22 T.f24_0 T.fs24_0 T.fp24_0 T.fd24_0 T.f24_1 T.fs24_1 T.fp24_1 T.fd24_1
attribute [go_sem] T.l24 T.lp24 T.w24 T.alloc24 T.l27 T.lp27 T.w27 T.alloc27 T.l50 T.lp50 T.w50 T.alloc50
attribute [go_sem] T.f55_0 T.fs55_0 T.fp55_0 T.fd55_0 T.f55_1 T.fs55_1 T.fp55_1 T.fd55_1 T.l55 T.lp55 T.w55 T.alloc55
attribute [go_sem] T.l70 T.lp70 T.w70 T.alloc70 T.l72 T.lp72 T.w72 T.alloc72 T.f107_0 T.fs107_0 T.fp107_0 T.fd107_0
attribute [go_sem] T.f107_1 T.fs107_1 T.fp107_1 T.fd107_1 T.f107_2 T.fs107_2 T.fp107_2 T.fd107_2 T.f107_3 T.fs107_3 T.fp107_3 T.fd107_3
attribute [go_sem] T.l107 T.lp107 T.w107 T.alloc107 T.f110_0 T.fs110_0 T.fp110_0 T.fd110_0 T.f110_1 T.fs110_1 T.fp110_1 T.fd110_1
attribute [go_sem] T.f110_2 T.fs110_2 T.fp110_2 T.fd110_2 T.f110_3 T.fs110_3 T.fp110_3 T.fd110_3 T.f110_4 T.fs110_4 T.fp110_4 T.fd110_4
attribute [go_sem] T.l110 T.lp110 T.w110 T.alloc110 T.l116 T.lp116 T.w116 T.alloc116 T.l147 T.lp147 T.w147 T.alloc147
attribute [go_sem] T.l155 T.lp155 T.w155 T.alloc155 T.l156 T.lp156 T.w156 T.alloc156 T.e4 T.n4 T.c2_2 T.c2_3
attribute [go_sem] T.c2_27 T.c2_50 T.c2_155 T.c2_156 T.c3_2 T.c3_3 T.c3_27 T.c3_50 T.c3_155 T.c3_156 T.c27_2 T.c27_3
attribute [go_sem] T.c27_27 T.c27_50 T.c27_155 T.c27_156 T.c50_2 T.c50_3 T.c50_27 T.c50_50 T.c50_155 T.c50_156 T.c155_2 T.c155_3
attribute [go_sem] T.c155_27 T.c155_50 T.c155_155 T.c155_156 T.c156_2 T.c156_3 T.c156_27 T.c156_50 T.c156_155 T.c156_156 T.parts22 T.make22
attribute [go_sem] T.iv22 T.up22 T.fr22 T.nil22 T.lz22 T.lv22 T.ln22 T.rows70 T.makes70 T.iv70 T.up70 T.fr70
attribute [go_sem] T.nil70 T.lz70 T.lv70 T.ln70 T.parts72 T.make72 T.iv72 T.up72 T.fr72 T.nil72 T.lz72 T.lv72
attribute [go_sem] T.ln72 T.parts116 T.make116 T.iv116 T.up116 T.fr116 T.nil116 T.lz116 T.lv116 T.ln116 T.rows147 T.makes147
attribute [go_sem] T.iv147 T.up147 T.fr147 T.nil147 T.lz147 T.lv147 T.ln147 T.b24_ T.b24_0_1 T.b55_ T.b55_0_1 T.b55_1
attribute [go_sem] T.b107_0_1_2_3 T.b110_0_1_2_3
end Go.Abs
