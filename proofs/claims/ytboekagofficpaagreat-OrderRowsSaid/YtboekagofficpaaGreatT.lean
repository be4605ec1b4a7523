/- What the program says of its types. -/
import Derived.Test.YtboekagofficpaaGreatBf
import Derived.Test.YtboekagofficpaaGreatProg
import Derived.KernelRfl
set_option linter.unusedVariables false
set_option linter.unusedSimpArgs false
namespace Go.Abs
open Go Go.Proofs

theorem T.hm : Tryz.prog.follows .mixedOrders = true := by kernel_rfl
theorem T.z2 : sized Tryz.prog 2 = true := by kernel_rfl
theorem T.s2 : szOf Tryz.prog 2 = 1 := by kernel_rfl
theorem T.r2 : isRowT Tryz.prog 2 = some false := by kernel_rfl
theorem T.i2 : isSliceT Tryz.prog 2 = false := by kernel_rfl
theorem T.z3 : sized Tryz.prog 3 = true := by kernel_rfl
theorem T.s3 : szOf Tryz.prog 3 = 1 := by kernel_rfl
theorem T.r3 : isRowT Tryz.prog 3 = some false := by kernel_rfl
theorem T.i3 : isSliceT Tryz.prog 3 = false := by kernel_rfl
theorem T.z4 : sized Tryz.prog 4 = true := by kernel_rfl
theorem T.s4 : szOf Tryz.prog 4 = 1 := by kernel_rfl
theorem T.r4 : isRowT Tryz.prog 4 = some false := by kernel_rfl
theorem T.i4 : isSliceT Tryz.prog 4 = false := by kernel_rfl
theorem T.z5 : sized Tryz.prog 5 = true := by kernel_rfl
theorem T.s5 : szOf Tryz.prog 5 = 1 := by kernel_rfl
theorem T.r5 : isRowT Tryz.prog 5 = some false := by kernel_rfl
theorem T.i5 : isSliceT Tryz.prog 5 = false := by kernel_rfl
theorem T.z9 : sized Tryz.prog 9 = true := by kernel_rfl
theorem T.s9 : szOf Tryz.prog 9 = 1 := by kernel_rfl
theorem T.r9 : isRowT Tryz.prog 9 = some false := by kernel_rfl
theorem T.i9 : isSliceT Tryz.prog 9 = false := by kernel_rfl
theorem T.o9 : okSrc Tryz.prog 9 = true := by kernel_rfl
theorem T.z22 : sized Tryz.prog 70 = true := by kernel_rfl
theorem T.s22 : szOf Tryz.prog 70 = 1 := by kernel_rfl
theorem T.r22 : isRowT Tryz.prog 70 = some false := by kernel_rfl
theorem T.i22 : isSliceT Tryz.prog 70 = true := by kernel_rfl
theorem T.o22 : okSrc Tryz.prog 70 = true := by kernel_rfl
theorem T.z24 : sized Tryz.prog 72 = true := by kernel_rfl
theorem T.s24 : szOf Tryz.prog 72 = 2 := by kernel_rfl
theorem T.r24 : isRowT Tryz.prog 72 = some true := by kernel_rfl
theorem T.i24 : isSliceT Tryz.prog 72 = false := by kernel_rfl
theorem T.z50 : sized Tryz.prog 177 = true := by kernel_rfl
theorem T.s50 : szOf Tryz.prog 177 = 1 := by kernel_rfl
theorem T.r50 : isRowT Tryz.prog 177 = some false := by kernel_rfl
theorem T.i50 : isSliceT Tryz.prog 177 = false := by kernel_rfl
theorem T.z126 : sized Tryz.prog 22 = true := by kernel_rfl
theorem T.s126 : szOf Tryz.prog 22 = 1 := by kernel_rfl
theorem T.r126 : isRowT Tryz.prog 22 = some false := by kernel_rfl
theorem T.i126 : isSliceT Tryz.prog 22 = true := by kernel_rfl
theorem T.o126 : okSrc Tryz.prog 22 = true := by kernel_rfl
theorem T.z127 : sized Tryz.prog 23 = true := by kernel_rfl
theorem T.s127 : szOf Tryz.prog 23 = 1 := by kernel_rfl
theorem T.r127 : isRowT Tryz.prog 23 = some false := by kernel_rfl
theorem T.i127 : isSliceT Tryz.prog 23 = true := by kernel_rfl
theorem T.o127 : okSrc Tryz.prog 23 = true := by kernel_rfl
theorem T.z128 : sized Tryz.prog 24 = true := by kernel_rfl
theorem T.s128 : szOf Tryz.prog 24 = 1 := by kernel_rfl
theorem T.r128 : isRowT Tryz.prog 24 = some false := by kernel_rfl
theorem T.i128 : isSliceT Tryz.prog 24 = true := by kernel_rfl
theorem T.o128 : okSrc Tryz.prog 24 = true := by kernel_rfl
theorem T.z129 : sized Tryz.prog 25 = true := by kernel_rfl
theorem T.s129 : szOf Tryz.prog 25 = 1 := by kernel_rfl
theorem T.r129 : isRowT Tryz.prog 25 = some false := by kernel_rfl
theorem T.i129 : isSliceT Tryz.prog 25 = true := by kernel_rfl
theorem T.o129 : okSrc Tryz.prog 25 = true := by kernel_rfl
theorem T.z131 : sized Tryz.prog 27 = true := by kernel_rfl
theorem T.s131 : szOf Tryz.prog 27 = 4 := by kernel_rfl
theorem T.r131 : isRowT Tryz.prog 27 = some true := by kernel_rfl
theorem T.i131 : isSliceT Tryz.prog 27 = false := by kernel_rfl
theorem T.z140 : sized Tryz.prog 40 = true := by kernel_rfl
theorem T.s140 : szOf Tryz.prog 40 = 1 := by kernel_rfl
theorem T.r140 : isRowT Tryz.prog 40 = some false := by kernel_rfl
theorem T.i140 : isSliceT Tryz.prog 40 = true := by kernel_rfl
theorem T.o140 : okSrc Tryz.prog 40 = true := by kernel_rfl
theorem T.z142 : sized Tryz.prog 44 = true := by kernel_rfl
theorem T.s142 : szOf Tryz.prog 44 = 1 := by kernel_rfl
theorem T.r142 : isRowT Tryz.prog 44 = some false := by kernel_rfl
theorem T.i142 : isSliceT Tryz.prog 44 = true := by kernel_rfl
theorem T.o142 : okSrc Tryz.prog 44 = true := by kernel_rfl
theorem T.z143 : sized Tryz.prog 31 = true := by kernel_rfl
theorem T.s143 : szOf Tryz.prog 31 = 1 := by kernel_rfl
theorem T.r143 : isRowT Tryz.prog 31 = some false := by kernel_rfl
theorem T.i143 : isSliceT Tryz.prog 31 = true := by kernel_rfl
theorem T.o143 : okSrc Tryz.prog 31 = true := by kernel_rfl
theorem T.z145 : sized Tryz.prog 46 = true := by kernel_rfl
theorem T.s145 : szOf Tryz.prog 46 = 6 := by kernel_rfl
theorem T.r145 : isRowT Tryz.prog 46 = some true := by kernel_rfl
theorem T.i145 : isSliceT Tryz.prog 46 = false := by kernel_rfl
theorem T.z147 : sized Tryz.prog 69 = true := by kernel_rfl
theorem T.s147 : szOf Tryz.prog 69 = 1 := by kernel_rfl
theorem T.r147 : isRowT Tryz.prog 69 = some false := by kernel_rfl
theorem T.i147 : isSliceT Tryz.prog 69 = true := by kernel_rfl
theorem T.o147 : okSrc Tryz.prog 69 = true := by kernel_rfl
theorem T.z155 : sized Tryz.prog 175 = true := by kernel_rfl
theorem T.s155 : szOf Tryz.prog 175 = 1 := by kernel_rfl
theorem T.r155 : isRowT Tryz.prog 175 = some false := by kernel_rfl
theorem T.i155 : isSliceT Tryz.prog 175 = false := by kernel_rfl
theorem T.z156 : sized Tryz.prog 178 = true := by kernel_rfl
theorem T.s156 : szOf Tryz.prog 178 = 1 := by kernel_rfl
theorem T.r156 : isRowT Tryz.prog 178 = some false := by kernel_rfl
theorem T.i156 : isSliceT Tryz.prog 178 = false := by kernel_rfl
theorem T.z190 : sized Tryz.prog 51 = true := by kernel_rfl
theorem T.s190 : szOf Tryz.prog 51 = 4 := by kernel_rfl
theorem T.r190 : isRowT Tryz.prog 51 = some true := by kernel_rfl
theorem T.i190 : isSliceT Tryz.prog 51 = false := by kernel_rfl
theorem T.z191 : sized Tryz.prog 30 = true := by kernel_rfl
theorem T.s191 : szOf Tryz.prog 30 = 1 := by kernel_rfl
theorem T.r191 : isRowT Tryz.prog 30 = some false := by kernel_rfl
theorem T.i191 : isSliceT Tryz.prog 30 = true := by kernel_rfl
theorem T.o191 : okSrc Tryz.prog 30 = true := by kernel_rfl
theorem T.z193 : sized Tryz.prog 163 = true := by kernel_rfl
theorem T.s193 : szOf Tryz.prog 163 = 2 := by kernel_rfl
theorem T.r193 : isRowT Tryz.prog 163 = some true := by kernel_rfl
theorem T.i193 : isSliceT Tryz.prog 163 = false := by kernel_rfl
theorem T.z216 : sized Tryz.prog 74 = true := by kernel_rfl
theorem T.s216 : szOf Tryz.prog 74 = 4 := by kernel_rfl
theorem T.r216 : isRowT Tryz.prog 74 = some true := by kernel_rfl
theorem T.i216 : isSliceT Tryz.prog 74 = false := by kernel_rfl
theorem T.z219 : sized Tryz.prog 59 = true := by kernel_rfl
theorem T.s219 : szOf Tryz.prog 59 = 1 := by kernel_rfl
theorem T.r219 : isRowT Tryz.prog 59 = some false := by kernel_rfl
theorem T.i219 : isSliceT Tryz.prog 59 = true := by kernel_rfl
theorem T.o219 : okSrc Tryz.prog 59 = true := by kernel_rfl
theorem T.z221 : sized Tryz.prog 61 = true := by kernel_rfl
theorem T.s221 : szOf Tryz.prog 61 = 2 := by kernel_rfl
theorem T.r221 : isRowT Tryz.prog 61 = some true := by kernel_rfl
theorem T.i221 : isSliceT Tryz.prog 61 = false := by kernel_rfl
theorem T.z222 : sized Tryz.prog 62 = true := by kernel_rfl
theorem T.s222 : szOf Tryz.prog 62 = 1 := by kernel_rfl
theorem T.r222 : isRowT Tryz.prog 62 = some false := by kernel_rfl
theorem T.i222 : isSliceT Tryz.prog 62 = true := by kernel_rfl
theorem T.o222 : okSrc Tryz.prog 62 = true := by kernel_rfl
theorem T.z227 : sized Tryz.prog 67 = true := by kernel_rfl
theorem T.s227 : szOf Tryz.prog 67 = 7 := by kernel_rfl
theorem T.r227 : isRowT Tryz.prog 67 = some true := by kernel_rfl
theorem T.i227 : isSliceT Tryz.prog 67 = false := by kernel_rfl
theorem T.z244 : sized Tryz.prog 141 = true := by kernel_rfl
theorem T.s244 : szOf Tryz.prog 141 = 1 := by kernel_rfl
theorem T.r244 : isRowT Tryz.prog 141 = some false := by kernel_rfl
theorem T.i244 : isSliceT Tryz.prog 141 = false := by kernel_rfl
theorem T.l2 {H : Heap} {b off : Nat} : aLoad Tryz.prog H 2 (.pointer (some ⟨b, off, none⟩)) = rowAt (H.get b) off := load_one T.r2
theorem T.lp2 {H : Heap} {v : Value} : aLoad Tryz.prog H 2 (fpv [v]) = some v := load_fz_one T.r2
theorem T.w2 {H : Heap} {b off : Nat} {x : Int}  : aStore Tryz.prog H 2 (.pointer (some ⟨b, off, none⟩)) (.int .i64 x) = stRow H b off [.int .i64 x] (H.get b) := store_row (vs := [.int .i64 x]) T.z2 T.s2 (rfl) rfl (rfl)
theorem T.new2 : aNew Tryz.prog (fun _ => none) (.alloc 2) = some (2, [.int .i64 0], fun b => .pointer (some ⟨b, 0, none⟩)) := by kernel_rfl
theorem T.alloc2 {H : Heap} {e : Env} {K : Value → Heap → Prop} {d : Option Tmp} {ty : TypeId} {ps : String} {af : Array Edge} {gd : Option (Nat × Bool)} : aStep Tryz.prog e H ⟨d, .alloc 2, ty, ps, af, gd⟩ K = K (.pointer (some ⟨H.next, 0, none⟩)) (H.push (.row true 2 [.int .i64 0])) := s_alloc T.new2
theorem T.l3 {H : Heap} {b off : Nat} : aLoad Tryz.prog H 3 (.pointer (some ⟨b, off, none⟩)) = rowAt (H.get b) off := load_one T.r3
theorem T.lp3 {H : Heap} {v : Value} : aLoad Tryz.prog H 3 (fpv [v]) = some v := load_fz_one T.r3
theorem T.w3 {H : Heap} {b off : Nat} {x : Int}  : aStore Tryz.prog H 3 (.pointer (some ⟨b, off, none⟩)) (.int .i64 x) = stRow H b off [.int .i64 x] (H.get b) := store_row (vs := [.int .i64 x]) T.z3 T.s3 (rfl) rfl (rfl)
theorem T.new3 : aNew Tryz.prog (fun _ => none) (.alloc 3) = some (3, [.int .i64 0], fun b => .pointer (some ⟨b, 0, none⟩)) := by kernel_rfl
theorem T.alloc3 {H : Heap} {e : Env} {K : Value → Heap → Prop} {d : Option Tmp} {ty : TypeId} {ps : String} {af : Array Edge} {gd : Option (Nat × Bool)} : aStep Tryz.prog e H ⟨d, .alloc 3, ty, ps, af, gd⟩ K = K (.pointer (some ⟨H.next, 0, none⟩)) (H.push (.row true 3 [.int .i64 0])) := s_alloc T.new3
theorem T.l4 {H : Heap} {b off : Nat} : aLoad Tryz.prog H 4 (.pointer (some ⟨b, off, none⟩)) = rowAt (H.get b) off := load_one T.r4
theorem T.lp4 {H : Heap} {v : Value} : aLoad Tryz.prog H 4 (fpv [v]) = some v := load_fz_one T.r4
theorem T.w4 {H : Heap} {b off : Nat} {x : Bool}  : aStore Tryz.prog H 4 (.pointer (some ⟨b, off, none⟩)) (.bool x) = stRow H b off [.bool x] (H.get b) := store_row (vs := [.bool x]) T.z4 T.s4 (rfl) rfl (rfl)
theorem T.new4 : aNew Tryz.prog (fun _ => none) (.alloc 4) = some (4, [.bool false], fun b => .pointer (some ⟨b, 0, none⟩)) := by kernel_rfl
theorem T.alloc4 {H : Heap} {e : Env} {K : Value → Heap → Prop} {d : Option Tmp} {ty : TypeId} {ps : String} {af : Array Edge} {gd : Option (Nat × Bool)} : aStep Tryz.prog e H ⟨d, .alloc 4, ty, ps, af, gd⟩ K = K (.pointer (some ⟨H.next, 0, none⟩)) (H.push (.row true 4 [.bool false])) := s_alloc T.new4
theorem T.l5 {H : Heap} {b off : Nat} : aLoad Tryz.prog H 5 (.pointer (some ⟨b, off, none⟩)) = rowAt (H.get b) off := load_one T.r5
theorem T.lp5 {H : Heap} {v : Value} : aLoad Tryz.prog H 5 (fpv [v]) = some v := load_fz_one T.r5
theorem T.w5 {H : Heap} {b off : Nat} {x : Int}  : aStore Tryz.prog H 5 (.pointer (some ⟨b, off, none⟩)) (.int .u8 x) = stRow H b off [.int .u8 x] (H.get b) := store_row (vs := [.int .u8 x]) T.z5 T.s5 (rfl) rfl (rfl)
theorem T.new5 : aNew Tryz.prog (fun _ => none) (.alloc 5) = some (5, [.int .u8 0], fun b => .pointer (some ⟨b, 0, none⟩)) := by kernel_rfl
theorem T.alloc5 {H : Heap} {e : Env} {K : Value → Heap → Prop} {d : Option Tmp} {ty : TypeId} {ps : String} {af : Array Edge} {gd : Option (Nat × Bool)} : aStep Tryz.prog e H ⟨d, .alloc 5, ty, ps, af, gd⟩ K = K (.pointer (some ⟨H.next, 0, none⟩)) (H.push (.row true 5 [.int .u8 0])) := s_alloc T.new5
theorem T.l9 {H : Heap} {b off : Nat} : aLoad Tryz.prog H 9 (.pointer (some ⟨b, off, none⟩)) = rowAt (H.get b) off := load_one T.r9
theorem T.lp9 {H : Heap} {v : Value} : aLoad Tryz.prog H 9 (fpv [v]) = some v := load_fz_one T.r9
theorem T.w9 {H : Heap} {b off : Nat} {x : ByteArray}  : aStore Tryz.prog H 9 (.pointer (some ⟨b, off, none⟩)) (.string x) = stRow H b off [.string x] (H.get b) := store_row (vs := [.string x]) T.z9 T.s9 (rfl) rfl (rfl)
theorem T.new9 : aNew Tryz.prog (fun _ => none) (.alloc 9) = some (9, [.string ByteArray.empty], fun b => .pointer (some ⟨b, 0, none⟩)) := by kernel_rfl
theorem T.alloc9 {H : Heap} {e : Env} {K : Value → Heap → Prop} {d : Option Tmp} {ty : TypeId} {ps : String} {af : Array Edge} {gd : Option (Nat × Bool)} : aStep Tryz.prog e H ⟨d, .alloc 9, ty, ps, af, gd⟩ K = K (.pointer (some ⟨H.next, 0, none⟩)) (H.push (.row true 9 [.string ByteArray.empty])) := s_alloc T.new9
theorem T.l22 {H : Heap} {b off : Nat} : aLoad Tryz.prog H 70 (.pointer (some ⟨b, off, none⟩)) = rowAt (H.get b) off := load_one T.r22
theorem T.lp22 {H : Heap} {v : Value} : aLoad Tryz.prog H 70 (fpv [v]) = some v := load_fz_one T.r22
theorem T.w22 {H : Heap} {b off : Nat} {x : Value} (hx : isSl x = true) : aStore Tryz.prog H 70 (.pointer (some ⟨b, off, none⟩)) (x) = stRow H b off [x] (H.get b) := store_row (vs := [x]) T.z22 T.s22 (isSl_cells hx) rfl (by simp only [List.all_cons, List.all_nil, isSl_one hx, Bool.and_true])
theorem T.new22 : aNew Tryz.prog (fun _ => none) (.alloc 70) = some (70, [.slice none 0 0], fun b => .pointer (some ⟨b, 0, none⟩)) := by kernel_rfl
theorem T.alloc22 {H : Heap} {e : Env} {K : Value → Heap → Prop} {d : Option Tmp} {ty : TypeId} {ps : String} {af : Array Edge} {gd : Option (Nat × Bool)} : aStep Tryz.prog e H ⟨d, .alloc 70, ty, ps, af, gd⟩ K = K (.pointer (some ⟨H.next, 0, none⟩)) (H.push (.row true 70 [.slice none 0 0])) := s_alloc T.new22
theorem T.f24_0 {b o : Nat} : aFieldAddr Tryz.prog 72 (.pointer (some ⟨b, o, none⟩)) 0 = some (.pointer (some ⟨b, o + 0, none⟩)) := faddr_own Tryz.underlying72 (by rfl) T.z4 T.s4 (by decide)
theorem T.fs24_0 {v : Value} {o : Nat} : aFieldAddr Tryz.prog 72 (.pointer (some (sadr v o))) 0 = some (.pointer (some (sadr v (o + 0)))) := T.f24_0
theorem T.fp24_0 {v0 v1 : Value} : aFieldAddr Tryz.prog 72 (fpv [v0, v1]) 0 = some (fpv [v0]) := faddr_fz (cells := [v0, v1]) (f := 0) (off := 0) (k := 1) Tryz.underlying72 (by rfl) T.z4 T.s4 (by decide) (by simp)
theorem T.fd24_0 {v0 v1 : Value} : aField Tryz.prog 72 (.agg ⟨[v0, v1]⟩) 0 = some v0 := field_one (cells := [v0, v1]) (f := 0) (off := 0) Tryz.underlying72 (by rfl) T.r4 rfl
theorem T.f24_1 {b o : Nat} : aFieldAddr Tryz.prog 72 (.pointer (some ⟨b, o, none⟩)) 1 = some (.pointer (some ⟨b, o + 1, none⟩)) := faddr_own Tryz.underlying72 (by rfl) T.z22 T.s22 (by decide)
theorem T.fs24_1 {v : Value} {o : Nat} : aFieldAddr Tryz.prog 72 (.pointer (some (sadr v o))) 1 = some (.pointer (some (sadr v (o + 1)))) := T.f24_1
theorem T.fp24_1 {v0 v1 : Value} : aFieldAddr Tryz.prog 72 (fpv [v0, v1]) 1 = some (fpv [v1]) := faddr_fz (cells := [v0, v1]) (f := 1) (off := 1) (k := 1) Tryz.underlying72 (by rfl) T.z22 T.s22 (by decide) (by simp)
theorem T.fd24_1 {v0 v1 : Value} : aField Tryz.prog 72 (.agg ⟨[v0, v1]⟩) 1 = some v1 := field_one (cells := [v0, v1]) (f := 1) (off := 1) Tryz.underlying72 (by rfl) T.r22 rfl
theorem T.l24 {H : Heap} {b off : Nat} : aLoad Tryz.prog H 72 (.pointer (some ⟨b, off, none⟩)) = (rowsAt (H.get b) off 2).map fun l => .agg ⟨l⟩ := by rw [load_row T.r24 T.z24, T.s24]
theorem T.lp24 {H : Heap} {v0 v1 : Value} : aLoad Tryz.prog H 72 (fpv [v0, v1]) = some (.agg ⟨[v0, v1]⟩) := load_fz_row T.r24 T.z24 T.s24 rfl
theorem T.w24 {H : Heap} {b off : Nat} {x0 : Bool} {x1 : Value} (hx1 : isSl x1 = true) : aStore Tryz.prog H 72 (.pointer (some ⟨b, off, none⟩)) (.agg ⟨[.bool x0, x1]⟩) = stRow H b off [.bool x0, x1] (H.get b) := store_row (vs := [.bool x0, x1]) T.z24 T.s24 rfl rfl (by simp only [List.all_cons, List.all_nil, isSl_one hx1, Bool.and_true] <;> rfl)
theorem T.new24 : aNew Tryz.prog (fun _ => none) (.alloc 72) = some (72, [.bool false, .slice none 0 0], fun b => .pointer (some ⟨b, 0, none⟩)) := by kernel_rfl
theorem T.alloc24 {H : Heap} {e : Env} {K : Value → Heap → Prop} {d : Option Tmp} {ty : TypeId} {ps : String} {af : Array Edge} {gd : Option (Nat × Bool)} : aStep Tryz.prog e H ⟨d, .alloc 72, ty, ps, af, gd⟩ K = K (.pointer (some ⟨H.next, 0, none⟩)) (H.push (.row true 72 [.bool false, .slice none 0 0])) := s_alloc T.new24
theorem T.l50 {H : Heap} {b off : Nat} : aLoad Tryz.prog H 177 (.pointer (some ⟨b, off, none⟩)) = rowAt (H.get b) off := load_one T.r50
theorem T.lp50 {H : Heap} {v : Value} : aLoad Tryz.prog H 177 (fpv [v]) = some v := load_fz_one T.r50
theorem T.w50 {H : Heap} {b off : Nat} {x : Int}  : aStore Tryz.prog H 177 (.pointer (some ⟨b, off, none⟩)) (.int .u32 x) = stRow H b off [.int .u32 x] (H.get b) := store_row (vs := [.int .u32 x]) T.z50 T.s50 (rfl) rfl (rfl)
theorem T.new50 : aNew Tryz.prog (fun _ => none) (.alloc 177) = some (177, [.int .u32 0], fun b => .pointer (some ⟨b, 0, none⟩)) := by kernel_rfl
theorem T.alloc50 {H : Heap} {e : Env} {K : Value → Heap → Prop} {d : Option Tmp} {ty : TypeId} {ps : String} {af : Array Edge} {gd : Option (Nat × Bool)} : aStep Tryz.prog e H ⟨d, .alloc 177, ty, ps, af, gd⟩ K = K (.pointer (some ⟨H.next, 0, none⟩)) (H.push (.row true 177 [.int .u32 0])) := s_alloc T.new50
theorem T.l126 {H : Heap} {b off : Nat} : aLoad Tryz.prog H 22 (.pointer (some ⟨b, off, none⟩)) = rowAt (H.get b) off := load_one T.r126
theorem T.lp126 {H : Heap} {v : Value} : aLoad Tryz.prog H 22 (fpv [v]) = some v := load_fz_one T.r126
theorem T.w126 {H : Heap} {b off : Nat} {x : Value} (hx : isSl x = true) : aStore Tryz.prog H 22 (.pointer (some ⟨b, off, none⟩)) (x) = stRow H b off [x] (H.get b) := store_row (vs := [x]) T.z126 T.s126 (isSl_cells hx) rfl (by simp only [List.all_cons, List.all_nil, isSl_one hx, Bool.and_true])
theorem T.new126 : aNew Tryz.prog (fun _ => none) (.alloc 22) = some (22, [.slice none 0 0], fun b => .pointer (some ⟨b, 0, none⟩)) := by kernel_rfl
theorem T.alloc126 {H : Heap} {e : Env} {K : Value → Heap → Prop} {d : Option Tmp} {ty : TypeId} {ps : String} {af : Array Edge} {gd : Option (Nat × Bool)} : aStep Tryz.prog e H ⟨d, .alloc 22, ty, ps, af, gd⟩ K = K (.pointer (some ⟨H.next, 0, none⟩)) (H.push (.row true 22 [.slice none 0 0])) := s_alloc T.new126
theorem T.l127 {H : Heap} {b off : Nat} : aLoad Tryz.prog H 23 (.pointer (some ⟨b, off, none⟩)) = rowAt (H.get b) off := load_one T.r127
theorem T.lp127 {H : Heap} {v : Value} : aLoad Tryz.prog H 23 (fpv [v]) = some v := load_fz_one T.r127
theorem T.w127 {H : Heap} {b off : Nat} {x : Value} (hx : isSl x = true) : aStore Tryz.prog H 23 (.pointer (some ⟨b, off, none⟩)) (x) = stRow H b off [x] (H.get b) := store_row (vs := [x]) T.z127 T.s127 (isSl_cells hx) rfl (by simp only [List.all_cons, List.all_nil, isSl_one hx, Bool.and_true])
theorem T.new127 : aNew Tryz.prog (fun _ => none) (.alloc 23) = some (23, [.slice none 0 0], fun b => .pointer (some ⟨b, 0, none⟩)) := by kernel_rfl
theorem T.alloc127 {H : Heap} {e : Env} {K : Value → Heap → Prop} {d : Option Tmp} {ty : TypeId} {ps : String} {af : Array Edge} {gd : Option (Nat × Bool)} : aStep Tryz.prog e H ⟨d, .alloc 23, ty, ps, af, gd⟩ K = K (.pointer (some ⟨H.next, 0, none⟩)) (H.push (.row true 23 [.slice none 0 0])) := s_alloc T.new127
theorem T.l128 {H : Heap} {b off : Nat} : aLoad Tryz.prog H 24 (.pointer (some ⟨b, off, none⟩)) = rowAt (H.get b) off := load_one T.r128
theorem T.lp128 {H : Heap} {v : Value} : aLoad Tryz.prog H 24 (fpv [v]) = some v := load_fz_one T.r128
theorem T.w128 {H : Heap} {b off : Nat} {x : Value} (hx : isSl x = true) : aStore Tryz.prog H 24 (.pointer (some ⟨b, off, none⟩)) (x) = stRow H b off [x] (H.get b) := store_row (vs := [x]) T.z128 T.s128 (isSl_cells hx) rfl (by simp only [List.all_cons, List.all_nil, isSl_one hx, Bool.and_true])
theorem T.new128 : aNew Tryz.prog (fun _ => none) (.alloc 24) = some (24, [.slice none 0 0], fun b => .pointer (some ⟨b, 0, none⟩)) := by kernel_rfl
theorem T.alloc128 {H : Heap} {e : Env} {K : Value → Heap → Prop} {d : Option Tmp} {ty : TypeId} {ps : String} {af : Array Edge} {gd : Option (Nat × Bool)} : aStep Tryz.prog e H ⟨d, .alloc 24, ty, ps, af, gd⟩ K = K (.pointer (some ⟨H.next, 0, none⟩)) (H.push (.row true 24 [.slice none 0 0])) := s_alloc T.new128
theorem T.l129 {H : Heap} {b off : Nat} : aLoad Tryz.prog H 25 (.pointer (some ⟨b, off, none⟩)) = rowAt (H.get b) off := load_one T.r129
theorem T.lp129 {H : Heap} {v : Value} : aLoad Tryz.prog H 25 (fpv [v]) = some v := load_fz_one T.r129
theorem T.w129 {H : Heap} {b off : Nat} {x : Value} (hx : isSl x = true) : aStore Tryz.prog H 25 (.pointer (some ⟨b, off, none⟩)) (x) = stRow H b off [x] (H.get b) := store_row (vs := [x]) T.z129 T.s129 (isSl_cells hx) rfl (by simp only [List.all_cons, List.all_nil, isSl_one hx, Bool.and_true])
theorem T.new129 : aNew Tryz.prog (fun _ => none) (.alloc 25) = some (25, [.slice none 0 0], fun b => .pointer (some ⟨b, 0, none⟩)) := by kernel_rfl
theorem T.alloc129 {H : Heap} {e : Env} {K : Value → Heap → Prop} {d : Option Tmp} {ty : TypeId} {ps : String} {af : Array Edge} {gd : Option (Nat × Bool)} : aStep Tryz.prog e H ⟨d, .alloc 25, ty, ps, af, gd⟩ K = K (.pointer (some ⟨H.next, 0, none⟩)) (H.push (.row true 25 [.slice none 0 0])) := s_alloc T.new129
theorem T.f131_0 {b o : Nat} : aFieldAddr Tryz.prog 27 (.pointer (some ⟨b, o, none⟩)) 0 = some (.pointer (some ⟨b, o + 0, none⟩)) := faddr_own Tryz.underlying27 (by rfl) T.z126 T.s126 (by decide)
theorem T.fs131_0 {v : Value} {o : Nat} : aFieldAddr Tryz.prog 27 (.pointer (some (sadr v o))) 0 = some (.pointer (some (sadr v (o + 0)))) := T.f131_0
theorem T.fp131_0 {v0 v1 v2 v3 : Value} : aFieldAddr Tryz.prog 27 (fpv [v0, v1, v2, v3]) 0 = some (fpv [v0]) := faddr_fz (cells := [v0, v1, v2, v3]) (f := 0) (off := 0) (k := 1) Tryz.underlying27 (by rfl) T.z126 T.s126 (by decide) (by simp)
theorem T.fd131_0 {v0 v1 v2 v3 : Value} : aField Tryz.prog 27 (.agg ⟨[v0, v1, v2, v3]⟩) 0 = some v0 := field_one (cells := [v0, v1, v2, v3]) (f := 0) (off := 0) Tryz.underlying27 (by rfl) T.r126 rfl
theorem T.f131_1 {b o : Nat} : aFieldAddr Tryz.prog 27 (.pointer (some ⟨b, o, none⟩)) 1 = some (.pointer (some ⟨b, o + 1, none⟩)) := faddr_own Tryz.underlying27 (by rfl) T.z127 T.s127 (by decide)
theorem T.fs131_1 {v : Value} {o : Nat} : aFieldAddr Tryz.prog 27 (.pointer (some (sadr v o))) 1 = some (.pointer (some (sadr v (o + 1)))) := T.f131_1
theorem T.fp131_1 {v0 v1 v2 v3 : Value} : aFieldAddr Tryz.prog 27 (fpv [v0, v1, v2, v3]) 1 = some (fpv [v1]) := faddr_fz (cells := [v0, v1, v2, v3]) (f := 1) (off := 1) (k := 1) Tryz.underlying27 (by rfl) T.z127 T.s127 (by decide) (by simp)
theorem T.fd131_1 {v0 v1 v2 v3 : Value} : aField Tryz.prog 27 (.agg ⟨[v0, v1, v2, v3]⟩) 1 = some v1 := field_one (cells := [v0, v1, v2, v3]) (f := 1) (off := 1) Tryz.underlying27 (by rfl) T.r127 rfl
theorem T.f131_2 {b o : Nat} : aFieldAddr Tryz.prog 27 (.pointer (some ⟨b, o, none⟩)) 2 = some (.pointer (some ⟨b, o + 2, none⟩)) := faddr_own Tryz.underlying27 (by rfl) T.z128 T.s128 (by decide)
theorem T.fs131_2 {v : Value} {o : Nat} : aFieldAddr Tryz.prog 27 (.pointer (some (sadr v o))) 2 = some (.pointer (some (sadr v (o + 2)))) := T.f131_2
theorem T.fp131_2 {v0 v1 v2 v3 : Value} : aFieldAddr Tryz.prog 27 (fpv [v0, v1, v2, v3]) 2 = some (fpv [v2]) := faddr_fz (cells := [v0, v1, v2, v3]) (f := 2) (off := 2) (k := 1) Tryz.underlying27 (by rfl) T.z128 T.s128 (by decide) (by simp)
theorem T.fd131_2 {v0 v1 v2 v3 : Value} : aField Tryz.prog 27 (.agg ⟨[v0, v1, v2, v3]⟩) 2 = some v2 := field_one (cells := [v0, v1, v2, v3]) (f := 2) (off := 2) Tryz.underlying27 (by rfl) T.r128 rfl
theorem T.f131_3 {b o : Nat} : aFieldAddr Tryz.prog 27 (.pointer (some ⟨b, o, none⟩)) 3 = some (.pointer (some ⟨b, o + 3, none⟩)) := faddr_own Tryz.underlying27 (by rfl) T.z129 T.s129 (by decide)
theorem T.fs131_3 {v : Value} {o : Nat} : aFieldAddr Tryz.prog 27 (.pointer (some (sadr v o))) 3 = some (.pointer (some (sadr v (o + 3)))) := T.f131_3
theorem T.fp131_3 {v0 v1 v2 v3 : Value} : aFieldAddr Tryz.prog 27 (fpv [v0, v1, v2, v3]) 3 = some (fpv [v3]) := faddr_fz (cells := [v0, v1, v2, v3]) (f := 3) (off := 3) (k := 1) Tryz.underlying27 (by rfl) T.z129 T.s129 (by decide) (by simp)
theorem T.fd131_3 {v0 v1 v2 v3 : Value} : aField Tryz.prog 27 (.agg ⟨[v0, v1, v2, v3]⟩) 3 = some v3 := field_one (cells := [v0, v1, v2, v3]) (f := 3) (off := 3) Tryz.underlying27 (by rfl) T.r129 rfl
theorem T.l131 {H : Heap} {b off : Nat} : aLoad Tryz.prog H 27 (.pointer (some ⟨b, off, none⟩)) = (rowsAt (H.get b) off 4).map fun l => .agg ⟨l⟩ := by rw [load_row T.r131 T.z131, T.s131]
theorem T.lp131 {H : Heap} {v0 v1 v2 v3 : Value} : aLoad Tryz.prog H 27 (fpv [v0, v1, v2, v3]) = some (.agg ⟨[v0, v1, v2, v3]⟩) := load_fz_row T.r131 T.z131 T.s131 rfl
theorem T.w131 {H : Heap} {b off : Nat} {x0 : Value} {x1 : Value} {x2 : Value} {x3 : Value} (hx0 : isSl x0 = true) (hx1 : isSl x1 = true) (hx2 : isSl x2 = true) (hx3 : isSl x3 = true) : aStore Tryz.prog H 27 (.pointer (some ⟨b, off, none⟩)) (.agg ⟨[x0, x1, x2, x3]⟩) = stRow H b off [x0, x1, x2, x3] (H.get b) := store_row (vs := [x0, x1, x2, x3]) T.z131 T.s131 rfl rfl (by simp only [List.all_cons, List.all_nil, isSl_one hx0, isSl_one hx1, isSl_one hx2, isSl_one hx3, Bool.and_true] <;> rfl)
theorem T.new131 : aNew Tryz.prog (fun _ => none) (.alloc 27) = some (27, [.slice none 0 0, .slice none 0 0, .slice none 0 0, .slice none 0 0], fun b => .pointer (some ⟨b, 0, none⟩)) := by kernel_rfl
theorem T.alloc131 {H : Heap} {e : Env} {K : Value → Heap → Prop} {d : Option Tmp} {ty : TypeId} {ps : String} {af : Array Edge} {gd : Option (Nat × Bool)} : aStep Tryz.prog e H ⟨d, .alloc 27, ty, ps, af, gd⟩ K = K (.pointer (some ⟨H.next, 0, none⟩)) (H.push (.row true 27 [.slice none 0 0, .slice none 0 0, .slice none 0 0, .slice none 0 0])) := s_alloc T.new131
theorem T.l140 {H : Heap} {b off : Nat} : aLoad Tryz.prog H 40 (.pointer (some ⟨b, off, none⟩)) = rowAt (H.get b) off := load_one T.r140
theorem T.lp140 {H : Heap} {v : Value} : aLoad Tryz.prog H 40 (fpv [v]) = some v := load_fz_one T.r140
theorem T.w140 {H : Heap} {b off : Nat} {x : Value} (hx : isSl x = true) : aStore Tryz.prog H 40 (.pointer (some ⟨b, off, none⟩)) (x) = stRow H b off [x] (H.get b) := store_row (vs := [x]) T.z140 T.s140 (isSl_cells hx) rfl (by simp only [List.all_cons, List.all_nil, isSl_one hx, Bool.and_true])
theorem T.new140 : aNew Tryz.prog (fun _ => none) (.alloc 40) = some (40, [.slice none 0 0], fun b => .pointer (some ⟨b, 0, none⟩)) := by kernel_rfl
theorem T.alloc140 {H : Heap} {e : Env} {K : Value → Heap → Prop} {d : Option Tmp} {ty : TypeId} {ps : String} {af : Array Edge} {gd : Option (Nat × Bool)} : aStep Tryz.prog e H ⟨d, .alloc 40, ty, ps, af, gd⟩ K = K (.pointer (some ⟨H.next, 0, none⟩)) (H.push (.row true 40 [.slice none 0 0])) := s_alloc T.new140
theorem T.l142 {H : Heap} {b off : Nat} : aLoad Tryz.prog H 44 (.pointer (some ⟨b, off, none⟩)) = rowAt (H.get b) off := load_one T.r142
theorem T.lp142 {H : Heap} {v : Value} : aLoad Tryz.prog H 44 (fpv [v]) = some v := load_fz_one T.r142
theorem T.w142 {H : Heap} {b off : Nat} {x : Value} (hx : isSl x = true) : aStore Tryz.prog H 44 (.pointer (some ⟨b, off, none⟩)) (x) = stRow H b off [x] (H.get b) := store_row (vs := [x]) T.z142 T.s142 (isSl_cells hx) rfl (by simp only [List.all_cons, List.all_nil, isSl_one hx, Bool.and_true])
theorem T.new142 : aNew Tryz.prog (fun _ => none) (.alloc 44) = some (44, [.slice none 0 0], fun b => .pointer (some ⟨b, 0, none⟩)) := by kernel_rfl
theorem T.alloc142 {H : Heap} {e : Env} {K : Value → Heap → Prop} {d : Option Tmp} {ty : TypeId} {ps : String} {af : Array Edge} {gd : Option (Nat × Bool)} : aStep Tryz.prog e H ⟨d, .alloc 44, ty, ps, af, gd⟩ K = K (.pointer (some ⟨H.next, 0, none⟩)) (H.push (.row true 44 [.slice none 0 0])) := s_alloc T.new142
theorem T.l143 {H : Heap} {b off : Nat} : aLoad Tryz.prog H 31 (.pointer (some ⟨b, off, none⟩)) = rowAt (H.get b) off := load_one T.r143
theorem T.lp143 {H : Heap} {v : Value} : aLoad Tryz.prog H 31 (fpv [v]) = some v := load_fz_one T.r143
theorem T.w143 {H : Heap} {b off : Nat} {x : Value} (hx : isSl x = true) : aStore Tryz.prog H 31 (.pointer (some ⟨b, off, none⟩)) (x) = stRow H b off [x] (H.get b) := store_row (vs := [x]) T.z143 T.s143 (isSl_cells hx) rfl (by simp only [List.all_cons, List.all_nil, isSl_one hx, Bool.and_true])
theorem T.new143 : aNew Tryz.prog (fun _ => none) (.alloc 31) = some (31, [.slice none 0 0], fun b => .pointer (some ⟨b, 0, none⟩)) := by kernel_rfl
theorem T.alloc143 {H : Heap} {e : Env} {K : Value → Heap → Prop} {d : Option Tmp} {ty : TypeId} {ps : String} {af : Array Edge} {gd : Option (Nat × Bool)} : aStep Tryz.prog e H ⟨d, .alloc 31, ty, ps, af, gd⟩ K = K (.pointer (some ⟨H.next, 0, none⟩)) (H.push (.row true 31 [.slice none 0 0])) := s_alloc T.new143
theorem T.f145_0 {b o : Nat} : aFieldAddr Tryz.prog 46 (.pointer (some ⟨b, o, none⟩)) 0 = some (.pointer (some ⟨b, o + 0, none⟩)) := faddr_own Tryz.underlying46 (by rfl) T.z3 T.s3 (by decide)
theorem T.fs145_0 {v : Value} {o : Nat} : aFieldAddr Tryz.prog 46 (.pointer (some (sadr v o))) 0 = some (.pointer (some (sadr v (o + 0)))) := T.f145_0
theorem T.fp145_0 {v0 v1 v2 v3 v4 v5 : Value} : aFieldAddr Tryz.prog 46 (fpv [v0, v1, v2, v3, v4, v5]) 0 = some (fpv [v0]) := faddr_fz (cells := [v0, v1, v2, v3, v4, v5]) (f := 0) (off := 0) (k := 1) Tryz.underlying46 (by rfl) T.z3 T.s3 (by decide) (by simp)
theorem T.fd145_0 {v0 v1 v2 v3 v4 v5 : Value} : aField Tryz.prog 46 (.agg ⟨[v0, v1, v2, v3, v4, v5]⟩) 0 = some v0 := field_one (cells := [v0, v1, v2, v3, v4, v5]) (f := 0) (off := 0) Tryz.underlying46 (by rfl) T.r3 rfl
theorem T.f145_1 {b o : Nat} : aFieldAddr Tryz.prog 46 (.pointer (some ⟨b, o, none⟩)) 1 = some (.pointer (some ⟨b, o + 1, none⟩)) := faddr_own Tryz.underlying46 (by rfl) T.z3 T.s3 (by decide)
theorem T.fs145_1 {v : Value} {o : Nat} : aFieldAddr Tryz.prog 46 (.pointer (some (sadr v o))) 1 = some (.pointer (some (sadr v (o + 1)))) := T.f145_1
theorem T.fp145_1 {v0 v1 v2 v3 v4 v5 : Value} : aFieldAddr Tryz.prog 46 (fpv [v0, v1, v2, v3, v4, v5]) 1 = some (fpv [v1]) := faddr_fz (cells := [v0, v1, v2, v3, v4, v5]) (f := 1) (off := 1) (k := 1) Tryz.underlying46 (by rfl) T.z3 T.s3 (by decide) (by simp)
theorem T.fd145_1 {v0 v1 v2 v3 v4 v5 : Value} : aField Tryz.prog 46 (.agg ⟨[v0, v1, v2, v3, v4, v5]⟩) 1 = some v1 := field_one (cells := [v0, v1, v2, v3, v4, v5]) (f := 1) (off := 1) Tryz.underlying46 (by rfl) T.r3 rfl
theorem T.f145_2 {b o : Nat} : aFieldAddr Tryz.prog 46 (.pointer (some ⟨b, o, none⟩)) 2 = some (.pointer (some ⟨b, o + 2, none⟩)) := faddr_own Tryz.underlying46 (by rfl) T.z3 T.s3 (by decide)
theorem T.fs145_2 {v : Value} {o : Nat} : aFieldAddr Tryz.prog 46 (.pointer (some (sadr v o))) 2 = some (.pointer (some (sadr v (o + 2)))) := T.f145_2
theorem T.fp145_2 {v0 v1 v2 v3 v4 v5 : Value} : aFieldAddr Tryz.prog 46 (fpv [v0, v1, v2, v3, v4, v5]) 2 = some (fpv [v2]) := faddr_fz (cells := [v0, v1, v2, v3, v4, v5]) (f := 2) (off := 2) (k := 1) Tryz.underlying46 (by rfl) T.z3 T.s3 (by decide) (by simp)
theorem T.fd145_2 {v0 v1 v2 v3 v4 v5 : Value} : aField Tryz.prog 46 (.agg ⟨[v0, v1, v2, v3, v4, v5]⟩) 2 = some v2 := field_one (cells := [v0, v1, v2, v3, v4, v5]) (f := 2) (off := 2) Tryz.underlying46 (by rfl) T.r3 rfl
theorem T.f145_3 {b o : Nat} : aFieldAddr Tryz.prog 46 (.pointer (some ⟨b, o, none⟩)) 3 = some (.pointer (some ⟨b, o + 3, none⟩)) := faddr_own Tryz.underlying46 (by rfl) T.z142 T.s142 (by decide)
theorem T.fs145_3 {v : Value} {o : Nat} : aFieldAddr Tryz.prog 46 (.pointer (some (sadr v o))) 3 = some (.pointer (some (sadr v (o + 3)))) := T.f145_3
theorem T.fp145_3 {v0 v1 v2 v3 v4 v5 : Value} : aFieldAddr Tryz.prog 46 (fpv [v0, v1, v2, v3, v4, v5]) 3 = some (fpv [v3]) := faddr_fz (cells := [v0, v1, v2, v3, v4, v5]) (f := 3) (off := 3) (k := 1) Tryz.underlying46 (by rfl) T.z142 T.s142 (by decide) (by simp)
theorem T.fd145_3 {v0 v1 v2 v3 v4 v5 : Value} : aField Tryz.prog 46 (.agg ⟨[v0, v1, v2, v3, v4, v5]⟩) 3 = some v3 := field_one (cells := [v0, v1, v2, v3, v4, v5]) (f := 3) (off := 3) Tryz.underlying46 (by rfl) T.r142 rfl
theorem T.f145_4 {b o : Nat} : aFieldAddr Tryz.prog 46 (.pointer (some ⟨b, o, none⟩)) 4 = some (.pointer (some ⟨b, o + 4, none⟩)) := faddr_own Tryz.underlying46 (by rfl) T.z142 T.s142 (by decide)
theorem T.fs145_4 {v : Value} {o : Nat} : aFieldAddr Tryz.prog 46 (.pointer (some (sadr v o))) 4 = some (.pointer (some (sadr v (o + 4)))) := T.f145_4
theorem T.fp145_4 {v0 v1 v2 v3 v4 v5 : Value} : aFieldAddr Tryz.prog 46 (fpv [v0, v1, v2, v3, v4, v5]) 4 = some (fpv [v4]) := faddr_fz (cells := [v0, v1, v2, v3, v4, v5]) (f := 4) (off := 4) (k := 1) Tryz.underlying46 (by rfl) T.z142 T.s142 (by decide) (by simp)
theorem T.fd145_4 {v0 v1 v2 v3 v4 v5 : Value} : aField Tryz.prog 46 (.agg ⟨[v0, v1, v2, v3, v4, v5]⟩) 4 = some v4 := field_one (cells := [v0, v1, v2, v3, v4, v5]) (f := 4) (off := 4) Tryz.underlying46 (by rfl) T.r142 rfl
theorem T.f145_5 {b o : Nat} : aFieldAddr Tryz.prog 46 (.pointer (some ⟨b, o, none⟩)) 5 = some (.pointer (some ⟨b, o + 5, none⟩)) := faddr_own Tryz.underlying46 (by rfl) T.z143 T.s143 (by decide)
theorem T.fs145_5 {v : Value} {o : Nat} : aFieldAddr Tryz.prog 46 (.pointer (some (sadr v o))) 5 = some (.pointer (some (sadr v (o + 5)))) := T.f145_5
theorem T.fp145_5 {v0 v1 v2 v3 v4 v5 : Value} : aFieldAddr Tryz.prog 46 (fpv [v0, v1, v2, v3, v4, v5]) 5 = some (fpv [v5]) := faddr_fz (cells := [v0, v1, v2, v3, v4, v5]) (f := 5) (off := 5) (k := 1) Tryz.underlying46 (by rfl) T.z143 T.s143 (by decide) (by simp)
theorem T.fd145_5 {v0 v1 v2 v3 v4 v5 : Value} : aField Tryz.prog 46 (.agg ⟨[v0, v1, v2, v3, v4, v5]⟩) 5 = some v5 := field_one (cells := [v0, v1, v2, v3, v4, v5]) (f := 5) (off := 5) Tryz.underlying46 (by rfl) T.r143 rfl
theorem T.l145 {H : Heap} {b off : Nat} : aLoad Tryz.prog H 46 (.pointer (some ⟨b, off, none⟩)) = (rowsAt (H.get b) off 6).map fun l => .agg ⟨l⟩ := by rw [load_row T.r145 T.z145, T.s145]
theorem T.lp145 {H : Heap} {v0 v1 v2 v3 v4 v5 : Value} : aLoad Tryz.prog H 46 (fpv [v0, v1, v2, v3, v4, v5]) = some (.agg ⟨[v0, v1, v2, v3, v4, v5]⟩) := load_fz_row T.r145 T.z145 T.s145 rfl
theorem T.w145 {H : Heap} {b off : Nat} {x0 : Int} {x1 : Int} {x2 : Int} {x3 : Value} {x4 : Value} {x5 : Value} (hx3 : isSl x3 = true) (hx4 : isSl x4 = true) (hx5 : isSl x5 = true) : aStore Tryz.prog H 46 (.pointer (some ⟨b, off, none⟩)) (.agg ⟨[.int .i64 x0, .int .i64 x1, .int .i64 x2, x3, x4, x5]⟩) = stRow H b off [.int .i64 x0, .int .i64 x1, .int .i64 x2, x3, x4, x5] (H.get b) := store_row (vs := [.int .i64 x0, .int .i64 x1, .int .i64 x2, x3, x4, x5]) T.z145 T.s145 rfl rfl (by simp only [List.all_cons, List.all_nil, isSl_one hx3, isSl_one hx4, isSl_one hx5, Bool.and_true] <;> rfl)
theorem T.new145 : aNew Tryz.prog (fun _ => none) (.alloc 46) = some (46, [.int .i64 0, .int .i64 0, .int .i64 0, .slice none 0 0, .slice none 0 0, .slice none 0 0], fun b => .pointer (some ⟨b, 0, none⟩)) := by kernel_rfl
theorem T.alloc145 {H : Heap} {e : Env} {K : Value → Heap → Prop} {d : Option Tmp} {ty : TypeId} {ps : String} {af : Array Edge} {gd : Option (Nat × Bool)} : aStep Tryz.prog e H ⟨d, .alloc 46, ty, ps, af, gd⟩ K = K (.pointer (some ⟨H.next, 0, none⟩)) (H.push (.row true 46 [.int .i64 0, .int .i64 0, .int .i64 0, .slice none 0 0, .slice none 0 0, .slice none 0 0])) := s_alloc T.new145
theorem T.l147 {H : Heap} {b off : Nat} : aLoad Tryz.prog H 69 (.pointer (some ⟨b, off, none⟩)) = rowAt (H.get b) off := load_one T.r147
theorem T.lp147 {H : Heap} {v : Value} : aLoad Tryz.prog H 69 (fpv [v]) = some v := load_fz_one T.r147
theorem T.w147 {H : Heap} {b off : Nat} {x : Value} (hx : isSl x = true) : aStore Tryz.prog H 69 (.pointer (some ⟨b, off, none⟩)) (x) = stRow H b off [x] (H.get b) := store_row (vs := [x]) T.z147 T.s147 (isSl_cells hx) rfl (by simp only [List.all_cons, List.all_nil, isSl_one hx, Bool.and_true])
theorem T.new147 : aNew Tryz.prog (fun _ => none) (.alloc 69) = some (69, [.slice none 0 0], fun b => .pointer (some ⟨b, 0, none⟩)) := by kernel_rfl
theorem T.alloc147 {H : Heap} {e : Env} {K : Value → Heap → Prop} {d : Option Tmp} {ty : TypeId} {ps : String} {af : Array Edge} {gd : Option (Nat × Bool)} : aStep Tryz.prog e H ⟨d, .alloc 69, ty, ps, af, gd⟩ K = K (.pointer (some ⟨H.next, 0, none⟩)) (H.push (.row true 69 [.slice none 0 0])) := s_alloc T.new147
theorem T.l155 {H : Heap} {b off : Nat} : aLoad Tryz.prog H 175 (.pointer (some ⟨b, off, none⟩)) = rowAt (H.get b) off := load_one T.r155
theorem T.lp155 {H : Heap} {v : Value} : aLoad Tryz.prog H 175 (fpv [v]) = some v := load_fz_one T.r155
theorem T.w155 {H : Heap} {b off : Nat} {x : Int}  : aStore Tryz.prog H 175 (.pointer (some ⟨b, off, none⟩)) (.int .u64 x) = stRow H b off [.int .u64 x] (H.get b) := store_row (vs := [.int .u64 x]) T.z155 T.s155 (rfl) rfl (rfl)
theorem T.new155 : aNew Tryz.prog (fun _ => none) (.alloc 175) = some (175, [.int .u64 0], fun b => .pointer (some ⟨b, 0, none⟩)) := by kernel_rfl
theorem T.alloc155 {H : Heap} {e : Env} {K : Value → Heap → Prop} {d : Option Tmp} {ty : TypeId} {ps : String} {af : Array Edge} {gd : Option (Nat × Bool)} : aStep Tryz.prog e H ⟨d, .alloc 175, ty, ps, af, gd⟩ K = K (.pointer (some ⟨H.next, 0, none⟩)) (H.push (.row true 175 [.int .u64 0])) := s_alloc T.new155
theorem T.l156 {H : Heap} {b off : Nat} : aLoad Tryz.prog H 178 (.pointer (some ⟨b, off, none⟩)) = rowAt (H.get b) off := load_one T.r156
theorem T.lp156 {H : Heap} {v : Value} : aLoad Tryz.prog H 178 (fpv [v]) = some v := load_fz_one T.r156
theorem T.w156 {H : Heap} {b off : Nat} {x : Int}  : aStore Tryz.prog H 178 (.pointer (some ⟨b, off, none⟩)) (.int .u64 x) = stRow H b off [.int .u64 x] (H.get b) := store_row (vs := [.int .u64 x]) T.z156 T.s156 (rfl) rfl (rfl)
theorem T.new156 : aNew Tryz.prog (fun _ => none) (.alloc 178) = some (178, [.int .u64 0], fun b => .pointer (some ⟨b, 0, none⟩)) := by kernel_rfl
theorem T.alloc156 {H : Heap} {e : Env} {K : Value → Heap → Prop} {d : Option Tmp} {ty : TypeId} {ps : String} {af : Array Edge} {gd : Option (Nat × Bool)} : aStep Tryz.prog e H ⟨d, .alloc 178, ty, ps, af, gd⟩ K = K (.pointer (some ⟨H.next, 0, none⟩)) (H.push (.row true 178 [.int .u64 0])) := s_alloc T.new156
theorem T.f190_0 {b o : Nat} : aFieldAddr Tryz.prog 51 (.pointer (some ⟨b, o, none⟩)) 0 = some (.pointer (some ⟨b, o + 0, none⟩)) := faddr_own Tryz.underlying51 (by rfl) T.z3 T.s3 (by decide)
theorem T.fs190_0 {v : Value} {o : Nat} : aFieldAddr Tryz.prog 51 (.pointer (some (sadr v o))) 0 = some (.pointer (some (sadr v (o + 0)))) := T.f190_0
theorem T.fp190_0 {v0 v1 v2 v3 : Value} : aFieldAddr Tryz.prog 51 (fpv [v0, v1, v2, v3]) 0 = some (fpv [v0]) := faddr_fz (cells := [v0, v1, v2, v3]) (f := 0) (off := 0) (k := 1) Tryz.underlying51 (by rfl) T.z3 T.s3 (by decide) (by simp)
theorem T.fd190_0 {v0 v1 v2 v3 : Value} : aField Tryz.prog 51 (.agg ⟨[v0, v1, v2, v3]⟩) 0 = some v0 := field_one (cells := [v0, v1, v2, v3]) (f := 0) (off := 0) Tryz.underlying51 (by rfl) T.r3 rfl
theorem T.f190_1 {b o : Nat} : aFieldAddr Tryz.prog 51 (.pointer (some ⟨b, o, none⟩)) 1 = some (.pointer (some ⟨b, o + 1, none⟩)) := faddr_own Tryz.underlying51 (by rfl) T.z3 T.s3 (by decide)
theorem T.fs190_1 {v : Value} {o : Nat} : aFieldAddr Tryz.prog 51 (.pointer (some (sadr v o))) 1 = some (.pointer (some (sadr v (o + 1)))) := T.f190_1
theorem T.fp190_1 {v0 v1 v2 v3 : Value} : aFieldAddr Tryz.prog 51 (fpv [v0, v1, v2, v3]) 1 = some (fpv [v1]) := faddr_fz (cells := [v0, v1, v2, v3]) (f := 1) (off := 1) (k := 1) Tryz.underlying51 (by rfl) T.z3 T.s3 (by decide) (by simp)
theorem T.fd190_1 {v0 v1 v2 v3 : Value} : aField Tryz.prog 51 (.agg ⟨[v0, v1, v2, v3]⟩) 1 = some v1 := field_one (cells := [v0, v1, v2, v3]) (f := 1) (off := 1) Tryz.underlying51 (by rfl) T.r3 rfl
theorem T.f190_2 {b o : Nat} : aFieldAddr Tryz.prog 51 (.pointer (some ⟨b, o, none⟩)) 2 = some (.pointer (some ⟨b, o + 2, none⟩)) := faddr_own Tryz.underlying51 (by rfl) T.z3 T.s3 (by decide)
theorem T.fs190_2 {v : Value} {o : Nat} : aFieldAddr Tryz.prog 51 (.pointer (some (sadr v o))) 2 = some (.pointer (some (sadr v (o + 2)))) := T.f190_2
theorem T.fp190_2 {v0 v1 v2 v3 : Value} : aFieldAddr Tryz.prog 51 (fpv [v0, v1, v2, v3]) 2 = some (fpv [v2]) := faddr_fz (cells := [v0, v1, v2, v3]) (f := 2) (off := 2) (k := 1) Tryz.underlying51 (by rfl) T.z3 T.s3 (by decide) (by simp)
theorem T.fd190_2 {v0 v1 v2 v3 : Value} : aField Tryz.prog 51 (.agg ⟨[v0, v1, v2, v3]⟩) 2 = some v2 := field_one (cells := [v0, v1, v2, v3]) (f := 2) (off := 2) Tryz.underlying51 (by rfl) T.r3 rfl
theorem T.f190_3 {b o : Nat} : aFieldAddr Tryz.prog 51 (.pointer (some ⟨b, o, none⟩)) 3 = some (.pointer (some ⟨b, o + 3, none⟩)) := faddr_own Tryz.underlying51 (by rfl) T.z142 T.s142 (by decide)
theorem T.fs190_3 {v : Value} {o : Nat} : aFieldAddr Tryz.prog 51 (.pointer (some (sadr v o))) 3 = some (.pointer (some (sadr v (o + 3)))) := T.f190_3
theorem T.fp190_3 {v0 v1 v2 v3 : Value} : aFieldAddr Tryz.prog 51 (fpv [v0, v1, v2, v3]) 3 = some (fpv [v3]) := faddr_fz (cells := [v0, v1, v2, v3]) (f := 3) (off := 3) (k := 1) Tryz.underlying51 (by rfl) T.z142 T.s142 (by decide) (by simp)
theorem T.fd190_3 {v0 v1 v2 v3 : Value} : aField Tryz.prog 51 (.agg ⟨[v0, v1, v2, v3]⟩) 3 = some v3 := field_one (cells := [v0, v1, v2, v3]) (f := 3) (off := 3) Tryz.underlying51 (by rfl) T.r142 rfl
theorem T.l190 {H : Heap} {b off : Nat} : aLoad Tryz.prog H 51 (.pointer (some ⟨b, off, none⟩)) = (rowsAt (H.get b) off 4).map fun l => .agg ⟨l⟩ := by rw [load_row T.r190 T.z190, T.s190]
theorem T.lp190 {H : Heap} {v0 v1 v2 v3 : Value} : aLoad Tryz.prog H 51 (fpv [v0, v1, v2, v3]) = some (.agg ⟨[v0, v1, v2, v3]⟩) := load_fz_row T.r190 T.z190 T.s190 rfl
theorem T.w190 {H : Heap} {b off : Nat} {x0 : Int} {x1 : Int} {x2 : Int} {x3 : Value} (hx3 : isSl x3 = true) : aStore Tryz.prog H 51 (.pointer (some ⟨b, off, none⟩)) (.agg ⟨[.int .i64 x0, .int .i64 x1, .int .i64 x2, x3]⟩) = stRow H b off [.int .i64 x0, .int .i64 x1, .int .i64 x2, x3] (H.get b) := store_row (vs := [.int .i64 x0, .int .i64 x1, .int .i64 x2, x3]) T.z190 T.s190 rfl rfl (by simp only [List.all_cons, List.all_nil, isSl_one hx3, Bool.and_true] <;> rfl)
theorem T.new190 : aNew Tryz.prog (fun _ => none) (.alloc 51) = some (51, [.int .i64 0, .int .i64 0, .int .i64 0, .slice none 0 0], fun b => .pointer (some ⟨b, 0, none⟩)) := by kernel_rfl
theorem T.alloc190 {H : Heap} {e : Env} {K : Value → Heap → Prop} {d : Option Tmp} {ty : TypeId} {ps : String} {af : Array Edge} {gd : Option (Nat × Bool)} : aStep Tryz.prog e H ⟨d, .alloc 51, ty, ps, af, gd⟩ K = K (.pointer (some ⟨H.next, 0, none⟩)) (H.push (.row true 51 [.int .i64 0, .int .i64 0, .int .i64 0, .slice none 0 0])) := s_alloc T.new190
theorem T.l191 {H : Heap} {b off : Nat} : aLoad Tryz.prog H 30 (.pointer (some ⟨b, off, none⟩)) = rowAt (H.get b) off := load_one T.r191
theorem T.lp191 {H : Heap} {v : Value} : aLoad Tryz.prog H 30 (fpv [v]) = some v := load_fz_one T.r191
theorem T.w191 {H : Heap} {b off : Nat} {x : Value} (hx : isSl x = true) : aStore Tryz.prog H 30 (.pointer (some ⟨b, off, none⟩)) (x) = stRow H b off [x] (H.get b) := store_row (vs := [x]) T.z191 T.s191 (isSl_cells hx) rfl (by simp only [List.all_cons, List.all_nil, isSl_one hx, Bool.and_true])
theorem T.new191 : aNew Tryz.prog (fun _ => none) (.alloc 30) = some (30, [.slice none 0 0], fun b => .pointer (some ⟨b, 0, none⟩)) := by kernel_rfl
theorem T.alloc191 {H : Heap} {e : Env} {K : Value → Heap → Prop} {d : Option Tmp} {ty : TypeId} {ps : String} {af : Array Edge} {gd : Option (Nat × Bool)} : aStep Tryz.prog e H ⟨d, .alloc 30, ty, ps, af, gd⟩ K = K (.pointer (some ⟨H.next, 0, none⟩)) (H.push (.row true 30 [.slice none 0 0])) := s_alloc T.new191
theorem T.f193_0 {b o : Nat} : aFieldAddr Tryz.prog 163 (.pointer (some ⟨b, o, none⟩)) 0 = some (.pointer (some ⟨b, o + 0, none⟩)) := faddr_own Tryz.underlying163 (by rfl) T.z191 T.s191 (by decide)
theorem T.fs193_0 {v : Value} {o : Nat} : aFieldAddr Tryz.prog 163 (.pointer (some (sadr v o))) 0 = some (.pointer (some (sadr v (o + 0)))) := T.f193_0
theorem T.fp193_0 {v0 v1 : Value} : aFieldAddr Tryz.prog 163 (fpv [v0, v1]) 0 = some (fpv [v0]) := faddr_fz (cells := [v0, v1]) (f := 0) (off := 0) (k := 1) Tryz.underlying163 (by rfl) T.z191 T.s191 (by decide) (by simp)
theorem T.fd193_0 {v0 v1 : Value} : aField Tryz.prog 163 (.agg ⟨[v0, v1]⟩) 0 = some v0 := field_one (cells := [v0, v1]) (f := 0) (off := 0) Tryz.underlying163 (by rfl) T.r191 rfl
theorem T.f193_1 {b o : Nat} : aFieldAddr Tryz.prog 163 (.pointer (some ⟨b, o, none⟩)) 1 = some (.pointer (some ⟨b, o + 1, none⟩)) := faddr_own Tryz.underlying163 (by rfl) T.z3 T.s3 (by decide)
theorem T.fs193_1 {v : Value} {o : Nat} : aFieldAddr Tryz.prog 163 (.pointer (some (sadr v o))) 1 = some (.pointer (some (sadr v (o + 1)))) := T.f193_1
theorem T.fp193_1 {v0 v1 : Value} : aFieldAddr Tryz.prog 163 (fpv [v0, v1]) 1 = some (fpv [v1]) := faddr_fz (cells := [v0, v1]) (f := 1) (off := 1) (k := 1) Tryz.underlying163 (by rfl) T.z3 T.s3 (by decide) (by simp)
theorem T.fd193_1 {v0 v1 : Value} : aField Tryz.prog 163 (.agg ⟨[v0, v1]⟩) 1 = some v1 := field_one (cells := [v0, v1]) (f := 1) (off := 1) Tryz.underlying163 (by rfl) T.r3 rfl
theorem T.l193 {H : Heap} {b off : Nat} : aLoad Tryz.prog H 163 (.pointer (some ⟨b, off, none⟩)) = (rowsAt (H.get b) off 2).map fun l => .agg ⟨l⟩ := by rw [load_row T.r193 T.z193, T.s193]
theorem T.lp193 {H : Heap} {v0 v1 : Value} : aLoad Tryz.prog H 163 (fpv [v0, v1]) = some (.agg ⟨[v0, v1]⟩) := load_fz_row T.r193 T.z193 T.s193 rfl
theorem T.w193 {H : Heap} {b off : Nat} {x0 : Value} {x1 : Int} (hx0 : isSl x0 = true) : aStore Tryz.prog H 163 (.pointer (some ⟨b, off, none⟩)) (.agg ⟨[x0, .int .i64 x1]⟩) = stRow H b off [x0, .int .i64 x1] (H.get b) := store_row (vs := [x0, .int .i64 x1]) T.z193 T.s193 rfl rfl (by simp only [List.all_cons, List.all_nil, isSl_one hx0, Bool.and_true] <;> rfl)
theorem T.new193 : aNew Tryz.prog (fun _ => none) (.alloc 163) = some (163, [.slice none 0 0, .int .i64 0], fun b => .pointer (some ⟨b, 0, none⟩)) := by kernel_rfl
theorem T.alloc193 {H : Heap} {e : Env} {K : Value → Heap → Prop} {d : Option Tmp} {ty : TypeId} {ps : String} {af : Array Edge} {gd : Option (Nat × Bool)} : aStep Tryz.prog e H ⟨d, .alloc 163, ty, ps, af, gd⟩ K = K (.pointer (some ⟨H.next, 0, none⟩)) (H.push (.row true 163 [.slice none 0 0, .int .i64 0])) := s_alloc T.new193
theorem T.f216_0 {b o : Nat} : aFieldAddr Tryz.prog 74 (.pointer (some ⟨b, o, none⟩)) 0 = some (.pointer (some ⟨b, o + 0, none⟩)) := faddr_own Tryz.underlying74 (by rfl) T.z147 T.s147 (by decide)
theorem T.fs216_0 {v : Value} {o : Nat} : aFieldAddr Tryz.prog 74 (.pointer (some (sadr v o))) 0 = some (.pointer (some (sadr v (o + 0)))) := T.f216_0
theorem T.fp216_0 {v0 v1 v2 v3 : Value} : aFieldAddr Tryz.prog 74 (fpv [v0, v1, v2, v3]) 0 = some (fpv [v0]) := faddr_fz (cells := [v0, v1, v2, v3]) (f := 0) (off := 0) (k := 1) Tryz.underlying74 (by rfl) T.z147 T.s147 (by decide) (by simp)
theorem T.fd216_0 {v0 v1 v2 v3 : Value} : aField Tryz.prog 74 (.agg ⟨[v0, v1, v2, v3]⟩) 0 = some v0 := field_one (cells := [v0, v1, v2, v3]) (f := 0) (off := 0) Tryz.underlying74 (by rfl) T.r147 rfl
theorem T.f216_1 {b o : Nat} : aFieldAddr Tryz.prog 74 (.pointer (some ⟨b, o, none⟩)) 1 = some (.pointer (some ⟨b, o + 1, none⟩)) := faddr_own Tryz.underlying74 (by rfl) T.z147 T.s147 (by decide)
theorem T.fs216_1 {v : Value} {o : Nat} : aFieldAddr Tryz.prog 74 (.pointer (some (sadr v o))) 1 = some (.pointer (some (sadr v (o + 1)))) := T.f216_1
theorem T.fp216_1 {v0 v1 v2 v3 : Value} : aFieldAddr Tryz.prog 74 (fpv [v0, v1, v2, v3]) 1 = some (fpv [v1]) := faddr_fz (cells := [v0, v1, v2, v3]) (f := 1) (off := 1) (k := 1) Tryz.underlying74 (by rfl) T.z147 T.s147 (by decide) (by simp)
theorem T.fd216_1 {v0 v1 v2 v3 : Value} : aField Tryz.prog 74 (.agg ⟨[v0, v1, v2, v3]⟩) 1 = some v1 := field_one (cells := [v0, v1, v2, v3]) (f := 1) (off := 1) Tryz.underlying74 (by rfl) T.r147 rfl
theorem T.f216_2 {b o : Nat} : aFieldAddr Tryz.prog 74 (.pointer (some ⟨b, o, none⟩)) 2 = some (.pointer (some ⟨b, o + 2, none⟩)) := faddr_own Tryz.underlying74 (by rfl) T.z24 T.s24 (by decide)
theorem T.fs216_2 {v : Value} {o : Nat} : aFieldAddr Tryz.prog 74 (.pointer (some (sadr v o))) 2 = some (.pointer (some (sadr v (o + 2)))) := T.f216_2
theorem T.fp216_2 {v0 v1 v2 v3 : Value} : aFieldAddr Tryz.prog 74 (fpv [v0, v1, v2, v3]) 2 = some (fpv [v2, v3]) := faddr_fz (cells := [v0, v1, v2, v3]) (f := 2) (off := 2) (k := 2) Tryz.underlying74 (by rfl) T.z24 T.s24 (by decide) (by simp)
theorem T.fd216_2 {v0 v1 v2 v3 : Value} : aField Tryz.prog 74 (.agg ⟨[v0, v1, v2, v3]⟩) 2 = some (.agg ⟨[v2, v3]⟩) := field_row (cells := [v0, v1, v2, v3]) (f := 2) (off := 2) (k := 2) Tryz.underlying74 (by rfl) T.r24 T.z24 T.s24
theorem T.l216 {H : Heap} {b off : Nat} : aLoad Tryz.prog H 74 (.pointer (some ⟨b, off, none⟩)) = (rowsAt (H.get b) off 4).map fun l => .agg ⟨l⟩ := by rw [load_row T.r216 T.z216, T.s216]
theorem T.lp216 {H : Heap} {v0 v1 v2 v3 : Value} : aLoad Tryz.prog H 74 (fpv [v0, v1, v2, v3]) = some (.agg ⟨[v0, v1, v2, v3]⟩) := load_fz_row T.r216 T.z216 T.s216 rfl
theorem T.w216 {H : Heap} {b off : Nat} {x0 : Value} {x1 : Value} {x20 : Bool} {x21 : Value} (hx0 : isSl x0 = true) (hx1 : isSl x1 = true) (hx21 : isSl x21 = true) : aStore Tryz.prog H 74 (.pointer (some ⟨b, off, none⟩)) (.agg ⟨[x0, x1, .bool x20, x21]⟩) = stRow H b off [x0, x1, .bool x20, x21] (H.get b) := store_row (vs := [x0, x1, .bool x20, x21]) T.z216 T.s216 rfl rfl (by simp only [List.all_cons, List.all_nil, isSl_one hx0, isSl_one hx1, isSl_one hx21, Bool.and_true] <;> rfl)
theorem T.new216 : aNew Tryz.prog (fun _ => none) (.alloc 74) = some (74, [.slice none 0 0, .slice none 0 0, .bool false, .slice none 0 0], fun b => .pointer (some ⟨b, 0, none⟩)) := by kernel_rfl
theorem T.alloc216 {H : Heap} {e : Env} {K : Value → Heap → Prop} {d : Option Tmp} {ty : TypeId} {ps : String} {af : Array Edge} {gd : Option (Nat × Bool)} : aStep Tryz.prog e H ⟨d, .alloc 74, ty, ps, af, gd⟩ K = K (.pointer (some ⟨H.next, 0, none⟩)) (H.push (.row true 74 [.slice none 0 0, .slice none 0 0, .bool false, .slice none 0 0])) := s_alloc T.new216
theorem T.l219 {H : Heap} {b off : Nat} : aLoad Tryz.prog H 59 (.pointer (some ⟨b, off, none⟩)) = rowAt (H.get b) off := load_one T.r219
theorem T.lp219 {H : Heap} {v : Value} : aLoad Tryz.prog H 59 (fpv [v]) = some v := load_fz_one T.r219
theorem T.w219 {H : Heap} {b off : Nat} {x : Value} (hx : isSl x = true) : aStore Tryz.prog H 59 (.pointer (some ⟨b, off, none⟩)) (x) = stRow H b off [x] (H.get b) := store_row (vs := [x]) T.z219 T.s219 (isSl_cells hx) rfl (by simp only [List.all_cons, List.all_nil, isSl_one hx, Bool.and_true])
theorem T.new219 : aNew Tryz.prog (fun _ => none) (.alloc 59) = some (59, [.slice none 0 0], fun b => .pointer (some ⟨b, 0, none⟩)) := by kernel_rfl
theorem T.alloc219 {H : Heap} {e : Env} {K : Value → Heap → Prop} {d : Option Tmp} {ty : TypeId} {ps : String} {af : Array Edge} {gd : Option (Nat × Bool)} : aStep Tryz.prog e H ⟨d, .alloc 59, ty, ps, af, gd⟩ K = K (.pointer (some ⟨H.next, 0, none⟩)) (H.push (.row true 59 [.slice none 0 0])) := s_alloc T.new219
theorem T.f221_0 {b o : Nat} : aFieldAddr Tryz.prog 61 (.pointer (some ⟨b, o, none⟩)) 0 = some (.pointer (some ⟨b, o + 0, none⟩)) := faddr_own Tryz.underlying61 (by rfl) T.z3 T.s3 (by decide)
theorem T.fs221_0 {v : Value} {o : Nat} : aFieldAddr Tryz.prog 61 (.pointer (some (sadr v o))) 0 = some (.pointer (some (sadr v (o + 0)))) := T.f221_0
theorem T.fp221_0 {v0 v1 : Value} : aFieldAddr Tryz.prog 61 (fpv [v0, v1]) 0 = some (fpv [v0]) := faddr_fz (cells := [v0, v1]) (f := 0) (off := 0) (k := 1) Tryz.underlying61 (by rfl) T.z3 T.s3 (by decide) (by simp)
theorem T.fd221_0 {v0 v1 : Value} : aField Tryz.prog 61 (.agg ⟨[v0, v1]⟩) 0 = some v0 := field_one (cells := [v0, v1]) (f := 0) (off := 0) Tryz.underlying61 (by rfl) T.r3 rfl
theorem T.f221_1 {b o : Nat} : aFieldAddr Tryz.prog 61 (.pointer (some ⟨b, o, none⟩)) 1 = some (.pointer (some ⟨b, o + 1, none⟩)) := faddr_own Tryz.underlying61 (by rfl) T.z3 T.s3 (by decide)
theorem T.fs221_1 {v : Value} {o : Nat} : aFieldAddr Tryz.prog 61 (.pointer (some (sadr v o))) 1 = some (.pointer (some (sadr v (o + 1)))) := T.f221_1
theorem T.fp221_1 {v0 v1 : Value} : aFieldAddr Tryz.prog 61 (fpv [v0, v1]) 1 = some (fpv [v1]) := faddr_fz (cells := [v0, v1]) (f := 1) (off := 1) (k := 1) Tryz.underlying61 (by rfl) T.z3 T.s3 (by decide) (by simp)
theorem T.fd221_1 {v0 v1 : Value} : aField Tryz.prog 61 (.agg ⟨[v0, v1]⟩) 1 = some v1 := field_one (cells := [v0, v1]) (f := 1) (off := 1) Tryz.underlying61 (by rfl) T.r3 rfl
theorem T.l221 {H : Heap} {b off : Nat} : aLoad Tryz.prog H 61 (.pointer (some ⟨b, off, none⟩)) = (rowsAt (H.get b) off 2).map fun l => .agg ⟨l⟩ := by rw [load_row T.r221 T.z221, T.s221]
theorem T.lp221 {H : Heap} {v0 v1 : Value} : aLoad Tryz.prog H 61 (fpv [v0, v1]) = some (.agg ⟨[v0, v1]⟩) := load_fz_row T.r221 T.z221 T.s221 rfl
theorem T.w221 {H : Heap} {b off : Nat} {x0 : Int} {x1 : Int}  : aStore Tryz.prog H 61 (.pointer (some ⟨b, off, none⟩)) (.agg ⟨[.int .i64 x0, .int .i64 x1]⟩) = stRow H b off [.int .i64 x0, .int .i64 x1] (H.get b) := store_row (vs := [.int .i64 x0, .int .i64 x1]) T.z221 T.s221 rfl rfl (by rfl)
theorem T.new221 : aNew Tryz.prog (fun _ => none) (.alloc 61) = some (61, [.int .i64 0, .int .i64 0], fun b => .pointer (some ⟨b, 0, none⟩)) := by kernel_rfl
theorem T.alloc221 {H : Heap} {e : Env} {K : Value → Heap → Prop} {d : Option Tmp} {ty : TypeId} {ps : String} {af : Array Edge} {gd : Option (Nat × Bool)} : aStep Tryz.prog e H ⟨d, .alloc 61, ty, ps, af, gd⟩ K = K (.pointer (some ⟨H.next, 0, none⟩)) (H.push (.row true 61 [.int .i64 0, .int .i64 0])) := s_alloc T.new221
theorem T.l222 {H : Heap} {b off : Nat} : aLoad Tryz.prog H 62 (.pointer (some ⟨b, off, none⟩)) = rowAt (H.get b) off := load_one T.r222
theorem T.lp222 {H : Heap} {v : Value} : aLoad Tryz.prog H 62 (fpv [v]) = some v := load_fz_one T.r222
theorem T.w222 {H : Heap} {b off : Nat} {x : Value} (hx : isSl x = true) : aStore Tryz.prog H 62 (.pointer (some ⟨b, off, none⟩)) (x) = stRow H b off [x] (H.get b) := store_row (vs := [x]) T.z222 T.s222 (isSl_cells hx) rfl (by simp only [List.all_cons, List.all_nil, isSl_one hx, Bool.and_true])
theorem T.new222 : aNew Tryz.prog (fun _ => none) (.alloc 62) = some (62, [.slice none 0 0], fun b => .pointer (some ⟨b, 0, none⟩)) := by kernel_rfl
theorem T.alloc222 {H : Heap} {e : Env} {K : Value → Heap → Prop} {d : Option Tmp} {ty : TypeId} {ps : String} {af : Array Edge} {gd : Option (Nat × Bool)} : aStep Tryz.prog e H ⟨d, .alloc 62, ty, ps, af, gd⟩ K = K (.pointer (some ⟨H.next, 0, none⟩)) (H.push (.row true 62 [.slice none 0 0])) := s_alloc T.new222
theorem T.f227_0 {b o : Nat} : aFieldAddr Tryz.prog 67 (.pointer (some ⟨b, o, none⟩)) 0 = some (.pointer (some ⟨b, o + 0, none⟩)) := faddr_own Tryz.underlying67 (by rfl) T.z131 T.s131 (by decide)
theorem T.fs227_0 {v : Value} {o : Nat} : aFieldAddr Tryz.prog 67 (.pointer (some (sadr v o))) 0 = some (.pointer (some (sadr v (o + 0)))) := T.f227_0
theorem T.fp227_0 {v0 v1 v2 v3 v4 v5 v6 : Value} : aFieldAddr Tryz.prog 67 (fpv [v0, v1, v2, v3, v4, v5, v6]) 0 = some (fpv [v0, v1, v2, v3]) := faddr_fz (cells := [v0, v1, v2, v3, v4, v5, v6]) (f := 0) (off := 0) (k := 4) Tryz.underlying67 (by rfl) T.z131 T.s131 (by decide) (by simp)
theorem T.fd227_0 {v0 v1 v2 v3 v4 v5 v6 : Value} : aField Tryz.prog 67 (.agg ⟨[v0, v1, v2, v3, v4, v5, v6]⟩) 0 = some (.agg ⟨[v0, v1, v2, v3]⟩) := field_row (cells := [v0, v1, v2, v3, v4, v5, v6]) (f := 0) (off := 0) (k := 4) Tryz.underlying67 (by rfl) T.r131 T.z131 T.s131
theorem T.f227_1 {b o : Nat} : aFieldAddr Tryz.prog 67 (.pointer (some ⟨b, o, none⟩)) 1 = some (.pointer (some ⟨b, o + 4, none⟩)) := faddr_own Tryz.underlying67 (by rfl) T.z191 T.s191 (by decide)
theorem T.fs227_1 {v : Value} {o : Nat} : aFieldAddr Tryz.prog 67 (.pointer (some (sadr v o))) 1 = some (.pointer (some (sadr v (o + 4)))) := T.f227_1
theorem T.fp227_1 {v0 v1 v2 v3 v4 v5 v6 : Value} : aFieldAddr Tryz.prog 67 (fpv [v0, v1, v2, v3, v4, v5, v6]) 1 = some (fpv [v4]) := faddr_fz (cells := [v0, v1, v2, v3, v4, v5, v6]) (f := 1) (off := 4) (k := 1) Tryz.underlying67 (by rfl) T.z191 T.s191 (by decide) (by simp)
theorem T.fd227_1 {v0 v1 v2 v3 v4 v5 v6 : Value} : aField Tryz.prog 67 (.agg ⟨[v0, v1, v2, v3, v4, v5, v6]⟩) 1 = some v4 := field_one (cells := [v0, v1, v2, v3, v4, v5, v6]) (f := 1) (off := 4) Tryz.underlying67 (by rfl) T.r191 rfl
theorem T.f227_2 {b o : Nat} : aFieldAddr Tryz.prog 67 (.pointer (some ⟨b, o, none⟩)) 2 = some (.pointer (some ⟨b, o + 5, none⟩)) := faddr_own Tryz.underlying67 (by rfl) T.z143 T.s143 (by decide)
theorem T.fs227_2 {v : Value} {o : Nat} : aFieldAddr Tryz.prog 67 (.pointer (some (sadr v o))) 2 = some (.pointer (some (sadr v (o + 5)))) := T.f227_2
theorem T.fp227_2 {v0 v1 v2 v3 v4 v5 v6 : Value} : aFieldAddr Tryz.prog 67 (fpv [v0, v1, v2, v3, v4, v5, v6]) 2 = some (fpv [v5]) := faddr_fz (cells := [v0, v1, v2, v3, v4, v5, v6]) (f := 2) (off := 5) (k := 1) Tryz.underlying67 (by rfl) T.z143 T.s143 (by decide) (by simp)
theorem T.fd227_2 {v0 v1 v2 v3 v4 v5 v6 : Value} : aField Tryz.prog 67 (.agg ⟨[v0, v1, v2, v3, v4, v5, v6]⟩) 2 = some v5 := field_one (cells := [v0, v1, v2, v3, v4, v5, v6]) (f := 2) (off := 5) Tryz.underlying67 (by rfl) T.r143 rfl
theorem T.f227_3 {b o : Nat} : aFieldAddr Tryz.prog 67 (.pointer (some ⟨b, o, none⟩)) 3 = some (.pointer (some ⟨b, o + 6, none⟩)) := faddr_own Tryz.underlying67 (by rfl) T.z191 T.s191 (by decide)
theorem T.fs227_3 {v : Value} {o : Nat} : aFieldAddr Tryz.prog 67 (.pointer (some (sadr v o))) 3 = some (.pointer (some (sadr v (o + 6)))) := T.f227_3
theorem T.fp227_3 {v0 v1 v2 v3 v4 v5 v6 : Value} : aFieldAddr Tryz.prog 67 (fpv [v0, v1, v2, v3, v4, v5, v6]) 3 = some (fpv [v6]) := faddr_fz (cells := [v0, v1, v2, v3, v4, v5, v6]) (f := 3) (off := 6) (k := 1) Tryz.underlying67 (by rfl) T.z191 T.s191 (by decide) (by simp)
theorem T.fd227_3 {v0 v1 v2 v3 v4 v5 v6 : Value} : aField Tryz.prog 67 (.agg ⟨[v0, v1, v2, v3, v4, v5, v6]⟩) 3 = some v6 := field_one (cells := [v0, v1, v2, v3, v4, v5, v6]) (f := 3) (off := 6) Tryz.underlying67 (by rfl) T.r191 rfl
theorem T.l227 {H : Heap} {b off : Nat} : aLoad Tryz.prog H 67 (.pointer (some ⟨b, off, none⟩)) = (rowsAt (H.get b) off 7).map fun l => .agg ⟨l⟩ := by rw [load_row T.r227 T.z227, T.s227]
theorem T.lp227 {H : Heap} {v0 v1 v2 v3 v4 v5 v6 : Value} : aLoad Tryz.prog H 67 (fpv [v0, v1, v2, v3, v4, v5, v6]) = some (.agg ⟨[v0, v1, v2, v3, v4, v5, v6]⟩) := load_fz_row T.r227 T.z227 T.s227 rfl
theorem T.w227 {H : Heap} {b off : Nat} {x00 : Value} {x01 : Value} {x02 : Value} {x03 : Value} {x1 : Value} {x2 : Value} {x3 : Value} (hx00 : isSl x00 = true) (hx01 : isSl x01 = true) (hx02 : isSl x02 = true) (hx03 : isSl x03 = true) (hx1 : isSl x1 = true) (hx2 : isSl x2 = true) (hx3 : isSl x3 = true) : aStore Tryz.prog H 67 (.pointer (some ⟨b, off, none⟩)) (.agg ⟨[x00, x01, x02, x03, x1, x2, x3]⟩) = stRow H b off [x00, x01, x02, x03, x1, x2, x3] (H.get b) := store_row (vs := [x00, x01, x02, x03, x1, x2, x3]) T.z227 T.s227 rfl rfl (by simp only [List.all_cons, List.all_nil, isSl_one hx00, isSl_one hx01, isSl_one hx02, isSl_one hx03, isSl_one hx1, isSl_one hx2, isSl_one hx3, Bool.and_true] <;> rfl)
theorem T.new227 : aNew Tryz.prog (fun _ => none) (.alloc 67) = some (67, [.slice none 0 0, .slice none 0 0, .slice none 0 0, .slice none 0 0, .slice none 0 0, .slice none 0 0, .slice none 0 0], fun b => .pointer (some ⟨b, 0, none⟩)) := by kernel_rfl
theorem T.alloc227 {H : Heap} {e : Env} {K : Value → Heap → Prop} {d : Option Tmp} {ty : TypeId} {ps : String} {af : Array Edge} {gd : Option (Nat × Bool)} : aStep Tryz.prog e H ⟨d, .alloc 67, ty, ps, af, gd⟩ K = K (.pointer (some ⟨H.next, 0, none⟩)) (H.push (.row true 67 [.slice none 0 0, .slice none 0 0, .slice none 0 0, .slice none 0 0, .slice none 0 0, .slice none 0 0, .slice none 0 0])) := s_alloc T.new227
theorem T.e4 {x y : Operand} {a b : Bool} : aBin Tryz.prog .eql 4 x y (.bool a) (.bool b) = some (.bool (a == b)) := bin_beql Tryz.underlying4
theorem T.n4 {x y : Operand} {a b : Bool} : aBin Tryz.prog .neq 4 x y (.bool a) (.bool b) = some (.bool (a != b)) := bin_bneq Tryz.underlying4
theorem T.c2_2 {H : Heap} {k : IntKind} {n : Int} : aConv Tryz.prog H 2 2 (.int k n) = some (.int .i64 (IntKind.i64.wrap n)) := conv_int T.i2 Tryz.underlying2 Tryz.underlying2
theorem T.c2_3 {H : Heap} {k : IntKind} {n : Int} : aConv Tryz.prog H 2 3 (.int k n) = some (.int .i64 (IntKind.i64.wrap n)) := conv_int T.i2 Tryz.underlying2 Tryz.underlying3
theorem T.c2_5 {H : Heap} {k : IntKind} {n : Int} : aConv Tryz.prog H 2 5 (.int k n) = some (.int .u8 (IntKind.u8.wrap n)) := conv_int T.i2 Tryz.underlying2 Tryz.underlying5
theorem T.c2_50 {H : Heap} {k : IntKind} {n : Int} : aConv Tryz.prog H 2 177 (.int k n) = some (.int .u32 (IntKind.u32.wrap n)) := conv_int T.i2 Tryz.underlying2 Tryz.underlying177
theorem T.c2_155 {H : Heap} {k : IntKind} {n : Int} : aConv Tryz.prog H 2 175 (.int k n) = some (.int .u64 (IntKind.u64.wrap n)) := conv_int T.i2 Tryz.underlying2 Tryz.underlying175
theorem T.c2_156 {H : Heap} {k : IntKind} {n : Int} : aConv Tryz.prog H 2 178 (.int k n) = some (.int .u64 (IntKind.u64.wrap n)) := conv_int T.i2 Tryz.underlying2 Tryz.underlying178
theorem T.c3_2 {H : Heap} {k : IntKind} {n : Int} : aConv Tryz.prog H 3 2 (.int k n) = some (.int .i64 (IntKind.i64.wrap n)) := conv_int T.i3 Tryz.underlying3 Tryz.underlying2
theorem T.c3_3 {H : Heap} {k : IntKind} {n : Int} : aConv Tryz.prog H 3 3 (.int k n) = some (.int .i64 (IntKind.i64.wrap n)) := conv_int T.i3 Tryz.underlying3 Tryz.underlying3
theorem T.c3_5 {H : Heap} {k : IntKind} {n : Int} : aConv Tryz.prog H 3 5 (.int k n) = some (.int .u8 (IntKind.u8.wrap n)) := conv_int T.i3 Tryz.underlying3 Tryz.underlying5
theorem T.c3_50 {H : Heap} {k : IntKind} {n : Int} : aConv Tryz.prog H 3 177 (.int k n) = some (.int .u32 (IntKind.u32.wrap n)) := conv_int T.i3 Tryz.underlying3 Tryz.underlying177
theorem T.c3_155 {H : Heap} {k : IntKind} {n : Int} : aConv Tryz.prog H 3 175 (.int k n) = some (.int .u64 (IntKind.u64.wrap n)) := conv_int T.i3 Tryz.underlying3 Tryz.underlying175
theorem T.c3_156 {H : Heap} {k : IntKind} {n : Int} : aConv Tryz.prog H 3 178 (.int k n) = some (.int .u64 (IntKind.u64.wrap n)) := conv_int T.i3 Tryz.underlying3 Tryz.underlying178
theorem T.c5_2 {H : Heap} {k : IntKind} {n : Int} : aConv Tryz.prog H 5 2 (.int k n) = some (.int .i64 (IntKind.i64.wrap n)) := conv_int T.i5 Tryz.underlying5 Tryz.underlying2
theorem T.c5_3 {H : Heap} {k : IntKind} {n : Int} : aConv Tryz.prog H 5 3 (.int k n) = some (.int .i64 (IntKind.i64.wrap n)) := conv_int T.i5 Tryz.underlying5 Tryz.underlying3
theorem T.c5_5 {H : Heap} {k : IntKind} {n : Int} : aConv Tryz.prog H 5 5 (.int k n) = some (.int .u8 (IntKind.u8.wrap n)) := conv_int T.i5 Tryz.underlying5 Tryz.underlying5
theorem T.c5_50 {H : Heap} {k : IntKind} {n : Int} : aConv Tryz.prog H 5 177 (.int k n) = some (.int .u32 (IntKind.u32.wrap n)) := conv_int T.i5 Tryz.underlying5 Tryz.underlying177
theorem T.c5_155 {H : Heap} {k : IntKind} {n : Int} : aConv Tryz.prog H 5 175 (.int k n) = some (.int .u64 (IntKind.u64.wrap n)) := conv_int T.i5 Tryz.underlying5 Tryz.underlying175
theorem T.c5_156 {H : Heap} {k : IntKind} {n : Int} : aConv Tryz.prog H 5 178 (.int k n) = some (.int .u64 (IntKind.u64.wrap n)) := conv_int T.i5 Tryz.underlying5 Tryz.underlying178
theorem T.c50_2 {H : Heap} {k : IntKind} {n : Int} : aConv Tryz.prog H 177 2 (.int k n) = some (.int .i64 (IntKind.i64.wrap n)) := conv_int T.i50 Tryz.underlying177 Tryz.underlying2
theorem T.c50_3 {H : Heap} {k : IntKind} {n : Int} : aConv Tryz.prog H 177 3 (.int k n) = some (.int .i64 (IntKind.i64.wrap n)) := conv_int T.i50 Tryz.underlying177 Tryz.underlying3
theorem T.c50_5 {H : Heap} {k : IntKind} {n : Int} : aConv Tryz.prog H 177 5 (.int k n) = some (.int .u8 (IntKind.u8.wrap n)) := conv_int T.i50 Tryz.underlying177 Tryz.underlying5
theorem T.c50_50 {H : Heap} {k : IntKind} {n : Int} : aConv Tryz.prog H 177 177 (.int k n) = some (.int .u32 (IntKind.u32.wrap n)) := conv_int T.i50 Tryz.underlying177 Tryz.underlying177
theorem T.c50_155 {H : Heap} {k : IntKind} {n : Int} : aConv Tryz.prog H 177 175 (.int k n) = some (.int .u64 (IntKind.u64.wrap n)) := conv_int T.i50 Tryz.underlying177 Tryz.underlying175
theorem T.c50_156 {H : Heap} {k : IntKind} {n : Int} : aConv Tryz.prog H 177 178 (.int k n) = some (.int .u64 (IntKind.u64.wrap n)) := conv_int T.i50 Tryz.underlying177 Tryz.underlying178
theorem T.c155_2 {H : Heap} {k : IntKind} {n : Int} : aConv Tryz.prog H 175 2 (.int k n) = some (.int .i64 (IntKind.i64.wrap n)) := conv_int T.i155 Tryz.underlying175 Tryz.underlying2
theorem T.c155_3 {H : Heap} {k : IntKind} {n : Int} : aConv Tryz.prog H 175 3 (.int k n) = some (.int .i64 (IntKind.i64.wrap n)) := conv_int T.i155 Tryz.underlying175 Tryz.underlying3
theorem T.c155_5 {H : Heap} {k : IntKind} {n : Int} : aConv Tryz.prog H 175 5 (.int k n) = some (.int .u8 (IntKind.u8.wrap n)) := conv_int T.i155 Tryz.underlying175 Tryz.underlying5
theorem T.c155_50 {H : Heap} {k : IntKind} {n : Int} : aConv Tryz.prog H 175 177 (.int k n) = some (.int .u32 (IntKind.u32.wrap n)) := conv_int T.i155 Tryz.underlying175 Tryz.underlying177
theorem T.c155_155 {H : Heap} {k : IntKind} {n : Int} : aConv Tryz.prog H 175 175 (.int k n) = some (.int .u64 (IntKind.u64.wrap n)) := conv_int T.i155 Tryz.underlying175 Tryz.underlying175
theorem T.c155_156 {H : Heap} {k : IntKind} {n : Int} : aConv Tryz.prog H 175 178 (.int k n) = some (.int .u64 (IntKind.u64.wrap n)) := conv_int T.i155 Tryz.underlying175 Tryz.underlying178
theorem T.c156_2 {H : Heap} {k : IntKind} {n : Int} : aConv Tryz.prog H 178 2 (.int k n) = some (.int .i64 (IntKind.i64.wrap n)) := conv_int T.i156 Tryz.underlying178 Tryz.underlying2
theorem T.c156_3 {H : Heap} {k : IntKind} {n : Int} : aConv Tryz.prog H 178 3 (.int k n) = some (.int .i64 (IntKind.i64.wrap n)) := conv_int T.i156 Tryz.underlying178 Tryz.underlying3
theorem T.c156_5 {H : Heap} {k : IntKind} {n : Int} : aConv Tryz.prog H 178 5 (.int k n) = some (.int .u8 (IntKind.u8.wrap n)) := conv_int T.i156 Tryz.underlying178 Tryz.underlying5
theorem T.c156_50 {H : Heap} {k : IntKind} {n : Int} : aConv Tryz.prog H 178 177 (.int k n) = some (.int .u32 (IntKind.u32.wrap n)) := conv_int T.i156 Tryz.underlying178 Tryz.underlying177
theorem T.c156_155 {H : Heap} {k : IntKind} {n : Int} : aConv Tryz.prog H 178 175 (.int k n) = some (.int .u64 (IntKind.u64.wrap n)) := conv_int T.i156 Tryz.underlying178 Tryz.underlying175
theorem T.c156_156 {H : Heap} {k : IntKind} {n : Int} : aConv Tryz.prog H 178 178 (.int k n) = some (.int .u64 (IntKind.u64.wrap n)) := conv_int T.i156 Tryz.underlying178 Tryz.underlying178
theorem T.parts22 {H : Heap} {e : Env} {K : Value → Heap → Prop} {d : Option Tmp} {ty : TypeId} {ps : String} {af : Array Edge} {gd : Option (Nat × Bool)} {parts : List (Nat × Operand)} {len : Nat} (hlen : len ≤ 2 ^ 24) : aStep Tryz.prog e H ⟨d, .buildSlice 70 len ⟨parts⟩, ty, ps, af, gd⟩ K = ob (evps e parts) fun vs => ob (pFill (.int .u32 0) len vs) fun cs => K (.slice (some ⟨H.next, 0, none⟩) len len) (H.push (.row true 177 cs)) :=
  s_parts Tryz.underlying70 (info_of_type Tryz.type177) (z := .int .u32 0) rfl rfl rfl rfl hlen
theorem T.make22 {H : Heap} {e : Env} {K : Value → Heap → Prop} {d : Option Tmp} {ty : TypeId} {ps : String} {af : Array Edge} {gd : Option (Nat × Bool)} {x y : Operand} : aStep Tryz.prog e H ⟨d, .makeSlice 70 x y, ty, ps, af, gd⟩ K = ob (e x) fun a => ob (e y) fun b => ob (aMk 4 a b) fun p => K (.slice (some ⟨H.next, 0, none⟩) p.1 p.2) (H.push (.row true 177 (List.replicate p.2 (.int .u32 0)))) :=
  s_make Tryz.underlying70 (info_of_type Tryz.type177) (z := .int .u32 0) rfl rfl rfl rfl
theorem T.nil22 {x y : Operand} {v : Value} (h : isSlc v = true) {n c : Nat} : aBin Tryz.prog .eql 70 x y v (.slice none n c) = some (.bool (isNil v)) := bin_isNil Tryz.underlying70 h
theorem T.lz22 {n : Nat} {cells : List Value} : aLen Tryz.prog 70 (fzv n cells) = some (.int .i64 n) := len_fz T.i22
theorem T.lv22 {α : Type} {e : En α} {l : List α} : aLen Tryz.prog 70 (Vv e l) = some (.int .i64 l.length) := len_fz T.i22
theorem T.iv22 {l : List _} {k : IntKind} {i : Int} (h0 : 0 ≤ i) (h1 : i < l.length) : aIndexAddr Tryz.prog 70 (Vv eU l) (.int k i) = some (fpv (eU.enc (l.getD i.toNat eU.d))) := idx_Vv Tryz.underlying70 T.s50 T.z50 rfl h0 h1
theorem T.up22 {H : Heap} {l : List _} {k : IntKind} {i : Int} (h0 : 0 ≤ i) (h1 : i ≤ l.length) : aSlice Tryz.prog H 70 (Vv eU l) none (some (.int k i)) none = some (Vv eU (l.take i.toNat)) := upto_Vv Tryz.underlying70 T.s50 T.z50 rfl h0 h1
theorem T.fr22 {H : Heap} {l : List _} {k : IntKind} {i : Int} (h0 : 0 ≤ i) (h1 : i ≤ l.length) : aSlice Tryz.prog H 70 (Vv eU l) (some (.int k i)) none none = some (Vv eU (l.drop i.toNat)) := from_Vv Tryz.underlying70 T.s50 T.z50 rfl h0 h1
theorem T.ln22 : aLen Tryz.prog 70 (.slice none 0 0) = some (.int .i64 0) := len_nil T.i22
theorem T.rows126 {H : Heap} {e : Env} {K : Value → Heap → Prop} {d : Option Tmp} {ty : TypeId} {ps : String} {af : Array Edge} {gd : Option (Nat × Bool)} {parts : List (Nat × Operand)} {len : Nat} (hlen : len ≤ 2 ^ 20) : aStep Tryz.prog e H ⟨d, .buildSlice 22 len ⟨parts⟩, ty, ps, af, gd⟩ K = ob (evps e parts) fun vs => ob (rFill 2 (Tryz.t163.zero.getD undef) len vs) fun cs => K (.slice (some ⟨H.next, 0, none⟩) len len) (H.push (.row true 163 cs)) :=
  s_rows (es := 2) Tryz.underlying22 (info_of_type Tryz.type163) (z := Tryz.t163.zero.getD undef) rfl rfl rfl rfl (by omega) (by omega)
theorem T.makes126 {H : Heap} {e : Env} {K : Value → Heap → Prop} {d : Option Tmp} {ty : TypeId} {ps : String} {af : Array Edge} {gd : Option (Nat × Bool)} {x y : Operand} : aStep Tryz.prog e H ⟨d, .makeSlice 22 x y, ty, ps, af, gd⟩ K = ob (e x) fun a => ob (e y) fun b => ob (aMk 32 a b) fun p => K (.slice (some ⟨H.next, 0, none⟩) p.1 p.2) (H.push (.row true 163 (repC p.2 [.slice none 0 0, .int .i64 0]))) :=
  s_makes (info_of_type Tryz.type163) Tryz.underlying22 rfl ⟨rfl, rfl, by decide⟩ rfl
theorem T.nil126 {x y : Operand} {v : Value} (h : isSlc v = true) {n c : Nat} : aBin Tryz.prog .eql 22 x y v (.slice none n c) = some (.bool (isNil v)) := bin_isNil Tryz.underlying22 h
theorem T.lz126 {n : Nat} {cells : List Value} : aLen Tryz.prog 22 (fzv n cells) = some (.int .i64 n) := len_fz T.i126
theorem T.lv126 {α : Type} {e : En α} {l : List α} : aLen Tryz.prog 22 (Vv e l) = some (.int .i64 l.length) := len_fz T.i126
theorem T.ln126 : aLen Tryz.prog 22 (.slice none 0 0) = some (.int .i64 0) := len_nil T.i126
theorem T.parts127 {H : Heap} {e : Env} {K : Value → Heap → Prop} {d : Option Tmp} {ty : TypeId} {ps : String} {af : Array Edge} {gd : Option (Nat × Bool)} {parts : List (Nat × Operand)} {len : Nat} (hlen : len ≤ 2 ^ 24) : aStep Tryz.prog e H ⟨d, .buildSlice 23 len ⟨parts⟩, ty, ps, af, gd⟩ K = ob (evps e parts) fun vs => ob (pFill (.string ByteArray.empty) len vs) fun cs => K (.slice (some ⟨H.next, 0, none⟩) len len) (H.push (.row true 9 cs)) :=
  s_parts Tryz.underlying23 (info_of_type Tryz.type9) (z := .string ByteArray.empty) rfl rfl rfl rfl hlen
theorem T.make127 {H : Heap} {e : Env} {K : Value → Heap → Prop} {d : Option Tmp} {ty : TypeId} {ps : String} {af : Array Edge} {gd : Option (Nat × Bool)} {x y : Operand} : aStep Tryz.prog e H ⟨d, .makeSlice 23 x y, ty, ps, af, gd⟩ K = ob (e x) fun a => ob (e y) fun b => ob (aMk 16 a b) fun p => K (.slice (some ⟨H.next, 0, none⟩) p.1 p.2) (H.push (.row true 9 (List.replicate p.2 (.string ByteArray.empty)))) :=
  s_make Tryz.underlying23 (info_of_type Tryz.type9) (z := .string ByteArray.empty) rfl rfl rfl rfl
theorem T.nil127 {x y : Operand} {v : Value} (h : isSlc v = true) {n c : Nat} : aBin Tryz.prog .eql 23 x y v (.slice none n c) = some (.bool (isNil v)) := bin_isNil Tryz.underlying23 h
theorem T.lz127 {n : Nat} {cells : List Value} : aLen Tryz.prog 23 (fzv n cells) = some (.int .i64 n) := len_fz T.i127
theorem T.lv127 {α : Type} {e : En α} {l : List α} : aLen Tryz.prog 23 (Vv e l) = some (.int .i64 l.length) := len_fz T.i127
theorem T.iv127 {l : List _} {k : IntKind} {i : Int} (h0 : 0 ≤ i) (h1 : i < l.length) : aIndexAddr Tryz.prog 23 (Vv eS l) (.int k i) = some (fpv (eS.enc (l.getD i.toNat eS.d))) := idx_Vv Tryz.underlying23 T.s9 T.z9 rfl h0 h1
theorem T.up127 {H : Heap} {l : List _} {k : IntKind} {i : Int} (h0 : 0 ≤ i) (h1 : i ≤ l.length) : aSlice Tryz.prog H 23 (Vv eS l) none (some (.int k i)) none = some (Vv eS (l.take i.toNat)) := upto_Vv Tryz.underlying23 T.s9 T.z9 rfl h0 h1
theorem T.fr127 {H : Heap} {l : List _} {k : IntKind} {i : Int} (h0 : 0 ≤ i) (h1 : i ≤ l.length) : aSlice Tryz.prog H 23 (Vv eS l) (some (.int k i)) none none = some (Vv eS (l.drop i.toNat)) := from_Vv Tryz.underlying23 T.s9 T.z9 rfl h0 h1
theorem T.ln127 : aLen Tryz.prog 23 (.slice none 0 0) = some (.int .i64 0) := len_nil T.i127
theorem T.rows128 {H : Heap} {e : Env} {K : Value → Heap → Prop} {d : Option Tmp} {ty : TypeId} {ps : String} {af : Array Edge} {gd : Option (Nat × Bool)} {parts : List (Nat × Operand)} {len : Nat} (hlen : len ≤ 2 ^ 20) : aStep Tryz.prog e H ⟨d, .buildSlice 24 len ⟨parts⟩, ty, ps, af, gd⟩ K = ob (evps e parts) fun vs => ob (rFill 6 (Tryz.t46.zero.getD undef) len vs) fun cs => K (.slice (some ⟨H.next, 0, none⟩) len len) (H.push (.row true 46 cs)) :=
  s_rows (es := 6) Tryz.underlying24 (info_of_type Tryz.type46) (z := Tryz.t46.zero.getD undef) rfl rfl rfl rfl (by omega) (by omega)
theorem T.makes128 {H : Heap} {e : Env} {K : Value → Heap → Prop} {d : Option Tmp} {ty : TypeId} {ps : String} {af : Array Edge} {gd : Option (Nat × Bool)} {x y : Operand} : aStep Tryz.prog e H ⟨d, .makeSlice 24 x y, ty, ps, af, gd⟩ K = ob (e x) fun a => ob (e y) fun b => ob (aMk 96 a b) fun p => K (.slice (some ⟨H.next, 0, none⟩) p.1 p.2) (H.push (.row true 46 (repC p.2 [.int .i64 0, .int .i64 0, .int .i64 0, .slice none 0 0, .slice none 0 0, .slice none 0 0]))) :=
  s_makes (info_of_type Tryz.type46) Tryz.underlying24 rfl ⟨rfl, rfl, by decide⟩ rfl
theorem T.nil128 {x y : Operand} {v : Value} (h : isSlc v = true) {n c : Nat} : aBin Tryz.prog .eql 24 x y v (.slice none n c) = some (.bool (isNil v)) := bin_isNil Tryz.underlying24 h
theorem T.lz128 {n : Nat} {cells : List Value} : aLen Tryz.prog 24 (fzv n cells) = some (.int .i64 n) := len_fz T.i128
theorem T.lv128 {α : Type} {e : En α} {l : List α} : aLen Tryz.prog 24 (Vv e l) = some (.int .i64 l.length) := len_fz T.i128
theorem T.ln128 : aLen Tryz.prog 24 (.slice none 0 0) = some (.int .i64 0) := len_nil T.i128
theorem T.rows129 {H : Heap} {e : Env} {K : Value → Heap → Prop} {d : Option Tmp} {ty : TypeId} {ps : String} {af : Array Edge} {gd : Option (Nat × Bool)} {parts : List (Nat × Operand)} {len : Nat} (hlen : len ≤ 2 ^ 20) : aStep Tryz.prog e H ⟨d, .buildSlice 25 len ⟨parts⟩, ty, ps, af, gd⟩ K = ob (evps e parts) fun vs => ob (rFill 4 (Tryz.t51.zero.getD undef) len vs) fun cs => K (.slice (some ⟨H.next, 0, none⟩) len len) (H.push (.row true 51 cs)) :=
  s_rows (es := 4) Tryz.underlying25 (info_of_type Tryz.type51) (z := Tryz.t51.zero.getD undef) rfl rfl rfl rfl (by omega) (by omega)
theorem T.makes129 {H : Heap} {e : Env} {K : Value → Heap → Prop} {d : Option Tmp} {ty : TypeId} {ps : String} {af : Array Edge} {gd : Option (Nat × Bool)} {x y : Operand} : aStep Tryz.prog e H ⟨d, .makeSlice 25 x y, ty, ps, af, gd⟩ K = ob (e x) fun a => ob (e y) fun b => ob (aMk 48 a b) fun p => K (.slice (some ⟨H.next, 0, none⟩) p.1 p.2) (H.push (.row true 51 (repC p.2 [.int .i64 0, .int .i64 0, .int .i64 0, .slice none 0 0]))) :=
  s_makes (info_of_type Tryz.type51) Tryz.underlying25 rfl ⟨rfl, rfl, by decide⟩ rfl
theorem T.nil129 {x y : Operand} {v : Value} (h : isSlc v = true) {n c : Nat} : aBin Tryz.prog .eql 25 x y v (.slice none n c) = some (.bool (isNil v)) := bin_isNil Tryz.underlying25 h
theorem T.lz129 {n : Nat} {cells : List Value} : aLen Tryz.prog 25 (fzv n cells) = some (.int .i64 n) := len_fz T.i129
theorem T.lv129 {α : Type} {e : En α} {l : List α} : aLen Tryz.prog 25 (Vv e l) = some (.int .i64 l.length) := len_fz T.i129
theorem T.ln129 : aLen Tryz.prog 25 (.slice none 0 0) = some (.int .i64 0) := len_nil T.i129
theorem T.parts140 {H : Heap} {e : Env} {K : Value → Heap → Prop} {d : Option Tmp} {ty : TypeId} {ps : String} {af : Array Edge} {gd : Option (Nat × Bool)} {parts : List (Nat × Operand)} {len : Nat} (hlen : len ≤ 2 ^ 24) : aStep Tryz.prog e H ⟨d, .buildSlice 40 len ⟨parts⟩, ty, ps, af, gd⟩ K = ob (evps e parts) fun vs => ob (pFill (.int .u8 0) len vs) fun cs => K (.slice (some ⟨H.next, 0, none⟩) len len) (H.push (.row true 5 cs)) :=
  s_parts Tryz.underlying40 (info_of_type Tryz.type5) (z := .int .u8 0) rfl rfl rfl rfl hlen
theorem T.make140 {H : Heap} {e : Env} {K : Value → Heap → Prop} {d : Option Tmp} {ty : TypeId} {ps : String} {af : Array Edge} {gd : Option (Nat × Bool)} {x y : Operand} : aStep Tryz.prog e H ⟨d, .makeSlice 40 x y, ty, ps, af, gd⟩ K = ob (e x) fun a => ob (e y) fun b => ob (aMk 1 a b) fun p => K (.slice (some ⟨H.next, 0, none⟩) p.1 p.2) (H.push (.row true 5 (List.replicate p.2 (.int .u8 0)))) :=
  s_make Tryz.underlying40 (info_of_type Tryz.type5) (z := .int .u8 0) rfl rfl rfl rfl
theorem T.nil140 {x y : Operand} {v : Value} (h : isSlc v = true) {n c : Nat} : aBin Tryz.prog .eql 40 x y v (.slice none n c) = some (.bool (isNil v)) := bin_isNil Tryz.underlying40 h
theorem T.lz140 {n : Nat} {cells : List Value} : aLen Tryz.prog 40 (fzv n cells) = some (.int .i64 n) := len_fz T.i140
theorem T.lv140 {α : Type} {e : En α} {l : List α} : aLen Tryz.prog 40 (Vv e l) = some (.int .i64 l.length) := len_fz T.i140
theorem T.iv140 {l : List _} {k : IntKind} {i : Int} (h0 : 0 ≤ i) (h1 : i < l.length) : aIndexAddr Tryz.prog 40 (Vv eY l) (.int k i) = some (fpv (eY.enc (l.getD i.toNat eY.d))) := idx_Vv Tryz.underlying40 T.s5 T.z5 rfl h0 h1
theorem T.up140 {H : Heap} {l : List _} {k : IntKind} {i : Int} (h0 : 0 ≤ i) (h1 : i ≤ l.length) : aSlice Tryz.prog H 40 (Vv eY l) none (some (.int k i)) none = some (Vv eY (l.take i.toNat)) := upto_Vv Tryz.underlying40 T.s5 T.z5 rfl h0 h1
theorem T.fr140 {H : Heap} {l : List _} {k : IntKind} {i : Int} (h0 : 0 ≤ i) (h1 : i ≤ l.length) : aSlice Tryz.prog H 40 (Vv eY l) (some (.int k i)) none none = some (Vv eY (l.drop i.toNat)) := from_Vv Tryz.underlying40 T.s5 T.z5 rfl h0 h1
theorem T.ln140 : aLen Tryz.prog 40 (.slice none 0 0) = some (.int .i64 0) := len_nil T.i140
theorem T.rows142 {H : Heap} {e : Env} {K : Value → Heap → Prop} {d : Option Tmp} {ty : TypeId} {ps : String} {af : Array Edge} {gd : Option (Nat × Bool)} {parts : List (Nat × Operand)} {len : Nat} (hlen : len ≤ 2 ^ 20) : aStep Tryz.prog e H ⟨d, .buildSlice 44 len ⟨parts⟩, ty, ps, af, gd⟩ K = ob (evps e parts) fun vs => ob (rFill 4 (Tryz.t74.zero.getD undef) len vs) fun cs => K (.slice (some ⟨H.next, 0, none⟩) len len) (H.push (.row true 74 cs)) :=
  s_rows (es := 4) Tryz.underlying44 (info_of_type Tryz.type74) (z := Tryz.t74.zero.getD undef) rfl rfl rfl rfl (by omega) (by omega)
theorem T.makes142 {H : Heap} {e : Env} {K : Value → Heap → Prop} {d : Option Tmp} {ty : TypeId} {ps : String} {af : Array Edge} {gd : Option (Nat × Bool)} {x y : Operand} : aStep Tryz.prog e H ⟨d, .makeSlice 44 x y, ty, ps, af, gd⟩ K = ob (e x) fun a => ob (e y) fun b => ob (aMk 80 a b) fun p => K (.slice (some ⟨H.next, 0, none⟩) p.1 p.2) (H.push (.row true 74 (repC p.2 [.slice none 0 0, .slice none 0 0, .bool false, .slice none 0 0]))) :=
  s_makes (info_of_type Tryz.type74) Tryz.underlying44 rfl ⟨rfl, rfl, by decide⟩ rfl
theorem T.nil142 {x y : Operand} {v : Value} (h : isSlc v = true) {n c : Nat} : aBin Tryz.prog .eql 44 x y v (.slice none n c) = some (.bool (isNil v)) := bin_isNil Tryz.underlying44 h
theorem T.lz142 {n : Nat} {cells : List Value} : aLen Tryz.prog 44 (fzv n cells) = some (.int .i64 n) := len_fz T.i142
theorem T.lv142 {α : Type} {e : En α} {l : List α} : aLen Tryz.prog 44 (Vv e l) = some (.int .i64 l.length) := len_fz T.i142
theorem T.ln142 : aLen Tryz.prog 44 (.slice none 0 0) = some (.int .i64 0) := len_nil T.i142
theorem T.parts143 {H : Heap} {e : Env} {K : Value → Heap → Prop} {d : Option Tmp} {ty : TypeId} {ps : String} {af : Array Edge} {gd : Option (Nat × Bool)} {parts : List (Nat × Operand)} {len : Nat} (hlen : len ≤ 2 ^ 24) : aStep Tryz.prog e H ⟨d, .buildSlice 31 len ⟨parts⟩, ty, ps, af, gd⟩ K = ob (evps e parts) fun vs => ob (pFill (.bool false) len vs) fun cs => K (.slice (some ⟨H.next, 0, none⟩) len len) (H.push (.row true 4 cs)) :=
  s_parts Tryz.underlying31 (info_of_type Tryz.type4) (z := .bool false) rfl rfl rfl rfl hlen
theorem T.make143 {H : Heap} {e : Env} {K : Value → Heap → Prop} {d : Option Tmp} {ty : TypeId} {ps : String} {af : Array Edge} {gd : Option (Nat × Bool)} {x y : Operand} : aStep Tryz.prog e H ⟨d, .makeSlice 31 x y, ty, ps, af, gd⟩ K = ob (e x) fun a => ob (e y) fun b => ob (aMk 1 a b) fun p => K (.slice (some ⟨H.next, 0, none⟩) p.1 p.2) (H.push (.row true 4 (List.replicate p.2 (.bool false)))) :=
  s_make Tryz.underlying31 (info_of_type Tryz.type4) (z := .bool false) rfl rfl rfl rfl
theorem T.nil143 {x y : Operand} {v : Value} (h : isSlc v = true) {n c : Nat} : aBin Tryz.prog .eql 31 x y v (.slice none n c) = some (.bool (isNil v)) := bin_isNil Tryz.underlying31 h
theorem T.lz143 {n : Nat} {cells : List Value} : aLen Tryz.prog 31 (fzv n cells) = some (.int .i64 n) := len_fz T.i143
theorem T.lv143 {α : Type} {e : En α} {l : List α} : aLen Tryz.prog 31 (Vv e l) = some (.int .i64 l.length) := len_fz T.i143
theorem T.iv143 {l : List _} {k : IntKind} {i : Int} (h0 : 0 ≤ i) (h1 : i < l.length) : aIndexAddr Tryz.prog 31 (Vv eB l) (.int k i) = some (fpv (eB.enc (l.getD i.toNat eB.d))) := idx_Vv Tryz.underlying31 T.s4 T.z4 rfl h0 h1
theorem T.up143 {H : Heap} {l : List _} {k : IntKind} {i : Int} (h0 : 0 ≤ i) (h1 : i ≤ l.length) : aSlice Tryz.prog H 31 (Vv eB l) none (some (.int k i)) none = some (Vv eB (l.take i.toNat)) := upto_Vv Tryz.underlying31 T.s4 T.z4 rfl h0 h1
theorem T.fr143 {H : Heap} {l : List _} {k : IntKind} {i : Int} (h0 : 0 ≤ i) (h1 : i ≤ l.length) : aSlice Tryz.prog H 31 (Vv eB l) (some (.int k i)) none none = some (Vv eB (l.drop i.toNat)) := from_Vv Tryz.underlying31 T.s4 T.z4 rfl h0 h1
theorem T.ln143 : aLen Tryz.prog 31 (.slice none 0 0) = some (.int .i64 0) := len_nil T.i143
theorem T.rows147 {H : Heap} {e : Env} {K : Value → Heap → Prop} {d : Option Tmp} {ty : TypeId} {ps : String} {af : Array Edge} {gd : Option (Nat × Bool)} {parts : List (Nat × Operand)} {len : Nat} (hlen : len ≤ 2 ^ 20) : aStep Tryz.prog e H ⟨d, .buildSlice 69 len ⟨parts⟩, ty, ps, af, gd⟩ K = ob (evps e parts) fun vs => ob (rFill 2 (Tryz.t72.zero.getD undef) len vs) fun cs => K (.slice (some ⟨H.next, 0, none⟩) len len) (H.push (.row true 72 cs)) :=
  s_rows (es := 2) Tryz.underlying69 (info_of_type Tryz.type72) (z := Tryz.t72.zero.getD undef) rfl rfl rfl rfl (by omega) (by omega)
theorem T.makes147 {H : Heap} {e : Env} {K : Value → Heap → Prop} {d : Option Tmp} {ty : TypeId} {ps : String} {af : Array Edge} {gd : Option (Nat × Bool)} {x y : Operand} : aStep Tryz.prog e H ⟨d, .makeSlice 69 x y, ty, ps, af, gd⟩ K = ob (e x) fun a => ob (e y) fun b => ob (aMk 32 a b) fun p => K (.slice (some ⟨H.next, 0, none⟩) p.1 p.2) (H.push (.row true 72 (repC p.2 [.bool false, .slice none 0 0]))) :=
  s_makes (info_of_type Tryz.type72) Tryz.underlying69 rfl ⟨rfl, rfl, by decide⟩ rfl
theorem T.nil147 {x y : Operand} {v : Value} (h : isSlc v = true) {n c : Nat} : aBin Tryz.prog .eql 69 x y v (.slice none n c) = some (.bool (isNil v)) := bin_isNil Tryz.underlying69 h
theorem T.lz147 {n : Nat} {cells : List Value} : aLen Tryz.prog 69 (fzv n cells) = some (.int .i64 n) := len_fz T.i147
theorem T.lv147 {α : Type} {e : En α} {l : List α} : aLen Tryz.prog 69 (Vv e l) = some (.int .i64 l.length) := len_fz T.i147
theorem T.iv147 {l : List _} {k : IntKind} {i : Int} (h0 : 0 ≤ i) (h1 : i < l.length) : aIndexAddr Tryz.prog 69 (Vv eI l) (.int k i) = some (fpv (eI.enc (l.getD i.toNat eI.d))) := idx_Vv Tryz.underlying69 T.s24 T.z24 rfl h0 h1
theorem T.up147 {H : Heap} {l : List _} {k : IntKind} {i : Int} (h0 : 0 ≤ i) (h1 : i ≤ l.length) : aSlice Tryz.prog H 69 (Vv eI l) none (some (.int k i)) none = some (Vv eI (l.take i.toNat)) := upto_Vv Tryz.underlying69 T.s24 T.z24 rfl h0 h1
theorem T.fr147 {H : Heap} {l : List _} {k : IntKind} {i : Int} (h0 : 0 ≤ i) (h1 : i ≤ l.length) : aSlice Tryz.prog H 69 (Vv eI l) (some (.int k i)) none none = some (Vv eI (l.drop i.toNat)) := from_Vv Tryz.underlying69 T.s24 T.z24 rfl h0 h1
theorem T.ln147 : aLen Tryz.prog 69 (.slice none 0 0) = some (.int .i64 0) := len_nil T.i147
theorem T.parts191 {H : Heap} {e : Env} {K : Value → Heap → Prop} {d : Option Tmp} {ty : TypeId} {ps : String} {af : Array Edge} {gd : Option (Nat × Bool)} {parts : List (Nat × Operand)} {len : Nat} (hlen : len ≤ 2 ^ 24) : aStep Tryz.prog e H ⟨d, .buildSlice 30 len ⟨parts⟩, ty, ps, af, gd⟩ K = ob (evps e parts) fun vs => ob (pFill (.int .i64 0) len vs) fun cs => K (.slice (some ⟨H.next, 0, none⟩) len len) (H.push (.row true 3 cs)) :=
  s_parts Tryz.underlying30 (info_of_type Tryz.type3) (z := .int .i64 0) rfl rfl rfl rfl hlen
theorem T.make191 {H : Heap} {e : Env} {K : Value → Heap → Prop} {d : Option Tmp} {ty : TypeId} {ps : String} {af : Array Edge} {gd : Option (Nat × Bool)} {x y : Operand} : aStep Tryz.prog e H ⟨d, .makeSlice 30 x y, ty, ps, af, gd⟩ K = ob (e x) fun a => ob (e y) fun b => ob (aMk 8 a b) fun p => K (.slice (some ⟨H.next, 0, none⟩) p.1 p.2) (H.push (.row true 3 (List.replicate p.2 (.int .i64 0)))) :=
  s_make Tryz.underlying30 (info_of_type Tryz.type3) (z := .int .i64 0) rfl rfl rfl rfl
theorem T.nil191 {x y : Operand} {v : Value} (h : isSlc v = true) {n c : Nat} : aBin Tryz.prog .eql 30 x y v (.slice none n c) = some (.bool (isNil v)) := bin_isNil Tryz.underlying30 h
theorem T.lz191 {n : Nat} {cells : List Value} : aLen Tryz.prog 30 (fzv n cells) = some (.int .i64 n) := len_fz T.i191
theorem T.lv191 {α : Type} {e : En α} {l : List α} : aLen Tryz.prog 30 (Vv e l) = some (.int .i64 l.length) := len_fz T.i191
theorem T.iv191 {l : List _} {k : IntKind} {i : Int} (h0 : 0 ≤ i) (h1 : i < l.length) : aIndexAddr Tryz.prog 30 (Vv eN l) (.int k i) = some (fpv (eN.enc (l.getD i.toNat eN.d))) := idx_Vv Tryz.underlying30 T.s3 T.z3 rfl h0 h1
theorem T.up191 {H : Heap} {l : List _} {k : IntKind} {i : Int} (h0 : 0 ≤ i) (h1 : i ≤ l.length) : aSlice Tryz.prog H 30 (Vv eN l) none (some (.int k i)) none = some (Vv eN (l.take i.toNat)) := upto_Vv Tryz.underlying30 T.s3 T.z3 rfl h0 h1
theorem T.fr191 {H : Heap} {l : List _} {k : IntKind} {i : Int} (h0 : 0 ≤ i) (h1 : i ≤ l.length) : aSlice Tryz.prog H 30 (Vv eN l) (some (.int k i)) none none = some (Vv eN (l.drop i.toNat)) := from_Vv Tryz.underlying30 T.s3 T.z3 rfl h0 h1
theorem T.ln191 : aLen Tryz.prog 30 (.slice none 0 0) = some (.int .i64 0) := len_nil T.i191
theorem T.parts219 {H : Heap} {e : Env} {K : Value → Heap → Prop} {d : Option Tmp} {ty : TypeId} {ps : String} {af : Array Edge} {gd : Option (Nat × Bool)} {parts : List (Nat × Operand)} {len : Nat} (hlen : len ≤ 2 ^ 24) : aStep Tryz.prog e H ⟨d, .buildSlice 59 len ⟨parts⟩, ty, ps, af, gd⟩ K = ob (evps e parts) fun vs => ob (pFill (.slice none 0 0) len vs) fun cs => K (.slice (some ⟨H.next, 0, none⟩) len len) (H.push (.row true 30 cs)) :=
  s_parts Tryz.underlying59 (info_of_type Tryz.type30) (z := .slice none 0 0) rfl rfl rfl rfl hlen
theorem T.make219 {H : Heap} {e : Env} {K : Value → Heap → Prop} {d : Option Tmp} {ty : TypeId} {ps : String} {af : Array Edge} {gd : Option (Nat × Bool)} {x y : Operand} : aStep Tryz.prog e H ⟨d, .makeSlice 59 x y, ty, ps, af, gd⟩ K = ob (e x) fun a => ob (e y) fun b => ob (aMk 24 a b) fun p => K (.slice (some ⟨H.next, 0, none⟩) p.1 p.2) (H.push (.row true 30 (List.replicate p.2 (.slice none 0 0)))) :=
  s_make Tryz.underlying59 (info_of_type Tryz.type30) (z := .slice none 0 0) rfl rfl rfl rfl
theorem T.nil219 {x y : Operand} {v : Value} (h : isSlc v = true) {n c : Nat} : aBin Tryz.prog .eql 59 x y v (.slice none n c) = some (.bool (isNil v)) := bin_isNil Tryz.underlying59 h
theorem T.lz219 {n : Nat} {cells : List Value} : aLen Tryz.prog 59 (fzv n cells) = some (.int .i64 n) := len_fz T.i219
theorem T.lv219 {α : Type} {e : En α} {l : List α} : aLen Tryz.prog 59 (Vv e l) = some (.int .i64 l.length) := len_fz T.i219
theorem T.iv219 {l : List _} {k : IntKind} {i : Int} (h0 : 0 ≤ i) (h1 : i < l.length) : aIndexAddr Tryz.prog 59 (Vv eNs l) (.int k i) = some (fpv (eNs.enc (l.getD i.toNat eNs.d))) := idx_Vv Tryz.underlying59 T.s191 T.z191 rfl h0 h1
theorem T.up219 {H : Heap} {l : List _} {k : IntKind} {i : Int} (h0 : 0 ≤ i) (h1 : i ≤ l.length) : aSlice Tryz.prog H 59 (Vv eNs l) none (some (.int k i)) none = some (Vv eNs (l.take i.toNat)) := upto_Vv Tryz.underlying59 T.s191 T.z191 rfl h0 h1
theorem T.fr219 {H : Heap} {l : List _} {k : IntKind} {i : Int} (h0 : 0 ≤ i) (h1 : i ≤ l.length) : aSlice Tryz.prog H 59 (Vv eNs l) (some (.int k i)) none none = some (Vv eNs (l.drop i.toNat)) := from_Vv Tryz.underlying59 T.s191 T.z191 rfl h0 h1
theorem T.ln219 : aLen Tryz.prog 59 (.slice none 0 0) = some (.int .i64 0) := len_nil T.i219
theorem T.rows222 {H : Heap} {e : Env} {K : Value → Heap → Prop} {d : Option Tmp} {ty : TypeId} {ps : String} {af : Array Edge} {gd : Option (Nat × Bool)} {parts : List (Nat × Operand)} {len : Nat} (hlen : len ≤ 2 ^ 20) : aStep Tryz.prog e H ⟨d, .buildSlice 62 len ⟨parts⟩, ty, ps, af, gd⟩ K = ob (evps e parts) fun vs => ob (rFill 2 (Tryz.t61.zero.getD undef) len vs) fun cs => K (.slice (some ⟨H.next, 0, none⟩) len len) (H.push (.row true 61 cs)) :=
  s_rows (es := 2) Tryz.underlying62 (info_of_type Tryz.type61) (z := Tryz.t61.zero.getD undef) rfl rfl rfl rfl (by omega) (by omega)
theorem T.makes222 {H : Heap} {e : Env} {K : Value → Heap → Prop} {d : Option Tmp} {ty : TypeId} {ps : String} {af : Array Edge} {gd : Option (Nat × Bool)} {x y : Operand} : aStep Tryz.prog e H ⟨d, .makeSlice 62 x y, ty, ps, af, gd⟩ K = ob (e x) fun a => ob (e y) fun b => ob (aMk 16 a b) fun p => K (.slice (some ⟨H.next, 0, none⟩) p.1 p.2) (H.push (.row true 61 (repC p.2 [.int .i64 0, .int .i64 0]))) :=
  s_makes (info_of_type Tryz.type61) Tryz.underlying62 rfl ⟨rfl, rfl, by decide⟩ rfl
theorem T.nil222 {x y : Operand} {v : Value} (h : isSlc v = true) {n c : Nat} : aBin Tryz.prog .eql 62 x y v (.slice none n c) = some (.bool (isNil v)) := bin_isNil Tryz.underlying62 h
theorem T.lz222 {n : Nat} {cells : List Value} : aLen Tryz.prog 62 (fzv n cells) = some (.int .i64 n) := len_fz T.i222
theorem T.lv222 {α : Type} {e : En α} {l : List α} : aLen Tryz.prog 62 (Vv e l) = some (.int .i64 l.length) := len_fz T.i222
theorem T.ln222 : aLen Tryz.prog 62 (.slice none 0 0) = some (.int .i64 0) := len_nil T.i222
theorem T.b24_   : aBuild Tryz.prog 72 (some []) = some (.agg ⟨[.bool false, .slice none 0 0]⟩) := by  kernel_rfl
theorem T.b24_0_1 {x : Bool} {y : Value} (hy : isSl y = true) : aBuild Tryz.prog 72 (some [(0, .bool x), (1, y)]) = some (.agg ⟨[.bool x, y]⟩) := by rcases isSl_form hy with ⟨_, _, _, rfl⟩ | ⟨_, _, rfl⟩ <;> kernel_rfl
theorem T.b131_   : aBuild Tryz.prog 27 (some []) = some (.agg ⟨[.slice none 0 0, .slice none 0 0, .slice none 0 0, .slice none 0 0]⟩) := by  kernel_rfl
theorem T.b131_0 {x : Value} (hx : isSl x = true) : aBuild Tryz.prog 27 (some [(0, x)]) = some (.agg ⟨[x, .slice none 0 0, .slice none 0 0, .slice none 0 0]⟩) := by rcases isSl_form hx with ⟨_, _, _, rfl⟩ | ⟨_, _, rfl⟩ <;> kernel_rfl
theorem T.b131_0_1 {x : Value} {y : Value} (hx : isSl x = true) (hy : isSl y = true) : aBuild Tryz.prog 27 (some [(0, x), (1, y)]) = some (.agg ⟨[x, y, .slice none 0 0, .slice none 0 0]⟩) := by rcases isSl_form hx with ⟨_, _, _, rfl⟩ | ⟨_, _, rfl⟩ <;> rcases isSl_form hy with ⟨_, _, _, rfl⟩ | ⟨_, _, rfl⟩ <;> kernel_rfl
theorem T.b145_0_1 {x : Int} {y : Int}  : aBuild Tryz.prog 46 (some [(0, .int .i64 x), (1, .int .i64 y)]) = some (.agg ⟨[.int .i64 x, .int .i64 y, .int .i64 0, .slice none 0 0, .slice none 0 0, .slice none 0 0]⟩) := by  kernel_rfl
theorem T.b221_0_1 {x : Int} {y : Int}  : aBuild Tryz.prog 61 (some [(0, .int .i64 x), (1, .int .i64 y)]) = some (.agg ⟨[.int .i64 x, .int .i64 y]⟩) := by  kernel_rfl
theorem T.b227_0_1_2 {x0 : Value} {x1 : Value} {x2 : Value} {x3 : Value} {y : Value} {z : Value} (hx0 : isSl x0 = true) (hx1 : isSl x1 = true) (hx2 : isSl x2 = true) (hx3 : isSl x3 = true) (hy : isSl y = true) (hz : isSl z = true) : aBuild Tryz.prog 67 (some [(0, .agg ⟨[x0, x1, x2, x3]⟩), (1, y), (2, z)]) = some (.agg ⟨[x0, x1, x2, x3, y, z, .slice none 0 0]⟩) := by rcases isSl_form hx0 with ⟨_, _, _, rfl⟩ | ⟨_, _, rfl⟩ <;> rcases isSl_form hx1 with ⟨_, _, _, rfl⟩ | ⟨_, _, rfl⟩ <;> rcases isSl_form hx2 with ⟨_, _, _, rfl⟩ | ⟨_, _, rfl⟩ <;> rcases isSl_form hx3 with ⟨_, _, _, rfl⟩ | ⟨_, _, rfl⟩ <;> rcases isSl_form hy with ⟨_, _, _, rfl⟩ | ⟨_, _, rfl⟩ <;> rcases isSl_form hz with ⟨_, _, _, rfl⟩ | ⟨_, _, rfl⟩ <;> kernel_rfl
attribute [go_sem] T.l2 T.lp2 T.w2 T.alloc2 T.l3 T.lp3 T.w3 T.alloc3 T.l4 T.lp4 T.w4 T.alloc4
attribute [go_sem] T.l5 T.lp5 T.w5 T.alloc5 T.l9 T.lp9 T.w9 T.alloc9 T.l22 T.lp22 T.w22 T.alloc22
attribute [go_sem] T.f24_0 T.fs24_0 T.fp24_0 T.fd24_0 T.f24_1 T.fs24_1 T.fp24_1 T.fd24_1 T.l24 T.lp24 T.w24 T.alloc24
attribute [go_sem] T.l50 T.lp50 T.w50 T.alloc50 T.l126 T.lp126 T.w126 T.alloc126 T.l127 T.lp127 T.w127 T.alloc127
attribute [go_sem] T.l128 T.lp128 T.w128 T.alloc128 T.l129 T.lp129 T.w129 T.alloc129 T.f131_0 T.fs131_0 T.fp131_0 T.fd131_0
attribute [go_sem] T.f131_1 T.fs131_1 T.fp131_1 T.fd131_1 T.f131_2 T.fs131_2 T.fp131_2 T.fd131_2 T.f131_3 T.fs131_3 T.fp131_3 T.fd131_3
attribute [go_sem] T.l131 T.lp131 T.w131 T.alloc131 T.l140 T.lp140 T.w140 T.alloc140 T.l142 T.lp142 T.w142 T.alloc142
attribute [go_sem] T.l143 T.lp143 T.w143 T.alloc143 T.f145_0 T.fs145_0 T.fp145_0 T.fd145_0 T.f145_1 T.fs145_1 T.fp145_1 T.fd145_1
attribute [go_sem] T.f145_2 T.fs145_2 T.fp145_2 T.fd145_2 T.f145_3 T.fs145_3 T.fp145_3 T.fd145_3 T.f145_4 T.fs145_4 T.fp145_4 T.fd145_4
attribute [go_sem] T.f145_5 T.fs145_5 T.fp145_5 T.fd145_5 T.l145 T.lp145 T.w145 T.alloc145 T.l147 T.lp147 T.w147 T.alloc147
attribute [go_sem] T.l155 T.lp155 T.w155 T.alloc155 T.l156 T.lp156 T.w156 T.alloc156 T.f190_0 T.fs190_0 T.fp190_0 T.fd190_0
attribute [go_sem] T.f190_1 T.fs190_1 T.fp190_1 T.fd190_1 T.f190_2 T.fs190_2 T.fp190_2 T.fd190_2 T.f190_3 T.fs190_3 T.fp190_3 T.fd190_3
attribute [go_sem] T.l190 T.lp190 T.w190 T.alloc190 T.l191 T.lp191 T.w191 T.alloc191 T.f193_0 T.fs193_0 T.fp193_0 T.fd193_0
attribute [go_sem] T.f193_1 T.fs193_1 T.fp193_1 T.fd193_1 T.l193 T.lp193 T.w193 T.alloc193 T.f216_0 T.fs216_0 T.fp216_0 T.fd216_0
attribute [go_sem] T.f216_1 T.fs216_1 T.fp216_1 T.fd216_1 T.f216_2 T.fs216_2 T.fp216_2 T.fd216_2 T.l216 T.lp216 T.w216 T.alloc216
attribute [go_sem] T.l219 T.lp219 T.w219 T.alloc219 T.f221_0 T.fs221_0 T.fp221_0 T.fd221_0 T.f221_1 T.fs221_1 T.fp221_1 T.fd221_1
attribute [go_sem] T.l221 T.lp221 T.w221 T.alloc221 T.l222 T.lp222 T.w222 T.alloc222 T.f227_0 T.fs227_0 T.fp227_0 T.fd227_0
attribute [go_sem] T.f227_1 T.fs227_1 T.fp227_1 T.fd227_1 T.f227_2 T.fs227_2 T.fp227_2 T.fd227_2 T.f227_3 T.fs227_3 T.fp227_3 T.fd227_3
attribute [go_sem] T.l227 T.lp227 T.w227 T.alloc227 T.e4 T.n4 T.c2_2 T.c2_3 T.c2_5 T.c2_50 T.c2_155 T.c2_156
attribute [go_sem] T.c3_2 T.c3_3 T.c3_5 T.c3_50 T.c3_155 T.c3_156 T.c5_2 T.c5_3 T.c5_5 T.c5_50 T.c5_155 T.c5_156
attribute [go_sem] T.c50_2 T.c50_3 T.c50_5 T.c50_50 T.c50_155 T.c50_156 T.c155_2 T.c155_3 T.c155_5 T.c155_50 T.c155_155 T.c155_156
attribute [go_sem] T.c156_2 T.c156_3 T.c156_5 T.c156_50 T.c156_155 T.c156_156 T.parts22 T.make22 T.iv22 T.up22 T.fr22 T.nil22
attribute [go_sem] T.lz22 T.lv22 T.ln22 T.rows126 T.makes126 T.nil126 T.lz126 T.lv126 T.ln126 T.parts127 T.make127 T.iv127
attribute [go_sem] T.up127 T.fr127 T.nil127 T.lz127 T.lv127 T.ln127 T.rows128 T.makes128 T.nil128 T.lz128 T.lv128 T.ln128
attribute [go_sem] T.rows129 T.makes129 T.nil129 T.lz129 T.lv129 T.ln129 T.parts140 T.make140 T.iv140 T.up140 T.fr140 T.nil140
attribute [go_sem] T.lz140 T.lv140 T.ln140 T.rows142 T.makes142 T.nil142 T.lz142 T.lv142 T.ln142 T.parts143 T.make143 T.iv143
attribute [go_sem] T.up143 T.fr143 T.nil143 T.lz143 T.lv143 T.ln143 T.rows147 T.makes147 T.iv147 T.up147 T.fr147 T.nil147
attribute [go_sem] T.lz147 T.lv147 T.ln147 T.parts191 T.make191 T.iv191 T.up191 T.fr191 T.nil191 T.lz191 T.lv191 T.ln191
attribute [go_sem] T.parts219 T.make219 T.iv219 T.up219 T.fr219 T.nil219 T.lz219 T.lv219 T.ln219 T.rows222 T.makes222 T.nil222
attribute [go_sem] T.lz222 T.lv222 T.ln222 T.b24_ T.b24_0_1 T.b131_ T.b131_0 T.b131_0_1 T.b145_0_1 T.b221_0_1 T.b227_0_1_2
end Go.Abs
